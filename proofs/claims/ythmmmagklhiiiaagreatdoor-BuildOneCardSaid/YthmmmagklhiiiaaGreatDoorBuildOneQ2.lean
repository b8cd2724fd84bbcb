/- lamella: what the law needs. No condition beyond the bounds that each states. -/
import Derived.Lib.AppendZeros
import Derived.RangeFuncWrites
import Derived.RangeFuncCalls
import Derived.RangeFuncLeaves
import Derived.RangeFuncBound
import Derived.OrdersIn
import Derived.Lib.Join
import Derived.Laws.StructEq
import Derived.Shelf.Strings.OnBuilder
import Derived.Test.YthmmmagklhiiiaaGreatDoorChecked
import Derived.Test.YthmmmagklhiiiaaGreatDoorBuildOneQ1
namespace Go.Proofs.YthmmmagklhiiiaaGreatDoor
open Go Go.RowKit
set_option linter.unusedVariables false
set_option linter.unusedSectionVars false
set_option maxHeartbeats 64000000
open List (find?_eq_none)
open Option (or_none)
open List renaming getElem?_eq_getElem → Wv, length_append → Ww, getElem?_eq_some_iff → Wy, mem_of_getElem? → Wz, length_take → WB, length_drop → WE, length_singleton → WF, getD → WI, take_of_length_le → WJ, length_map → WK, append_assoc → WL, length_eq_zero_iff → WM, length_pos_iff → WN, getElem?_of_mem → WO, eq_nil_of_length_eq_zero → WQ, mem_map → WS, length_cons → WT, take_succ_eq_append_getElem → WV, take_append_drop → WX, mem_singleton → WY, mem_append → WZ, length_nil → W2, mem_cons → W5, length → W6, getElem?_map → W7, pairwise_iff_getElem → W8, nil_append → Xc, getElem?_eq_none → Xe, getElem?_take → Xf, take_length → Xg, not_mem_nil → Xm, getElem_of_mem → Xn, map_cons → Xo, cons_append → Xq, findIdx?_eq_some_iff_getElem → Xu, drop_eq_getElem_cons → Xv, getElem_mem → Xw, ext_getElem? → Xy, foldl_cons → XA, drop_drop → XC, mem_of_mem_take → XF, mem_cons_of_mem → XI, append_nil → XK, foldl_append → XO, take_take → XS, findIdx?_eq_none_iff → XX, length_dropLast → Yf, drop_of_length_le → Yk, map_append → Yo, dropLast_concat_getLast → Yp, cons → Yr, pairwise_append → Yu, forall_mem_cons → Yx, mem_of_find?_eq_some → Yz, flatten_append → YS, mem_cons_self → YY, drop_take → Y1, find?_isSome → Y4, find?_append → Y5
open _root_.Nat renaming le_refl → WC, zero_le → WG, le_trans → W9, blt → Xb, zero_add → Xp, min_eq_left → XG, strongRecOn → Yn, add_assoc → Yq, lt_or_gt_of_ne → YV
open _root_.Array renaming getElem?_eq_some_iff → WD
open Classical renaming byContradiction → WH, not_not → W3
open UInt8 renaming ofNat → WP, toNat_ofNat' → Xj, toNat_inj → XV, lt_iff_toNat_lt → XY
open _root_.Option renaming map_eq_some_iff → WR, isSome_iff_exists → Y6
open Go.Op renaming bytesLess → WU
open _root_.Bool renaming and_eq_true → WW, or_eq_true → X3
open _root_.Int renaming toNat_natCast → Xd
open Prod renaming ext → Yl
def dI(f t:By):By×By:=if 128≤t.length then dI (f++(bW (t.take 128)).1) (t.drop 128) else (f,t)
termination_by t.length
decreasing_by rw[WE];omega
def xP(f t:By):By:=if t.length=0 then f else f++(bW t).1
theorem gO{f t:By}(h:t.length<128):dI f t=(f,t):=by unfold dI;rw[Wt (by omega)]
theorem kS{f t:By}(h:128≤t.length):dI f t=dI (f++(bW (t.take 128)).1) (t.drop 128):=by rw[dI,Wu h]
theorem Az(f t:By):(dI f t).2.length<128:=by
 by_cases h:128≤t.length
 ·rw[kS h];exact Az _ _
 ·rw[gO (by omega)];show t.length<128;omega
termination_by t.length
decreasing_by rw[WE];omega
theorem Dv(f t b:By):dI f (t++b)=dI (dI f t).1 ((dI f t).2++b):=by
 by_cases h:128≤t.length
 · rw[kS h,kS (t:=t++b) (by rw[Ww];omega),List.take_append_of_le_length h,List.drop_append_of_le_length h]
   exact Dv _ _ _
 ·rw[gO (t:=t) (by omega)]
termination_by t.length
decreasing_by rw[WE];omega
theorem mE{t:By}(h:128≤t.length):(t.take 128).length=128:=by rw[WB];omega
theorem Dt(f t:By):(dI f t).1.length+2*(dI f t).2.length≤f.length+2*t.length:=by
 by_cases h:128≤t.length
 · have h1:=Dt (f++(bW (t.take 128)).1) (t.drop 128)
   have h2:=gX (b:=t.take 128) (by rw[mE h];omega);rw[mE h] at h2;rw[Ww,WE] at h1;rw[kS h];omega
 ·rw[gO (by omega)];exact WC _
termination_by t.length
decreasing_by rw[WE];omega
def chW(T:By)(q:Nat):By:=(T.drop (128*q)).take 128
def frW(T:By):Nat→By
|0=>[]
|q+1=>frW T q++(bW (chW T q)).1
def nF(T:By):Nat:=(T.length+127)/128
def aM(T:By)(o:Nat):Nat:=256*(frW T (o/128)).length+o%128
theorem nU(T:By)(q:Nat):(chW T q).length=min 128 (T.length-128*q):=by unfold chW;rw[WB,WE]
theorem BC(T:By)(q:Nat):(chW T q).length≤128:=by rw[nU];omega
theorem Bt(T:By)(q:Nat):∀ k,∃ z,frW T (q+k)=frW T q++z
|0=>⟨[],by simp⟩
|k+1=>by
   obtain⟨z,hz⟩:=Bt T q k;exact⟨z++(bW (chW T (q+k))).1,by rw[←Yq];show frW T (q+k)++_=_;rw[hz,WL]⟩
theorem Hw{T:By}{q n:Nat}(h:q<n):∃ z,frW T n=frW T q++((bW (chW T q)).1++z):=by
 obtain⟨z,hz⟩:=Bt T (q+1) (n-(q+1));rw[show q+1+(n-(q+1))=n by omega] at hz;exact⟨z,by rw[hz];show (frW T q++_)++z=_;rw[WL]⟩
theorem xD{T:By}{q n:Nat}(h:q≤n):(frW T q).length≤(frW T n).length:=by
 obtain⟨z,hz⟩:=Bt T q (n-q);rw[show q+(n-q)=n by omega] at hz;rw[hz,Ww];omega
theorem sC(T:By):∀ q,(frW T q).length≤135*q
|0=>by simp[frW]
|q+1=>by
   have:=sC T q;have h1:=gX (BC T q);have h2:=BC T q;show (frW T q++_).length≤_;rw[Ww];omega
theorem Oy{T:By}(q:Nat):(frW T q).length<(frW T (q+1)).length:=by
 have h1:=gX (BC T q);show _<(frW T q++_).length;rw[Ww];omega
theorem KF{T:By}{o q:Nat}(h:128*q+128≤o):chW (T.take o) q=chW T q:=by
 unfold chW;rw[Y1,XS,XG (by omega)]
theorem C8{T:By}{o:Nat}:∀ q,128*q≤o→frW (T.take o) q=frW T q
|0,_=>rfl
|q+1,h=>by
   show frW (T.take o) q++_=frW T q++_;rw[C8 q (by omega),KF (by omega)]
theorem Du(T:By)(q:Nat)(h:128*q≤T.length):dI (frW T q) (T.drop (128*q))=(frW T (T.length/128),T.drop (128*(T.length/128))):=by
 by_cases h1:128≤(T.drop (128*q)).length
 · have h2:=h1
   rw[WE] at h2;rw[kS h1,XC];exact Du T (q+1) (by omega)
 · rw[gO (by omega)]
   rw[WE] at h1;rw[show T.length/128=q by omega]
termination_by T.length-128*q
decreasing_by rw[WE] at h1;omega
theorem Dw(T:By):dI [] T=(frW T (T.length/128),T.drop (128*(T.length/128))):=Du T 0 (by omega)
theorem HF(T:By):xP (dI [] T).1 (dI [] T).2=frW T (nF T):=by
 rw[Dw];unfold xP nF;simp only[WE];by_cases h:T.length-128*(T.length/128)=0
 ·rw[Wu h,show (T.length+127)/128=T.length/128 by omega]
 · rw[Wt h,show (T.length+127)/128=T.length/128+1 by omega]
   show _=frW T _++_;unfold chW;rw[WJ (by rw[WE];omega)]
theorem IN(T:By):aM T T.length=256*(dI [] T).1.length+(dI [] T).2.length:=by
 rw[Dw];unfold aM;simp only[WE];omega
theorem zU{T:By}{o:Nat}(h:o≤T.length):aM T o=aM (T.take o) (T.take o).length:=by
 unfold aM;rw[WB,XG h,C8 _ (by omega)]
theorem D9{T:By}{o:Nat}(h:o≤1099511627776):aM T o≤1152921504606846976:=by
 have:=sC T (o/128);unfold aM;omega
def qB(im:By)(fr to:Int):Bool:=decide (0≤fr) && decide (fr≤to) && decide (to≤im.length)
def dR(im:By)(fr to at_:Int):Option (By×Int):=
 if to-fr<at_ then none else
 if (cM im (fr+at_)).2.2≠0∨to<(cM im (fr+at_)).2.1∨(cM im (fr+at_)).1.length=0 then none else
 some ((cM im (fr+at_)).1,(cM im (fr+at_)).2.1-fr)
def rdL(im:By)(fr to:Int)(n:Nat)(at_:Int)(i:Nat)(out:By):By×Int×Int:=
 if out.length<n then
  match dR im fr to at_ with
 |none=>([],0,2)
 |some (b,nx)=>if b.length≤i then ([],0,2) else
    if i+((b.drop i).take (n-out.length)).length=128 then rdL im fr to n nx 0 (out++(b.drop i).take (n-out.length)) else
    if (out++(b.drop i).take (n-out.length)).length<n then ([],0,2) else
    rdL im fr to n at_ (i+((b.drop i).take (n-out.length)).length) (out++(b.drop i).take (n-out.length))
 else (out,256*at_+i,0)
termination_by n-out.length
decreasing_by
 all_goals (rw[Ww,WB,WE];omega)
def aI(im:By)(fr to ref n:Int):By×Int×Int:=
 if ref<0∨n<0 then ([],0,1) else if qB im fr to=false then ([],0,2) else rdL im fr to n.toNat (ref/256) (ref%256).toNat []
section
variable {im:List UInt8}{fr to:Int}{n:Nat}{at_:Int}{i:Nat}{out b:List UInt8}{nx:Int}
theorem uJ(h:¬ out.length<n):rdL im fr to n at_ i out=(out,256*at_+i,0):=by unfold rdL;rw[Wt h]
theorem vZ(h:out.length<n)(hh:dR im fr to at_=none):rdL im fr to n at_ i out=([],0,2):=by
 unfold rdL;rw[Wu h,hh]
theorem A4(h:out.length<n)(hh:dR im fr to at_=some (b,nx))(hi:b.length≤i):rdL im fr to n at_ i out=([],0,2):=by
 unfold rdL;rw[Wu h,hh];simp only;rw[Wu hi]
theorem pR(h:out.length<n)(hh:dR im fr to at_=some (b,nx))(hi:¬ b.length≤i)(h1:i+((b.drop i).take (n-out.length)).length=128) :
 rdL im fr to n at_ i out=rdL im fr to n nx 0 (out++(b.drop i).take (n-out.length)):=by
 rw[rdL,Wu h,hh];simp only;rw[Wt hi,Wu h1]
theorem A5(h:out.length<n)(hh:dR im fr to at_=some (b,nx))(hi:¬ b.length≤i)(h1:¬ i+((b.drop i).take (n-out.length)).length=128)
 (h2:(out++(b.drop i).take (n-out.length)).length<n):rdL im fr to n at_ i out=([],0,2):=by
 rw[rdL,Wu h,hh];simp only;rw[Wt hi,Wt h1,Wu h2]
theorem Ef(h:out.length<n)(hh:dR im fr to at_=some (b,nx))(hi:¬ b.length≤i)(h1:¬ i+((b.drop i).take (n-out.length)).length=128)
 (h2:¬ (out++(b.drop i).take (n-out.length)).length<n):rdL im fr to n at_ i out=rdL im fr to n at_ (i+((b.drop i).take (n-out.length)).length) (out++(b.drop i).take (n-out.length)):=by
 rw[rdL,Wu h,hh];simp only;rw[Wt hi,Wt h1,Wt h2]
theorem B0{a:Int}(h:(cM im a).2.2=0):a+3≤(cM im a).2.1:=by
 have e:(cM im a).2.1=if (dV (lZ im a)).2.2=0 then a+(dV (lZ im a)).2.1 else 0:=rfl
 have e2:(dV (lZ im a)).2.2=0:=h;rw[e,Wu e2]
 have:3≤(dV (lZ im a)).2.1:=by
  unfold dV at e2 ⊢
  split
  ·rename_i hn;rw[hn] at e2;simp at e2
  · rename_i x s st hn
    rw[hn] at e2;simp only at e2;by_cases h0:x.length=0
    ·rw[Wu h0];exact WC _
    · rw[Wt h0] at e2 ⊢
      by_cases h1:fG x≠s
      ·rw[Wu h1] at e2;simp at e2
      · rw[Wt h1] at e2 ⊢
        have hl:3≤jF x:=by unfold jF;rw[Wt h0];omega
        split
        ·exact hl
        · rename_i hst
          rw[Wt hst] at e2
          split
          ·rename_i hb;rw[Wu hb] at e2;simp at e2
          ·exact hl
 omega
theorem C4(h:dR im fr to at_=some (b,nx)):at_≤to-fr∧(cM im (fr+at_)).2.2=0∧b=(cM im (fr+at_)).1∧nx=(cM im (fr+at_)).2.1-fr∧nx≤to-fr∧at_+3≤nx∧0<b.length∧b.length≤128:=by
 unfold dR at h
 split at h
 ·cases h
 · split at h
   ·cases h
   · rename_i h1 h2
     have h3:(cM im (fr+at_)).2.2=0:=WH fun hn=>h2 (.inl hn);have h4:=B0 h3;have h5:=GD im (fr+at_);cases h;exact⟨by omega,h3,rfl,rfl,by omega,by omega,by omega,h5⟩
end
section
variable (T pre post:List UInt8)
def imW:By:=pre++(frW T (nF T)++post)
def toW:Int:=(pre.length:Int)+(frW T (nF T)).length
theorem Jm:qB (imW T pre post) pre.length (toW T pre)=true:=by
 unfold qB imW toW;simp only[Ww,WW,decide_eq_true_eq];omega
theorem NK{q:Nat}(h:q<nF T):cM (imW T pre post) ((pre.length:Int)+(frW T q).length)=(chW T q,(pre.length:Int)+(frW T (q+1)).length,0)∧lQ (imW T pre post) ((pre.length:Int)+(frW T q).length)=((pre.length:Int)+(frW T (q+1)).length,0):=by
 obtain⟨z,hz⟩:=Hw (T:=T) h;have h1:=rL (BC T q) (pre++frW T q) (z++post);have e:imW T pre post=(pre++frW T q)++((bW (chW T q)).1++(z++post)):=by unfold imW;rw[hz];simp[WL]
 have e2:(((pre++frW T q).length:Nat):Int)=(pre.length:Int)+(frW T q).length:=by rw[Ww];omega
 have e3:(frW T (q+1)).length=(frW T q).length+(bW (chW T q)).1.length:=by show (frW T q++_).length=_;rw[Ww]
 rw[←e,e2] at h1;rw[e3];refine⟨h1.1.trans ?_,h1.2.trans ?_⟩
 ·congr 2;omega
 ·congr 1;omega
theorem Bp{q:Nat}(h:q<nF T):dR (imW T pre post) pre.length (toW T pre) (frW T q).length=some (chW T q,((frW T (q+1)).length:Int)):=by
 obtain⟨h1,_⟩:=NK T pre post h;have h2:=xD (T:=T) (Nat.le_of_lt h);have h3:=xD (T:=T) (show q+1≤nF T from h);have h4:0<(chW T q).length:=by rw[nU];unfold nF at h;omega
 unfold dR toW;rw[Wt (by omega),h1];simp only;rw[Wt (by omega)];congr 2;omega
theorem Ht:dR (imW T pre post) pre.length (toW T pre) (frW T (nF T)).length=none:=by
 unfold dR
 split
 ·rfl
 · by_cases h:(cM (imW T pre post) ((pre.length:Int)+(frW T (nF T)).length)).2.2=0
   · have:=B0 h
     rw[Wu (.inr (.inl (by unfold toW;omega)))]
   ·rw[Wu (.inl h)]
theorem KG{o:Nat}(h:o<T.length):o/128<nF T∧o%128<(chW T (o/128)).length:=by
 rw[nU];unfold nF;omega
theorem EP(l:By)(a b c:Nat)(h:a+b=c):(l.drop a).drop b=l.drop c:=by rw[XC,h]
theorem RD(m:Nat):∀ (o:Nat) (out:By),o+m≤T.length →
 rdL (imW T pre post) pre.length (toW T pre) (out.length+m) (frW T (o/128)).length (o%128) out=(out++(T.drop o).take m,((aM T (o+m):Nat):Int),0):=by
 induction m using Yn with
|ind m ih=>
   intro o out h;by_cases h0:m=0
   · subst h0
     rw[uJ (by omega)];unfold aM;simp
   · obtain⟨c1,c2⟩:=KG T (o:=o) (by omega)
     have hh:=Bp T pre post c1;have hlen:=nU T (o/128);have hp:((chW T (o/128)).drop (o%128)).take (out.length+m-out.length)=(T.drop o).take (min (128-o%128) m):=by
      unfold chW;rw[Y1,EP T (128*(o/128)) (o%128) o (by omega),XS];congr 1;omega
     have hpl:((T.drop o).take (min (128-o%128) m)).length=min (128-o%128) m:=by rw[WB,WE];omega
     have key:(out++(T.drop o).take (min (128-o%128) m))++(T.drop (o+min (128-o%128) m)).take (m-min (128-o%128) m)=out++(T.drop o).take m:=by
      rw[WL];congr 1;have:=WX (min (128-o%128) m) ((T.drop o).take m);rw[XS,Y1,XC,XG (by omega)] at this;exact this
     by_cases hk:o%128+min (128-o%128) m=128
     · rw[pR (by omega) hh (by omega) (by rw[hp,hpl];exact hk),hp]
       have e:=ih (m-min (128-o%128) m) (by omega) (o+min (128-o%128) m) (out++(T.drop o).take (min (128-o%128) m)) (by omega);rw[key,Ww,hpl,show out.length+min (128-o%128) m+(m-min (128-o%128) m)=out.length+m by omega,show (o+min (128-o%128) m)/128=o/128+1 by omega,show (o+min (128-o%128) m)%128=0 by omega,
        show o+min (128-o%128) m+(m-min (128-o%128) m)=o+m by omega] at e
       exact e
     · have hm:min (128-o%128) m=m:=by omega
       rw[Ef (by omega) hh (by omega) (by rw[hp,hpl];exact hk) (by rw[hp,Ww,hpl];omega),hp,hpl,hm];rw[uJ (by rw[Ww,WB,WE];omega)];congr 2;unfold aM;rw[show (o+m)/128=o/128 by omega];omega
theorem Ee{o m:Nat}(h:o+m≤T.length):aI (imW T pre post) pre.length (toW T pre) (aM T o:Nat) (m:Nat)=((T.drop o).take m,((aM T (o+m):Nat):Int),0):=by
 unfold aI;have e1:((aM T o:Nat):Int)/256=(frW T (o/128)).length:=by unfold aM;omega
 have e2:(((aM T o:Nat):Int)%256).toNat=o%128:=by unfold aM;omega
 rw[Wt (by omega),Wt (by rw[Jm];simp),e1,e2,Xd];have:=RD T pre post m o [] h;rw[W2,Xp,Xc] at this;exact this
theorem LI(m:Nat):∀ (o:Nat) (out:By),o≤T.length→T.length<o+m →
 rdL (imW T pre post) pre.length (toW T pre) (out.length+m) (frW T (o/128)).length (o%128) out=([],0,2):=by
 induction m using Yn with
|ind m ih=>
   intro o out ho h;by_cases hT:o=T.length
   · by_cases h0:o%128=0
     · rw[show o/128=nF T by unfold nF;omega]
       exact vZ (by omega) (Ht T pre post)
     ·exact A4 (by omega) (Bp T pre post (q:=o/128) (by unfold nF;omega)) (by rw[nU];omega)
   · obtain⟨c1,c2⟩:=KG T (o:=o) (by omega)
     have hh:=Bp T pre post c1;have hlen:=nU T (o/128);obtain⟨x,hx⟩:∃ x,x=((chW T (o/128)).drop (o%128)).take (out.length+m-out.length):=⟨_,rfl⟩
     have hxl:x.length=min ((chW T (o/128)).length-o%128) m:=by rw[hx,WB,WE];omega
     by_cases hk:o%128+x.length=128
     · rw[pR (by omega) hh (by omega) (by rw[←hx];exact hk),←hx]
       have e:=ih (m-x.length) (by omega) (o+x.length) (out++x) (by omega) (by omega);rw[Ww,show out.length+x.length+(m-x.length)=out.length+m by omega,show (o+x.length)/128=o/128+1 by omega,show (o+x.length)%128=0 by omega] at e;exact e
     ·exact A5 (by omega) hh (by omega) (by rw[←hx];exact hk) (by rw[←hx,Ww];omega)
theorem GQ{o m:Nat}(ho:o≤T.length)(h:T.length<o+m):aI (imW T pre post) pre.length (toW T pre) (aM T o:Nat) (m:Nat)=([],0,2):=by
 unfold aI;have e1:((aM T o:Nat):Int)/256=(frW T (o/128)).length:=by unfold aM;omega
 have e2:(((aM T o:Nat):Int)%256).toNat=o%128:=by unfold aM;omega
 rw[Wt (by omega),Wt (by rw[Jm];simp),e1,e2,Xd];have:=LI T pre post m o [] ho h;rw[W2,Xp] at this;exact this
end
theorem uQ(T:By):imW T [] []=frW T (nF T):=by unfold imW;simp
theorem uB(T:By):toW T []=(frW T (nF T)).length:=by unfold toW;simp
def bY(F:Nat→Int)(T:By):List Value:=[iV (F 0),iV (F 1),iV (F 2),iV (F 3),iV (F 4),iV (F 5),iV (F 6),iV (F 7),iV (F 8),iV (F 9),.string (bs T)]
theorem wZ(F:Nat→Int)(T:By):∀ v∈bY F T,v.oneCell'=true:=by simp[bY,Value.oneCell']
theorem qK(F:Nat→Int)(T:By){o:Nat}(h:o<10):(bY F T)[o]?=some (iV (F o)):=by
 match o,h with
|0,_|1,_|2,_|3,_|4,_|5,_|6,_|7,_|8,_|9,_=>rfl
def upd(F:Nat→Int)(o:Nat)(z:Int):Nat→Int:=fun q=>if q=o then z else F q
theorem C3(F:Nat→Int)(T:By){o:Nat}(h:o<10)(z:Int):(bY F T).set o (iV z)=bY (upd F o z) T:=by
 match o,h with
|0,_|1,_|2,_|3,_|4,_|5,_|6,_|7,_|8,_|9,_=>simp[bY,upd]
theorem JG{F G:Nat→Int}{T U:By}(h:bY F T=bY G U):(∀ o,o<10→F o=G o)∧T=U:=by
 refine⟨fun o ho=>?_,?_⟩
 · have h1:=qK F T ho
   rw[h,qK G U ho] at h1;simpa using h1.symm
 · simp only[bY,Yr.injEq,Value.string.injEq,and_true] at h
   exact KP h.2.2.2.2.2.2.2.2.2.2
theorem Mj{F G:Nat→Int}{T U:By}(h:∀ o,o<10→F o=G o)(h2:T=U):bY F T=bY G U:=by
 subst h2;simp only[bY,h 0 (by decide),h 1 (by decide),h 2 (by decide),h 3 (by decide),h 4 (by decide),h 5 (by decide),h 6 (by decide),h 7 (by decide),h 8 (by decide),h 9 (by decide)]
theorem JH{F G:Nat→Int}{T U:By}(h:∀ o,o<11→(bY F T)[o]?=(bY G U)[o]?):bY F T=bY G U:=by
 apply Xy;intro i;by_cases hi:i<11
 ·exact h i hi
 ·rw[Xe (by simp[bY];omega),Xe (by simp[bY];omega)]
structure Fd where
 f:Nat
 o:Nat
 b:Int
 m:Int
def fdV(x:Fd):List Value:=[.func (.func x.f) #[] #[],iV x.b,iV x.m]
theorem eK:jY 3 fdV:=fun x=>⟨rfl,by simp[fdV,Value.oneCell']⟩
def sK:List Fd:=[⟨176,1,2,511⟩,⟨177,2,2,2047⟩,⟨178,3,2,2047⟩,⟨179,4,2,1024⟩,⟨180,5,4,4294967295⟩]
def xL:List Fd:=[⟨181,6,4,4294967295⟩,⟨182,7,2,4096⟩,⟨183,8,2,1024⟩,⟨184,9,1,127⟩]
def sH:List Fd:=[⟨181,6,4,4294967295⟩,⟨182,7,4,1048576⟩]
def gN(k:Int):List Fd:=if k=2 then xL else if k=1 then sH else []
def aU(k:Int):List Fd:=sK++gN k
def fd0:Fd:=⟨176,1,2,511⟩
theorem J4{k:Int}{x:Fd}(h:x∈gN k):x∈xL∨x∈sH:=by
 unfold gN at h
 split at h
 ·exact .inl h
 · split at h
   ·exact .inr h
   ·cases h
theorem IP{k:Int}{x:Fd}(h:x∈aU k):x∈sK∨x∈xL∨x∈sH:=by
 rcases WZ.1 h with h|h
 ·exact .inl h
 ·exact .inr (J4 h)
theorem jB(k:Int):(aU k).length≤9:=by
 unfold aU gN
 split
 ·decide
 ·split<;>decide
theorem uI{k:Int}{i:Nat}(h:i<(aU k).length):(aU k).getD i fd0∈aU k:=by
 rw[WI,Wv h];exact Xw h
def yZ(f o:Nat):Prop:=fnB Tryz.prog f=true∧o<10∧0<o∧∀ (b:Nat) (W:World),Calls Tryz.prog f [pT b].toArray W (Ret fun v w'=>v=.pointer (some ⟨b,o,none⟩)∧w'=W)
theorem iK(b o:Nat):Value.pointer (some ((⟨b,0,none⟩:Addr).add o))=.pointer (some ⟨b,o,none⟩):=by rw[Addr.add_lit,Xp]
theorem N7:yZ 176 1:=by
 refine⟨PR,by decide,by decide,fun b W=>?_⟩;refine cS 6 [(0,_)] Tryz.func176 ?_;refine Gz 15 ?_;exact⟨_,rfl,iK b 1,rfl⟩
theorem N6:yZ 177 2:=by
 refine⟨PQ,by decide,by decide,fun b W=>?_⟩;refine cS 6 [(0,_)] Tryz.func177 ?_;refine Gz 15 ?_;exact⟨_,rfl,iK b 2,rfl⟩
theorem N5:yZ 178 3:=by
 refine⟨PP,by decide,by decide,fun b W=>?_⟩;refine cS 6 [(0,_)] Tryz.func178 ?_;refine Gz 15 ?_;exact⟨_,rfl,iK b 3,rfl⟩
theorem N4:yZ 179 4:=by
 refine⟨PO,by decide,by decide,fun b W=>?_⟩;refine cS 6 [(0,_)] Tryz.func179 ?_;refine Gz 15 ?_;exact⟨_,rfl,iK b 4,rfl⟩
theorem N3:yZ 180 5:=by
 refine⟨PN,by decide,by decide,fun b W=>?_⟩;refine cS 6 [(0,_)] Tryz.func180 ?_;refine Gz 15 ?_;exact⟨_,rfl,iK b 5,rfl⟩
theorem Jb:yZ 181 6:=by
 refine⟨PM,by decide,by decide,fun b W=>?_⟩;refine cS 6 [(0,_)] Tryz.func181 ?_;refine Gz 15 ?_;exact⟨_,rfl,iK b 6,rfl⟩
theorem Ja:yZ 182 7:=by
 refine⟨PL,by decide,by decide,fun b W=>?_⟩;refine cS 6 [(0,_)] Tryz.func182 ?_;refine Gz 15 ?_;exact⟨_,rfl,iK b 7,rfl⟩
theorem N2:yZ 183 8:=by
 refine⟨PK,by decide,by decide,fun b W=>?_⟩;refine cS 6 [(0,_)] Tryz.func183 ?_;refine Gz 15 ?_;exact⟨_,rfl,iK b 8,rfl⟩
theorem N1:yZ 184 9:=by
 refine⟨PJ,by decide,by decide,fun b W=>?_⟩;refine cS 6 [(0,_)] Tryz.func184 ?_;refine Gz 15 ?_;exact⟨_,rfl,iK b 9,rfl⟩
theorem kD{k:Int}{x:Fd}(h:x∈aU k):yZ x.f x.o∧1≤x.b∧x.b≤4∧0≤x.m∧x.m<2 ^ (8*x.b).toNat:=by
 rcases IP h with h|h|h
 · simp only[sK,W5,Xm,or_false] at h
   rcases h with rfl|rfl|rfl|rfl|rfl
   ·exact⟨N7,by decide,by decide,by decide,by decide⟩
   ·exact⟨N6,by decide,by decide,by decide,by decide⟩
   ·exact⟨N5,by decide,by decide,by decide,by decide⟩
   ·exact⟨N4,by decide,by decide,by decide,by decide⟩
   ·exact⟨N3,by decide,by decide,by decide,by decide⟩
 · simp only[xL,W5,Xm,or_false] at h
   rcases h with rfl|rfl|rfl|rfl
   ·exact⟨Jb,by decide,by decide,by decide,by decide⟩
   ·exact⟨Ja,by decide,by decide,by decide,by decide⟩
   ·exact⟨N2,by decide,by decide,by decide,by decide⟩
   ·exact⟨N1,by decide,by decide,by decide,by decide⟩
 · simp only[sH,W5,Xm,or_false] at h
   rcases h with rfl|rfl
   ·exact⟨Jb,by decide,by decide,by decide,by decide⟩
   ·exact⟨Ja,by decide,by decide,by decide,by decide⟩
def FdP(W:World)(L:List Fd):Value→World→Prop:=fun v w'=>∃ ao c,v=.slice ao L.length c∧bP 3 fdV 196 w'.heap ao c L∧Fr W.heap.size ao∧aA nob W w'
theorem AC(W:World):CA 126 [] W (FdP W sK):=by
 refine cS 7 [] Tryz.func126 ?_;refine Gz 7 ?_;refine cL (bU (fdV ⟨176,1,2,511⟩) jD iH) ?_;refine cL (bU (fdV ⟨177,2,2,2047⟩) jD iH) ?_;refine cL (bU (fdV ⟨178,3,2,2047⟩) jD iH) ?_;refine cL (bU (fdV ⟨179,4,2,1024⟩) jD iH) ?_;refine cL (bU (fdV ⟨180,5,4,4294967295⟩) jD iH) ?_;refine Tc sX (cs:=(sK.flatMap fdV).toArray) iH rfl rfl rfl (by kernel_rfl) rfl ?_;intro w1 ho1 hs1 hf1;refine Gz 5 ?_;exact⟨_,rfl,_,_,rfl,bX eK ho1 (by decide),Ao _,hf1⟩
theorem Av(k:Int)(W:World):CA 127 [iV k] W (FdP W (gN k)):=by
 refine cS 22 [(0,_)] Tryz.func127 ?_;refine fK 24 ?_ ?_<;>intro h7
 ·refine Gz 7 ?_;refine cL (bU (fdV ⟨181,6,4,4294967295⟩) jD iH) ?_;refine Gz 1 ?_;refine cL (bU (fdV ⟨182,7,2,4096⟩) jD iH) ?_;refine cL (bU (fdV ⟨183,8,2,1024⟩) jD iH) ?_;refine cL (bU (fdV ⟨184,9,1,127⟩) jD iH) ?_;refine Tc sX (cs:=(xL.flatMap fdV).toArray) iH rfl rfl rfl (by kernel_rfl) rfl ?_;intro w1 ho1 hs1 hf1;refine Gz 7 ?_;have e:gN k=xL:=by unfold gN;rw[Wu h7]
  rw[e];exact⟨_,rfl,_,_,rfl,bX eK ho1 (by decide),Ao _,hf1⟩
 refine fK 6 ?_ ?_<;>intro h16
 ·refine Gz 7 ?_;refine cL (bU (fdV ⟨181,6,4,4294967295⟩) jD iH) ?_;refine Gz 1 ?_;refine cL (bU (fdV ⟨182,7,4,1048576⟩) jD iH) ?_;refine Tc sX (cs:=(sH.flatMap fdV).toArray) iH rfl rfl rfl (by kernel_rfl) rfl ?_;intro w1 ho1 hs1 hf1;refine Gz 7 ?_;have e:gN k=sH:=by unfold gN;rw[Wt h7,Wu h16]
  rw[e];exact⟨_,rfl,_,_,rfl,bX eK ho1 (by decide),Ao _,hf1⟩
 refine Gz 14 ?_;have e:gN k=[]:=by unfold gN;rw[Wt h7,Wt h16]
 rw[e];exact⟨_,rfl,none,0,rfl,VV,VP,VK _ _⟩
def dP(wide:Int)(s:Int×By)(z:Int):Int×By:=(fH s.1 z wide,oA s.1 s.2 z wide)
def lU(l:List Int)(wide:Int):Int×By:=l.foldl (dP wide) (0,[])
theorem LS(E:Int)(xs:By)(x n:Int):(oA E xs x n).length≤xs.length+4:=by
 by_cases h:gD x n
 ·unfold oA;rw[Wu (.inr h)];omega
 ·exact CM E xs x n h
theorem Ac(wide:Int):∀ (l:List Int) (s:Int×By),(l.foldl (dP wide) s).2.length≤s.2.length+4*l.length
|[],s=>by simp
|z::r,s=>by
   have h1:=Ac wide r (dP wide s z);have h2:=LS s.1 s.2 z wide;simp only[XA,WT];have:(dP wide s z).2.length≤s.2.length+4:=h2;omega
theorem Em(l:List Int)(wide:Int)(k:Nat)(h:k<l.length):lU (l.take (k+1)) wide=dP wide (lU (l.take k) wide) (l.getD k 0):=by
 unfold lU;rw[WV h,XO];simp[WI,h]
theorem Jc(l:List Int)(wide:Int)(k:Nat):(lU (l.take k) wide).2.length≤4*l.length:=by
 have:=Ac wide (l.take k) (0,[]);simp only[W2,WB] at this;unfold lU;omega
def aJ(l:List Int)(wide:Int):By×Int:=
 if wide=2∨wide=4 then (jS (lU l wide).1 (lU l wide).2,(lU l wide).1) else ([],1)
theorem Mz(wide:Int)(W:World):CA 75 [iV wide] W fun v w'=>v=.bool (decide (wide=2∨wide=4))∧w'=W:=by
 refine cS 9 [(0,_)] Tryz.func75 ?_;refine fK 8 ?_ ?_<;>intro h4
 ·refine Gz 9 ?_;exact⟨_,rfl,by congr 1;symm;first|exact WA (by omega)|exact Wx (by omega),rfl⟩
 refine fW 2 ?_ ?_<;>intro h7
 ·refine Gz 6 ?_;exact⟨_,rfl,by congr 1;symm;first|exact WA (by omega)|exact Wx (by omega),rfl⟩
 refine Gz 6 ?_;exact⟨_,rfl,by congr 1;symm;first|exact WA (by omega)|exact Wx (by omega),rfl⟩
theorem Gn{α:Type}{l:List α}{k:Nat}(h1:k≤l.length)(h2:¬ ((k:Int)<(l.length:Int))):l.take k=l:=WJ (by omega)
theorem Ek(lo:Option Addr)(lc:Nat)(l:List Int)(wide:Int)(W:World)(hv:Vw i64 W.heap lo lc l)(hb:l.length≤137438953472) :
 CA 25 [.slice lo l.length lc,iV wide] W (EZ W (aJ l wide)):=by
 have hlen:=Jc l wide;refine cS 25 [(0,_),(1,_)] Tryz.func25 ?_;refine cA 10 RT (Mz wide W) ?_;rintro _ w0 ⟨rfl,hw0⟩;subst w0;refine Tl (T3 rfl) rfl (fun h11=>?_) (fun h11=>?_)
 ·have hw:¬ (wide=2∨wide=4):=by simpa using h11
  refine Gz 12 ?_;have e:aJ l wide=([],1):=by unfold aJ;rw[Wt hw]
  rw[e];exact⟨_,rfl,none,0,rfl,VR,VP,VK _ _⟩
 have hw:wide=2∨wide=4:=WH fun h=>h11 (Wx h);refine Gz 7 ?_;refine SP zA rfl ?_;intro w1 hg1 hs1 hf1;refine Gz 11 ?_;refine SO (β:=Nat) (fun k=>[(1,iV wide),(6,pT W.heap.size),(12,.slice lo l.length lc),(13,iV l.length),(14,iV k)]) (fun k w=>k≤l.length∧WrL (fun k=>W.heap.size≤k) w.heap W.heap.size (lU (l.take k) wide).1 (lU (l.take k) wide).2∧aA nob W w) (fun k=>l.length-k) 0 ⟨rfl,rfl,rfl,rfl,rfl,trivial⟩ ⟨WG _,VY hg1 (WC _),hf1⟩ ?_;rintro k w2 ⟨hk,hP2,hF2⟩;refine fK 2 ?_ ?_<;>intro h15
 ·refine Gz 10 ?_;refine cL (SI cI rfl rfl hv.non (by omega)) ?_;refine cL (SM aN rfl ((hv.Wr hF2).gz 0 k rfl (by omega))) ?_;refine Gz 6 ?_;refine SJ xG rfl (oR (fun k=>W.heap.size≤k) W.heap.size _ _ (l.getD k 0) wide w2 hP2 (fun k hk=>W9 hF2.size hk) (by have:=hlen k;omega)) rfl ?_;rintro _ w3 ⟨hP3,hF3⟩;refine Gz 7 ?_;refine aG (k+1) ?_ (by show l.length-(k+1)<l.length-k;omega);exact⟨by omega,by rw[Em l wide k (by omega)];exact hP3,(hF2.any.trans hF3).fresh (fun k hk=>hk)⟩
 refine Gz 11 ?_;refine SJ Bw rfl (fY _ W.heap.size _ _ w2 hP2 (by have:=hlen k;omega)) rfl ?_;rintro _ w3 ⟨ao3,c3,rfl,ho3,hfr3,hf3⟩;refine Gz 1 ?_;refine SJ Dc rfl (pD _ W.heap.size _ _ w3 (hP2.Wr hf3)) rfl ?_;rintro _ w4 ⟨rfl,hw4⟩;subst w4;refine Gz 6 ?_;rw[Gn hk (by assumption)] at *;exact⟨_,rfl,ao3,c3,by unfold aJ;rw[Wu hw],by unfold aJ;rw[Wu hw];exact ho3,hfr3.mono hF2.size,hF2.trans hf3⟩
theorem Jf(s:By)(W:World)(hs:s.length≤maxLen):CA 145 [.string (bs s)] W fun v w'=>v=.bool (decide ((0:UInt8)∈s))∧w'=W:=by
 have hl:(s.length:Int)≤9223372036854775807:=by unfold maxLen at hs;omega
 refine cS 14 [(0,_)] Tryz.func145 ?_;refine Gz 12 ?_;refine SO (β:=Nat) (fun k=>[(0,.string (bs s)),(3,iV k)]) (fun k w=>k≤s.length∧(∀ i,i<k→s.getD i 0≠0)∧w=W) (fun k=>s.length-k) 0 ⟨rfl,rfl,trivial⟩ ⟨WG _,by intro i hi;omega,rfl⟩ ?_;rintro k w2 ⟨hk,hgood,hw2⟩;subst hw2;refine Gz 5 ?_;refine cL (Te ty9 rfl) ?_;refine fK 0 ?_ ?_<;>intro h7
 ·refine Gz 11 ?_;refine cL (T2 ty9 rfl rfl (by omega)) ?_;refine fK 0 ?_ ?_<;>intro h13
  ·refine Gz 15 ?_;refine⟨_,rfl,?_,rfl⟩;rw[WA];have e:s.getD k 0=0:=XV.1 (by have:((s.getD ((k:Int)).toNat 0).toNat:Int)=0:=h13;have e2:((k:Int)).toNat=k:=rfl;rw[e2] at this;show _=0;omega);have hk2:k<s.length:=by omega
   rw[WI,Wv hk2] at e;rw[←e];exact Xw hk2
  refine Gz 11 ?_;refine aG (k+1) ?_ (by show s.length-(k+1)<s.length-k;omega);refine⟨by omega,fun i hi=>?_,rfl⟩;by_cases hik:i=k
  ·subst hik;intro e;exact h13 (by rw[show ((i:Int)).toNat=i from rfl,e];rfl)
  ·exact hgood i (by omega)
 refine Gz 15 ?_;refine⟨_,rfl,?_,rfl⟩;rw[Wx];intro h0;obtain⟨i,hi,e⟩:=Xn h0;exact hgood i (by omega) (by simp[WI,hi,e])
theorem Cp(xo:Option Addr)(xc:Nat)(X:List Xa)(W:World)(hv:XaV W.heap xo xc X) :
 CA 146 [.slice xo X.length xc] W fun v w'=>v=.bool (decide (dF X))∧aA nob W w':=by
 have hl:=hv.Wq;refine cS 56 [(0,_)] Tryz.func146 ?_;refine Gz 12 ?_;refine SO (β:=Nat) (fun k=>[(0,.slice xo X.length xc),(3,iV k)]) (fun k w=>k≤X.length∧(∀ i,i<k→Ai X i)∧aA nob W w) (fun k=>X.length-k) 0 ⟨rfl,rfl,trivial⟩ ⟨WG _,by intro i hi;omega,VK _ _⟩ ?_;rintro k w2 ⟨hk,hgood,hF2⟩;refine fK 6 ?_ ?_<;>intro h9
 ·refine Gz 11 ?_;obtain⟨xa,xc2,hrow,hxv,hnl⟩:=(hv.Wr hF2).at (i:=k) rfl (by omega);refine cL (SL iY rfl rfl hv.non (by omega)) ?_;refine cL (SX (cs:=[.string (bs (X.getD k x0).1),.slice xa (X.getD k x0).2.length xc2]) dS rfl hrow) ?_;refine SP sS rfl ?_;intro w3 hg3 hs3 hf3;refine sA rfl dS (by simp[Value.oneCell']) hg3 ?_;intro w4 hg4 hs4 hf4;have hF4:aA nob W w4:=hF2.trans (hf3.Wo hf4 (fun k hk=>.inr (by omega)));refine Gz 6 ?_;refine SJ Nr rfl (Jf _ w4 hnl) rfl ?_;rintro _ w5 ⟨rfl,hw5⟩;subst w5;refine Gz 4 ?_;refine Tg 34 [0,1,2,3,4,5,6,7,8,9,10,11,12,13,14,15,16,17,18,19,20,21,22,23,24,25,26,27,28,29,30,31,32,33] aL (by kernel_rfl) ?_;refine Gz 1 ?_;refine xC rfl (SM fT rfl (aD hg4 rfl)) ?_;refine xC rfl (Te ty9 rfl) ?_;refine xK 0 ?_ ?_<;>intro h22
  ·have hbad:¬ dF X:=fun h=>by have:=(h.1 k (by omega)).1;have:=WN.2 (F1 this);omega
   refine Gz 45 ?_;exact⟨_,rfl,by rw[Wx hbad],hF4.draws 1⟩
  refine Gz 2 ?_;refine xV rfl (SM fT rfl (aD hg4 rfl)) ?_;refine xV rfl (Te ty9 rfl) ?_;refine xW 0 ?_ ?_<;>intro h27
  ·have hbad:¬ dF X:=fun h=>by have:=(h.1 k (by omega)).2.1;omega
   refine Gz 40 ?_;exact⟨_,rfl,by rw[Wx hbad],hF4.draws 1⟩
  refine Gz 2 ?_;refine TT rfl rfl rfl rfl (S6 (SQ rfl)) rfl (fun h30=>?_) (fun h30=>?_)
  ·have hbad:¬ dF X:=fun h=>(h.1 k (by omega)).2.2.1 (of_decide_eq_true h30);refine Gz 37 ?_;exact⟨_,rfl,by rw[Wx hbad],hF4.draws 1⟩
  have g3:(0:UInt8)∉(X.getD k x0).1:=fun h=>h30 (WA h);refine Gz 3 ?_;refine xV rfl (SM aX rfl (aD hg4 rfl)) ?_;refine xW 1 ?_ ?_<;>intro h36
  ·have hbad:¬ dF X:=fun h=>by have:=(h.1 k (by omega)).2.2.2;omega
   refine Gz 31 ?_;exact⟨_,rfl,by rw[Wx hbad],hF4.draws 1⟩
  refine xW 3 ?_ ?_<;>intro h40
  ·refine Gz 4 ?_;obtain⟨k,rfl⟩:∃ q,k=q+1:=⟨k-1,by omega⟩
   obtain⟨pa,pc2,prow,pxv,pnl⟩:=(hv.Wr hF4).at (i:=k) (z:=((k+1:Nat):Int)-1) (by omega) (by omega);refine xV rfl (SL iY rfl rfl hv.non (by omega)) ?_;refine Gz 1 ?_;refine xV rfl (SM fT rfl (prow 0 _ rfl)) ?_;refine Gz 1 ?_;refine xV rfl (SM fT rfl (aD hg4 rfl)) ?_;refine TT rfl rfl rfl rfl (S6 (U7 rfl rfl)) rfl (fun h50=>?_) (fun h50=>?_)
   ·have hbad:¬ dF X:=fun h=>by have:WU (X.getD k x0).1 (X.getD (k+1) x0).1=true:=(h.1 (k+1) (by omega)).1;rw[this] at h50;cases h50
    refine xV rfl (TW rfl rfl) ?_;refine Gz 16 ?_;exact⟨_,rfl,by rw[Wx hbad],hF4.draws 1⟩
   have g1:WU (X.getD k x0).1 (X.getD (k+1) x0).1=true:=by revert h50;cases WU (X.getD k x0).1 (X.getD (k+1) x0).1<;>simp
   refine xV rfl (TW rfl rfl) ?_;refine Gz 12 ?_;refine aG (k+1+1) ?_ (by show X.length-(k+1+1)<X.length-(k+1);omega);refine⟨by omega,fun i hi=>?_,hF4.draws 1⟩;by_cases hik:i=k+1
   ·subst hik;exact⟨g1,by omega,g3,by omega⟩
   ·exact hgood i (by omega)
  refine Gz 10 ?_;refine xV rfl (TX rfl rfl) ?_;refine Gz 12 ?_;refine aG (k+1) ?_ (by show X.length-(k+1)<X.length-k;omega);refine⟨by omega,fun i hi=>?_,hF4.draws 1⟩;by_cases hik:i=k
  · subst hik;have hi0:i=0:=by omega
    subst hi0;exact⟨(Jv _).2 (by intro e;rw[e] at h22;simp at h22),by omega,g3,by omega⟩
  ·exact hgood i (by omega)
 refine Gz 12 ?_;refine cL (TR rfl rfl) ?_;refine Gz 5 ?_;refine⟨_,rfl,?_,hF2⟩;have hk2:k=X.length:=by omega
 subst hk2;congr 1;exact decide_eq_decide.2 ⟨fun h=>⟨hgood,by omega⟩,fun h=>by have:=h.2;omega⟩
theorem L4(xo:Option Addr)(xc:Nat)(X:List Xa)(W:World)(hv:XaV W.heap xo xc X) :
 CA 174 [.slice xo X.length xc] W fun v w'=>v=.bool (decide (dF X))∧aA nob W w':=by
 have hl:=hv.Wq;refine cS 40 [(0,_)] Tryz.func174 ?_;refine Gz 19 ?_;refine SO (β:=Nat) (fun k=>[(0,.slice xo X.length xc),(3,.string (bs (tB X k))),(6,.slice xo X.length xc),(7,iV X.length),(8,iV k)]) (fun k w=>k≤X.length∧(∀ i,i<k→Ai X i)∧aA nob W w) (fun k=>X.length-k) 0 ⟨rfl,rfl,rfl,rfl,rfl,trivial⟩ ⟨WG _,by intro i hi;omega,VK _ _⟩ ?_;rintro k w2 ⟨hk,hgood,hF2⟩;refine fK 2 ?_ ?_<;>intro h9
 ·refine Gz 10 ?_;obtain⟨xa,xc2,hrow,hxv,hnl⟩:=(hv.Wr hF2).at (i:=k) rfl (by omega);refine cL (SL iY rfl rfl hv.non (by omega)) ?_;refine cL (SX (cs:=[.string (bs (X.getD k x0).1),.slice xa (X.getD k x0).2.length xc2]) dS rfl hrow) ?_;refine SP sS rfl ?_;intro w3 hg3 hs3 hf3;refine sA rfl dS (by simp[Value.oneCell']) hg3 ?_;intro w4 hg4 hs4 hf4;have hF4:aA nob W w4:=hF2.trans (hf3.Wo hf4 (fun k hk=>.inr (by omega)));refine Gz 8 ?_;refine Tl (S6 (Ut rfl rfl)) rfl (fun h15=>?_) (fun h15=>?_)
  ·have hbad:¬ dF X:=fun h=>by have:=(h.1 k (by omega)).1;rw[iB] at h15;rw[this] at h15;cases h15
   refine Gz 34 ?_;exact⟨_,rfl,by rw[Wx hbad],hF4⟩
  have g1:WU (tB X k) (X.getD k x0).1=true:=by rw[iB] at h15;revert h15;cases WU (tB X k) (X.getD k x0).1<;>simp
  refine Gz 3 ?_;refine cW (Te ty9 rfl) ?_;refine fW 0 ?_ ?_<;>intro h20
  ·have hbad:¬ dF X:=fun h=>by have:=(h.1 k (by omega)).2.1;omega
   refine Gz 29 ?_;exact⟨_,rfl,by rw[Wx hbad],hF4⟩
  refine Gz 4 ?_;refine SS rfl rfl J0 rfl (Ey _ 0 w4) rfl ?_;rintro _ w5 ⟨rfl,hw5⟩;subst w5;refine fW 0 ?_ ?_<;>intro h26
  ·have hbad:¬ dF X:=fun h=>(h.1 k (by omega)).2.2.1 (pV h26);refine Gz 23 ?_;exact⟨_,rfl,by rw[Wx hbad],hF4⟩
  have g3:=pW (Int.not_le.1 h26);refine fW 5 ?_ ?_<;>intro h32
  ·have hbad:¬ dF X:=fun h=>by have:=(h.1 k (by omega)).2.2.2;omega
   refine Gz 17 ?_;exact⟨_,rfl,by rw[Wx hbad],hF4⟩
  refine Gz 17 ?_;refine aG (k+1) ?_ (by show X.length-(k+1)<X.length-k;omega);refine⟨by omega,fun i hi=>?_,hF4⟩;by_cases hik:i=k
  ·subst hik;exact⟨g1,by omega,g3,by omega⟩
  ·exact hgood i (by omega)
 refine Gz 13 ?_;refine cL (TR rfl rfl) ?_;refine Gz 5 ?_;refine⟨_,rfl,?_,hF2⟩;have hk2:k=X.length:=by omega
 subst hk2;congr 1;exact decide_eq_decide.2 ⟨fun h=>⟨hgood,by omega⟩,fun h=>by have:=h.2;omega⟩
def iE(F:Nat→Int)(n:Nat):Prop:=
 0≤F 1∧F 1≤511∧0≤F 2∧F 2≤2047∧0≤F 3∧F 3≤2047∧1≤F 4∧F 4≤1024∧0≤F 5∧F 5≤4294967295 ∧
 ((F 0=2∧0≤F 7∧F 7≤4096∧0≤F 8∧F 8≤1024∧(0<F 8↔0<F 7%128)∧0≤F 6∧F 6≤4294967295∧0≤F 9∧F 9<128∧(0<F 8∨F 9=0)∧n=0) ∨
  (F 0=1∧0≤F 6∧F 6≤4294967295∧0≤F 7∧F 7≤1048576∧F 4=1∧F 8=0∧F 9=0∧n=0) ∨
  (F 0=3∧1≤n∧n≤200∧F 6=0∧F 7=0∧F 8=0∧F 9=0))
def fU(F:Nat→Int)(T:By):Prop:=iE F T.length∧(F 0=3→(0:UInt8)∉T)
instance (F:Nat→Int)(T:By):Decidable (fU F T):=by unfold fU iE;exact inferInstance
def okF(F:Nat→Int)(x:Fd):Prop:=0≤F x.o∧F x.o≤x.m
theorem LH{F:Nat→Int}(h:∀ x∈aU (F 0),okF F x) :
 (0≤F 1∧F 1≤511∧0≤F 2∧F 2≤2047∧0≤F 3∧F 3≤2047∧0≤F 4∧F 4≤1024∧0≤F 5∧F 5≤4294967295) ∧
 (F 0=2→0≤F 6∧F 6≤4294967295∧0≤F 7∧F 7≤4096∧0≤F 8∧F 8≤1024∧0≤F 9∧F 9≤127) ∧
 (F 0=1→0≤F 6∧F 6≤4294967295∧0≤F 7∧F 7≤1048576):=by
 refine⟨?_,fun e=>?_,fun e=>?_⟩
 · have h2:∀ x∈sK,okF F x:=fun x hx=>h x (WZ.2 (.inl hx))
   simp only[sK,Yx,okF] at h2;omega
 · have h2:∀ x∈xL,okF F x:=fun x hx=>h x (WZ.2 (.inr (by unfold gN;rw[Wu e];exact hx)))
   simp only[xL,Yx,okF] at h2;omega
 · have h2:∀ x∈sH,okF F x:=fun x hx=>h x (WZ.2 (.inr (by unfold gN;rw[Wt (by omega),Wu e];exact hx)))
   simp only[sH,Yx,okF] at h2;omega
theorem pQ{F:Nat→Int}{T:By}(h:fU F T):∀ x∈aU (F 0),okF F x:=by
 intro x hx;have h1:=h.1;unfold iE at h1;unfold okF;rcases WZ.1 hx with hx|hx
 · simp only[sK,W5,Xm,or_false] at hx
   rcases hx with rfl|rfl|rfl|rfl|rfl<;>(simp only;omega)
 · unfold gN at hx
   split at hx
   · simp only[xL,W5,Xm,or_false] at hx
     rcases hx with rfl|rfl|rfl|rfl<;>(simp only;omega)
   · split at hx
     · simp only[sH,W5,Xm,or_false] at hx
       rcases hx with rfl|rfl<;>(simp only;omega)
     ·cases hx
def dH(F:Nat→Int)(L:List Fd):Nat→Int:=fun o=>if o∈L.map (·.o) then F o else 0
def oE(G:Nat→Int)(U:By)(F:Nat→Int)(T:By):Prop:=(∀ o,o<10→G o=F o)∧U=T
instance (G:Nat→Int)(U:By)(F:Nat→Int)(T:By):Decidable (oE G U F T):=by unfold oE;exact inferInstance
theorem tF(F:Nat→Int)(L:List Fd)(x:Fd):upd (dH F L) x.o (F x.o)=dH F (L++[x]):=by
 funext q;unfold upd dH;by_cases h:q=x.o
 ·subst h;simp
 · by_cases h2:q∈L.map (·.o)
   ·rw[Wt h,Wu h2,Wu (by simp at h2 ⊢;exact .inl h2)]
   ·rw[Wt h,Wt h2,Wt (by simp at h2 ⊢;exact⟨h2,h⟩)]
theorem wT(F:Nat→Int):dH F []=fun _=>0:=by funext q;simp[dH]
theorem oZ(F:Nat→Int)(U T:By):oE (upd (dH F (aU (F 0))) 0 (F 0)) U F T↔(F 0≠2→F 8=0∧F 9=0)∧(F 0≠2→F 0≠1→F 6=0∧F 7=0)∧U=T:=by
 unfold oE;have hcom:∀ o,(o=1∨o=2∨o=3∨o=4∨o=5)→dH F (aU (F 0)) o=F o:=fun o ho=>by
  unfold dH aU;rw[Wu];rw[Yo,WZ];left;simp[sK];omega
 have hval:∀ o,6≤o→(dH F (aU (F 0)) o=if o∈(gN (F 0)).map (·.o) then F o else 0):=fun o ho=>by
  unfold dH aU;congr 1;rw[Yo,WZ];simp[sK];omega
 constructor
 · rintro⟨h,hU⟩
   have g:∀ o,6≤o→o<10→(if o∈(gN (F 0)).map (·.o) then F o else 0)=F o:=fun o h6 h10=>by
    have:=h o h10;unfold upd at this;rw[Wt (by omega),hval o h6] at this;exact this
   have g6:=g 6 (by decide) (by decide);have g7:=g 7 (by decide) (by decide);have g8:=g 8 (by decide) (by decide);have g9:=g 9 (by decide) (by decide);refine⟨fun h2=>?_,fun h2 h1=>?_,hU⟩
   · by_cases h1:F 0=1
     ·simp[gN,h1,sH] at g8 g9;omega
     ·simp[gN,h1,h2] at g8 g9;omega
   ·simp[gN,h1,h2] at g6 g7;omega
 · rintro⟨h8,h6,hU⟩
   refine⟨fun o ho=>?_,hU⟩;unfold upd;by_cases h0:o=0
   ·rw[Wu h0,h0]
   · rw[Wt h0]
     by_cases h5:o<6
     ·exact hcom o (by omega)
     · rw[hval o (by omega)]
       by_cases h2:F 0=2
       ·rw[Wu];simp[gN,h2,xL];omega
       · have h8':=h8 h2
         by_cases h1:F 0=1
         · by_cases h7:o<8
           ·rw[Wu];simp[gN,h1,sH];omega
           · rw[Wt (by simp[gN,h1,sH];omega)]
             have:o=8∨o=9:=by omega
             rcases this with rfl|rfl<;>omega
         · have h6':=h6 h2 h1
           rw[Wt (by simp[gN,h1,h2])];have:o=6∨o=7∨o=8∨o=9:=by omega
           rcases this with rfl|rfl|rfl|rfl<;>omega
section
variable {N:Nt}{l:SF}{ty:TypeId}{pos:String}{aft:Array Edge}{CH:Array Obj→Prop}{x y:Operand}{t':TypeId}{g:Option (Nat×Bool)}{dd:Option Nat}
theorem Oj(G:Nat→Int)(U:By)(F:Nat→Int)(T:By)(w:World):(Op.equalIn 10000 88 (.agg (bY G U).toArray) (.agg (bY F T).toArray)).run Tryz.prog w=.ok (decide (oE G U F T)) w:=by
 have h0:=run_equalIn_struct (P:=Tryz.prog) w 9999 88 (bY G U).toArray (bY F T).toArray (by kernel_rfl) (by kernel_rfl);refine h0.trans ?_;obtain⟨r,hr,hr2⟩:=tJ (P:=Tryz.prog) w (d:=9998) (d1:=9999) rfl (xs:=(bY G U).toArray) (ys:=(bY F T).toArray) (Tryz.prog.fieldsOf 88).toList (by
  unfold Program.fieldsOf;rw[Tryz.underlying88];simp only[Yx];refine⟨⟨by decide,_,_,rfl,rfl,?_,?_⟩,⟨by decide,_,_,rfl,rfl,?_,?_⟩,⟨by decide,_,_,rfl,rfl,?_,?_⟩,⟨by decide,_,_,rfl,rfl,?_,?_⟩,⟨by decide,_,_,rfl,rfl,?_,?_⟩,⟨by decide,_,_,rfl,rfl,?_,?_⟩,⟨by decide,_,_,rfl,rfl,?_,?_⟩,⟨by decide,_,_,rfl,rfl,?_,?_⟩,⟨by decide,_,_,rfl,rfl,?_,?_⟩,⟨by decide,_,_,rfl,rfl,?_,?_⟩,⟨by decide,_,_,rfl,rfl,?_,?_⟩,by simp⟩<;>first|(unfold okV;rw[ty3];exact(rfl:IntKind.i64=IntKind.i64))|(unfold okV;rw[ty9];exact trivial))
 suffices hsf:r=decide (oE G U F T) by rw[←hsf];exact hr
 rw[Bool.eq_iff_iff,hr2,decide_eq_true_iff];unfold Program.fieldsOf;rw[Tryz.underlying88];constructor
 · intro h
   have h2:bY G U=bY F T:=by
    simp only[Yx] at h;obtain⟨a0,a1,a2,a3,a4,a5,a6,a7,a8,a9,a10,_⟩:=h;apply JH;intro o ho
    match o,ho with
   |0,_=>simpa using a0
   |1,_=>simpa using a1
   |2,_=>simpa using a2
   |3,_=>simpa using a3
   |4,_=>simpa using a4
   |5,_=>simpa using a5
   |6,_=>simpa using a6
   |7,_=>simpa using a7
   |8,_=>simpa using a8
   |9,_=>simpa using a9
   |10,_=>simpa using a10
   exact JG h2
 · rintro⟨h1,h2⟩ f _
   rw[Mj h1 h2]
theorem UZ{G F:Nat→Int}{U T:By}(hx:evL l x=some (.agg (bY G U).toArray))(hy:evL l y=some (.agg (bY F T).toArray)):Cm Tryz.prog N CH l ⟨dd,.binOp .neq 88 x y t',ty,pos,aft,g⟩ (.bool (decide (¬ oE G U F T))):=fun a w ha _=>by
 have h1:=run_eqGuard_agg (P:=Tryz.prog) w .neq 88 x y (bY G U).toArray (bY F T).toArray (by kernel_rfl);have h2:=run_neq_struct (P:=Tryz.prog) w 88 (bY G U).toArray (bY F T).toArray;rw[Oj] at h2;simp only[execOp,ha.ev hx,ha.ev hy,Sem.run_bind,h1,h2,Result.andThen_ok,Sem.run_pure];simp
end
theorem xM{L:List Fd}{k:Nat}(h:k<L.length):L.take (k+1)=L.take k++[L.getD k fd0]:=by
 rw[WV h];simp[WI,h]
theorem Kd{H:Array Obj}{ao:Option Addr}{c:Nat}{L:List Fd}(h:VwM 3 fdV H ao c L){k:Nat}{z:Int}(hz:z=k)(hk:k<L.length) :
 ∀ j v,(fdV (L.getD k fd0))[j]?=some v→bH H ((adr ao (z.toNat*3)).add j)=some v:=by
 have e:L[k]?=some (L.getD k fd0):=by simp[WI,hk]
 exact h.rowZ k hz e
theorem tV{p:Prop}[Decidable p](h:¬ p):Value.bool false=.bool (decide p):=by rw[Wx h]
theorem La{p:Prop}[Decidable p](h:p):Value.bool true=.bool (decide p):=by rw[WA h]
theorem Of(F:Nat→Int)(T:By)(W:World)(hT:T.length≤maxLen) :
 CA 125 [.agg (bY F T).toArray] W fun v w'=>v=.bool (decide (fU F T))∧aA nob W w':=by
 refine cS 100 [(0,_)] Tryz.func125 ?_;refine Gz 2 ?_;refine Td rfl rfl ?_;intro w1 hg1 hs1 hf1;have hg1:w1.heap[W.heap.size]?=some (.cells (bY F T).toArray 88 (0,0)):=hg1;refine Gz 4 ?_;refine SZ 6 (fun H=>H[W.heap.size]?=some (.cells (bY F T).toArray 88 (0,0))) [0,3,4] [1,2,0,3,4,5] aL (by kernel_rfl) (hg1) ?_;refine Gz 2 ?_;refine SU rfl rfl (SJ Nv rfl (AC _) rfl ?_);rintro _ w2 ⟨ao2,c2,rfl,ho2,hfr2,hf2⟩;refine S5 (by exact hf2.obj hg1 id) ?_;refine SU rfl rfl (SJ Nu rfl (Av (F 0) w2) rfl ?_);rintro _ w3 ⟨ao3,c3,rfl,ho3,hfr3,hf3⟩;refine S5 (by exact hf3.obj (hf2.obj hg1 id) id) ?_;refine SU rfl rfl (S2 eK rfl sX rfl rfl (ho2.Wr hf3) (ho3.vw eK) (by have:=jB (F 0);unfold aU at this;rw[Ww] at this;omega) (by have:=jB (F 0);unfold aU at this;rw[Ww] at this;unfold maxLen;omega) rfl ?_);intro ao4 c4 w4 ho4 hf4 hr4 hn4;have hfr2:Fr w1.heap.size ao2:=hfr2;have hg4:=hf4.obj (hf3.obj (hf2.obj hg1 id) id) (fun⟨a,ha,hb⟩=>by have:=hfr2 a ha;omega);have hF3:aA nob W w3:=(hf1.trans hf2.Wp).trans hf3;have hF4:aA nob W w4:=hF3.Wo hf4 (fun k ⟨a,ha,hb⟩=>.inr (by have:=hfr2 a ha;omega));refine S5 (by exact hg4) ?_;refine Gz 5 ?_;refine SP HZ rfl ?_;intro w5 hg5 hs5 hf5;have hg5:w5.heap[w4.heap.size]?=some (.cells (bY (fun _=>0) []).toArray 88 (0,0)):=hg5;have hlt4:W.heap.size<w4.heap.size:=by have:=hf2.size;have:=hf3.size;have:=hf4.size;have:w1.heap.size≤w2.heap.size:=hf2.Wp.size;omega
 have hF5:=hF4.trans hf5;have hp5:=hf5.obj hg4 id;have hL5:VwM 3 fdV w5.heap ao4 c4 (aU (F 0)):=(ho4.vw eK).Wr hf5;have hLlen:=jB (F 0);have hne4:∀ a,ao4=some a→a.block<w4.heap.size:=fun a ha=>ho4.lt a ha;refine Gz 11 ?_;refine SO (β:=Nat) (fun k=>[(1,pT W.heap.size),(4,pT w4.heap.size),(14,.slice ao4 (aU (F 0)).length c4),(15,iV (aU (F 0)).length),(16,iV k)]) (fun k w=>k≤(aU (F 0)).length∧w.heap[w4.heap.size]?=some (.cells (bY (dH F ((aU (F 0)).take k)) []).toArray 88 (0,0))∧(∀ x∈(aU (F 0)).take k,okF F x)∧w.heap[W.heap.size]?=some (.cells (bY F T).toArray 88 (0,0))∧VwM 3 fdV w.heap ao4 c4 (aU (F 0))∧w4.heap.size<w.heap.size∧aA nob W w) (fun k=>(aU (F 0)).length-k) 0 ⟨rfl,rfl,rfl,rfl,rfl,trivial⟩ ⟨WG _,by rw[List.take_zero,wT];exact hg5,by simp,hp5,hL5,by omega,hF5⟩ ?_;rintro k w6 ⟨hk,hq,hall,hp,hL,hlt6,hF6⟩;refine fK 2 ?_ ?_<;>intro h17
 ·refine Gz 10 ?_;have hkL:k<(aU (F 0)).length:=by omega
  have hrow:=Kd hL (k:=k) rfl hkL;have hmem:=uI hkL;obtain⟨⟨hfn,ho10,ho0,hcall⟩,hb1,hb4,hm0,hmb⟩:=kD hmem;obtain⟨x,hx⟩:∃ x,x=(aU (F 0)).getD k fd0:=⟨_,rfl⟩
  rw[←hx] at hrow hmem hfn ho10 ho0 hcall hb1 hb4 hm0;refine cL (SL sX rfl rfl hL.non (by omega)) ?_;refine cL (SX (cs:=fdV x) BG rfl hrow) ?_;refine SP iH rfl ?_;intro w7 hg7 hs7 hf7;refine sA rfl BG (by simp[fdV,Value.oneCell']) hg7 ?_;intro w8 hg8 hs8 hf8;have hF8:aA nob w6 w8:=hf7.Wo hf8 (fun k hk=>.inr (by omega));have hp8:=hF8.obj hp id;have hq8:=hF8.obj hq id;refine Gz 6 ?_;refine TU hfn rfl rfl (hcall W.heap.size w8) rfl ?_;rintro _ w9 ⟨rfl,hw9⟩;subst w9;refine Gz 1 ?_;refine cL (SM aN rfl (bN hp8 (qK F T ho10))) ?_;refine fK 7 ?_ ?_<;>intro h26
  ·have hbad:¬ fU F T:=fun h=>by have:=pQ h x hmem;unfold okF at this;omega
   refine Gz 22 ?_;exact⟨_,rfl,tV hbad,(hF6.trans hF8)⟩
  refine fW 4 ?_ ?_<;>intro h31
  ·have hbad:¬ fU F T:=fun h=>by have:=pQ h x hmem;unfold okF at this;omega
   refine Gz 17 ?_;exact⟨_,rfl,tV hbad,(hF6.trans hF8)⟩
  refine Gz 9 ?_;refine TU hfn rfl rfl (hcall w4.heap.size w8) rfl ?_;rintro _ w9 ⟨rfl,hw9⟩;subst w9;refine Gz 2 ?_;refine SV aN rfl rfl rfl hq8 (by simp[bY];omega) ?_;intro w10 hg10 hs10 hf10;rw[C3 _ _ ho10,tF,hx,←xM hkL] at hg10;refine Gz 7 ?_;refine aG (k+1) ?_ (by show (aU (F 0)).length-(k+1)<(aU (F 0)).length-k;omega);have hF10:aA (· = w4.heap.size) w6 w10:=(hF8.mono (fun _ h=>h.elim)).trans hf10;refine⟨by omega,hg10,fun y hy=>?_,hF10.obj hp (by omega),hL.Ws hF10 (fun a ha e=>by have:=hne4 a ha;omega),by have:=hF10.size;omega,(hF6.trans hF8).Wo hf10 (fun k hk=>.inr (by omega))⟩;rw[xM hkL,←hx] at hy;rcases WZ.1 hy with hy|hy
  ·exact hall y hy
  ·rw[WY] at hy;subst hy;unfold okF;omega
 refine Gz 12 ?_;have hfin:=Gn hk (by assumption);rw[hfin] at hq hall;obtain⟨k0,k2,k1⟩:=LH hall;refine Gz 2 ?_;refine SV aN rfl rfl rfl hq rfl ?_;intro w11 hg11 hs11 hf11;have hg11:w11.heap[w4.heap.size]?=some (.cells (bY (upd (dH F (aU (F 0))) 0 (F 0)) []).toArray 88 (0,0)):=by rw[←C3 _ _ (by decide)];exact hg11
 have hp11:=hf11.obj hp (by omega);have hF11:aA nob W w11:=hF6.Wo hf11 (fun k hk=>.inr (by omega));refine Gz 2 ?_;refine Tj (β:=By) (fun U=>[(1,pT W.heap.size),(4,pT w4.heap.size)]) (fun U w=>(if F 0=3 then T else [])=U∧w.heap[w4.heap.size]?=some (.cells (bY (upd (dH F (aU (F 0))) 0 (F 0)) U).toArray 88 (0,0))∧w.heap[W.heap.size]?=some (.cells (bY F T).toArray 88 (0,0))∧aA nob W w) ?_ ?_
 ·refine fK 4 ?_ ?_<;>intro h44
  ·refine Gz 7 ?_;refine SV fT rfl rfl rfl hg11 rfl ?_;intro w12 hg12 hs12 hf12;have hp12:=hf12.obj hp11 (show ¬ (W.heap.size=w4.heap.size) by omega);have hF12:aA nob W w12:=hF11.tw hf12;refine Gz 1 ?_;refine aC (if F 0=3 then T else []) ?_;exact⟨rfl,by rw[Wu h44];exact hg12,hp12,hF12⟩
  refine Gz 4 ?_;refine aC (if F 0=3 then T else []) ?_;exact⟨rfl,by rw[Wt h44];exact hg11,hp11,hF11⟩
 rintro U w13 ⟨hU,hqz,hpz,hFz⟩;refine Gz 3 ?_;refine cL (SX (cs:=bY (upd (dH F (aU (F 0))) 0 (F 0)) U) tO rfl (fun j v hj=>aD hqz hj)) ?_;refine cL (SX (cs:=bY F T) tO rfl (fun j v hj=>aD hpz hj)) ?_;refine Tl (UZ rfl rfl) rfl (fun h50=>?_) (fun h50=>?_)
 ·rw[oZ,←hU] at h50;have hbad:¬ fU F T:=fun h=>by have:=h.1;unfold iE at this;apply h50;refine⟨fun _=>by omega,fun _ _=>by omega,?_⟩;by_cases h3:F 0=3;rw[Wu h3];rw[Wt h3];exact(WQ (by omega)).symm
  refine Gz 16 ?_;exact⟨_,rfl,tV hbad,hFz⟩
 have hsame:=(oZ F U T).1 (Decidable.not_not.1 h50);obtain⟨s8,s6,sU⟩:=hsame;have sT:F 0≠3→T.length=0:=fun h3=>by rw[←sU,←hU,Wt h3];rfl
 refine fW 3 ?_ ?_<;>intro h54
 ·have hbad:¬ fU F T:=fun h=>by have:=h.1;unfold iE at this;omega
  refine Gz 12 ?_;exact⟨_,rfl,tV hbad,hFz⟩
 refine fK 16 ?_ ?_<;>intro h59
 ·refine Gz 8 ?_;refine cL (U4 rfl rfl (by omega) (by decide)) ?_;refine fK 0 ?_ ?_<;>intro h63
  ·refine fK 7 ?_ ?_<;>intro h66
   ·refine Gz 1 ?_;refine cL (Tw ty4 rfl rfl) ?_;refine Gz 15 ?_;exact⟨_,rfl,La ⟨by unfold iE;omega,fun h3=>by first|exact hnul|omega⟩,hFz⟩
   refine Gz 1 ?_;refine cL (Tw ty4 rfl rfl) ?_;refine Gz 15 ?_;exact⟨_,rfl,tV (fun h=>by have:=h.1;unfold iE at this;omega),hFz⟩
  refine fK 7 ?_ ?_<;>intro h66
  ·refine Gz 1 ?_;refine cL (Tw ty4 rfl rfl) ?_;refine Gz 15 ?_;exact⟨_,rfl,tV (fun h=>by have:=h.1;unfold iE at this;omega),hFz⟩
  refine Gz 1 ?_;refine cL (Tw ty4 rfl rfl) ?_;refine fW 5 ?_ ?_<;>intro h74
  ·refine Gz 9 ?_;exact⟨_,rfl,La ⟨by unfold iE;omega,fun h3=>by first|exact hnul|omega⟩,hFz⟩
  refine Gz 9 ?_;exact⟨_,rfl,tV (fun h=>by have:=h.1;unfold iE at this;omega),hFz⟩
 refine fK 6 ?_ ?_<;>intro h78
 ·refine fK 8 ?_ ?_<;>intro h81
  ·refine Gz 7 ?_;exact⟨_,rfl,La ⟨by unfold iE;omega,fun h3=>by first|exact hnul|omega⟩,hFz⟩
  refine Gz 7 ?_;exact⟨_,rfl,tV (fun h=>by have:=h.1;unfold iE at this;omega),hFz⟩
 refine fK 6 ?_ ?_<;>intro h83
 ·refine Gz 8 ?_;refine cL (Te ty9 rfl) ?_;refine fK 0 ?_ ?_<;>intro h87
  ·refine Gz 3 ?_;refine cW (Te ty9 rfl) ?_;refine fW 0 ?_ ?_<;>intro h92
   ·refine Gz 4 ?_;refine SS rfl rfl J0 rfl (Ey _ 0 w13) rfl ?_;rintro _ w14 ⟨rfl,hw14⟩;subst w14;refine fW 0 ?_ ?_<;>intro h98
    ·have hnul:=pW h98;refine Gz 8 ?_;exact⟨_,rfl,La ⟨by unfold iE;omega,fun h3=>by first|exact hnul|omega⟩,hFz⟩
    have hnul:=pV (Int.not_lt.1 h98);refine Gz 8 ?_;exact⟨_,rfl,tV (fun h=>h.2 (by omega) hnul),hFz⟩
   refine Gz 14 ?_;exact⟨_,rfl,tV (fun h=>by have:=h.1;unfold iE at this;omega),hFz⟩
  refine Gz 19 ?_;exact⟨_,rfl,tV (fun h=>by have:=h.1;unfold iE at this;omega),hFz⟩
 refine Gz 14 ?_;exact⟨_,rfl,tV (fun h=>by have:=h.1;unfold iE at this;omega),hFz⟩
def vG(s:Int×By)(t:By):Int×By:=(nY s.1 t,mC s.1 s.2 t)
def xF(s:Int×By)(x:Xa):Int×By:=vG (vG s x.1) x.2
def xSt(X:List Xa)(k:Nat):Int×By:=(X.take k).foldl xF (dP 1 (0,[]) X.length)
theorem vC(X:List Xa)(k:Nat)(h:k<X.length):xSt X (k+1)=xF (xSt X k) (X.getD k x0):=by
 unfold xSt;rw[WV h,XO];simp[WI,h]
theorem iS{s:Int×By}{t:By}(h:s.1=0)(ht:t.length≤255):(vG s t).1=0∧(vG s t).2.length=s.2.length+1+t.length:=by
 refine⟨by show nY s.1 t=0;rw[GB (.inr (by omega)),h],?_⟩;show (mC s.1 s.2 t).length=_;unfold mC;rw[Wt (by omega)];simp only[Ww,WT];omega
theorem BM{X:List Xa}(h:dF X):∀ k,k≤X.length→(xSt X k).1=0∧(xSt X k).2.length≤1+300*k
|0,_=>by
   have hb:=nD (n:=X.length) (by have:=h.2;omega);have h1:fH 0 X.length 1=0:=bT hb;refine⟨h1,?_⟩;show (oA 0 [] X.length 1).length≤_;rw[iT h1,Ww,aY];simp
|k+1,hk=>by
   obtain⟨h1,h2⟩:=BM h k (by omega);obtain⟨_,g2,_,g4⟩:=h.1 k (by omega);rw[vC X k (by omega)];obtain⟨a1,a2⟩:=iS (s:=xSt X k) (t:=(X.getD k x0).1) h1 (by omega);obtain⟨b1,b2⟩:=iS (s:=vG (xSt X k) (X.getD k x0).1) (t:=(X.getD k x0).2) a1 (by omega);exact⟨b1,by show (vG (vG (xSt X k) (X.getD k x0).1) (X.getD k x0).2).2.length≤_;omega⟩
def kF(X:List Xa):By×Int:=if X.length=0∨¬ dF X then ([],1) else ((xSt X X.length).2,0)
theorem LK(xo:Option Addr)(xc:Nat)(X:List Xa)(W:World)(hv:XaV W.heap xo xc X) :
 CA 124 [.slice xo X.length xc] W (EZ W (kF X)):=by
 have hl:=hv.Wq;refine cS 35 [(0,_)] Tryz.func124 ?_;refine fK 11 ?_ ?_<;>intro h9
 ·refine Gz 17 ?_;have e:kF X=([],1):=by unfold kF;rw[Wu (.inl (by omega))]
  rw[e];exact⟨_,rfl,none,0,rfl,VR,VP,VK _ _⟩
 refine Gz 2 ?_;refine SS rfl rfl PS rfl (L4 xo xc X W hv) rfl ?_;rintro _ w0 ⟨rfl,hF0⟩;refine Ta rfl rfl (T3 rfl) rfl (fun h13=>?_) (fun h13=>?_)
 ·have hm:¬ dF X:=of_decide_eq_false h13;refine Gz 13 ?_;have e:kF X=([],1):=by unfold kF;rw[Wu (.inr hm)]
  rw[e];exact⟨_,rfl,none,0,rfl,VR,VP,hF0⟩
 have hm:dF X:=WH fun h=>h13 (Wx h);have hlen:=BM hm;have hm8:=hm.2;refine Gz 8 ?_;refine SP zA rfl ?_;intro w1 hg1 hs1 hf1;refine Gz 6 ?_;refine SJ xG rfl (oR (fun k=>w0.heap.size≤k) w0.heap.size 0 [] _ 1 w1 (VY hg1 (WC _)) (mQ hf1 (fun k hk=>hk)) (by simp)) rfl ?_;rintro _ w1b ⟨hP1,hF1⟩;refine Gz 11 ?_;refine SO (β:=Nat) (fun k=>[(4,pT w0.heap.size),(18,.slice xo X.length xc),(19,iV X.length),(20,iV k)]) (fun k w=>k≤X.length∧WrL (fun k=>w0.heap.size≤k) w.heap w0.heap.size (xSt X k).1 (xSt X k).2∧aA nob w0 w) (fun k=>X.length-k) 0 ⟨rfl,rfl,rfl,rfl,trivial⟩ ⟨WG _,hP1,(hf1.any.trans hF1).fresh (fun k hk=>hk)⟩ ?_;rintro k w2 ⟨hk,hP2,hF2⟩;refine fK 2 ?_ ?_<;>intro h21
 ·refine Gz 10 ?_;obtain⟨xa,xc2,hrow0,hxv,hnl⟩:=hv.at (i:=k) rfl (by omega);obtain⟨_,q2,_,q4⟩:=hm.1 k (by omega);have hFW:=hF0.trans hF2;have hrow:=fun j v h=>yC (hrow0 j v h) hFW id;obtain⟨z1,z2⟩:=hlen k hk;refine cL (SL iY rfl rfl hv.non (by omega)) ?_;refine cL (SX (cs:=[.string (bs (X.getD k x0).1),.slice xa (X.getD k x0).2.length xc2]) dS rfl hrow) ?_;refine SP sS rfl ?_;intro w3 hg3 hs3 hf3;refine sA rfl dS (by simp[Value.oneCell']) hg3 ?_;intro w4 hg4 hs4 hf4;have hF4:aA nob w2 w4:=hf3.Wo hf4 (fun k hk=>.inr (by omega));have hP4:=hP2.shrink hF4;refine Gz 6 ?_;refine SJ Gk rfl (pI _ w0.heap.size _ _ _ w4 hP4 (fun k hk=>⟨W9 (hF2.trans hF4).size hk,.inr hk⟩) (by omega)) rfl ?_;rintro _ w5 ⟨hP5,hF5⟩;have hg5:=hF5.obj hg4 (fun h=>by rcases h.2 with h|h<;>omega);have hF05:aA nob w0 w5:=((hF2.trans hF4).any.trans hF5).fresh (fun k hk=>hk.1);obtain⟨a1,a2⟩:=iS (s:=xSt X k) (t:=(X.getD k x0).1) z1 (by omega);have a3:(mC (xSt X k).1 (xSt X k).2 (X.getD k x0).1).length=_:=a2;refine Gz 5 ?_;refine cL (Tt aT ty5 ty9 rfl (hxv.Wr (hF0.trans hF05))) ?_;refine SJ Gk rfl (pI _ w0.heap.size _ _ _ w5 hP5 (fun k hk=>⟨W9 hF05.size hk,.inr (W9 hF5.size hk)⟩) (by omega)) rfl ?_;rintro _ w6 ⟨hP6,hF6⟩;refine Gz 7 ?_;refine aG (k+1) ?_ (by show X.length-(k+1)<X.length-k;omega);exact⟨by omega,by rw[vC X k (by omega)];exact hP6.mono (fun q hq=>hq.1),(hF05.any.trans hF6).fresh (fun k hk=>hk.1)⟩
 refine Gz 11 ?_;refine SJ Bw rfl (fY _ w0.heap.size _ _ w2 hP2 (by have:=(hlen k hk).2;have:=hm.2;omega)) rfl ?_;rintro _ w3 ⟨ao3,c3,rfl,ho3,hfr3,hf3⟩;refine Gz 1 ?_;refine SJ Dc rfl (pD _ w0.heap.size _ _ w3 (hP2.Wr hf3)) rfl ?_;rintro _ w4 ⟨rfl,hw4⟩;subst w4;refine Gz 6 ?_;have hk2:k=X.length:=by omega
 subst hk2;have z:=(hlen _ (WC _)).1;have e:kF X=(jS (xSt X X.length).1 (xSt X X.length).2,(xSt X X.length).1):=by unfold kF jS;rw[Wt (by intro h;rcases h with h|h;omega;exact h hm),Wt (by omega),z]
 rw[e];exact⟨_,rfl,ao3,c3,rfl,ho3,hfr3.mono (W9 hF0.size hF2.size),(hF0.trans hF2).trans hf3⟩
def Pa(F:Nat→Int)(s:Int×By)(x:Fd):Int×By:=dP x.b s (F x.o)
def rSt(F:Nat→Int)(k:Nat):Int×By:=((aU (F 0)).take k).foldl (Pa F) (dP 1 (0,[]) (F 0))
def mI(F:Nat→Int)(T:By):Int×By:=if F 0=3 then vG (rSt F (aU (F 0)).length) T else rSt F (aU (F 0)).length
def pS(F:Nat→Int)(T:By):By×Int:=if fU F T then ((mI F T).2,0) else ([],1)
theorem wE(F:Nat→Int)(k:Nat)(h:k<(aU (F 0)).length):rSt F (k+1)=Pa F (rSt F k) ((aU (F 0)).getD k fd0):=by
 unfold rSt;rw[xM h,XO];rfl
theorem jP{s:Int×By}{z n:Int}(h:s.1=0)(hb:¬ gD z n):(dP n s z).1=0∧(dP n s z).2=s.2++le z n.toNat:=by
 have h1:fH s.1 z n=0:=by rw[bT hb,h]
 exact⟨h1,iT h1⟩
theorem eD{z n m:Int}(h1:1≤n)(h4:n≤4)(h0:0≤z)(hm:z≤m)(hb:m<2 ^ (8*n).toNat):¬ gD z n:=by
 unfold gD;have h2:z/2 ^ (8*n).toNat=0:=Int.ediv_eq_zero_of_lt h0 (by omega);rw[h2];omega
theorem kI{F:Nat→Int}{T:By}(h:fU F T):F 0=1∨F 0=2∨F 0=3:=by
 have:=h.1;unfold iE at this;omega
theorem mH{F:Nat→Int}{T:By}(h:fU F T):∀ k,k≤(aU (F 0)).length→(rSt F k).1=0∧(rSt F k).2.length=1+(((aU (F 0)).take k).map (fun x=>x.b.toNat)).sum
|0,_=>by
   have hk:=kI h;obtain⟨a,b⟩:=jP (s:=(0,[])) (z:=F 0) (n:=1) rfl (eD (m:=3) (by decide) (by decide) (by omega) (by omega) (by decide));exact⟨a,by show (dP 1 (0,[]) (F 0)).2.length=_;rw[b,Ww,aY];rfl⟩
|k+1,hk=>by
   obtain⟨h1,h2⟩:=mH h k (by omega);have hm:=uI (k:=F 0) (i:=k) (by omega);obtain⟨_,b1,b4,m0,mb⟩:=kD hm;have ho:=pQ h _ hm;obtain⟨a,b⟩:=jP (s:=rSt F k) (z:=F ((aU (F 0)).getD k fd0).o) (n:=((aU (F 0)).getD k fd0).b) h1 (eD b1 b4 ho.1 ho.2 mb);rw[wE F k (by omega)];refine⟨a,?_⟩;show (dP _ _ _).2.length=_;rw[b,Ww,aY,xM (by omega),Yo,List.sum_append,h2];simp;omega
theorem In(F:Nat→Int)(k:Nat):(((aU (F 0)).take k).map (fun x=>x.b.toNat)).sum≤36:=by
 have h1:∀ (L:List Fd),(∀ x∈L,x.b.toNat≤4)→(L.map (fun x=>x.b.toNat)).sum≤4*L.length:=by
  intro L
  induction L with
 |nil=>intro _;simp
 |cons x r ih=>intro h;have:=ih (fun y hy=>h y (by simp[hy]));have:=h x (by simp);simp only[Xo,List.sum_cons,WT];omega
 have h2:=h1 ((aU (F 0)).take k) (fun x hx=>by have:=kD (XF hx);omega);have h3:=jB (F 0);rw[WB] at h2;omega
theorem NT(F:Nat→Int)(T:By)(W:World)(hT:T.length≤maxLen) :
 CA 74 [.agg (bY F T).toArray] W (EZ W (pS F T)):=by
 refine cS 41 [(0,_)] Tryz.func74 ?_;refine Gz 2 ?_;refine Td rfl rfl ?_;intro w1 hg1 hs1 hf1;have hg1:w1.heap[W.heap.size]?=some (.cells (bY F T).toArray 88 (0,0)):=hg1;refine Gz 7 ?_;refine cL (SX (cs:=bY F T) tO rfl (fun j v hj=>aD hg1 hj)) ?_;refine cA 0 Qc (Of F T w1 hT) ?_;rintro _ w2 ⟨rfl,hf2⟩;refine Tl (T3 rfl) rfl (fun h9=>?_) (fun h9=>?_)
 ·have hm:¬ fU F T:=of_decide_eq_false h9;refine Gz 12 ?_;have e:pS F T=([],1):=by unfold pS;rw[Wt hm]
  rw[e];exact⟨_,rfl,none,0,rfl,VR,VP,hf1.trans hf2⟩
 have hm:fU F T:=WH fun h=>h9 (Wx h);have hlen:=mH hm;have hp2:=hf2.obj hg1 id;have hF2:=hf1.trans hf2;have hlt2:W.heap.size<w2.heap.size:=by have:=hf2.size;omega
 refine Gz 7 ?_;refine SP zA rfl ?_;intro w3 hg3 hs3 hf3;have hp3:=hf3.obj hp2 id;refine Gz 6 ?_;refine SJ xG rfl (oR (fun k=>w2.heap.size≤k) w2.heap.size 0 [] (F 0) 1 w3 (VY hg3 (WC _)) (mQ hf3 (fun k hk=>hk)) (by simp)) rfl ?_;rintro _ w4 ⟨hP4,hf4⟩;have hp4:=hf4.obj hp3 (by omega);have hF4:aA nob w2 w4:=(hf3.any.trans hf4).fresh (fun k hk=>hk);have hP4:WrL (fun k=>w2.heap.size≤k) w4.heap w2.heap.size (rSt F 0).1 (rSt F 0).2:=hP4;refine Gz 4 ?_;refine SZ 7 (fun H=>H[W.heap.size]?=some (.cells (bY F T).toArray 88 (0,0))) [0,3,4] [1,2,6,0,3,4,5] aL (by kernel_rfl) (hp4) ?_;refine Gz 3 ?_;refine SU rfl rfl (SJ Nv rfl (AC _) rfl ?_);rintro _ w5 ⟨ao2,c2,rfl,ho2,hfr2,hf5⟩;refine S5 (by exact hf5.obj hp4 id) ?_;refine SU rfl rfl (SJ Nu rfl (Av (F 0) w5) rfl ?_);rintro _ w6 ⟨ao3,c3,rfl,ho3,hfr3,hf6⟩;refine S5 (by exact hf6.obj (hf5.obj hp4 id) id) ?_;refine SU rfl rfl (S2 eK rfl sX rfl rfl (ho2.Wr hf6) (ho3.vw eK) (by have:=jB (F 0);unfold aU at this;rw[Ww] at this;omega) (by have:=jB (F 0);unfold aU at this;rw[Ww] at this;unfold maxLen;omega) rfl ?_);intro ao4 c4 w7 ho4 hf7 hr4 hn4;have hfr2:Fr w4.heap.size ao2:=hfr2;have hlt4:=hF4.size;have hp7:=hf7.obj (hf6.obj (hf5.obj hp4 id) id) (fun⟨a,ha,hb⟩=>by have:=hfr2 a ha;omega);have hF47:aA nob w4 w7:=(hf5.Wp.trans hf6).Wo hf7 hfr2.step;have hP7:=hP4.shrink hF47;have hne4:∀ a,ao4=some a→w4.heap.size≤a.block∧a.block<w7.heap.size:=fun a ha=>⟨by rcases hr4 a ha with h|h;exact hfr2 a h;have:=hf5.Wp.size;have:=hf6.size;omega,ho4.lt a ha⟩
 have hL7:VwM 3 fdV w7.heap ao4 c4 (aU (F 0)):=ho4.vw eK;have hLlen:=jB (F 0);refine S5 (by exact hp7) ?_;refine Gz 4 ?_;refine SO (β:=Nat) (fun k=>[(1,pT W.heap.size),(4,pT w2.heap.size),(17,.slice ao4 (aU (F 0)).length c4),(18,iV (aU (F 0)).length),(19,iV k)]) (fun k w=>k≤(aU (F 0)).length∧WrL (fun k=>w2.heap.size≤k∧(k<w4.heap.size∨w7.heap.size≤k)) w.heap w2.heap.size (rSt F k).1 (rSt F k).2∧VwM 3 fdV w.heap ao4 c4 (aU (F 0))∧w.heap[W.heap.size]?=some (.cells (bY F T).toArray 88 (0,0))∧w7.heap.size≤w.heap.size∧w2.heap.size≤w.heap.size∧aA nob W w) (fun k=>(aU (F 0)).length-k) 0 ⟨rfl,rfl,rfl,rfl,rfl,trivial⟩ ⟨WG _,hP7,hL7,hp7,WC _,by have:=hF47.size;omega,(hF2.trans hF4).trans hF47⟩ ?_;rintro k w8 ⟨hk,hP8,hL,hp8,hlt8,hlt82,hF8⟩;refine fK 2 ?_ ?_<;>intro h20
 ·refine Gz 10 ?_;have hkL:k<(aU (F 0)).length:=by omega
  have hrow:=Kd hL (k:=k) rfl hkL;have hmem:=uI hkL;obtain⟨⟨hfn,ho10,ho0,hcall⟩,hb1,hb4,hm0,hmb⟩:=kD hmem;obtain⟨x,hx⟩:∃ x,x=(aU (F 0)).getD k fd0:=⟨_,rfl⟩
  rw[←hx] at hrow hmem hfn ho10 ho0 hcall hb1 hb4 hm0;refine cL (SL sX rfl rfl hL.non (by omega)) ?_;refine cL (SX (cs:=fdV x) BG rfl hrow) ?_;refine SP iH rfl ?_;intro w9 hg9 hs9 hf9;refine sA rfl BG (by simp[fdV,Value.oneCell']) hg9 ?_;intro w10 hg10 hs10 hf10;have hF10:aA nob w8 w10:=hf9.Wo hf10 (fun k hk=>.inr (by omega));have hp10:=hF10.obj hp8 id;have hP10:=hP8.shrink hF10;have hF10s:=hF10.size;obtain⟨z1,z2⟩:=hlen k hk;have z3:=In F k;refine Gz 2 ?_;refine SZ 7 (fun H=>H[W.heap.size]?=some (.cells (bY F T).toArray 88 (0,0))∧H[w8.heap.size]?=some (.cells (fdV x).toArray 196 (0,0))) [2,7] [0,1,5,6,2,3,4,7] aL (by kernel_rfl) (⟨hp10,hg10⟩) ?_;refine Gz 4 ?_;refine SU rfl rfl (TU hfn rfl rfl (hcall W.heap.size _) rfl ?_);rintro _ w9b ⟨rfl,hw9⟩;subst w9b;refine S5 (by exact⟨hp10,hg10⟩) ?_;refine Gz 1 ?_;refine xC rfl (SR aN rfl (fun H hH=>bN hH.1 (qK F T ho10))) ?_;refine SU rfl rfl (SJ xG rfl (oR _ w2.heap.size _ _ (F x.o) x.b _ hP10 (fun k hk=>⟨⟨by have:w10.heap.size≤k:=hk;omega,.inr (by have:w10.heap.size≤k:=hk;omega)⟩,.inr hk⟩) (by omega)) rfl ?_);rintro _ w11 ⟨hP11,hf11⟩;refine Ts rfl ?_;refine Gz 7 ?_;refine aG (k+1) ?_ (by show (aU (F 0)).length-(k+1)<(aU (F 0)).length-k;omega);have hf11:=hf11.Wp;have hs11:=hf11.size;exact⟨by omega,by rw[wE F k hkL,←hx];exact hP11.mono (fun q hq=>hq.1),(hL.Wr hF10).Ws hf11 (fun a ha h=>by have:=hne4 a ha;have:=h.1.2;omega),hf11.obj hp10 (fun h=>by have:=h.1.1;omega),by omega,by omega,((hF8.trans hF10).any.trans hf11).fresh (fun k hk=>by have:=hk.1.1;omega)⟩
 refine Gz 13 ?_;have hkk:k=(aU (F 0)).length:=by omega
 subst hkk;have z:=hlen _ (WC _);have z3:=In F (aU (F 0)).length;refine fK 1 ?_ ?_<;>intro h34
 ·refine Gz 6 ?_;refine SJ Gk rfl (pI _ w2.heap.size _ _ T w8 hP8 (fun k hk=>⟨by omega,.inr (by omega)⟩) (by omega)) rfl ?_;rintro _ w12 ⟨hP12,hf12⟩;have hm3:=hm.1;unfold iE at hm3;have hz:=iS (s:=rSt F (aU (F 0)).length) (t:=T) z.1 (by omega);have hz2:(mC (rSt F (aU (F 0)).length).1 (rSt F (aU (F 0)).length).2 T).length=_:=hz.2;have hF12:aA nob W w12:=(hF8.any.trans hf12).fresh (fun k hk=>by have:=hk.1;omega);refine Gz 4 ?_;refine SJ Bw rfl (fY _ w2.heap.size _ _ w12 hP12 (by omega)) rfl ?_;rintro _ w13 ⟨ao13,c13,rfl,ho13,hfr13,hf13⟩;refine Gz 1 ?_;refine SJ Dc rfl (pD _ w2.heap.size _ _ w13 (hP12.Wr hf13)) rfl ?_;rintro _ w14 ⟨rfl,hw14⟩;subst w14;refine Gz 6 ?_;have eE:mI F T=vG (rSt F (aU (F 0)).length) T:=by unfold mI;rw[Wu h34]
  have e:pS F T=(jS (nY (rSt F (aU (F 0)).length).1 T) (mC (rSt F (aU (F 0)).length).1 (rSt F (aU (F 0)).length).2 T),nY (rSt F (aU (F 0)).length).1 T):=by
   have e0:nY (rSt F (aU (F 0)).length).1 T=0:=hz.1;unfold pS jS;rw[Wu hm,eE,e0,Wt (by omega)];rfl
  rw[e];exact⟨_,rfl,ao13,c13,rfl,ho13,hfr13.mono hF12.size,hF12.trans hf13⟩
 refine Gz 7 ?_;refine SJ Bw rfl (fY _ w2.heap.size _ _ w8 hP8 (by omega)) rfl ?_;rintro _ w13 ⟨ao13,c13,rfl,ho13,hfr13,hf13⟩;refine Gz 1 ?_;refine SJ Dc rfl (pD _ w2.heap.size _ _ w13 (hP8.Wr hf13)) rfl ?_;rintro _ w14 ⟨rfl,hw14⟩;subst w14;refine Gz 6 ?_;have eE:mI F T=rSt F (aU (F 0)).length:=by unfold mI;rw[Wt h34]
 have e:pS F T=(jS (rSt F (aU (F 0)).length).1 (rSt F (aU (F 0)).length).2,(rSt F (aU (F 0)).length).1):=by
  unfold pS jS;rw[Wu hm,eE,z.1,Wt (by omega)]
 rw[e];exact⟨_,rfl,ao13,c13,rfl,ho13,hfr13.mono hF8.size,hF8.trans hf13⟩
theorem FD{F:Nat→Int}{T:By}(h:fU F T):(mI F T).2.length=(if F 0=2 then 22 else if F 0=1 then 21 else 14+T.length):=by
 obtain⟨h1,h2⟩:=mH h _ (WC _);rw[Xg] at h2;have hk:=kI h;have h9:=h.1;unfold iE at h9;unfold mI;by_cases h3:F 0=3
 · rw[Wu h3,Wt (by omega),Wt (by omega)]
   have h4:=(iS (s:=rSt F (aU (F 0)).length) (t:=T) h1 (by omega)).2;rw[h4,h2];unfold aU gN;rw[Wt (by omega),Wt (by omega)];simp[sK]<;>omega
 · rw[Wt h3,h2]
   by_cases h4:F 0=2
   · rw[Wu h4]
     unfold aU gN;rw[Wu h4];simp[sK,xL]
   · rw[Wt h4,Wu (by omega)]
     unfold aU gN;rw[Wt h4,Wu (by omega)];simp[sK,sH]
abbrev Rd:=Int×By
def gS(n:Int)(s:Rd):Rd:=(dJ (cT s.1 n) s.2 n,qZ (cT s.1 n) s.2 n)
def gV(n:Int)(s:Rd):Int:=cC (iC (cT s.1 n) s.2 n)
def gF(q:Rd×(Nat→Int))(x:Fd):Rd×(Nat→Int):=(gS x.b q.1,upd q.2 x.o (gV x.b q.1))
def gK(b:By):Int:=gV 1 (0,b)
def g0(b:By):Rd×(Nat→Int):=(gS 1 (0,b),upd (fun _=>0) 0 (gK b))
def gR(b:By):Rd×(Nat→Int):=(aU (gK b)).foldl gF (g0 b)
def iP(s:Rd):Rd:=(dJ (tE s.1 s.2) (tR s.1 s.2) (tN s.1 s.2),qZ (tE s.1 s.2) (tR s.1 s.2) (tN s.1 s.2))
def gTx(s:Rd):By:=iC (tE s.1 s.2) (tR s.1 s.2) (tN s.1 s.2)
def JT(b:By):Rd:=if gK b=3 then iP (gR b).1 else (gR b).1
def gT(b:By):By:=if gK b=3 then gTx (gR b).1 else []
def gFn(b:By):Nat→Int:=(gR b).2
def K7(b:By):Prop:=SB (JT b).1 (JT b).2=0∧fU (gFn b) (gT b)
instance (b:By):Decidable (K7 b):=by unfold K7;exact inferInstance
theorem mS{n:Int}{s:Rd}(h1:1≤n)(h4:n≤4)(h0:s.1=0)(hl:n≤s.2.length):gS n s=(0,s.2.drop n.toNat)∧gV n s=cC (s.2.take n.toNat):=by
 have e:dJ 0 s.2 n=0:=by rw[fQ (by omega) (by omega)]
 unfold gS gV;rw[oS h1 h4,h0,e];obtain⟨a,b⟩:=dO e;rw[a,b];exact⟨rfl,rfl⟩
theorem Ge{n:Int}{s:Rd}(h1:1≤n)(h4:n≤4)(h0:s.1=0)(hl:(s.2.length:Int)<n):(gS n s).1≠0:=by
 unfold gS;rw[oS h1 h4,h0,xT (by omega) hl,Wu rfl];exact(by decide:(2:Int)≠0)
theorem Gf{n:Int}{s:Rd}(h:s.1≠0):(gS n s).1≠0:=by
 have:cT s.1 n=s.1:=by unfold cT;rw[Wu h]
 unfold gS;rw[this,sJ h];exact h
def dG(F:Nat→Int)(L:List Fd):By:=L.flatMap (fun x=>le (F x.o) x.b.toNat)
def DT(L:List Fd):Nat:=(L.map (fun x=>x.b.toNat)).sum
theorem kR(F:Nat→Int):∀ L:List Fd,(dG F L).length=DT L
|[]=>rfl
|x::r=>by have:=kR F r;simp only[dG,DT] at this ⊢;simp[aY,this]
theorem F3{ys:By}{n:Nat}(h:n≤ys.length):le (cC (ys.take n)) n=ys.take n:=by
 have:=Bj (ys.take n);rwa[WB,XG h] at this
theorem Gh:∀ (L:List Fd) (q:Rd×(Nat→Int)),(∀ x∈L,1≤x.b∧x.b≤4)→(L.map (·.o)).Nodup →
 (∀ o,o∉L.map (·.o)→(L.foldl gF q).2 o=q.2 o)∧(q.1.1≠0→(L.foldl gF q).1.1≠0) ∧
 ((L.foldl gF q).1.1=0→q.1.2=dG (L.foldl gF q).2 L++(L.foldl gF q).1.2)∧(q.1.1=0→(L.foldl gF q).1.1≠0→q.1.2.length<DT L)
|[],q,_,_=>⟨fun _ _=>rfl,id,fun _=>rfl,fun h0 h=>absurd h0 h⟩
|x::r,q,hb,hn=>by
   rw[Xo,List.nodup_cons] at hn;obtain⟨i1,i2,i3,i4⟩:=Gh r (gF q x) (fun y hy=>hb y (by simp[hy])) hn.2;obtain⟨b1,b4⟩:=hb x (by simp);have eo:((x::r).foldl gF q)=r.foldl gF (gF q x):=rfl;rw[eo];obtain⟨R,hR⟩:∃ R,R=r.foldl gF (gF q x):=⟨_,rfl⟩
   rw[←hR] at i1 i2 i3 i4 ⊢;have hx:R.2 x.o=gV x.b q.1:=by rw[i1 x.o hn.1];show upd _ _ _ _=_;simp[upd]
   have he:dG R.2 (x::r)=le (R.2 x.o) x.b.toNat++dG R.2 r:=by simp[dG]
   have hs:DT (x::r)=x.b.toNat+DT r:=by simp[DT]
   refine⟨fun o ho=>?_,fun h=>i2 (Gf h),fun h=>?_,fun h0 h=>?_⟩
   · rw[Xo,W5,not_or] at ho
     rw[i1 o ho.2];show upd _ _ _ _=_;simp[upd,ho.1]
   · have hq0:q.1.1=0:=WH fun h'=>i2 (Gf h') h
     have hl:x.b≤q.1.2.length:=WH fun h'=>i2 (Ge b1 b4 hq0 (by omega)) h;obtain⟨g1,g2⟩:=mS b1 b4 hq0 hl;have h3:=i3 h;have h4:(gF q x).1.2=q.1.2.drop x.b.toNat:=by show (gS x.b q.1).2=_;rw[g1]
     rw[h4] at h3;rw[he,hx,g2,F3 (by omega),WL,←h3,WX]
   · rw[hs]
     by_cases hl:x.b≤q.1.2.length
     · obtain⟨g1,g2⟩:=mS b1 b4 h0 hl
       have h5:(gF q x).1=(0,q.1.2.drop x.b.toNat):=g1;have:=i4 (by rw[h5]) h;rw[h5] at this;simp only[WE] at this;omega
     ·omega
theorem FE{F:Nat→Int}{T:By}(h:fU F T):∀ k,k≤(aU (F 0)).length→(rSt F k).2=le (F 0) 1++dG F ((aU (F 0)).take k)
|0,_=>by
   have hk:=kI h;obtain⟨a,b⟩:=jP (s:=(0,[])) (z:=F 0) (n:=1) rfl (eD (m:=3) (by decide) (by decide) (by omega) (by omega) (by decide));show (dP 1 (0,[]) (F 0)).2=_;rw[b];simp[dG]
|k+1,hk=>by
   have h1:=(mH h k (by omega)).1;have h2:=FE h k (by omega);have hm:=uI (k:=F 0) (i:=k) (by omega);obtain⟨_,b1,b4,m0,mb⟩:=kD hm;have ho:=pQ h _ hm;obtain⟨a,b⟩:=jP (s:=rSt F k) (z:=F ((aU (F 0)).getD k fd0).o) (n:=((aU (F 0)).getD k fd0).b) h1 (eD b1 b4 ho.1 ho.2 mb);rw[wE F k (by omega)];show (dP _ _ _).2=_;rw[b,xM (by omega),h2];simp[dG]
theorem wF{F:Nat→Int}{T:By}(h:fU F T):(mI F T).2=le (F 0) 1++dG F (aU (F 0))++(if F 0=3 then WP T.length::T else []):=by
 have h1:=(mH h _ (WC _)).1;have h2:=FE h _ (WC _);rw[Xg] at h2;unfold mI;by_cases h3:F 0=3
 · rw[Wu h3,Wu h3,←h2]
   have h9:=h.1;unfold iE at h9;show mC _ _ _=_;unfold mC;rw[Wt (by omega)]
 ·rw[Wt h3,Wt h3,XK,h2]
theorem Ms{b:By}(h:gK b≠0):∃ c r,b=c::r∧gK b=c.toNat∧g0 b=((0,r),upd (fun _=>0) 0 (gK b)):=by
 cases b with
|nil=>exact absurd rfl h
|cons c r=>
   obtain⟨g1,g2⟩:=mS (n:=1) (s:=(0,c::r)) (by decide) (by decide) rfl (by simp;omega);refine⟨c,r,rfl,?_,?_⟩
   ·unfold gK;rw[g2];simp[cC]
   ·unfold g0;rw[g1];rfl
theorem NU{b:Int}(h:0≤b):(2:Int) ^ (8*b).toNat=256 ^ b.toNat:=by
 rw[show (8*b).toNat=8*b.toNat by omega,Int.pow_mul];rfl
theorem JS(F:Nat→Int):∀ (L:List Fd) (G:Nat→Int) (rest:By),(∀ x∈L,1≤x.b∧x.b≤4∧0≤F x.o∧F x.o<256 ^ x.b.toNat) →
 (L.foldl gF ((0,dG F L++rest),G))=((0,rest),L.foldl (fun g x=>upd g x.o (F x.o)) G)
|[],G,rest,_=>rfl
|x::r,G,rest,h=>by
   obtain⟨b1,b4,f0,f1⟩:=h x (by simp);have e:dG F (x::r)=le (F x.o) x.b.toNat++dG F r:=by simp[dG]
   rw[e,WL,XA];obtain⟨g1,g2⟩:=mS (n:=x.b) (s:=(0,le (F x.o) x.b.toNat++(dG F r++rest))) b1 b4 rfl (by simp[aY];omega);have e2:gF ((0,le (F x.o) x.b.toNat++(dG F r++rest)),G) x=((0,dG F r++rest),upd G x.o (F x.o)):=by
    unfold gF;rw[g1,g2];simp only;rw[List.drop_left' (aY _ _),List.take_left' (aY _ _),mZ _ _ f0 f1]
   rw[e2,JS F r _ rest (fun y hy=>h y (by simp[hy]))];rfl
theorem BS(F:Nat→Int):∀ (L M:List Fd),L.foldl (fun g x=>upd g x.o (F x.o)) (upd (dH F M) 0 (F 0))=upd (dH F (M++L)) 0 (F 0)
|[],M=>by simp
|x::r,M=>by
   rw[XA];have e:upd (upd (dH F M) 0 (F 0)) x.o (F x.o)=upd (dH F (M++[x])) 0 (F 0):=by
    rw[←tF];funext q;unfold upd;by_cases h1:q=x.o
    · by_cases h2:q=0
      ·rw[Wu h1,Wu h2,←h1,h2]
      ·rw[Wu h1,Wt h2,Wu h1]
    · rw[Wt h1]
      by_cases h2:q=0
      ·rw[Wu h2,Wu h2]
      ·rw[Wt h2,Wt h2,Wt h1]
   rw[e,BS F r (M++[x]),WL];rfl
theorem BY{F:Nat→Int}{T:By}(h:fU F T):K7 (mI F T).2∧oE (gFn (mI F T).2) (gT (mI F T).2) F T:=by
 have hk:=kI h;have h9:=h.1;unfold iE at h9;have hcat:=wF h;obtain⟨b,hb⟩:∃ b,b=(mI F T).2:=⟨_,rfl⟩
 obtain⟨rest,hrest⟩:∃ r,r=(if F 0=3 then WP T.length::T else []):=⟨_,rfl⟩
 rw[←hb,←hrest] at hcat;rw[←hb];have e0:le (F 0) 1=[WP (F 0).toNat]:=by have:=Bk (F 0).toNat;rwa[show (((F 0).toNat:Nat):Int)=F 0 by omega] at this
 have hb2:b=WP (F 0).toNat::(dG F (aU (F 0))++rest):=by rw[hcat,e0];simp
 have hlt:(WP (F 0).toNat).toNat=(F 0).toNat:=by rw[Xj];omega
 have hK:gK b=F 0:=by
  unfold gK;rw[(mS (n:=1) (s:=(0,b)) (by decide) (by decide) rfl (by rw[hb2];simp;omega)).2,hb2];simp[cC];omega
 obtain⟨c,r,hb3,hc,h0⟩:=Ms (b:=b) (by omega);have er:r=dG F (aU (F 0))++rest:=by rw[hb2] at hb3;simp at hb3;exact hb3.2.symm
 have hR:gR b=((0,rest),upd (dH F (aU (F 0))) 0 (F 0)):=by
  unfold gR;rw[h0,er,hK,JS F _ _ _ (fun x hx=>by
   obtain⟨_,b1,b4,m0,mb⟩:=kD hx;have:=pQ h x hx;unfold okF at this;rw[NU (by omega)] at mb;exact⟨b1,b4,this.1,by omega⟩)]
  have:=BS F (aU (F 0)) [];rw[wT,Xc] at this;rw[this]
 have hsame:∀ U,U=T→oE (gFn b) U F T:=fun U hU=>by
  unfold gFn;rw[hR];refine(oZ F U T).2 ⟨fun _=>by omega,fun _ _=>by omega,hU⟩
 have hfin:JT b=(0,[])∧gT b=T:=by
  by_cases h3:F 0=3
  · rw[Wu h3] at hrest
    have hl:(WP T.length).toNat=T.length:=by rw[Xj];omega
    have z4:dJ 0 rest 1=0:=by rw[fQ (by decide) (by rw[hrest];simp;omega)]
    obtain⟨c1,c2⟩:=dO z4;have hn:cT 0 1=0:=oS (by decide) (by decide) _;have etE:tE 0 rest=0:=by unfold tE;rw[hn,z4]
    have etR:tR 0 rest=T:=by unfold tR;rw[hn,c2,hrest];rfl
    have etN:tN 0 rest=T.length:=by unfold tN;rw[hn,c1,hrest];simp[cC];omega
    have z5:dJ 0 T T.length=0:=by rw[fQ (by omega) (by omega)]
    obtain⟨c3,c4⟩:=dO z5;unfold JT gT iP gTx;rw[hK,Wu h3,Wu h3,hR];simp only;rw[etE,etR,etN,z5,c3,c4];simp
  · rw[Wt h3] at hrest
    have:T=[]:=WQ (by omega);unfold JT gT;rw[hK,Wt h3,Wt h3,hR,hrest];exact⟨rfl,this.symm⟩
 refine⟨⟨by rw[hfin.1];rfl,?_⟩,by rw[hfin.2];exact hsame T rfl⟩;have hs:=(hsame T rfl).1;rw[hfin.2];have hc:=h;unfold fU iE at hc ⊢;rw[hs 0 (by decide),hs 1 (by decide),hs 2 (by decide),hs 3 (by decide),hs 4 (by decide),hs 5 (by decide),hs 6 (by decide),hs 7 (by decide),hs 8 (by decide),hs 9 (by decide)];exact hc
theorem IU{F:Nat→Int}{T:By}(h:fU F T):((mI F T).2.getD 0 0).toNat=(F 0).toNat:=by
 have hk:=kI h;have e0:le (F 0) 1=[WP (F 0).toNat]:=by have:=Bk (F 0).toNat;rwa[show (((F 0).toNat:Nat):Int)=F 0 by omega] at this
 rw[wF h,e0];simp;omega
theorem GV{F:Nat→Int}{T:By}(h:fU F T)(h3:F 0=3):((mI F T).2.getD 13 0).toNat=T.length:=by
 have h9:=h.1;unfold iE at h9;rw[wF h,Wu h3];have hl:(le (F 0) 1++dG F (aU (F 0))).length=13:=by
  rw[Ww,aY,kR];unfold aU gN;rw[Wt (by omega),Wt (by omega)];rfl
 rw[WI,List.getElem?_append_right (by omega),hl];simp;omega
def kJ(h:By):Int:=if ((h.getD 0 0).toNat:Int)=2 then 22 else if ((h.getD 0 0).toNat:Int)=1 then 21 else if ((h.getD 0 0).toNat:Int)=3 then 14+(h.getD 13 0).toNat else 13
def lX(im:By)(fr to ref:Int):((Nat→Int)×By)×Int×Int:=
 if (aI im fr to ref 14).2.2≠0 then ((fun _=>0,[]),0,2) else
 if (aI im fr to ref (kJ (aI im fr to ref 14).1)).2.2≠0 then ((fun _=>0,[]),0,2) else
 if K7 (aI im fr to ref (kJ (aI im fr to ref 14).1)).1 then ((gFn (aI im fr to ref (kJ (aI im fr to ref 14).1)).1,gT (aI im fr to ref (kJ (aI im fr to ref 14).1)).1),(aI im fr to ref (kJ (aI im fr to ref 14).1)).2.1,0)
 else ((fun _=>0,[]),0,2)
section
variable {im:List UInt8}{fr to ref:Int}
theorem Ol(h:(aI im fr to ref 14).2.2=0)(h2:(aI im fr to ref (kJ (aI im fr to ref 14).1)).2.2=0)(h3:K7 (aI im fr to ref (kJ (aI im fr to ref 14).1)).1) :
 lX im fr to ref=((gFn (aI im fr to ref (kJ (aI im fr to ref 14).1)).1,gT (aI im fr to ref (kJ (aI im fr to ref 14).1)).1),(aI im fr to ref (kJ (aI im fr to ref 14).1)).2.1,0):=by
 unfold lX;rw[Wt (fun h'=>h' h),Wt (fun h'=>h' h2),Wu h3]
end
section
variable {P:Program}{N:Nt}{Q:Exit→Act→World→Prop}{l:SF}{w:World}{ops:Array Oper}{rest:List Oper}
variable {op:Op}{ty:TypeId}{pos:String}{aft:Array Edge}{d:Nat}{v:Value}{CH:Array Obj→Prop}
variable {x y:Operand}{t t' tn:TypeId}{g:Option (Nat×Bool)}{dd:Option Nat}
theorem Vb{e:TypeId}{size bytes:Nat}(ht:aZ P t e size bytes){ao:Option Addr}{c n:Nat}(hx:evL l x=some (.slice ao n c)) :
 Cm P N CH l ⟨dd,.call ⟨.builtin .cap,#[x],#[t]⟩,ty,pos,aft,g⟩ (iV c):=fun a w ha _=>by
 simp[execOp,ha.ev hx,resolve,invoke,builtin,Builtin.cap_,run_underlying ht.und,goInt]
theorem UK{α:Type}{enc:α→Value}{e:TypeId}{bytes:Nat}{k kn:IntKind}{n:Int}(ht:aZ P t e 1 bytes)(htn:P.underlying tn=some (.int kn))
 (hx:evL l x=some sN)(hy:evL l y=some (.int k n))(h0:0<n)(hb:n.toNat*bytes≤140737488355328)(hm:n.toNat≤maxLen)(hd:Xb d N.n=true)
 (h:∀ c w',Own enc e w'.heap (some ⟨w.heap.size,0,none⟩) c []→w'.heap.size=w.heap.size+1→aA nob w w'→Sl P N ops Q rest ((d,.slice (some ⟨w.heap.size,0,none⟩) n.toNat c)::l) w') :
 Sl P N ops Q (⟨some d,.call ⟨.builtin .append,#[x,y],#[t,tn]⟩,ty,pos,aft,none⟩::rest) l w:=by
 obtain⟨i,z,hi,h1,hz,h2,h3⟩:=ht.parts;obtain⟨m,rfl⟩:∃ m:Nat,n=m:=⟨n.toNat,by omega⟩
 rw[Xd] at hb hm h;have hr:=Lib.run_append_nil_zeros (P:=P) w t tn ty e i z k kn ht.und htn hi h1 m (by omega) (by omega) (by unfold maxLen at hm;omega) (by rw[h3];omega);refine Tk (w':=w.drew.alloc (.cells (Builtin.zeroCells z.cells m++Builtin.zeroCells z.cells (grownCap w m 0 e-m)) e)) (fun a ha=>?_) hd (h _ _ (.inr ⟨w.heap.size,_,rfl,heap_alloc_new w.drew _,WG _,grownCap_le_maxLen w _ 0 e hm,?_,by simp⟩) (by simp) (VM _ _ _))
 ·simp[execOp,ha.ev hx,ha.ev hy,resolve,invoke,builtin,hr]
 · have:=grownCap_ge w m 0 e
   simp only[Array.size_append,size_zeroCells,hz];omega
end
theorem IA(n:Int)(W:World)(hn:0≤n∧n≤1099511627776) :
 CA 132 [sN,iV n] W fun v w'=>∃ ao c,v=.slice ao 0 c∧Own b8 5 w'.heap ao c []∧Fr W.heap.size ao∧aA nob W w':=by
 refine cS 27 [(0,_),(1,_)] Tryz.func132 ?_;refine Gz 9 ?_;refine cL (Ur (TI rfl rfl) (by omega)) ?_;refine Gz 10 ?_;refine cL (Vb aT rfl) ?_;refine fK 10 ?_ ?_<;>intro h16
 ·refine Gz 6 ?_;refine cL (Vb aT rfl) ?_;refine cL (SN (u:=sN) (S8 aT rfl rfl (by omega)) (by rw[bD];rfl)) ?_;refine Gz 1 ?_;refine UK (enc:=b8) (k:=.i64) (n:=n) aT ty3 rfl (by show some (Value.int .i64 _)=_;congr 2;omega) (by omega) (by omega) (by unfold maxLen;omega) rfl ?_;intro c1 w1 ho1 hs1 hf1;refine Gz 2 ?_;refine cL (SN (u:=.slice (some ⟨W.heap.size,0,none⟩) 0 c1) (S8 aT rfl rfl (by have:=ho1.vw.le;omega)) (by rw[bD];rfl)) ?_;refine Gz 11 ?_
  first
  |exact⟨_,rfl,none,0,rfl,VR,VP,VK _ _⟩
  |exact⟨_,rfl,_,c1,rfl,ho1,Ao _,hf1⟩
 refine Gz 13 ?_
 first
 |exact⟨_,rfl,none,0,rfl,VR,VP,VK _ _⟩
 |exact⟨_,rfl,_,c1,rfl,ho1,Ao _,hf1⟩
theorem Aq{L:List By}{i:Nat}(h:i<L.length):(L.take (i+1)).flatten=(L.take i).flatten++L.getD i []:=by
 rw[WV h,YS,WI,Wv h];simp
theorem Gm(L:List By)(i:Nat):(L.take i).flatten.length≤L.flatten.length:=by
 conv=>rhs;rw[←WX i L,YS,Ww]
 omega
theorem DX(D0:Nat→Prop)(ao:Option Addr)(cap:Nat)(hs:List Hd)(L:List By)(W:World)(hv:Vw hd W.heap ao cap hs)(hr:dB D0 W.heap hs L)(hb:L.flatten.length≤1099511627776) :
 CA 80 [.slice ao hs.length cap] W (mX W L.flatten):=by
 have hl:=hv.Wq;have hln:=hr.1;refine cS 36 [(0,_)] Tryz.func80 ?_;refine Gz 10 ?_;refine Tj (β:=Unit) (fun _u=>[(0,.slice ao hs.length cap),(3,iV (L.flatten.length:Nat))]) (fun _u w=>w=W) ?_ ?_
 ·refine Gz 8 ?_;refine SO (β:=Nat) (fun i=>[(0,.slice ao hs.length cap),(3,iV ((L.take i).flatten.length:Nat)),(9,.slice ao hs.length cap),(10,iV hs.length),(11,iV i)]) (fun i w=>i≤L.length∧w=W) (fun i=>L.length-i) 0 ⟨rfl,rfl,rfl,rfl,rfl,trivial⟩ ⟨WG _,rfl⟩ ?_;rintro i wq ⟨hi,hwq⟩;subst wq;refine fK 2 ?_ ?_<;>intro h12
  ·have hiL:i<L.length:=by omega
   obtain⟨x,hx,hxn,hxv,hxD⟩:=hr.at hiL;have hcell:bH W.heap (adr ao (i:Int).toNat)=some (hd x):=by rw[Xd];exact hv.get i x hx
   have hhd:hd x=.slice x.a (L.getD i []).length x.c:=by unfold hd;rw[hxn]
   rw[hhd] at hcell;have hfl:=Aq hiL;have hfb:=Gm L (i+1);have hfll:(L.take (i+1)).flatten.length=(L.take i).flatten.length+(L.getD i []).length:=by rw[hfl,Ww]
   refine Gz 10 ?_;refine cL (SI vS rfl rfl hv.non (by omega)) ?_;refine cL (SM aX rfl hcell) ?_;refine Gz 15 ?_;refine cL (Ur (TI rfl rfl) (by omega)) ?_;refine Gz 10 ?_;rw[show ((L.take i).flatten.length:Int)+((L.getD i []).length:Nat)=((L.take (i+1)).flatten.length:Nat) by omega];exact aG (i+1) ⟨by omega,rfl⟩ (by show L.length-(i+1)<L.length-i;omega)
  refine Gz 8 ?_;have hiL:i=L.length:=by omega
  subst hiL;rw[Xg];exact aC () rfl
 rintro _ wq hwq;subst wq;refine Gz 3 ?_;refine SJ P8 rfl (IA _ W (by omega)) rfl ?_;rintro _ w1 ⟨o1,c1,rfl,ho1,hfr1,hf1⟩;refine Gz 12 ?_;refine SO (β:=Nat×(Option Addr×Nat)) (fun⟨i,⟨o2,c2⟩⟩=>[(6,.slice o2 (L.take i).flatten.length c2),(25,.slice ao hs.length cap),(26,iV hs.length),(27,iV i)]) (fun⟨i,⟨o2,c2⟩⟩ w=>i≤L.length∧Own b8 5 w.heap o2 c2 (L.take i).flatten∧Fr W.heap.size o2∧aA nob W w) (fun⟨i,⟨o2,c2⟩⟩=>L.length-i) ⟨0,⟨o1,c1⟩⟩ ⟨rfl,rfl,rfl,rfl,trivial⟩ ⟨WG _,by simpa using ho1,hfr1,hf1⟩ ?_;rintro⟨i,⟨o2,c2⟩⟩ w2 ⟨hi,ho2,hfr2,hF2⟩;refine fK 2 ?_ ?_<;>intro h28
 ·have hiL:i<L.length:=by omega
  obtain⟨x,hx,hxn,hxv,hxD⟩:=hr.at hiL;have hcell:bH w2.heap (adr ao (i:Int).toNat)=some (hd x):=by rw[Xd];exact(hv.Wr hF2).get i x hx
  have hhd:hd x=.slice x.a (L.getD i []).length x.c:=by unfold hd;rw[hxn]
  rw[hhd] at hcell;have hfl:=Aq hiL;have hfb:=Gm L (i+1);have hfll:(L.take (i+1)).flatten.length=(L.take i).flatten.length+(L.getD i []).length:=by rw[hfl,Ww]
  refine Gz 10 ?_;refine cL (SI vS rfl rfl hv.non (by omega)) ?_;refine cL (SM aX rfl hcell) ?_;refine Gz 2 ?_;refine aW [(6,_),(8,_),(25,_),(26,_),(27,_),(28,_)] ?_;refine Gz 4 ?_;refine S4 dK aT rfl rfl ho2 (hxv.Wr hF2) (by omega) (by unfold maxLen;omega) rfl ?_;intro o3 c3 w3 ho3 hf3 hr3 hn3;rw[←hfl] at ho3 ⊢;refine Gz 8 ?_;exact aG ⟨i+1,⟨o3,c3⟩⟩ ⟨by omega,ho3,nP hfr2 hr3 hF2.size,hF2.Wo hf3 hfr2.step⟩ (by show L.length-(i+1)<L.length-i;omega)
 refine Gz 14 ?_;refine aW [(2,_),(6,_),(25,_),(26,_),(27,_),(28,_)] ?_;refine Gz 3 ?_;have hiL:i=L.length:=by omega
 subst hiL;rw[Xg] at ho2 ⊢;exact⟨_,rfl,o2,c2,rfl,ho2,hfr2,hF2⟩
def mwC(p:Nat)(fo:Option Addr)(fn fc:Nat)(to:Option Addr)(tn tc:Nat):List Value:=[pT p,.slice fo fn fc,.slice to tn tc]
def MwO(D:Nat→Prop)(H:Array Obj)(g p:Nat)(f t:By):Prop:=
 ∃ fo fc to tc,H[g]?=some (.cells (mwC p fo f.length fc to t.length tc).toArray 125 (0,0))∧Own b8 5 H fo fc f∧Own b8 5 H to tc t∧¬ blk fo g∧¬ blk to g∧Ap fo to∧D g∧(∀ k,blk fo k→D k)∧(∀ k,blk to k→D k)∧TbV H p∧¬ D p
section
variable {D:Nat→Prop}{g p:Nat}{f t:List UInt8}
theorem MwO.lt{H:Array Obj}(h:MwO D H g p f t):g<H.size:=by obtain⟨fo,fc,to,tc,hg,_⟩:=h;exact(WD.1 hg).1
theorem MwO.Ws{S:Nat→Prop}{w w':World}(h:MwO D w.heap g p f t)(hf:aA S w w')(hs:∀ k,D k→¬ S k)(hp:¬ S p):MwO D w'.heap g p f t:=by
 obtain⟨fo,fc,to,tc,hg,h1,h2,h3,h4,h5,h6,h7,h8,h9,h10⟩:=h;exact⟨fo,fc,to,tc,hf.obj hg (hs g h6),h1.Ws hf (fun a ha=>hs _ (h7 _ ⟨a,ha,rfl⟩)),h2.Ws hf (fun a ha=>hs _ (h8 _ ⟨a,ha,rfl⟩)),h3,h4,h5,h6,h7,h8,hf.obj h9 hp,h10⟩
theorem MwO.mono{D':Nat→Prop}{H:Array Obj}(h:MwO D H g p f t)(hd:∀ k,D k→D' k)(hp:¬ D' p):MwO D' H g p f t:=by
 obtain⟨fo,fc,to,tc,hg,h1,h2,h3,h4,h5,h6,h7,h8,h9,h10⟩:=h;exact⟨fo,fc,to,tc,hg,h1,h2,h3,h4,h5,hd _ h6,fun k hk=>hd _ (h7 k hk),fun k hk=>hd _ (h8 k hk),h9,hp⟩
end
theorem L1(p:Nat)(W:World)(ht:TbV W.heap p) :
 CA 19 [pT p] W fun v w'=>v=pT W.heap.size∧MwO (fun k=>W.heap.size≤k) w'.heap W.heap.size p [] []∧aA nob W w':=by
 refine cS 6 [(0,_)] Tryz.func19 ?_;refine Gz 8 ?_;refine cL (TQ (cs:=#[pT p,sN,sN]) NY OV rfl (by kernel_rfl)) ?_;refine Td rfl rfl ?_;intro w1 hg1 hs1 hf1;refine Gz 5 ?_;have hpl:=(WD.1 ht).1;exact⟨_,rfl,rfl,⟨none,0,none,0,hg1,VR,VR,(fun⟨a,ha,_⟩=>by cases ha),(fun⟨a,ha,_⟩=>by cases ha),VN,WC _,(fun k ⟨a,ha,_⟩=>by cases ha),(fun k ⟨a,ha,_⟩=>by cases ha),hf1.obj ht id,(by omega)⟩,hf1⟩
theorem LX{D:Nat→Prop}{W w1 w2:World}{g p:Nat}{f t t':By}{fo to to':Option Addr}{fc tc tc':Nat}(hD:∀ k,W.heap.size≤k→D k)
 (hg:W.heap[g]?=some (.cells (mwC p fo f.length fc to t.length tc).toArray 125 (0,0)))(h1:Own b8 5 W.heap fo fc f)(h3:¬ blk fo g)(h4:¬ blk to g)(h5:Ap fo to)(h6:D g)(h7:∀ k,blk fo k→D k)(h8:∀ k,blk to k→D k)(h9:TbV W.heap p)(h10:¬ D p)
 (ho:Own b8 5 w1.heap to' tc' t')(hf1:aA (blk to) W w1)(hr:∀ a,to'=some a→to=some a∨W.heap.size≤a.block)
 (hg2:w2.heap[g]?=some (.cells (mwC p fo f.length fc to' t'.length tc').toArray 125 (0,0)))(hf2:aA (· = g) w1 w2) :
 MwO D w2.heap g p f t'∧aA D W w2:=by
 have hgl:=(WD.1 hg).1;have hpl:=(WD.1 h9).1;have hD1:aA D W w1:=hf1.mono h8;have hD2:aA D W w2:=hD1.trans (hf2.mono (fun k h=>by have h:k=g:=h;subst h;exact h6));have hn:¬ blk to' g:=fun⟨a,ha,hb⟩=>by
  rcases hr a ha with h|h
  ·exact h4 ⟨a,h,hb⟩
  ·omega
 refine⟨⟨fo,fc,to',tc',hg2,(h1.Ws hf1 (fun a ha ⟨b,hb,h⟩=>h5 a b ha hb h.symm)).Ws hf2 (fun a ha h=>h3 ⟨a,ha,h⟩),ho.Ws hf2 (fun a ha h=>hn ⟨a,ha,h⟩),h3,hn,fun a b ha hb e=>?_,h6,h7,fun k ⟨a,ha,hb⟩=>?_,hD2.obj h9 h10,h10⟩,hD2⟩
 · rcases hr b hb with h|h
   ·exact h5 a b ha h e
   ·have:=h1.lt a ha;omega
 · rcases hr a ha with h|h
   ·exact h8 k ⟨a,h,hb⟩
   ·exact hD k (by omega)
theorem LY{D:Nat→Prop}{W w1 w2:World}{g p:Nat}{f t f':By}{fo to fo':Option Addr}{fc tc fc':Nat}(hD:∀ k,W.heap.size≤k→D k)
 (hg:W.heap[g]?=some (.cells (mwC p fo f.length fc to t.length tc).toArray 125 (0,0)))(h2:Own b8 5 W.heap to tc t)(h3:¬ blk fo g)(h4:¬ blk to g)(h5:Ap fo to)(h6:D g)(h7:∀ k,blk fo k→D k)(h8:∀ k,blk to k→D k)(h9:TbV W.heap p)(h10:¬ D p)
 (ho:Own b8 5 w1.heap fo' fc' f')(hf1:aA (blk fo) W w1)(hr:∀ a,fo'=some a→fo=some a∨W.heap.size≤a.block)
 (hg2:w2.heap[g]?=some (.cells (mwC p fo' f'.length fc' to t.length tc).toArray 125 (0,0)))(hf2:aA (· = g) w1 w2) :
 MwO D w2.heap g p f' t∧aA D W w2:=by
 have hgl:=(WD.1 hg).1;have hpl:=(WD.1 h9).1;have hD1:aA D W w1:=hf1.mono h7;have hD2:aA D W w2:=hD1.trans (hf2.mono (fun k h=>by have h:k=g:=h;subst h;exact h6));have hn:¬ blk fo' g:=fun⟨a,ha,hb⟩=>by
  rcases hr a ha with h|h
  ·exact h3 ⟨a,h,hb⟩
  ·omega
 refine⟨⟨fo',fc',to,tc,hg2,ho.Ws hf2 (fun a ha h=>hn ⟨a,ha,h⟩),(h2.Ws hf1 (fun a ha ⟨b,hb,h⟩=>h5 b a hb ha h)).Ws hf2 (fun a ha h=>h4 ⟨a,ha,h⟩),hn,h4,fun a b ha hb e=>?_,h6,fun k ⟨a,ha,hb⟩=>?_,h8,hD2.obj h9 h10,h10⟩,hD2⟩
 · rcases hr a ha with h|h
   ·exact h5 a b h hb e
   ·have:=h2.lt b hb;omega
 · rcases hr a ha with h|h
   ·exact h7 k ⟨a,h,hb⟩
   ·exact hD k (by omega)
theorem Oc{D:Nat→Prop}{W w1 w2:World}{g p:Nat}{f t t':By}{fo to to':Option Addr}{fc tc tc':Nat}(hD:∀ k,W.heap.size≤k→D k)
 (hg:W.heap[g]?=some (.cells (mwC p fo f.length fc to t.length tc).toArray 125 (0,0)))(h1:Own b8 5 W.heap fo fc f)(h3:¬ blk fo g)(h6:D g)(h7:∀ k,blk fo k→D k)(h9:TbV W.heap p)(h10:¬ D p)
 (ho:Own b8 5 w1.heap to' tc' t')(hf1:aA nob W w1)(hr:Fr W.heap.size to')
 (hg2:w2.heap[g]?=some (.cells (mwC p fo f.length fc to' t'.length tc').toArray 125 (0,0)))(hf2:aA (· = g) w1 w2) :
 MwO D w2.heap g p f t'∧aA D W w2:=by
 have hgl:=(WD.1 hg).1;have hpl:=(WD.1 h9).1;have hD2:aA D W w2:=(hf1.any).trans (hf2.mono (fun k h=>by have h:k=g:=h;subst h;exact h6));have hn:¬ blk to' g:=fun⟨a,ha,hb⟩=>by have:=hr a ha;omega
 exact⟨⟨fo,fc,to',tc',hg2,(h1.Wr hf1).Ws hf2 (fun a ha h=>h3 ⟨a,ha,h⟩),ho.Ws hf2 (fun a ha h=>hn ⟨a,ha,h⟩),h3,hn,fun a b ha hb e=>(by have:=h1.lt a ha;have:=hr b hb;omega),h6,h7,fun k ⟨a,ha,hb⟩=>hD k (by have:=hr a ha;omega),hD2.obj h9 h10,h10⟩,hD2⟩
theorem L5(D:Nat→Prop)(g p:Nat)(f t:By)(bo:Option Addr)(bc:Nat)(b:By)(W:World)(hM:MwO D W.heap g p f t)(hD:∀ k,W.heap.size≤k→D k)(hv:Vw b8 W.heap bo bc b)(hb:f.length+2*(t.length+b.length)≤1099511627776) :
 CA 26 [pT g,.slice bo b.length bc] W fun v w'=>v=iV (256*f.length+t.length:Nat)∧MwO D w'.heap g p (dI f (t++b)).1 (dI f (t++b)).2∧aA D W w':=by
 have hM0:=hM;obtain⟨fo,fc,to,tc,hg,h1,h2,h3,h4,h5,h6,h7,h8,h9,h10⟩:=hM;refine cS 67 [(0,_),(1,_)] Tryz.func26 ?_;refine Gz 6 ?_;refine Tg 13 [0,1,2,3,4,5,6,7,8,9,10,11,12] aL (by kernel_rfl) ?_;refine Gz 3 ?_;refine xC rfl (SM aX rfl (aD hg rfl)) ?_;refine Gz 1 ?_;refine xC rfl (TE rfl rfl (by omega)) ?_;refine Gz 3 ?_;refine xC rfl (SM aX rfl (aD hg rfl)) ?_;refine Gz 13 ?_;refine S4 dK aT rfl rfl h2 hv (by omega) (by unfold maxLen;omega) rfl ?_;intro to1 tc1 w1 ho1 hf1 hr1 hn1;have hf1:=hf1.Wp;have hg1:=hf1.obj hg h4;refine Gz 2 ?_;refine SV aX rfl rfl rfl hg1 rfl ?_;intro w2 hg2 hs2 hf2;obtain⟨hM2,hF2⟩:=LX hD hg h1 h3 h4 h5 h6 h7 h8 h9 h10 ho1 hf1 hr1 hg2 hf2;have hW2:=hF2.size;refine Gz 4 ?_;refine SO (β:=By×By) (fun⟨f9,t9⟩=>[(0,pT g),(5,iV (256*f.length+t.length:Nat))]) (fun⟨f9,t9⟩ w=>dI f9 t9=dI f (t++b)∧MwO D w.heap g p f9 t9∧aA D W w∧f9.length+2*t9.length≤1099511627776) (fun⟨f9,t9⟩=>t9.length) ⟨f,t++b⟩ ⟨rfl,rfl,trivial⟩ ⟨rfl,hM2,hF2,by rw[Ww];omega⟩ ?_;rintro⟨f9,t9⟩ w3 ⟨hcw,hM3,hF3,hb3⟩;obtain⟨ho,hcap,ko,kc,kg,k1,k2,k3,k4,k5,k6,k7,k8,k9,k10⟩:=hM3;have hM3:MwO D w3.heap g p f9 t9:=⟨ho,hcap,ko,kc,kg,k1,k2,k3,k4,k5,k6,k7,k8,k9,k10⟩
 refine fK 8 ?_ ?_<;>intro h34
 ·have hbig:128≤t9.length:=by omega
  have htk:=mE hbig;have hle3:=k2.vw.le;have hps:=gX (b:=t9.take 128) (by omega);refine Gz 7 ?_;refine SZ 15 (fun H=>H[g]?=some (.cells (mwC p ho f9.length hcap ko t9.length kc).toArray 125 (0,0))) [9] [0,1,2,3,4,5,6,7,8,9,10,11,12,13,14] aL (by kernel_rfl) (kg) ?_;refine Gz 8 ?_;refine xC rfl (SN (u:=.slice ko (t9.take 128).length kc) (S8 aT rfl rfl (by omega)) (by rw[bD,htk];rfl)) ?_;refine SU rfl rfl (SJ Mu rfl (uR p ko kc (t9.take 128) _ k9 (k2.vw.take 128)) rfl ?_);rintro _ w4 ⟨o4,c4,rfl,ho4,hfr4,hf4⟩;refine S5 (by exact hf4.Wp.obj kg id) ?_;have hf4:=hf4.Wp;have hz4:=hf4.size;have hg4:=hf4.obj kg id;refine Gz 15 ?_;refine S4 dK aT rfl rfl (k1.Wr hf4) ho4.vw (by omega) (by unfold maxLen;omega) rfl ?_;intro fo5 fc5 w5 ho5 hf5 hr5 hn5;have hg5:=hf5.obj hg4 k3;refine Gz 2 ?_;refine SV aX rfl rfl rfl hg5 rfl ?_;intro w6 hg6 hs6 hf6;obtain⟨hM6,hF6⟩:=LY (mQ hf4 (mQ hF3 hD)) hg4 (k2.Wr hf4) k3 k4 k5 k6 k7 k8 (hf4.obj k9 id) k10 ho5 hf5 hr5 hg6 hf6;obtain⟨jo,jc,lo,lc,jg,j1,j2,j3,j4,j5,j6,j7,j8,j9,j10⟩:=hM6;have hz6:=hF6.size;have hlej:=j2.vw.le;have hcl:(t9.drop 128).length=t9.length-128:=WE;refine Gz 8 ?_;refine cL (SN (u:=.slice (bG lo lc 128 1) (t9.drop 128).length (lc-128)) (Tp aT rfl rfl (by omega)) (by rw[hcl];rfl)) ?_;refine SJ JY rfl (kB (bG lo lc 128 1) (lc-128) (t9.drop 128) w6 (by have:=j2.vw.cut (l:=128) (h:=t9.length) (m:=lc) (by omega) (by omega) (by omega) (WC _);rwa[WJ (by omega)] at this) (by rw[hcl];omega)) rfl ?_;rintro _ w7 ⟨o7,c7,rfl,ho7,hfr7,hf7⟩;have hg7:=hf7.obj jg id;refine Gz 2 ?_;refine SV aX rfl rfl rfl hg7 rfl ?_;intro w8 hg8 hs8 hf8;obtain⟨hM8,hF8⟩:=Oc (mQ hF6 (mQ hf4 (mQ hF3 hD))) jg j1 j3 j6 j7 j9 j10 ho7 hf7 hfr7 hg8 hf8;refine Gz 2 ?_;exact aG ⟨f9++(bW (t9.take 128)).1,t9.drop 128⟩ ⟨by rw[←kS hbig];exact hcw,hM8,((hF3.trans hf4.any).trans hF6).trans hF8,by rw[Ww,hcl];omega⟩ (by show (t9.drop 128).length<t9.length;omega)
 have hsm:t9.length<128:=by omega
 refine Gz 16 ?_;rw[gO hsm] at hcw;rw[←hcw];exact⟨_,rfl,rfl,hM3,hF3⟩
theorem Jl(D:Nat→Prop)(g p:Nat)(f t:By)(W:World)(hM:MwO D W.heap g p f t)(hb:f.length≤1099511627000)(htl:t.length<128) :
 CA 27 [pT g] W (mX W (xP f t)):=by
 obtain⟨fo,fc,to,tc,hg,h1,h2,h3,h4,h5,h6,h7,h8,h9,h10⟩:=hM;refine cS 35 [(0,_)] Tryz.func27 ?_;refine fK 13 ?_ ?_<;>intro h10
 ·have e:xP f t=f:=by unfold xP;rw[Wu (by omega)]
  refine Gz 9 ?_;refine SJ JY rfl (kB fo fc f W h1.vw (by omega)) rfl ?_;intro _ w1 hP1;refine Gz 6 ?_;rw[e]
  first
  |exact⟨_,rfl,hP1⟩
  |(have e3:[f,(bW t).1].flatten=f++(bW t).1:=by simp
    rw[e3] at ho3 ⊢;exact⟨_,rfl,o3,c3,rfl,ho3,hfr3.mono ((hf1.trans hf2).size),(hf1.trans hf2).trans hf3⟩)
 have e:xP f t=f++(bW t).1:=by unfold xP;rw[Wt (by omega)]
 have hps:=gX (b:=t) (by omega);refine Gz 6 ?_;refine SZ 14 (fun H=>H[g]?=some (.cells (mwC p fo f.length fc to t.length tc).toArray 125 (0,0))) [8] [0,1,2,3,4,5,6,7,8,9,10,11,12,13] aL (by kernel_rfl) (hg) ?_;refine Gz 8 ?_;refine SU rfl rfl (SJ Mu rfl (uR p to tc t _ h9 h2.vw) rfl ?_);rintro _ w1 ⟨o1,c1,rfl,ho1,hfr1,hf1⟩;refine S5 (by exact hf1.Wp.obj hg id) ?_;have hf1:=hf1.Wp;have hg1:=hf1.obj hg id;refine Gz 14 ?_;refine UQ (enc:=hd) (u:=⟨fo,f.length,fc⟩) (u':=⟨o1,(bW t).1.length,c1⟩) vS EB rfl rfl rfl ?_;intro w2 ho2 hs2 hf2;refine SJ RS rfl (DX (fun _=>True) _ _ [⟨fo,f.length,fc⟩,⟨o1,(bW t).1.length,c1⟩] [f,(bW t).1] w2 ho2.vw ((VW.snoc (x:=⟨fo,f.length,fc⟩) rfl ((h1.Wr hf1).Wr hf2).vw (fun _ _ _=>trivial)).snoc (x:=⟨o1,(bW t).1.length,c1⟩) rfl (ho1.Wr hf2).vw (fun _ _ _=>trivial)) (by simp;omega)) rfl ?_;rintro _ w3 ⟨o3,c3,rfl,ho3,hfr3,hf3⟩;refine Gz 5 ?_;rw[e]
 first
 |exact⟨_,rfl,hP1⟩
 |(have e3:[f,(bW t).1].flatten=f++(bW t).1:=by simp
   rw[e3] at ho3 ⊢;exact⟨_,rfl,o3,c3,rfl,ho3,hfr3.mono ((hf1.trans hf2).size),(hf1.trans hf2).trans hf3⟩)
abbrev I6:={ z:Int // -9223372036854775808≤z∧z≤9223372036854775807 }
def enI(z:I6):Value:=.int .i64 z.1
theorem tW:jX Tryz.prog 3 enI:=by
 refine⟨Go.Maps.int_keyed ty3,fun a=>⟨.int .i64 a.1,?_⟩,fun a b h=>by unfold enI at h;exact Subtype.ext (by simpa using h)⟩;have h1:IntKind.i64.min = -9223372036854775808:=rfl;have h2:IntKind.i64.max=9223372036854775807:=rfl;have:=a.2;simp[keyOf,mapKey,enI,Lit.wf,h1,h2,this]
abbrev SK:={s:By // s.length≤maxLen}
def enS(s:SK):Value:=.string (bs s.1)
theorem C1:jX Tryz.prog 9 enS:=
 ⟨Maps.string_keyed (by kernel_rfl),fun a=>⟨.string a.1,by
  unfold keyOf;rw[show Tryz.prog.underlying 9=some .string by kernel_rfl];have h:a.1.length≤maxLen:=a.2;simp[mapKey,show Tryz.prog.underlying 9=some .string by kernel_rfl,enS,bs,ByteArray.size,h]⟩,fun a b h=>Subtype.ext (KP (by simpa[enS] using h))⟩
def jT(r:By):SK:=if h:r.length≤maxLen then ⟨r,h⟩ else ⟨[],by decide⟩
theorem pO{r:By}(h:r.length≤maxLen):(jT r).1=r:=by unfold jT;rw[dif_pos h]
def Nx(A:Nat→Prop)(W w':World):Nat→Prop:=fun k=>A k∨(W.heap.size≤k∧k<w'.heap.size)
theorem aA.nx{A:Nat→Prop}{W w':World}(h:aA (fun k=>A k∨W.heap.size≤k) W w'):aA A W w':=
 ⟨h.os,h.tape,h.output,h.size,fun k hk hn=>h.same k hk (fun h'=>h'.elim hn (fun h2=>by omega))⟩
theorem MwO.tight{D:Nat→Prop}{H:Array Obj}{g p:Nat}{f t:By}(h:MwO D H g p f t):MwO (fun k=>D k∧k<H.size) H g p f t:=by
 have hl:=h.lt;obtain⟨fo,fc,to,tc,hg,h1,h2,h3,h4,h5,h6,h7,h8,h9,h10⟩:=h;exact⟨fo,fc,to,tc,hg,h1,h2,h3,h4,h5,⟨h6,hl⟩,fun k ⟨a,ha,hb⟩=>⟨h7 k ⟨a,ha,hb⟩,by have:=h1.lt a ha;omega⟩,fun k ⟨a,ha,hb⟩=>⟨h8 k ⟨a,ha,hb⟩,by have:=h2.lt a ha;omega⟩,h9,fun h=>h10 h.1⟩
theorem MwO.nx{A:Nat→Prop}{W w':World}{g p:Nat}{f t:By}(h:MwO (fun k=>A k∨W.heap.size≤k) w'.heap g p f t):MwO (Nx A W w') w'.heap g p f t:=
 h.tight.mono (fun k hk=>hk.1.elim .inl (fun h2=>.inr ⟨h2,hk.2⟩)) (fun hp=>by
  obtain⟨_,_,_,_,_,_,_,_,_,_,_,_,_,_,h10⟩:=h;exact h10 (hp.elim .inl (fun h2=>.inr h2.1)))
theorem MwO.tab{D:Nat→Prop}{H:Array Obj}{g p:Nat}{f t:By}(h:MwO D H g p f t):TbV H p∧¬ D p:=by obtain⟨_,_,_,_,_,_,_,_,_,_,_,_,_,h9,h10⟩:=h;exact⟨h9,h10⟩
theorem Fx(T b:By):(dI [] T).1.length+2*((dI [] T).2.length+b.length)≤2*(T.length+b.length):=by
 have h:=Dt [] T;rw[W2,Xp] at h;omega
theorem qD(A:Nat→Prop)(g p:Nat)(T:By)(bo:Option Addr)(bc:Nat)(b:By)(W:World)(hM:MwO A W.heap g p (dI [] T).1 (dI [] T).2)(hv:Vw b8 W.heap bo bc b)(hb:T.length+b.length≤274877906944) :
 CA 26 [pT g,.slice bo b.length bc] W fun v w'=>v=iV (aM T T.length:Nat)∧MwO (Nx A W w') w'.heap g p (dI [] (T++b)).1 (dI [] (T++b)).2∧aA A W w':=by
 obtain⟨ht,hp⟩:=hM.tab;have hpl:=(WD.1 ht).1;have hs:=Fx T b;refine(L5 (fun k=>A k∨W.heap.size≤k) g p _ _ bo bc b W (hM.mono (fun k h=>.inl h) (fun h=>h.elim hp (fun h=>by omega))) (fun k h=>.inr h) hv (by omega)).mono ?_;rintro e w' ⟨v,rfl,rfl,h1,h2⟩;rw[←IN,←Dv] at *;exact⟨_,rfl,rfl,h1.nx,h2.nx⟩
theorem nI(A:Nat→Prop)(g p:Nat)(T:By)(W:World)(hM:MwO A W.heap g p (dI [] T).1 (dI [] T).2)(hb:T.length≤274877906944) :
 CA 27 [pT g] W (mX W (frW T (nF T))):=by
 have hs:=Fx T [];have hr:=Az [] T;have:=Jl A g p _ _ W hM (by rw[W2] at hs;omega) hr;rwa[HF] at this
theorem pZ(p:Nat)(W:World)(ht:TbV W.heap p) :
 CA 19 [pT p] W fun v w'=>v=pT W.heap.size∧MwO (fun k=>W.heap.size≤k∧k<w'.heap.size) w'.heap W.heap.size p (dI [] []).1 (dI [] []).2∧aA nob W w':=by
 refine(L1 p W ht).mono ?_;rintro e w' ⟨v,rfl,rfl,h1,h2⟩;exact⟨_,rfl,rfl,by rw[gO (show ([]:By).length<128 by decide)];exact h1.tight,h2⟩
section
variable {P:Program}{N:Nt}{Q:Exit→Act→World→Prop}{l:SF}{w:World}{ops:Array Oper}{rest:List Oper}{d:Nat}{ty t:TypeId}{pos:String}{aft:Array Edge}
theorem TG{α:Type}{k:Nat}{enc:α→List Value}(hk:jY k enc){e:TypeId}{bytes:Nat}(ht:aZ P t e k bytes)(hd:Xb d N.n=true)
 (h:∀ w',bP k enc e w'.heap (some ⟨w.heap.size,0,none⟩) 0 ([]:List α)→w'.heap.size=w.heap.size+1→aA nob w w'→Sl P N ops Q rest ((d,.slice (some ⟨w.heap.size,0,none⟩) 0 0)::l) w') :
 Sl P N ops Q (⟨some d,.buildSlice t 0 #[],ty,pos,aft,none⟩::rest) l w:=by
 refine Tk (w':=w.alloc (.cells #[] e)) (fun a ha=>?_) hd (h _ (bX (xs:=[]) hk (heap_alloc_new w _) (WG _)) (by simp) (aA.alloc _ _ _));simp[execOp,Instr.buildSlice,run_underlying ht.und,ht.size,Instr.fill,newRow];rw[wD]
end
def M1(x:By):By:=if x.length=0 then List.replicate 128 0 else x
def Cw(im:By)(off n:Nat):Nat→Nat→Int→By→By×Int
|0,_,_,out=>(out,0)
|k+1,i,a,out=>if n≤out.length then (out,0) else
   if i*128+128≤off then (if (lQ im a).2≠0 then ([],35) else Cw im off n k (i+1) (lQ im a).1 out) else
   if (cM im a).2.2≠0∨((cM im a).1.length≠0∧(cM im a).1.length≠128) then ([],35) else
   Cw im off n k (i+1) (cM im a).2.1 (out++((M1 (cM im a).1).drop (off-i*128)).take (n-out.length))
def kE(im:By)(start size off n:Int):By×Int:=
 if size<0∨off<0∨n<0∨4096<size then ([],1) else if size.toNat/128*128≤off.toNat then ([],0) else Cw im off.toNat n.toNat (size.toNat/128) 0 start []
section
variable {im:List UInt8}{off n k i:Nat}{a:Int}{out:List UInt8}
theorem GT(h:out.length<n)(h1:¬ i*128+128≤off)(h2:¬ ((cM im a).2.2≠0∨((cM im a).1.length≠0∧(cM im a).1.length≠128))) :
 Cw im off n (k+1) i a out=Cw im off n k (i+1) (cM im a).2.1 (out++((M1 (cM im a).1).drop (off-i*128)).take (n-out.length)):=by
 rw[Cw,Wt (by omega),Wt h1,Wt h2]
end
theorem zV{im:By}{start:Int}{size off n:Nat}(h:size≤4096)(h2:size/128*128≤off):kE im start size off n=([],0):=by
 unfold kE;rw[Wt (by omega)];exact Wu h2
theorem IQ{im:By}{start:Int}{size off n:Nat}(h:size≤4096)(h2:¬ size/128*128≤off):kE im start size off n=Cw im off n (size/128) 0 start []:=by
 unfold kE;rw[Wt (by omega)];exact Wt h2
def AO(im:By)(e:Int):Nat→Int→Int×Int
|0,a=>(a,0)
|k+1,a=>if (lQ im a).2≠0∨e<(lQ im a).1 then (0,2) else AO im e k (lQ im a).1
def vE(im:By)(start size e:Int):Int×Int:=if size<0∨4096<size then (0,1) else AO im e (size.toNat/128) start
theorem H6{im:By}{start e:Int}{size:Nat}(h:size≤4096):vE im start size e=AO im e (size/128) start:=by unfold vE;rw[Wt (by omega)];rfl
theorem Lf{im:By}{e a:Int}{k:Nat}(h:¬ ((lQ im a).2≠0∨e<(lQ im a).1)):AO im e (k+1) a=AO im e k (lQ im a).1:=by rw[AO,Wt h]
def fI(L:List By)(t:By):List By:=
 match L.getLast? with
|none=>L++[[]]
|some b=>if 128<b.length+t.length then L++[[]] else L
def eX(L:List By)(t:By):List By:=L.dropLast++[(L.getLast?.getD [])++t]
def rF(t:By):Bool:=t.length<1 || 128≤t.length
theorem yI{t:By}(h:t.length<1∨128≤t.length):rF t=true:=by unfold rF;simpa only[X3,decide_eq_true_eq] using h
theorem vA{t:By}(h:1≤t.length∧t.length<128):rF t=false:=by
 unfold rF;rw[Bool.or_eq_false_iff];simp only[decide_eq_false_iff_not];omega
theorem KV{t:By}(h:rF t=false):1≤t.length∧t.length<128:=by
 unfold rF at h;rw[Bool.or_eq_false_iff] at h;simp only[decide_eq_false_iff_not] at h;omega
def sP(L:List By)(t:By):List By×Nat×Nat:=
 if rF t then (L,0,0) else (eX (fI L t) t,(fI L t).length,((fI L t).getLast?.getD []).length)
def offs:Nat→List By→List Nat
|_,[]=>[]
|k,b::r=>k::offs (k+b.length) r
theorem gZ:∀ (k:Nat) (L:List By),(offs k L).length=L.length
|_,[]=>rfl
|k,b::r=>by simp[offs,gZ _ r]
theorem jR:∀ (k:Nat) (A B:List By),offs k (A++B)=offs k A++offs (k+A.flatten.length) B
|k,[],B=>by simp[offs]
|k,a::A,B=>by simp[offs,jR _ A B,Yq]
theorem kP(L:List By)(h:L≠[]):L.dropLast.flatten++L.getLast h=L.flatten:=by
 conv=>rhs;rw[←Yp h]
 simp
theorem C7(L:List By)(h:L≠[]):L.getLast?.getD []=L.getLast h:=by rw[List.getLast?_eq_some_getLast h];rfl
theorem Hc(L:List By)(h:L≠[]):(offs 0 L).getD (L.length-1) 0=L.dropLast.flatten.length:=by
 have e:L=L.dropLast++[L.getLast h]:=(Yp h).symm;have hl:L.length-1=(offs 0 L.dropLast).length:=by rw[gZ];simp
 rw[hl]
 conv=>lhs;rw[e,jR]
 simp[offs,WI]
theorem oF(L:List By)(h:L≠[]):(offs 0 L).getD (L.length-1) 0+(L.getLast?.getD []).length=L.flatten.length:=by
 rw[Hc L h,C7 L h,←kP L h,Ww]
theorem Ab(L:List By)(t:By)(h:L≠[]):offs 0 (eX L t)=offs 0 L:=by
 conv=>rhs;rw[←Yp h]
 simp[eX,jR,offs]
theorem qR(L:List By)(t:By)(h:L≠[]):(eX L t).flatten=L.flatten++t:=by
 rw[eX,C7 L h,←kP L h];simp
theorem CG(L:List By):offs 0 (L++[[]])=offs 0 L++[L.flatten.length]:=by simp[jR,offs]
theorem LV(L:List By)(t:By):fI L t≠[]:=by
 unfold fI;split
 ·simp
 · rename_i b hb;split
   ·simp
   ·intro h;simp[h] at hb
theorem pY(L:List By)(t:By)(h:L=[]∨128<(L.getLast?.getD []).length+t.length):fI L t=L++[[]]:=by
 unfold fI
 split
 ·rfl
 · rename_i b hb
   rcases h with h|h
   ·simp[h] at hb
   ·rw[hb] at h;exact Wu h
theorem pX(L:List By)(t:By)(h1:L≠[])(h2:¬ 128<(L.getLast?.getD []).length+t.length):fI L t=L:=by
 unfold fI
 split
 ·rename_i hb;simp at hb;exact absurd hb h1
 ·rename_i b hb;rw[hb] at h2;exact Wt h2
theorem Be(L:List By)(t:By):(fI L t).flatten=L.flatten:=by
 unfold fI;split
 ·simp
 ·split<;>simp
theorem Jh(L:List By)(t:By):L.length≤(fI L t).length∧(fI L t).length≤L.length+1:=by
 unfold fI;split
 ·simp
 ·split<;>simp
def iJ(D:Nat→Prop)(H:Array Obj)(p:Nat)(L:List By):Prop:=
 ∃ ao c bo c',H[p]?=some (.cells [.slice ao L.flatten.length c,.slice bo (offs 0 L).length c'].toArray 184 (0,0))∧Own b8 5 H ao c L.flatten∧Own inN 3 H bo c' (offs 0 L) ∧
  Ap ao bo∧(¬ blk ao p)∧(¬ blk bo p)∧D p∧(∀ k,blk ao k→D k)∧(∀ k,blk bo k→D k)
theorem iJ.Ws{D S:Nat→Prop}{w w':World}{p:Nat}{L:List By}(h:iJ D w.heap p L)(f:aA S w w')(hs:∀ k,D k→¬ S k):iJ D w'.heap p L:=by
 obtain⟨ao,c,bo,c',h1,h2,h3,h4,h5,h6,h7,h8,h9⟩:=h;exact⟨ao,c,bo,c',f.obj h1 (hs p h7),h2.Ws f (fun a ha=>hs _ (h8 _ ⟨a,ha,rfl⟩)),h3.Ws f (fun a ha=>hs _ (h9 _ ⟨a,ha,rfl⟩)),h4,h5,h6,h7,h8,h9⟩
def dU(D:Nat→Prop)(W:World)(p:Nat)(L:List By)(w':World):Prop:=
 ∃ D',iJ D' w'.heap p L∧(∀ k,D' k→D k∨W.heap.size≤k)∧(∀ k,D' k→k<w'.heap.size)∧aA D W w'
theorem dU.draws{D:Nat→Prop}{W w:World}{p:Nat}{L:List By}(h:dU D W p L w)(n:Nat):dU D W p L (w.drewN n):=by
 obtain⟨D',h1,h2,h3,h4⟩:=h;exact⟨D',h1,h2,h3,h4.draws n⟩
theorem dU.same{D:Nat→Prop}{W:World}{p:Nat}{L:List By}(h:iJ D W.heap p L)(hD:∀ k,D k→k<W.heap.size):dU D W p L W:=
 ⟨D,h,fun _ hk=>.inl hk,hD,VK _ _⟩
theorem BH{D:Nat→Prop}{W w1 w2 w3:World}{p:Nat}{L:List By}{ao bo bo2:Option Addr}{c c2:Nat}(hD:∀ k,D k→k<W.heap.size)
 (hrow:Own b8 5 W.heap ao c L.flatten)(hap:Ap ao bo)(hap1:¬ blk ao p)(hbp:¬ blk bo p)(hDp:D p)(hDa:∀ k,blk ao k→D k)(hDb:∀ k,blk bo k→D k)
 (hf1:aA nob W w1)(ho2:Own inN 3 w2.heap bo2 c2 (offs 0 L++[L.flatten.length]))(hf2:aA (blk bo) w1 w2)(hr2:∀ a,bo2=some a→bo=some a∨w1.heap.size≤a.block)
 (hg3:w3.heap[p]?=some (.cells [.slice ao L.flatten.length c,.slice bo2 (offs 0 L++[L.flatten.length]).length c2].toArray 184 (0,0)))(hf3:aA (· = p) w2 w3):dU D W p (L++[[]]) w3:=by
 have hWp:=hD p hDp;have s1:=hf1.size;have s2:=hf2.size;have hbo2p:¬ blk bo2 p:=fun⟨a,ha,hb⟩=>by
  rcases hr2 a ha with h|h
  ·exact hbp ⟨a,h,hb⟩
  ·omega
 have hab:Ap ao bo2:=fun a b ha hb e=>by
  rcases hr2 b hb with h|h
  ·exact hap a b ha h e
  ·have:=hD _ (hDa _ ⟨a,ha,rfl⟩);omega
 have e1:(L++[[]]).flatten=L.flatten:=by simp
 have F2:aA (blk bo) W w2:=(hf1.mono (fun _ h=>h.elim)).trans hf2;refine⟨fun k=>D k∨(W.heap.size≤k∧k<w3.heap.size),⟨ao,c,bo2,c2,?_,?_,?_,hab,hap1,hbo2p,.inl hDp,fun k hk=>.inl (hDa k hk),?_⟩,?_,?_,?_⟩
 ·rw[e1,CG];exact hg3
 · rw[e1]
   exact(hrow.Ws F2 (fun a ha h=>by obtain⟨b,hb,e⟩:=h;exact hap a b ha hb e.symm)).Ws hf3 (fun a ha h=>hap1 ⟨a,ha,h⟩)
 ·rw[CG];exact ho2.Ws hf3 (fun a ha h=>hbo2p ⟨a,ha,h⟩)
 · rintro k ⟨a,ha,rfl⟩
   rcases hr2 a ha with h|h
   ·exact .inl (hDb _ ⟨a,h,rfl⟩)
   · have h5:=ho2.lt a ha
     have:=hf3.size;exact .inr ⟨by omega,by omega⟩
 · intro k hk;rcases hk with hk|hk
   ·exact .inl hk
   ·exact .inr hk.1
 · intro k hk;rcases hk with hk|hk
   ·have:=hD k hk;have:=hf3.size;omega
   ·exact hk.2
 ·exact(F2.mono (fun k h=>hDb k h)).trans (hf3.mono (fun k h=>by subst h;exact hDp))
theorem M3{D D1:Nat→Prop}{W w1 w3 w4:World}{p:Nat}{L:List By}{t:By}{ao bo ao3:Option Addr}{c3 c':Nat}(hne:L≠[])(hD1:∀ k,D1 k→D k∨W.heap.size≤k)(hD2:∀ k,D1 k→k<w1.heap.size)(hF:aA D W w1)
 (hbeg:Own inN 3 w1.heap bo c' (offs 0 L))(hap:Ap ao bo)(hap1:¬ blk ao p)(hbp:¬ blk bo p)(hDp:D1 p)(hDa:∀ k,blk ao k→D1 k)(hDb:∀ k,blk bo k→D1 k)
 (ho3:Own b8 5 w3.heap ao3 c3 (L.flatten++t))(hf3:aA (blk ao) w1 w3)(hr3:∀ a,ao3=some a→ao=some a∨w1.heap.size≤a.block)
 (hg4:w4.heap[p]?=some (.cells [.slice ao3 (L.flatten++t).length c3,.slice bo (offs 0 L).length c'].toArray 184 (0,0)))(hf4:aA (· = p) w3 w4):dU D W p (eX L t) w4:=by
 have hWp:=hD2 p hDp;have s0:=hF.size;have s3:=hf3.size;have s4:=hf4.size;have ha3p:¬ blk ao3 p:=fun⟨a,ha,hb⟩=>by
  rcases hr3 a ha with h|h
  ·exact hap1 ⟨a,h,hb⟩
  ·omega
 have hab:Ap ao3 bo:=fun a b ha hb e=>by
  rcases hr3 a ha with h|h
  ·exact hap a b h hb e
  ·have:=hD2 _ (hDb _ ⟨b,hb,rfl⟩);omega
 refine⟨fun k=>D1 k∨(w1.heap.size≤k∧k<w4.heap.size),⟨ao3,c3,bo,c',?_,?_,?_,hab,ha3p,hbp,.inl hDp,?_,fun k hk=>.inl (hDb k hk)⟩,?_,?_,?_⟩
 ·rw[qR L t hne,Ab L t hne];exact hg4
 ·rw[qR L t hne];exact ho3.Ws hf4 (fun a ha h=>ha3p ⟨a,ha,h⟩)
 · rw[Ab L t hne]
   exact(hbeg.Ws hf3 (fun a ha h=>by obtain⟨b,hb,e⟩:=h;exact hap b a hb ha e)).Ws hf4 (fun a ha h=>hbp ⟨a,ha,h⟩)
 · rintro k ⟨a,ha,rfl⟩
   rcases hr3 a ha with h|h
   ·exact .inl (hDa _ ⟨a,h,rfl⟩)
   · have h5:=ho3.lt a ha
     exact .inr ⟨h,by omega⟩
 · intro k hk;rcases hk with hk|hk
   ·exact hD1 k hk
   ·exact .inr (by omega)
 · intro k hk;rcases hk with hk|hk
   ·have:=hD2 k hk;omega
   ·exact hk.2
 ·refine hF.Wo ((hf3.mono (fun k h=>hDa k h)).trans (hf4.mono (fun k h=>by subst h;exact hDp))) hD1
theorem ON(D:Nat→Prop)(p:Nat)(L:List By)(to:Option Addr)(tc:Nat)(t:By)(W:World)(hP:iJ D W.heap p L)(hD:∀ k,D k→k<W.heap.size)
 (hv:Vw b8 W.heap to tc t)(hvD:t≠[]→∀ a,to=some a→¬ D a.block)(hb1:L.flatten.length≤1099511627776)(hb2:L.length≤1099511627776) :
 CA 67 [pT p,.slice to t.length tc] W fun v w'=>v=.tuple #[inN (sP L t).2.1,inN (sP L t).2.2]∧dU D W p (sP L t).1 w':=by
 have hl:=hv.Wq;have hPP:=hP;obtain⟨ao,c,bo,c',hobj,hrow,hbeg,hap,hap1,hbp,hDp,hDa,hDb⟩:=hP;have hol:=gZ 0 L;refine cS 83 [(0,_),(1,_)] Tryz.func67 ?_;refine fK 11 ?_ ?_<;>intro h9
 ·refine Gz 17 ?_;have hbad:rF t=true:=yI (by omega);exact⟨_,rfl,by simp[sP,hbad,inN],by rw[show sP L t=(L,0,0) from by simp[sP,hbad]];exact dU.same hPP hD⟩
 refine fW 3 ?_ ?_<;>intro h13
 ·refine Gz 13 ?_;have hbad:rF t=true:=yI (by omega);exact⟨_,rfl,by simp[sP,hbad,inN],by rw[show sP L t=(L,0,0) from by simp[sP,hbad]];exact dU.same hPP hD⟩
 refine Gz 16 ?_;refine Tj (β:=Unit) (fun _u=>[(0,pT p),(1,.slice to t.length tc),(6,iV (fI L t).length)]) (fun _u w=>rF t=false∧dU D W p (fI L t) w) ?_ ?_
 ·refine Gz 1 ?_;refine Tg 22 [0,1,2,3,4,5,6,7,8,9,10,11,12,13,14,15,16,17,18,19,20,21] aL (by kernel_rfl) ?_;refine xK 1 ?_ ?_<;>intro h21
  ·refine Gz 24 ?_;refine SZ 14 (fun H=>H[p]?=some (.cells [.slice ao L.flatten.length c,.slice bo (offs 0 L).length c'].toArray 184 (0,0))) [10,11,14] [0,1,2,3,4,5,6,7,8,9,10,11,12,13,14] aL (by kernel_rfl) (hobj) ?_;refine Gz 10 ?_;refine SU rfl rfl (TJ (enc:=inN) (u:=L.flatten.length) cI rfl rfl rfl ?_);intro w1 ho1 hs1 hf1;refine S5 (by exact hf1.obj hobj (fun h=>h)) ?_;refine SU rfl rfl (S4 F9 cI rfl rfl (hbeg.Wr hf1.Wp.Wp) ho1.vw (by simp only[WF];omega) (by simp only[WF];unfold maxLen;omega) rfl ?_);intro bo2 c2 w2 ho2 hf2 hr2 hn2;refine S5 (by exact hf2.obj (hf1.obj hobj (fun h=>h)) hbp) ?_;refine Gz 2 ?_;refine SU rfl rfl (SV sZ rfl rfl rfl (hf2.obj (hf1.obj hobj (fun h=>h)) hbp) rfl ?_);intro w3 hg3 hs3 hf3;refine Ts rfl ?_;refine Gz 7 ?_;have hg:rF t=false:=vA (by omega)
   first
   |(have hnew:fI L t=L++[[]]:=pY L t (by first|(left;exact WQ (by omega))|(right;omega))
     refine Tn () ⟨rfl,rfl,congrArg (fun z:Int=>some (Value.int .i64 z)) (by rw[hnew,Ww];simp[hol]),trivial⟩ ?_;exact⟨hg,by rw[hnew];exact BH hD hrow hap hap1 hbp hDp hDa hDb hf1.Wp.Wp ho2 hf2 hr2 hg3 hf3⟩)
   |(have hold:fI L t=L:=pX L t hne (by omega)
     refine Tn () ⟨rfl,rfl,congrArg (fun z:Int=>some (Value.int .i64 z)) (by rw[hold,hol]),trivial⟩ ?_;exact⟨hg,by rw[hold];exact(dU.same hPP hD).draws 1⟩)
  refine Gz 4 ?_;refine xV rfl (SM aX rfl (aD hobj rfl)) ?_;refine Gz 4 ?_;refine xV rfl (SM sZ rfl (aD hobj rfl)) ?_;refine Gz 2 ?_;refine xV rfl (SI cI rfl rfl hbeg.vw.non (by omega)) ?_;have hne:L≠[]:=by intro e;subst e;simp[offs] at h21
  have hlast:=oF L hne;refine xV rfl (SM aN rfl (hbeg.vw.gz 0 (L.length-1) (by omega) (by omega))) ?_;refine xW 4 ?_ ?_<;>intro h40
  ·refine Gz 5 ?_;refine SZ 14 (fun H=>H[p]?=some (.cells [.slice ao L.flatten.length c,.slice bo (offs 0 L).length c'].toArray 184 (0,0))) [10,11,14] [0,1,2,3,4,5,6,7,8,9,10,11,12,13,14] aL (by kernel_rfl) (hobj) ?_;refine Gz 10 ?_;refine SU rfl rfl (TJ (enc:=inN) (u:=L.flatten.length) cI rfl rfl rfl ?_);intro w1 ho1 hs1 hf1;refine S5 (by exact hf1.obj hobj (fun h=>h)) ?_;refine SU rfl rfl (S4 F9 cI rfl rfl (hbeg.Wr hf1.Wp.Wp) ho1.vw (by simp only[WF];omega) (by simp only[WF];unfold maxLen;omega) rfl ?_);intro bo2 c2 w2 ho2 hf2 hr2 hn2;refine S5 (by exact hf2.obj (hf1.obj hobj (fun h=>h)) hbp) ?_;refine Gz 2 ?_;refine SU rfl rfl (SV sZ rfl rfl rfl (hf2.obj (hf1.obj hobj (fun h=>h)) hbp) rfl ?_);intro w3 hg3 hs3 hf3;refine Ts rfl ?_;refine Gz 7 ?_;have hg:rF t=false:=vA (by omega)
   first
   |(have hnew:fI L t=L++[[]]:=pY L t (by first|(left;exact WQ (by omega))|(right;omega))
     refine Tn () ⟨rfl,rfl,congrArg (fun z:Int=>some (Value.int .i64 z)) (by rw[hnew,Ww];simp[hol]),trivial⟩ ?_;exact⟨hg,by rw[hnew];exact BH hD hrow hap hap1 hbp hDp hDa hDb hf1.Wp.Wp ho2 hf2 hr2 hg3 hf3⟩)
   |(have hold:fI L t=L:=pX L t hne (by omega)
     refine Tn () ⟨rfl,rfl,congrArg (fun z:Int=>some (Value.int .i64 z)) (by rw[hold,hol]),trivial⟩ ?_;exact⟨hg,by rw[hold];exact(dU.same hPP hD).draws 1⟩)
  refine Gz 5 ?_;have hg:rF t=false:=vA (by omega)
  first
  |(have hnew:fI L t=L++[[]]:=pY L t (by first|(left;exact WQ (by omega))|(right;omega))
    refine Tn () ⟨rfl,rfl,congrArg (fun z:Int=>some (Value.int .i64 z)) (by rw[hnew,Ww];simp[hol]),trivial⟩ ?_;exact⟨hg,by rw[hnew];exact BH hD hrow hap hap1 hbp hDp hDa hDb hf1.Wp.Wp ho2 hf2 hr2 hg3 hf3⟩)
  |(have hold:fI L t=L:=pX L t hne (by omega)
    refine Tn () ⟨rfl,rfl,congrArg (fun z:Int=>some (Value.int .i64 z)) (by rw[hold,hol]),trivial⟩ ?_;exact⟨hg,by rw[hold];exact(dU.same hPP hD).draws 1⟩)
 rintro _ w1 ⟨hgood,D1,hP1,hD1,hD2,hF⟩;obtain⟨ao,c,bo,c',hobj,hrow,hbeg,hap,hap1,hbp,hDp,hDa,hDb⟩:=hP1;have hol:=gZ 0 (fI L t);have hne:=LV L t;have hpos:0<(fI L t).length:=WN.2 hne;have hlast:=oF (fI L t) hne;have hnl:=Jh L t;have hnf:=Be L t;have hnfl:(fI L t).flatten.length=L.flatten.length:=by rw[hnf]
 have hgood':1≤t.length∧t.length<128:=KV hgood;refine Gz 1 ?_;refine Tg 15 [0,1,2,3,4,5,6,7,8,9,10,11,12,13,14] aL (by kernel_rfl) ?_;refine Gz 3 ?_;refine xC rfl (SM aX rfl (aD hobj rfl)) ?_;refine Gz 4 ?_;refine xC rfl (SM sZ rfl (aD hobj rfl)) ?_;refine Gz 2 ?_;refine xC rfl (SI cI rfl rfl hbeg.vw.non (by omega)) ?_;refine xC rfl (SM aN rfl (hbeg.vw.gz 0 ((fI L t).length-1) (by omega) (by omega))) ?_;refine Gz 12 ?_;refine S4 dK aT rfl rfl hrow (hv.Ws (hF.draws 1) (hvD (by intro e;rw[e] at hgood';simp at hgood'))) (by omega) (by unfold maxLen;omega) rfl ?_;intro ao3 c3 w3 ho3 hf3 hr3 hn3;refine Gz 2 ?_;refine SV aX rfl rfl rfl (hf3.obj hobj hap1) rfl ?_;intro w4 hg4 hs4 hf4;refine Gz 12 ?_;have e:sP L t=(eX (fI L t) t,(fI L t).length,((fI L t).getLast?.getD []).length):=by simp[sP,hgood]
 refine⟨_,rfl,?_,?_⟩
 ·rw[e];exact RB rfl (by show _=((((fI L t).getLast?.getD []).length:Nat):Int);omega)
 ·rw[e];exact M3 hne hD1 hD2 hF hbeg hap hap1 hbp hDp hDa hDb ho3 hf3.Wp hr3 hg4 hf4
theorem Oa(W:World):CA 65 [] W fun v w'=>v=pT W.heap.size∧iJ (fun k=>k=W.heap.size) w'.heap W.heap.size []∧aA nob W w'∧w'.heap.size=W.heap.size+1:=by
 refine cS 3 [] Tryz.func65 ?_;refine Gz 7 ?_;refine cL (TQ NV OS rfl rfl) ?_;refine Td rfl rfl ?_;intro w1 hg1 hs1 hf1;refine Gz 5 ?_;exact⟨_,rfl,rfl,⟨none,0,none,0,hg1,VR,VR,VN,(fun⟨a,h,_⟩=>by cases h),(fun⟨a,h,_⟩=>by cases h),rfl,(fun k ⟨a,h,_⟩=>by cases h),(fun k ⟨a,h,_⟩=>by cases h)⟩,hf1,hs1⟩
def BJ(W:World)(xs:By):Value→World→Prop:=fun v w'=>∃ ao' cap',v=.slice ao' xs.length cap'∧Own b8 5 w'.heap ao' cap' xs∧Fr W.heap.size ao'∧aA nob W w'
theorem EK(cap:Nat)(xs:By)(W:World)(hv:Vw b8 W.heap none cap xs):CA 61 [.slice none xs.length cap] W (BJ W xs):=by
 have hx:xs=[]:=WQ (by
  rcases Nat.eq_zero_or_pos xs.length with h|h
  ·exact h
  ·exact absurd rfl (hv.non (by omega)))
 subst hx;refine cS 8 [(0,_)] Tryz.func61 ?_;refine Gz 9 ?_;refine cL (Ti aT rfl rfl) ?_;refine Gz 11 ?_;exact⟨_,rfl,none,0,rfl,VR,VP,VK _ _⟩
theorem Di(a:Addr)(cap:Nat)(xs:By)(W:World)(hv:Vw b8 W.heap (some a) cap xs)(hb:xs.length≤140737488355328):CA 61 [.slice (some a) xs.length cap] W (BJ W xs):=by
 have hl:=hv.Wq;refine cS 8 [(0,_)] Tryz.func61 ?_;refine Gz 9 ?_;refine cL (Ti aT rfl rfl) ?_;refine Gz 7 ?_;refine T1 b8 aT rfl ?_;intro w1 ho1 hs1 hf1;refine Gz 1 ?_;refine S4 dK aT rfl rfl ho1 (hv.Wr hf1) (by simp only[W2];omega) (by simp only[W2];unfold maxLen;omega) rfl ?_;intro ao2 c2 w2 ho2 hf2 hr2 hn2;refine Gz 5 ?_;have hfr:Fr W.heap.size (some (⟨W.heap.size,0,none⟩:Addr)):=fun a ha=>by cases ha;exact WC _
 refine⟨_,rfl,ao2,c2,rfl,ho2,fun a ha=>?_,hf1.Wo hf2 hfr.step⟩;rcases hr2 a ha with h|h
 ·exact hfr a h
 ·have:=hf1.size;omega
theorem HC(ao:Option Addr)(cap:Nat)(xs:By)(W:World)(hv:Vw b8 W.heap ao cap xs)(hb:xs.length≤140737488355328):CA 61 [.slice ao xs.length cap] W (BJ W xs):=by
 cases ao with
|none=>exact EK cap xs W hv
|some a=>exact Di a cap xs W hv hb
theorem FO(L:List By):∀ (b k:Nat),k<L.length→(offs b L).getD k 0=b+(L.take k).flatten.length:=by
 induction L with
|nil=>intro b k h;simp at h
|cons x r ih=>
   intro b k h;cases k with
  |zero=>simp[offs]
  |succ k=>
     have:=ih (b+x.length) k (by simpa using h);simp only[offs,List.getD_cons_succ,this,List.take_succ_cons,List.flatten_cons,Ww];omega
theorem qQ(L:List By)(k:Nat)(h:k<L.length):(L.take (k+1)).flatten.length=(L.take k).flatten.length+(L.getD k []).length:=by
 rw[WV h,YS,Ww];simp[WI,h]
theorem tH(L:List By)(k:Nat)(h:k<L.length):(L.flatten.drop (L.take k).flatten.length).take (L.getD k []).length=L.getD k []:=by
 have e:L=L.take k++(L.getD k []::L.drop (k+1)):=by
  conv=>lhs;rw[←WX k L]
  rw[Xv h];simp[WI,h]
 have e2:L.flatten=(L.take k).flatten++(L.getD k []++(L.drop (k+1)).flatten):=by
  conv=>lhs;rw[e]
  simp
 rw[e2,List.drop_left,List.take_left]
theorem lV(L:List By)(k:Nat):(L.take k).flatten.length≤L.flatten.length:=by
 conv=>rhs;rw[←WX k L]
 rw[YS,Ww];omega
theorem HR(D:Nat→Prop)(p:Nat)(L:List By)(W:World)(hP:iJ D W.heap p L)(hb1:L.flatten.length≤1099511627776)(hb2:L.length≤1099511627776) :
 CA 68 [pT p] W fun v w'=>∃ ao' cap' hs',v=.slice ao' hs'.length cap'∧Own hd 25 w'.heap ao' cap' hs'∧dB (fun k=>W.heap.size≤k) w'.heap hs' L∧Fr W.heap.size ao'∧aA nob W w':=by
 obtain⟨ao,c,bo,c',hobj,hrow,hbeg,hap,hap1,hbp,hDp,hDa,hDb⟩:=hP;have hol:=gZ 0 L;refine cS 51 [(0,_)] Tryz.func68 ?_;refine Gz 16 ?_;refine SJ EF rfl (HC ao c L.flatten W hrow.vw (by omega)) rfl ?_;rintro _ w1 ⟨ro,rc,rfl,hro,hfro,hf1⟩;refine Gz 9 ?_;refine cL (SM sZ rfl (aD (hf1.obj hobj (fun h=>h)) rfl)) ?_;refine Gz 5 ?_;refine SO (β:=Nat×Option Addr×Nat×List Hd) (fun⟨k,go,gc,gs⟩=>[(0,pT p),(3,.slice go gs.length gc),(4,.slice ro L.flatten.length rc),(16,.slice bo (offs 0 L).length c'),(17,iV (offs 0 L).length),(18,iV k)]) (fun⟨k,go,gc,gs⟩ w=>k≤L.length∧Own hd 25 w.heap go gc gs∧dB (blk ro) w.heap gs (L.take k)∧Own b8 5 w.heap ro rc L.flatten∧Ap ro go∧Fr W.heap.size go∧aA nob W w) (fun⟨k,go,gc,gs⟩=>L.length-k) (0,none,0,[]) ⟨rfl,rfl,rfl,rfl,rfl,rfl,trivial⟩ ⟨by omega,VR,VW,hro,VO,VP,hf1⟩ ?_;rintro⟨k,go,gc,gs⟩ w2 ⟨hk1,hog,hrg,hro2,hapg,hfg,hF⟩;have hgl:=hrg.1;simp only[WB] at hgl;refine fK 2 ?_ ?_<;>intro h19
 ·refine Gz 11 ?_;have hkl:k<L.length:=by omega
  have hat:bH w2.heap (adr bo (k:Int).toNat)=some (inN (L.take k).flatten.length):=by have:=(hbeg.Wr hF).vw.gz 0 k (z:=k) rfl (by omega);rwa[FO L 0 k hkl,Xp] at this
  have hst:=qQ L k hkl;have hle1:=lV L (k+1);refine cL (SI cI rfl rfl hbeg.vw.non (by omega)) ?_;refine cL (SM aN rfl hat) ?_;refine Gz 19 ?_;refine cL (SM sZ rfl (aD (hF.obj hobj (fun h=>h)) rfl)) ?_;refine fK 1 ?_ ?_<;>intro h32
  ·refine Gz 7 ?_;refine cL (SM sZ rfl (aD (hF.obj hobj (fun h=>h)) rfl)) ?_;refine Gz 2 ?_;have hend:bH w2.heap (adr bo ((k:Int)+1).toNat)=some (inN (L.take (k+1)).flatten.length):=by have:=(hbeg.Wr hF).vw.gz 0 (k+1) (z:=(k:Int)+1) rfl (by omega);rwa[FO L 0 (k+1) (by omega),Xp] at this
   refine cL (SI cI rfl rfl hbeg.vw.non (by omega)) ?_;refine cL (SM aN rfl hend) ?_;refine Gz 9 ?_;obtain⟨E,hE,hE2⟩:∃ E,E=(L.take (k+1)).flatten.length∧E=(L.take (k+1)).flatten.length:=⟨_,rfl,rfl⟩
   have hrc:=hro2.vw.le;refine cL (TS aT rfl rfl rfl rfl (by omega) (by omega) (by omega)) ?_;refine TJ (enc:=hd) (u:=⟨bG ro (L.take (k+1)).flatten.length (L.take k).flatten.length 1,(L.take (k+1)).flatten.length-(L.take k).flatten.length,(L.take (k+1)).flatten.length-(L.take k).flatten.length⟩) vS rfl rfl rfl ?_;intro w3 ho3 hs3 hf3;refine S4 EB vS rfl rfl (hog.Wr hf3) ho3.vw (by simp only[WF];omega) (by simp only[WF];unfold maxLen;omega) rfl ?_;intro ao4 c4 w4 ho4 hf4 hr4 hn4;refine Gz 8 ?_;refine aG (k+1,ao4,c4,gs++[⟨bG ro (L.take (k+1)).flatten.length (L.take k).flatten.length 1,(L.take (k+1)).flatten.length-(L.take k).flatten.length,(L.take (k+1)).flatten.length-(L.take k).flatten.length⟩]) ?_ (by show L.length-(k+1)<L.length-k;omega);have hF4:aA nob W w4:=(hF.trans hf3).Wo hf4 hfg.step;have hnr:∀ a,ro=some a→¬ blk go a.block:=fun a ha h=>hapg.not a ha h;refine⟨by omega,ho4,?_,(hro2.Wr hf3).Ws hf4 hnr,fun a b ha hb e=>?_,fun a ha=>?_,hF4⟩
   · have hrg4:dB (blk ro) w4.heap gs (L.take k):=(hrg.Ws hf3 (fun _ _ h=>h)).Ws hf4 (fun k' hk'=>by obtain⟨a,ha,rfl⟩:=hk';exact hnr a ha)
     have hcut:=((hro2.Wr hf3).Ws hf4 hnr).vw.cut (l:=(L.take k).flatten.length) (h:=E) (m:=E) (by omega) (by omega) (by omega) (by omega);have hEd:E-(L.take k).flatten.length=(L.getD k []).length:=by omega
     have e:L.take (k+1)=L.take k++[L.getD k []]:=by rw[WV hkl];simp[WI,hkl]
     rw[hEd,tH L k hkl,hE] at hcut;have hsn:=hrg4.snoc (x:=⟨bG ro (L.take (k+1)).flatten.length (L.take k).flatten.length 1,(L.take (k+1)).flatten.length-(L.take k).flatten.length,(L.take (k+1)).flatten.length-(L.take k).flatten.length⟩) (xs:=L.getD k []) (by show (L.take (k+1)).flatten.length - _=_;omega) (by show Vw b8 _ (bG ro (L.take (k+1)).flatten.length _ 1) ((L.take (k+1)).flatten.length - _) _;rw[←hE,hEd,hE];exact hcut) (fun _ k' hk'=>lO hk');exact(congrArg (dB (blk ro) w4.heap _) e).mpr hsn
   · rcases hr4 b hb with h|h
     ·exact hapg a b ha h e
     ·have:=hro2.lt a ha;have:=hf3.size;omega
   · rcases hr4 a ha with h|h
     ·exact hfg a h
     ·have:=hF.size;have:=hf3.size;omega
  refine Gz 11 ?_;obtain⟨E,hE,hE2⟩:∃ E,E=L.flatten.length∧E=(L.take (k+1)).flatten.length:=⟨_,rfl,by rw[WJ (by omega)]⟩
  have hrc:=hro2.vw.le;refine cL (TS aT rfl rfl rfl rfl (by omega) (by omega) (by omega)) ?_;refine TJ (enc:=hd) (u:=⟨bG ro L.flatten.length (L.take k).flatten.length 1,L.flatten.length-(L.take k).flatten.length,L.flatten.length-(L.take k).flatten.length⟩) vS rfl rfl rfl ?_;intro w3 ho3 hs3 hf3;refine S4 EB vS rfl rfl (hog.Wr hf3) ho3.vw (by simp only[WF];omega) (by simp only[WF];unfold maxLen;omega) rfl ?_;intro ao4 c4 w4 ho4 hf4 hr4 hn4;refine Gz 8 ?_;refine aG (k+1,ao4,c4,gs++[⟨bG ro L.flatten.length (L.take k).flatten.length 1,L.flatten.length-(L.take k).flatten.length,L.flatten.length-(L.take k).flatten.length⟩]) ?_ (by show L.length-(k+1)<L.length-k;omega);have hF4:aA nob W w4:=(hF.trans hf3).Wo hf4 hfg.step;have hnr:∀ a,ro=some a→¬ blk go a.block:=fun a ha h=>hapg.not a ha h;refine⟨by omega,ho4,?_,(hro2.Wr hf3).Ws hf4 hnr,fun a b ha hb e=>?_,fun a ha=>?_,hF4⟩
  · have hrg4:dB (blk ro) w4.heap gs (L.take k):=(hrg.Ws hf3 (fun _ _ h=>h)).Ws hf4 (fun k' hk'=>by obtain⟨a,ha,rfl⟩:=hk';exact hnr a ha)
    have hcut:=((hro2.Wr hf3).Ws hf4 hnr).vw.cut (l:=(L.take k).flatten.length) (h:=E) (m:=E) (by omega) (by omega) (by omega) (by omega);have hEd:E-(L.take k).flatten.length=(L.getD k []).length:=by omega
    have e:L.take (k+1)=L.take k++[L.getD k []]:=by rw[WV hkl];simp[WI,hkl]
    rw[hEd,tH L k hkl,hE] at hcut;have hsn:=hrg4.snoc (x:=⟨bG ro L.flatten.length (L.take k).flatten.length 1,L.flatten.length-(L.take k).flatten.length,L.flatten.length-(L.take k).flatten.length⟩) (xs:=L.getD k []) (by show L.flatten.length - _=_;omega) (by show Vw b8 _ (bG ro L.flatten.length _ 1) (L.flatten.length - _) _;rw[←hE,hEd,hE];exact hcut) (fun _ k' hk'=>lO hk');exact(congrArg (dB (blk ro) w4.heap _) e).mpr hsn
  · rcases hr4 b hb with h|h
    ·exact hapg a b ha h e
    ·have:=hro2.lt a ha;have:=hf3.size;omega
  · rcases hr4 a ha with h|h
    ·exact hfg a h
    ·have:=hF.size;have:=hf3.size;omega
 refine Gz 17 ?_;have hkk:L.take k=L:=WJ (by omega);rw[hkk] at hrg;exact⟨_,rfl,go,gc,gs,rfl,hog,hrg.mono (fun k h=>by obtain⟨a,ha,rfl⟩:=h;exact hfro a ha),hfg,hF⟩
def kW(L:List By)(t:By):List By×Nat×Nat:=
 if rF t then (L,0,0) else
 if L=[]∨128<(L.getD (L.length-1) []).length+t.length then (L++[t],L.length+1,0) else (L.set (L.length-1) (L.getD (L.length-1) []++t),L.length,(L.getD (L.length-1) []).length)
theorem Hu(L:List By):L.getD (L.length-1) []=L.getLast?.getD []:=by
 rw[List.getLast?_eq_getElem?];simp[WI]
theorem M5(L:List By)(t:By):kW L t=sP L t:=by
 unfold kW sP
 split
 ·rfl
 · rw[Hu]
   split
   · rename_i h
     rw[pY L t h];simp[eX]
   · rename_i h
     have hne:L≠[]:=fun e=>h (.inl e);rw[pX L t hne (fun e=>h (.inr e))];refine Yl ?_ rfl;show L.set (L.length-1) _=eX L t;unfold eX
     conv=>lhs;rw[←Yp hne]
     have hl:(L.dropLast++[L.getLast hne]).length-1=L.dropLast.length:=by simp
     rw[hl,List.set_append_right _ _ (WC _),List.getLast?_eq_some_getLast hne];simp
def Nh(t:By×Int×Int)(off n:Int):By×Int:=
 if t.2.2≠0∨t.1.length=0∨(t.1.length:Int)<off∨(t.1.length:Int)-off<n then ([],35) else ((t.1.drop off.toNat).take n.toNat,0)
def An(im:By)(pl:List Int)(num off n:Int):By×Int:=
 if num<1∨(pl.length:Int)<num∨off<0∨n<0 then ([],1) else Nh (cM im (pl.getD (num-1).toNat 0)) off n
section
variable {im:List UInt8}{fr to:Int}
def AR(im:By)(fr to wide:Int):Nat→Int→Option (List Int×Int)
|0,ref=>some ([],ref)
|k+1,ref=>if (aI im fr to ref wide).2.2≠0 then none else (AR im fr to wide k (aI im fr to ref wide).2.1).map fun p=>(((cC (aI im fr to ref wide).1:Nat):Int)::p.1,p.2)
def tnS(im:By)(fr to many wide:Int):List Int×Int:=
 if many<0∨¬ (wide=2∨wide=4) then ([],1) else if qB im fr to=false then ([],2) else
 match AR im fr to wide many.toNat 0 with
|none=>([],2)
|some (l,r)=>if (aI im fr to r 1).2.2=0 then ([],2) else (l,0)
variable {wide many:Int}{k:Nat}{os:List Int}{ref:Int}
theorem vK(k:Nat)(ref:Int):AR im fr to wide (k+1) ref=if (aI im fr to ref wide).2.2≠0 then none else (AR im fr to wide k (aI im fr to ref wide).2.1).map fun p=>(((cC (aI im fr to ref wide).1:Nat):Int)::p.1,p.2):=rfl
theorem Ih(h:¬ (many<0∨¬ (wide=2∨wide=4)))(hm:qB im fr to=true)(hn:AR im fr to wide many.toNat 0=some (os,ref))(he:(aI im fr to ref 1).2.2≠0):tnS im fr to many wide=(os,0):=by
 unfold tnS;rw[Wt h,Wt (by rw[hm];simp),hn];show (if _ then _ else _)=_;rw[Wt he]
end
def tU(im:By)(fr to ref:Int):By×Int×Int:=
 if (aI im fr to ref 1).2.2≠0 then ([],0,(aI im fr to ref 1).2.2) else aI im fr to (aI im fr to ref 1).2.1 ((aI im fr to ref 1).1.getD 0 0).toNat
def A1(im:By)(fr to:Int):Nat→Int→Option (List By×Int)
|0,ref=>some ([],ref)
|k+1,ref=>if (tU im fr to ref).2.2≠0 then none else (A1 im fr to k (tU im fr to ref).2.1).map fun p=>((tU im fr to ref).1::p.1,p.2)
def mM(l:List By):List Xa:=(List.range (l.length/2)).map fun i=>(l.getD (2*i) [],l.getD (2*i+1) [])
def D4(im:By)(fr to ref:Int):List Xa×Int:=
 if (aI im fr to ref 1).2.2≠0∨((aI im fr to ref 1).1.getD 0 0).toNat=0∨8<((aI im fr to ref 1).1.getD 0 0).toNat then ([],2) else
 match A1 im fr to (2*((aI im fr to ref 1).1.getD 0 0).toNat) (aI im fr to ref 1).2.1 with
|none=>([],2)
|some (l,_)=>if dF (mM l) then (mM l,0) else ([],2)
section
variable {im:List UInt8}{fr to:Int}
theorem NP{ref:Int}(h:(aI im fr to ref 1).2.2=0):tU im fr to ref=aI im fr to (aI im fr to ref 1).2.1 ((aI im fr to ref 1).1.getD 0 0).toNat:=by unfold tU;rw[Wt (fun h'=>h' h)]
variable {r0 ref:Int}{k:Nat}{ls:List (List UInt8)}
theorem nH(k:Nat)(ref:Int):A1 im fr to (k+1) ref=if (tU im fr to ref).2.2≠0 then none else (A1 im fr to k (tU im fr to ref).2.1).map fun p=>((tU im fr to ref).1::p.1,p.2):=rfl
theorem IG(h:¬ ((aI im fr to ref 1).2.2≠0∨((aI im fr to ref 1).1.getD 0 0).toNat=0∨8<((aI im fr to ref 1).1.getD 0 0).toNat)){l:List By}{r:Int}(hn:A1 im fr to (2*((aI im fr to ref 1).1.getD 0 0).toNat) (aI im fr to ref 1).2.1=some (l,r))(hm:dF (mM l)):D4 im fr to ref=(mM l,0):=by
 unfold D4;rw[Wt h,hn];show (if _ then _ else _)=_;rw[Wu hm]
end
def Bd(o:Oper):Bool:=match o.op with|.defer _=>false|_=>true
def eM(Q:Exit→Act→World→Prop):Prop:=¬ LetsOut Q
theorem VZ{Q:Exit→Act→World→Prop}{K:Act→World→Prop}(h:eM Q):eM (Exit.then K Q):=fun⟨a,w,e⟩=>h ⟨a,w,e⟩
theorem eM.block{Q:Exit→Act→World→Prop}{i:Nat}(h:eM Q):eM (Exit.inBlock i Q):=fun⟨a,w,e⟩=>h ⟨a,w,e⟩
theorem eM.post{α:Type}{B:Nat}{Kp:World→World→Prop}{I:List α→World→Prop}{Ix:Code→List α→World→Prop}{xs:List α}{W:World}:eM (ownPostG B Kp I Ix xs W):=fun⟨_,_,e⟩=>e
section
variable {P:Program}{lp n:Nat}
abbrev FR(lp:Nat):Fence:=Fence.wide.inRound lp
theorem KM{f:FuncId}{args:Array Value}{w:World}{R:Ending→World→Prop}(h:Calls P f args w R):CallsIn (FR lp) n P f args w R:=CallsIn.inRound lp (callsIn_wide.2 h)
theorem Lz{row:String}{args:Array Value}{w:World}{R:Value→World→Prop}(h:Rows P row args w R):RowsIn (FR lp) n P row args w R:=fun c cs _=>by
 obtain⟨v,w',r,s⟩:=h c cs;exact⟨v,w',r,stepsIn_wide.2 s⟩
theorem Li{o:Oper}{a:Act}{next next':Act→World→Prop}{Q:Exit→Act→World→Prop}(hn:∀ a w,next a w→next' a w){r:Result Next}(h:o.upon P a next Q r):o.uponIn (FR lp) n P a next' Q r:=by
 rcases r with⟨x,w'⟩|⟨c,w'⟩
 · cases x with
  |value v=>exact hn _ _ h
  |skip=>exact hn _ _ h
  |defer d=>exact hn _ _ h
  |enter f args=>
     refine⟨fun hd=>absurd hd (by simp[FR,Fence.wide]),KM (Calls.mono h ?_)⟩;rintro e w'' he;cases e with
    |returned v=>exact hn _ _ he
    |panicked ch=>exact he
    |outgrown=>exact he
  |row row args=>exact⟨fun hd=>absurd hd (by simp[FR,Fence.wide]),Lz (Rows.mono h (fun v w'' he=>hn _ _ he))⟩
  |_=>exact h.elim
 ·cases c<;>first|exact h|exact h.elim
theorem Bi{ops:Array Oper}{Q:Exit→Act→World→Prop}(hQ:eM Q):∀ (rest:List Oper),rest.all Bd=true→∀ (a:Act) (w:World),wpList P ops Q rest a w→wpListIn (FR lp) n P ops Q rest a w
|[],_,_,_,h=>h
|o::rest,hd,a,w,h=>by
   rw[List.all_cons,WW] at hd;unfold wpList at h;unfold wpListIn;by_cases hw:Region.wanted o (yielded ops a.tmps)
   · rw[Wu hw] at h ⊢
     rcases h with h|⟨_,h⟩
     · refine⟨fun _ _=>trivial,?_⟩
       rw[Oper.semAt_eq _ _ _ (fun c hc=>by have:=hd.1;simp[Bd,hc] at this)];exact Li (Bi hQ rest hd.2) h
     ·exact absurd h hQ
   · rw[Wt hw] at h ⊢
     exact⟨fun _ _=>trivial,Bi hQ rest hd.2 _ _ h⟩
end
def Rc(lp n:Nat)(P:Program)(N:Nt)(c:Code)(Q:Exit→Act→World→Prop)(l:SF)(w:World):Prop:=∀ a,bQ N l a→c.wpIn (FR lp) n P Q a w
section
variable {P:Program}{N:Nt}{Q:Exit→Act→World→Prop}{l:SF}{w:World}{lp n:Nat}
theorem Rc.seq{x y:Code}(h:Rc lp n P N x (Exit.then (y.wpIn (FR lp) n P Q) Q) l w):Rc lp n P N (.seq x y) Q l w:=fun a ha=>wpIn_seq (h a ha)
theorem Rc.block{id:Nat}{c:Code}(h:Rc lp n P N c (Exit.inBlock id Q) l w):Rc lp n P N (.block id c) Q l w:=fun a ha=>wpIn_block (h a ha)
theorem Rc.region{id:Nat}{ops:List Oper}(hQ:eM Q)(hd:ops.all Bd=true)(h:Sl P N ops.toArray Q ops l w):Rc lp n P N (.region id ops.toArray false) Q l w:=fun a ha=>wpIn_region_lit (Bi hQ ops hd a w (h a ha))
theorem V2{c:Operand}{x y:Code}(hc:evL l c=some (.bool true))(h:Rc lp n P N x Q l w):Rc lp n P N (.cond c x y) Q l w:=fun a ha=>wpIn_cond (ha.ev hc) (h a ha)
theorem V3{c:Operand}{x y:Code}(hc:evL l c=some (.bool false))(h:Rc lp n P N y Q l w):Rc lp n P N (.cond c x y) Q l w:=fun a ha=>wpIn_cond (ha.ev hc) (h a ha)
theorem Rc.skip(h:At N .normal Q l w):Rc lp n P N .skip Q l w:=fun a ha=>wpIn_skip (h a ha)
theorem UL{y:Code}(h:Rc lp n P N y Q l w):At N .normal (Exit.then (y.wpIn (FR lp) n P Q) Q) l w:=fun a ha=>h a ha
theorem Rc.cut{x y:Code}{β:Type}(L:β→SF)(J:β→World→Prop)(h1:Rc lp n P N x (Exit.then (fun a w=>∃ b,bQ N (L b) a∧J b w) Q) l w)
 (h2:∀ b w,J b w→Rc lp n P N y Q (L b) w):Rc lp n P N (.seq x y) Q l w:=fun a ha=>
 wpIn_seq (wpIn_mono (h1 a ha) fun e a' w' hq=>by
  cases e with
 |normal=>obtain⟨b,hb,hJ⟩:=hq;exact h2 b w' hJ a' hb
 |_=>exact hq)
theorem UB{α:Type}{B:Nat}{Kp:World→World→Prop}{I:List α→World→Prop}{Ix:Code→List α→World→Prop}{xs:List α}{W:World}(h:KeepsFrom B W w∧Kp W w∧I xs w):At N .normal (ownPostG B Kp I Ix xs W) l w:=fun _ _=>h
end
def Si(n:Nat)(P:Program)(N:Nt)(ops:Array Oper)(Q:Exit→Act→World→Prop)(rest:List Oper)(l:SF)(w:World):Prop:=∀ a,bQ N l a→wpListIn Fence.wide n P ops Q rest a w
section
variable {P:Program}{N:Nt}{Q:Exit→Act→World→Prop}{l:SF}{w:World}{n:Nat}{ops:Array Oper}{rest:List Oper}
variable {op:Op}{ty:TypeId}{pos:String}{aft:Array Edge}{d:Nat}{v:Value}{x:Operand}
theorem UM(n:Nat){id:Nat}{ops:List Oper}(h:Si n P N ops.toArray Q ops l w):Sc P N (.region id ops.toArray false) Q l w:=fun a ha=>wpIn_wide.1 (wpIn_region_lit (h a ha))
theorem Si.calm(hv:Cm P N (· = w.heap) l ⟨some d,op,ty,pos,aft,none⟩ v)(hd:Xb d N.n=true)(h:Si n P N ops Q rest ((d,v)::l) w) :
 Si n P N ops Q (⟨some d,op,ty,pos,aft,none⟩::rest) l w:=fun a ha=>by
 unfold wpListIn;rw[Wu (by simp[Region.wanted])];refine⟨fun _ _=>trivial,?_⟩;show Oper.uponIn _ _ _ _ _ _ _ ((execOp a.eval _).run P w);rw[hv a w ha rfl];exact h _ (ha.put hd v)
theorem V4(h:At N .normal Q l w):Si n P N ops Q [] l w:=fun a ha=>wpListIn_nil (h a ha)
theorem Si.yield{r:Nat}{xs:List Operand}{vs:List Value}{ts:Array TypeId}{A B:World→Prop}(hc:evL l x=some (.func (.yield r) #[] #[]))(hx:sD l xs=some vs)
 (hy:YieldAt Fence.wide (n-1) P r vs.toArray w (fun e W'=>(e=.returned (.bool true)∧A W')∨(e=.returned (.bool false)∧B W')))(hd:Xb d N.n=true)
 (h1:∀ W',A W'→Si n P N ops Q rest ((d,.bool true)::l) W')(h2:∀ W',B W'→Si n P N ops Q rest ((d,.bool false)::l) W') :
 Si n P N ops Q (⟨some d,.call ⟨.value x,xs.toArray,ts⟩,ty,pos,aft,none⟩::rest) l w:=fun a ha=>by
 unfold wpListIn;rw[Wu (by simp[Region.wanted])];refine⟨fun _ _=>trivial,?_⟩;obtain⟨fn,tmps,assign,body,hrun,hR⟩:=hy;have e:(execOp a.eval ⟨some d,.call ⟨.value x,xs.toArray,ts⟩,ty,pos,aft,none⟩).run P w=.ok (.round r fn tmps assign body) w:=by
  have h1:=ha.ev hc;simp[execOp,resolve,h1,Deferred.ofValue,invoke,callFunc];rw[←ha.evs hx] at hrun;exact hrun
 have e2:(Oper.semAt Fence.wide.round a.eval ⟨some d,.call ⟨.value x,xs.toArray,ts⟩,ty,pos,aft,none⟩).run P w=.ok (.round r fn tmps assign body) w:=e;rw[e2];refine⟨fun hd=>absurd hd (by simp[Fence.wide]),hR.mono ?_⟩;rintro e W' (⟨rfl,hA⟩|⟨rfl,hB⟩)
 ·exact h1 W' hA _ (ha.put hd _)
 ·exact h2 W' hB _ (ha.put hd _)
end
def Nt.col(N:Nt)(D:Nat):Nt:=⟨N.n,{ target:=.collected D,args:=#[] } :: N.ds⟩
theorem BD{P:Program}{f:FuncId}{fn:Func}{c:Code}{args:List Value}{w:World}{R:Ending→World→Prop}(N:Nat)(l:SF)
 (hf:P.funcs[f]?=some fn)(hb:fn.body=some c)(hN:fn.ntmps=N)(hle:Nat.ble args.length N=true)
 (hl:∀ t v,lk l t=some v→args[t]?=some v)
 (h:Sc P ⟨N,[]⟩ c (bodyPostM Fence.wide 4 P fn R) l w):Calls P f args.toArray w R:=by
 refine callsIn_wide.1 (callsIn_of_wp_marks (F:=Fence.wide) (n:=4) hf hb trivial (wpIn_wide.2 (h _ ⟨rfl,?_,?_⟩)))
 · have:args.length≤N:=by simpa[Nat.ble_eq] using hle
   simp[hN];omega
 · intro t v ht
   have:=hl t v ht;have hlt:t<args.length:=(Wy.1 this).1;rw[Wv hlt] at this;simpa[Array.getElem?_append,hlt] using this
section
variable {P:Program}{N D:Nat}{fn:Func}{R:Ending→World→Prop}{l:SF}{w:World}
theorem Eu{tmps:Array Value}{v:Value}(hr:(results fn tmps).run P w=.ok v w)(h:R (.returned v) w):LeavesInM Fence.wide 4 P fn tmps R [] .returning w:=by
 unfold LeavesInM LeavesIn;exact⟨v,hr,h⟩
theorem CY{tmps:Array Value}{v:Value}(hD:w.heap[D]?=some (.deferred (some [])))(hr:(results fn tmps).run P (w.putObj D (.deferred none))=.ok v (w.putObj D (.deferred none)))(h:R (.returned v) (w.putObj D (.deferred none))) :
 LeavesInM Fence.wide 4 P fn tmps R [{ target:=.collected D,args:=#[] }] .returning w:=
 ⟨by simp,.inl ⟨_,_,rfl,run_takeDeferred hD,Eu hr h⟩⟩
theorem Hx(hD:w.heap[D]?=some (.deferred (some []))):aA (· = D) w (w.putObj D (.deferred none)):=
 ⟨rfl,rfl,rfl,by simp,fun k _ hk=>World.putObj_heap_other hk⟩
theorem Ue{t u:Nat}{v x:Value}(hr:fn.results=#[.tmp t,.tmp u])(hv:lk l t=some v)(hx:lk l u=some x)(hD:w.heap[D]?=some (.deferred (some [])))
 (h:∀ w',w'=w.putObj D (.deferred none)→aA (· = D) w w'→R (.returned (.tuple #[v,x])) w'):At (Nt.col ⟨N,[]⟩ D) .ret (bodyPostM Fence.wide 4 P fn R) l w:=fun a ha=>by
 show LeavesInM _ _ _ _ _ _ a.defers _ _;rw[ha.dfr];exact CY hD (by rw[results_tmp2 hr]) (by simpa[ha.has t v hv,ha.has u x hx] using h _ rfl (Hx hD))
end
theorem G7{α:Type}{B:Nat}(c:Code):OwnFrom B ((fun(_:Code) (_:List α) (_:World)=>False) c):=fun _ _ _ _ h _ _=>h.elim
theorem Vc{α:Type}{P:Program}{N:Nt}{l:SF}{w w0:World}{Q:Exit→Act→World→Prop}{f p q:Nat}{rid:Nat}{ty:TypeId}{pos:String}{aft:Array Edge}{body:Code}{gf:Nat}{lb:Array Value}{enc:α→Value}
 {Kp:World→World→Prop}{S Sp:List α→Prop}{M:Nat}
 (hf:lk l f=some (.func (.func gf) #[] lb))(hg:fnB P gf=true)(hseq:SeqStopsK Fence.wide 3 P gf lb (fun x=>#[enc x]) Kp S Sp M w0)
 (hKt:∀ {A B C:World},Kp A B→Kp B C→Kp A C)(hKb:∀ (W:World) (l:Nat) (o o':Obj),w.heap.size≤l→W.heap[l]?=some o→o.isCells=false→o.isWalk=false→Kp W (W.putObj l o'))(hb0:Below w0.heap.size w0 w)
 (hp:Xb p N.n=true)(hq:Xb q N.n=true)
 (I:List α→World→Prop)(hI:OwnFrom w.heap.size I)(h0:I [] w)
 (hbody:∀ (lp:Nat) (pre:List α) (x:α) (W:World),I pre W→pre.length<M→Rc lp 2 P ⟨N.n,[]⟩ body (ownPostG w.heap.size Kp I (fun _ _ _=>False) (pre++[x]) W) ((q,enc x)::(p,enc x)::l) W)
 (hdone:∀ (D:Nat) (xs:List α) (W:World),w.heap.size≤D→S xs→I xs W→W.heap[D]?=some (.deferred (some []))→At (N.col D) .normal Q l W) :
 Sc P N (.rangeFunc (.tmp f) #[p] (.region rid #[⟨some q,.assign (.tmp p),ty,pos,aft,none⟩] false) body) Q l w:=fun a ha=>by
 refine wpIn_wide.1 (wpIn_rangeFunc_ownG (F:=Fence.wide) (n:=4) rfl (by decide) (gf:=gf) (lb:=lb) (ha.ev (x:=.tmp f) hf) trivial (eJ hg) hseq hKt hKb hb0 (fun _=>rfl) I (fun _ _ _=>False) hI G7 h0
  (fun x=>{ tmps:=(a.tmps.setIfInBounds p (enc x)).setIfInBounds q (enc x),defers:=[] }) ?_ ?_ ?_ ?_)
 · intro lp x W K hK
   refine wpIn_region_lit (l:=[_]) ?_;unfold wpListIn;rw[Wu (by simp[Region.wanted])];refine⟨fun _ _=>trivial,?_⟩;have hps:p<a.tmps.size:=by rw[ha.siz];simpa[Nat.blt_eq] using hp
   have e:(execOp (Act.eval { tmps:=a.tmps.setIfInBounds p (enc x),defers:=[] }) ⟨some q,.assign (.tmp p),ty,pos,aft,none⟩).run P W=.ok (.value (enc x)) W:=by
    simp[execOp,Act.eval,hps]
   have ez:(#[p].zip #[enc x]).foldl (fun t (x:Nat×Value)=>match x with|(p,v)=>t.setIfInBounds p v) a.tmps=a.tmps.setIfInBounds p (enc x):=by simp
   rw[ez,Oper.semAt_eq _ _ _ (fun c hc=>by cases hc),e];exact hK
 · intro lp pre x W hi hlt
   refine hbody lp pre x W hi hlt _ ⟨rfl,by simp[ha.siz],?_⟩;have h1:bQ N ((q,enc x)::(p,enc x)::l) ((a.put (some p) (enc x)).put (some q) (enc x)):=(ha.put hp _).put hq _;exact h1.has
 · intro D xs W hD hS hi hK
   exact hdone D xs W hD hS hi hK _ ⟨by show _::a.defers=_;rw[ha.dfr];rfl,ha.siz,ha.has⟩
 · intro D c pre W _ _ h _
   exact h.elim
theorem EC{W W':World}{row:Option Nat}(h:W.grownBy W' row):aA (fun k=>some k=row) W W':=⟨h.os,h.tape,h.output,h.size,fun k hk hn=>h.block k hk hn⟩
theorem JC{B:Nat}{S:Nat→Prop}{W w:World}(h:aA S W w)(hs:∀ k,S k→k<W.heap.size→∃ cur T fr,W.heap[k]?=some (.cells cur T fr)):KeepsFrom B W w:=
 ⟨h.size,fun k o _ hk ho=>(h.same k (WD.1 hk).1 (fun hS=>by
  obtain⟨cur,T,fr,e⟩:=hs k hS (WD.1 hk).1;rw[hk] at e;cases e;cases ho)).trans hk⟩
theorem Own.cells{α:Type}{enc:α→Value}{e:TypeId}{H:Array Obj}{ao:Option Addr}{cap:Nat}{xs:List α}(h:Own enc e H ao cap xs){a:Addr}(ha:ao=some a):∃ cur,H[a.block]?=some (.cells cur e (0,0)):=by
 rcases h with⟨rfl,_⟩|⟨g,cur,rfl,hg,_⟩
 ·cases ha
 ·cases ha;exact⟨_,hg⟩
def BbI{α:Type}(e T:TypeId)(bx:Nat)(w0:World)(f:List α→By)(pre:List α)(w:World):Prop:=
 ∃ oo oc,w.heap[bx]?=some (.cells [Value.slice oo (f pre).length oc].toArray T (0,0))∧Own b8 e w.heap oo oc (f pre)∧Fr w0.heap.size oo∧aA (· = bx) w0 w
theorem BbI.own{α:Type}{e T:TypeId}{bx:Nat}{w0:World}{f:List α→By}:OwnFrom w0.heap.size (BbI (α:=α) e T bx w0 f):=fun pre W W' row ⟨oo,oc,h1,h2,h3,h4⟩ hg hr=>by
 have g:=EC hg;refine⟨oo,oc,g.obj h1 (fun e=>?_),h2.Ws g (fun a ha e=>?_),h3,h4.Wo g (fun k e=>.inr (hr k e.symm).1)⟩
 · obtain⟨_,o,ho,hc⟩:=hr bx e.symm
   rw[h1] at ho;cases ho;cases hc
 · obtain⟨_,o,ho,hc⟩:=hr a.block e.symm
   obtain⟨cur,hcur⟩:=h2.cells ha;rw[hcur] at ho;cases ho;cases hc
section
variable {P:Program}{N:Nt}{Q:Exit→Act→World→Prop}{l:SF}{w:World}{ops:Array Oper}{rest:List Oper}
variable {ty:TypeId}{pos:String}{aft:Array Edge}{d g:Nat}{x:Operand}{s:ByteArray}{p:Nat}
theorem UC{t:TypeId}(ht:P.underlying t=some .string)(hx:evL l x=some (.string s))(hd:Xb d N.n=true)
 (h:∀ w',w'.heap[w.heap.size]?=some (.stringIter s 0)→w'.heap.size=w.heap.size+1→aA nob w w'→Sl P N ops Q rest ((d,pT w.heap.size)::l) w') :
 Sl P N ops Q (⟨some d,.range t x,ty,pos,aft,none⟩::rest) l w:=by
 refine Tk (w':=w.alloc (.stringIter s 0)) (fun a ha=>?_) hd (h _ (heap_alloc_new w _) (by simp) (aA.alloc _ _ _));simp[execOp,ha.ev hx,Instr.range,run_underlying ht,newObj];rfl
theorem Vd(hx:evL l x=some (pT g))(hg:w.heap[g]?=some (.stringIter s p))(hp:p<s.size)(hd:Xb d N.n=true)
 (h:∀ w',w'.heap[g]?=some (.stringIter s (p+(Utf8.decode s p).2))→w'.heap.size=w.heap.size→aA (· = g) w w'→Sl P N ops Q rest ((d,.tuple #[.bool true,iV p,.int .i32 (Utf8.decode s p).1])::l) w') :
 Sl P N ops Q (⟨some d,.next x true,ty,pos,aft,none⟩::rest) l w:=by
 obtain⟨s1,s2,s3⟩:=nE (o':=.stringIter s (p+(Utf8.decode s p).2)) hg;refine Tk (w':=ChangeMaps.setBlock w g (.stringIter s (p+(Utf8.decode s p).2))) (fun b hb=>?_) hd (h _ s1 s2 s3);simp[execOp,hb.ev hx,Instr.next,getObj,setObj,Sem.run,hg,hp,Result.andThen,ChangeMaps.setBlock,goInt]
theorem Ve(hx:evL l x=some (pT g))(hg:w.heap[g]?=some (.stringIter s p))(hp:¬ p<s.size)(hd:Xb d N.n=true)
 (h:Sl P N ops Q rest ((d,.tuple #[.bool false])::l) w) :
 Sl P N ops Q (⟨some d,.next x true,ty,pos,aft,none⟩::rest) l w:=by
 refine Tk (w':=w) (fun b hb=>?_) hd h;simp[execOp,hb.ev hx,Instr.next,getObj,Sem.run,hg,hp,Result.andThen]
end
theorem KQ(s:By){i:Nat}(h:i<s.length):(bs s).get! i=s[i]:=by
 show (s.toArray)[i]! = _;rw[getElem!_pos s.toArray i (by simpa using h)];simp
theorem AZ{s:By}{p:Nat}(hp:p<s.length) :
 1≤(Utf8.decode (bs s) p).2∧p+(Utf8.decode (bs s) p).2≤s.length∧(Utf8.decode (bs s) p).1<1114112 ∧
 ((s.getD p 0).toNat<128→(Utf8.decode (bs s) p).1=(s.getD p 0).toNat)∧(128≤(s.getD p 0).toNat→128≤(Utf8.decode (bs s) p).1) ∧
 ∀ k,p<k→k<p+(Utf8.decode (bs s) p).2→128≤(s.getD k 0).toNat:=by
 have hz:=iQ s;have e0:(bs s).get! (p+0)=s.getD p 0:=by rw[Nat.add_zero,KQ s hp];simp[WI,hp]
 have ek:∀ k,p+k<s.length→(bs s).get! (p+k)=s.getD (p+k) 0:=fun k h=>by rw[KQ s h];simp[WI,h]
 have b0:=(s.getD p 0).toNat_lt;unfold Utf8.decode;simp only[e0,hz];by_cases h1:(s.getD p 0).toNat<0x80
 · rw[Wu h1]
   exact⟨by simp,by simp;omega,by show (s.getD p 0).toNat<1114112;omega,fun _=>rfl,fun h=>by omega,fun k h2 h3=>by simp at h3;omega⟩
 · rw[Wt h1]
   have bad:∀ r:Nat×Nat,r=(Utf8.runeError,1)→1≤r.2∧p+r.2≤s.length∧r.1<1114112∧((s.getD p 0).toNat<128→r.1=(s.getD p 0).toNat)∧(128≤(s.getD p 0).toNat→128≤r.1)∧∀ k,p<k→k<p+r.2→128≤(s.getD k 0).toNat:=by
    rintro r rfl;exact⟨by simp,by simp;omega,by simp[Utf8.runeError],fun h=>by omega,fun h=>by simp[Utf8.runeError],fun k h2 h3=>by simp at h3;omega⟩
   have cont:∀ k,(decide (p+k<s.length) && ((bs s).get! (p+k)).toNat/64 == 2)=true→p+k<s.length∧128≤(s.getD (p+k) 0).toNat:=fun k h=>by
    simp only[WW,decide_eq_true_eq,beq_iff_eq] at h;have:=h.2;rw[ek k h.1] at this;exact⟨h.1,by omega⟩
   split
   · rename_i h2
     rw[WW] at h2;obtain⟨c1,d1⟩:=cont 1 h2.2
     split
     · rename_i h3
       refine⟨by simp,by simp;omega,?_,fun h=>by omega,fun _=>h3,fun k h4 h5=>?_⟩
       ·show _<1114112;omega
       · have h5:k<p+2:=h5
         have:k=p+1:=by omega
         subst this;exact d1
     ·exact bad _ rfl
   · split
     · rename_i h2
       simp only[WW] at h2;obtain⟨c1,d1⟩:=cont 1 (by simpa using h2.1.2);obtain⟨c2,d2⟩:=cont 2 (by simpa using h2.2)
       split
       · rename_i h3
         simp only[WW,decide_eq_true_eq] at h3;refine⟨by simp,by simp;omega,?_,fun h=>by omega,fun _=>W9 (by decide) h3.1,fun k h4 h5=>?_⟩
         ·show _<1114112;omega
         · have h5:k<p+3:=h5
           rcases(by omega:k=p+1∨k=p+2) with rfl|rfl
           ·exact d1
           ·exact d2
       ·exact bad _ rfl
     · split
       · rename_i h2
         simp only[WW] at h2;obtain⟨c1,d1⟩:=cont 1 (by simpa using h2.1.1.2);obtain⟨c2,d2⟩:=cont 2 (by simpa using h2.1.2);obtain⟨c3,d3⟩:=cont 3 (by simpa using h2.2)
         split
         · rename_i h3
           simp only[WW,decide_eq_true_eq,ge_iff_le] at h3;refine⟨by simp,by simp;omega,?_,fun h=>by omega,fun _=>W9 (by decide) h3.1,fun k h4 h5=>?_⟩
           · have h6:=h3.2
             simp only[Utf8.valid,X3,WW,decide_eq_true_eq] at h6;show _<1114112;omega
           · have h5:k<p+4:=h5
             rcases(by omega:k=p+1∨k=p+2∨k=p+3) with rfl|rfl|rfl
             ·exact d1
             ·exact d2
             ·exact d3
         ·exact bad _ rfl
       ·exact bad _ rfl
def rB(s:By)(p:Nat):Prop:=∀ k,k<p→s.getD k 0≠0∧s.getD k 0≠47
theorem EU{s:By}{p:Nat}(hp:p<s.length)(h:rB s p)(h0:(Utf8.decode (bs s) p).1≠0)(h47:(Utf8.decode (bs s) p).1≠47):rB s (p+(Utf8.decode (bs s) p).2):=by
 obtain⟨r1,r2,r3,r4,r5,r6⟩:=AZ hp;intro k hk;by_cases hkp:k<p
 ·exact h k hkp
 by_cases hkp2:k=p
 · subst hkp2
   by_cases hlt:(s.getD k 0).toNat<128
   · have e:=r4 hlt
     exact⟨fun h=>h0 (by rw[e,h];rfl),fun h=>h47 (by rw[e,h];rfl)⟩
   ·exact⟨fun h=>by rw[h] at hlt;exact hlt (by decide),fun h=>by rw[h] at hlt;exact hlt (by decide)⟩
 · have:=r6 k (by omega) hk
   exact⟨fun h=>by rw[h] at this;revert this;decide,fun h=>by rw[h] at this;revert this;decide⟩
theorem AF{s:By}{p:Nat}(hp:p<s.length){c:UInt8}(hc:c.toNat<128)(h:(Utf8.decode (bs s) p).1=c.toNat):c∈s:=by
 obtain⟨r1,r2,r3,r4,r5,r6⟩:=AZ hp;by_cases hlt:(s.getD p 0).toNat<128
 · have e:=r4 hlt
   have:s.getD p 0=c:=XV.1 (by omega);rw[←this];simp[WI,hp]
 ·have:=r5 (by omega);omega
theorem AG{s:By}(h:rB s s.length):(0:UInt8)∉s∧(47:UInt8)∉s:=by
 constructor
 · intro hm
   obtain⟨i,hi,e⟩:=Xn hm;exact(h i hi).1 (by simp[WI,hi,e])
 · intro hm
   obtain⟨i,hi,e⟩:=Xn hm;exact(h i hi).2 (by simp[WI,hi,e])
def cZ(s:By):Int:=if 255<s.length then 23 else if s=[]∨s=[46]∨s=[46,46]∨(0:UInt8)∈s∨(47:UInt8)∈s then 22 else 0
theorem jN{s:By}(h:cZ s=0):s.length≤255∧s≠[]∧(0:UInt8)∉s∧(47:UInt8)∉s:=by
 unfold cZ at h
 split at h
 ·simp at h
 · split at h
   ·simp at h
   · rename_i h1 h2
     simp only[not_or] at h2;exact⟨by omega,h2.1,h2.2.2.2.1,h2.2.2.2.2⟩
def gG:List By→Int
|[]=>0
|s::r=>if cZ s=0 then gG r else cZ s
theorem oU:∀ {A B:List By},(∀ s∈A,cZ s=0)→gG (A++B)=gG B
|[],B,_=>rfl
|a::A,B,h=>by
   show (if cZ a=0 then gG (A++B) else cZ a)=_;rw[Wu (h a (by simp)),oU (fun s hs=>h s (by simp[hs]))]
theorem Hg{A B:List By}{s:By}(h:∀ s∈A,cZ s=0)(hs:cZ s≠0):gG (A++s::B)=cZ s:=by
 rw[oU h];show (if cZ s=0 then _ else _)=_;rw[Wt hs]
theorem oT{A:List By}(h:∀ s∈A,cZ s=0):gG A=0:=by
 have:=oU (B:=[]) h;rw[XK] at this;exact this
theorem CQ{A:List By}(h:gG A=0):∀ s∈A,cZ s=0:=by
 induction A with
|nil=>simp
|cons a A ih=>
   have h:(if cZ a=0 then gG A else cZ a)=0:=h;by_cases ha:cZ a=0
   · rw[Wu ha] at h
     intro s hs;rcases W5.1 hs with rfl|hs
     ·exact ha
     ·exact ih h s hs
   ·rw[Wt ha] at h;exact absurd h ha
def dT(l:List Nd):List By:=l.flatMap (·.names)
theorem CR{l:List Nd}{n:Nd}{i k:Nat}{s:By}(hn:l[i]?=some n)(hs:n.names[k]?=some s)(h1:∀ s∈dT (l.take i),cZ s=0)(h2:∀ s∈n.names.take k,cZ s=0)(h3:cZ s≠0):gG (dT l)=cZ s:=by
 have hi:=(Wy.1 hn).1;have hk:=(Wy.1 hs).1;have e1:l=l.take i++n::l.drop (i+1):=by rw[←(Wy.1 hn).2,List.getElem_cons_drop,WX]
 have e2:n.names=n.names.take k++s::n.names.drop (k+1):=by rw[←(Wy.1 hs).2,List.getElem_cons_drop,WX]
 have e3:dT l=(dT (l.take i)++n.names.take k)++s::(n.names.drop (k+1)++dT (l.drop (i+1))):=by
  conv=>lhs;rw[e1]
  simp only[dT,List.flatMap_append,List.flatMap_cons]
  conv=>lhs;rw[e2]
  simp
 rw[e3];exact Hg (fun s hs=>(WZ.1 hs).elim (h1 s) (h2 s)) h3
theorem tkL{α:Type}{l:List α}{i:Nat}{x:α}(h:l[i]?=some x):l.take (i+1)=l.take i++[x]:=by
 rw[WV (Wy.1 h).1,(Wy.1 h).2]
theorem yJ(l:List Nd)(n:Nd):dT (l++[n])=dT l++n.names:=by simp[dT]
def dY(l:List By):By:=47::Lib.join l [47]
def jE(l:List By):Prop:=∀ s∈l,s≠[]∧(47:UInt8)∉s
theorem eH(x:By)(r:List By):Lib.joinTail [47] (x::r)=47::(x++Lib.joinTail [47] r):=by simp[Lib.joinTail]
theorem lE(x:By)(r:List By):dY (x::r)=Lib.joinTail [47] (x::r):=by rw[dY,Lib.join_cons,eH]
theorem Ny:∀ {x y A B:By},(47:UInt8)∉x→(47:UInt8)∉y→(A=[]∨∃ A',A=47::A')→(B=[]∨∃ B',B=47::B')→x++A=y++B→x=y∧A=B
|[],[],A,B,_,_,_,_,h=>⟨rfl,h⟩
|[],b::y,A,B,_,h2,h3,_,h=>by
   rcases h3 with rfl|⟨A',rfl⟩
   ·cases h
   · simp only[Xc,Xq,Yr.injEq] at h
     exact absurd (by rw[h.1];exact YY) h2
|a::x,[],A,B,h1,_,_,h4,h=>by
   rcases h4 with rfl|⟨B',rfl⟩
   ·cases h
   · simp only[Xc,Xq,Yr.injEq] at h
     exact absurd (by rw[←h.1];exact YY) h1
|a::x,b::y,A,B,h1,h2,h3,h4,h=>by
   simp only[Xq,Yr.injEq] at h;obtain⟨e1,e2⟩:=Ny (fun m=>h1 (XI _ m)) (fun m=>h2 (XI _ m)) h3 h4 h.2;exact⟨by rw[h.1,e1],e2⟩
theorem zI(r:List By):Lib.joinTail [47] r=[]∨∃ A',Lib.joinTail [47] r=47::A':=by
 cases r with
|nil=>exact .inl rfl
|cons x r=>exact .inr ⟨_,eH x r⟩
theorem B8:∀ {a b:List By},jE a→jE b→Lib.joinTail [47] a=Lib.joinTail [47] b→a=b
|[],[],_,_,_=>rfl
|[],y::b,_,_,h=>by rw[eH] at h;cases h
|x::a,[],_,_,h=>by rw[eH] at h;cases h
|x::a,y::b,ha,hb,h=>by
   rw[eH,eH,Yr.injEq] at h;obtain⟨e1,e2⟩:=Ny (ha x (by simp)).2 (hb y (by simp)).2 (zI a) (zI b) h.2;rw[e1,B8 (fun s hs=>ha s (by simp[hs])) (fun s hs=>hb s (by simp[hs])) e2]
theorem G5{a b:List By}(ha:jE a)(hb:jE b)(h:dY a=dY b):a=b:=by
 match a,b with
|[],[]=>rfl
|[],y::b=>
   rw[lE,eH,dY,Lib.join_nil,Yr.injEq] at h;exact absurd (List.append_eq_nil_iff.1 h.2.symm).1 (hb y (by simp)).1
|x::a,[]=>
   rw[lE,eH,dY,Lib.join_nil,Yr.injEq] at h;exact absurd (List.append_eq_nil_iff.1 h.2).1 (ha x (by simp)).1
|x::a,y::b=>
   rw[lE,lE] at h;exact B8 ha hb h
theorem B7:∀ {r:List By},(∀ s∈r,s.length≤255)→(Lib.joinTail [47] r).length≤256*r.length
|[],_=>by simp[Lib.joinTail]
|x::r,h=>by
   have ih:=B7 (fun s hs=>h s (XI _ hs));have hx:=h x (by simp);rw[eH];simp only[WT,Ww];omega
theorem wV{l:List By}(h:∀ s∈l,s.length≤255):(Lib.join l [47]).length≤256*l.length:=by
 cases l with
|nil=>simp[Lib.join_nil]
|cons x r=>
   have ih:=B7 (fun s hs=>h s (XI _ hs));have hx:=h x (by simp);rw[Lib.join_cons];simp only[WT,Ww];omega
def okT(n:Nd):Prop:=if n.kind=3 then n.tgt≠[]∧n.tgt.length≤200∧(0:UInt8)∉n.tgt else n.tgt=[]
instance (n:Nd):Decidable (okT n):=by unfold okT;exact inferInstance
def dL(n:Nd):Prop:=(1≤n.kind∧n.kind≤3)∧n.opq=false∧(0≤n.md∧n.md≤511)∧(0≤n.ud∧n.ud≤65535)∧(0≤n.gd∧n.gd≤65535)∧(n.kind=2∨n.data=[])∧n.data.length≤4096∧okT n∧dF n.xs
instance (n:Nd):Decidable (dL n):=by unfold dL;exact inferInstance
def Alk(a b:Nd):Prop:=a.kind=b.kind∧(a.md=b.md∧a.ud=b.ud∧a.gd=b.gd)∧a.tgt=b.tgt∧a.opq=b.opq∧a.data=b.data∧a.xs=b.xs
instance (a b:Nd):Decidable (Alk a b):=by unfold Alk;exact inferInstance
theorem V5(a:Nd):Alk a a:=⟨rfl,⟨rfl,rfl,rfl⟩,rfl,rfl,rfl,rfl⟩
theorem Alk.symm{a b:Nd}(h:Alk a b):Alk b a:=⟨h.1.symm,⟨h.2.1.1.symm,h.2.1.2.1.symm,h.2.1.2.2.symm⟩,h.2.2.1.symm,h.2.2.2.1.symm,h.2.2.2.2.1.symm,h.2.2.2.2.2.symm⟩
theorem Alk.trans{a b c:Nd}(h:Alk a b)(g:Alk b c):Alk a c:=
 ⟨h.1.trans g.1,⟨h.2.1.1.trans g.2.1.1,h.2.1.2.1.trans g.2.1.2.1,h.2.1.2.2.trans g.2.1.2.2⟩,h.2.2.1.trans g.2.2.1,h.2.2.2.1.trans g.2.2.2.1,h.2.2.2.2.1.trans g.2.2.2.2.1,h.2.2.2.2.2.trans g.2.2.2.2.2⟩
def bL(l:List Nd):Prop:=¬ l.Pairwise fun a b=>a.names≠b.names
def fD(l:List Nd)(s:List By):Prop:=∃ n∈l,n.names=s∧n.kind=1
def gE(b a:Nd):Prop:=a.ino=b.ino→a.kind≠1∧Alk a b
instance (b a:Nd):Decidable (gE b a):=by unfold gE;exact inferInstance
instance (l:List Nd):Decidable (bL l):=by unfold bL;exact inferInstance
instance (l:List Nd)(s:List By):Decidable (fD l s):=by unfold fD;exact inferInstance
def chk(l:List Nd):Int:=
 if 1024<l.length then 3 else if gG (dT l)≠0 then gG (dT l) else if ∃ n∈l,16<n.names.length then 9 else if bL l then 6
 else if ¬ fD l [] then 4 else if ∃ n∈l,n.names≠[]∧¬ fD l n.names.dropLast then 5 else if ∃ n∈l,¬ dL n then 7 else if l.Pairwise gE then 0 else 8
theorem zC{s:By}(h:(255:Int)<s.length):cZ s=23:=by unfold cZ;rw[Wu (by omega)]
theorem eP{s:By}(h:¬ (255:Int)<s.length)(h2:s=[]∨s=[46]∨s=[46,46]∨(0:UInt8)∈s∨(47:UInt8)∈s):cZ s=22:=by unfold cZ;rw[Wt (by omega),Wu h2]
theorem zD{s:By}(h:¬ (255:Int)<s.length)(h1:¬ s=[])(h2:¬ s=[46])(h3:¬ s=[46,46])(h4:(0:UInt8)∉s∧(47:UInt8)∉s):cZ s=0:=by
 unfold cZ;rw[Wt (by omega),Wt (fun e=>e.elim h1 fun e=>e.elim h2 fun e=>e.elim h3 fun e=>e.elim h4.1 h4.2)]
theorem BR(s:By)(W:World)(hs:s.length≤maxLen):CA 147 [.string (bs s)] W fun v w'=>v=iV (cZ s)∧aA nob W w':=by
 have hl:(s.length:Int)≤9223372036854775807:=by unfold maxLen at hs;omega
 refine cS 31 [(0,_)] Tryz.func147 ?_;refine Gz 10 ?_;refine cL (Te ty9 rfl) ?_;refine fK 0 ?_ ?_<;>intro h8
 ·refine Gz 13 ?_;exact⟨_,rfl,by rw[zC h8],VK _ _⟩
 refine fK 7 ?_ ?_<;>intro h11
 ·refine Gz 21 ?_;exact⟨_,rfl,by rw[eP h8 (.inl h11)],VK _ _⟩
 refine fW 2 ?_ ?_<;>intro h14
 ·refine Gz 18 ?_;exact⟨_,rfl,by rw[eP h8 (.inr (.inl h14))],VK _ _⟩
 refine fW 3 ?_ ?_<;>intro h18
 ·refine Gz 14 ?_;exact⟨_,rfl,by rw[eP h8 (.inr (.inr (.inl h18)))],VK _ _⟩
 refine Gz 12 ?_;refine UC ty9 rfl rfl ?_;intro w1 hg1 hs1 hf1;obtain⟨g,hg⟩:∃ g,g=W.heap.size:=⟨_,rfl⟩
 rw[←hg] at hg1 ⊢;refine Gz 3 ?_;refine SO (β:=Nat) (fun p=>[(0,.string (bs s)),(21,pT g)]) (fun p w=>w.heap[g]?=some (.stringIter (bs s) p)∧p≤s.length∧rB s p∧aA nob W w) (fun p=>s.length-p) 0 ⟨rfl,rfl,trivial⟩ ⟨hg1,WG _,fun k hk=>by omega,hf1⟩ ?_;rintro p w2 ⟨hg2,hp,hcl,hF2⟩;refine Gz 2 ?_;by_cases h22:p<(bs s).size
 ·refine Vd rfl hg2 h22 rfl ?_;intro w3 hg3 hs3 hf3;have hpl:p<s.length:=by rw[iQ] at h22;exact h22
  obtain⟨r1,r2,r3,r4,r5,r6⟩:=AZ hpl;refine fK 17 ?_ ?_<;>intro h26
  ·have hb:cZ s=22:=eP h8 (.inr (.inr (.inr (.inl (AF hpl (c:=0) (by decide) (by show _=0;omega))))));refine Gz 18 ?_;exact⟨_,rfl,by rw[hb],hF2.Wo hf3 (fun k e=>.inr (by have e:k=g:=e;omega))⟩
  refine fW 2 ?_ ?_<;>intro h29
  ·have hb:cZ s=22:=eP h8 (.inr (.inr (.inr (.inr (AF hpl (c:=47) (by decide) (by show _=47;omega))))));refine Gz 15 ?_;exact⟨_,rfl,by rw[hb],hF2.Wo hf3 (fun k e=>.inr (by have e:k=g:=e;omega))⟩
  refine Gz 6 ?_;have hF3:aA nob W w3:=hF2.Wo hf3 (fun k e=>.inr (by have e:k=g:=e;omega));exact aG (p+(Utf8.decode (bs s) p).2) ⟨hg3,r2,EU hpl hcl (by omega) (by omega),hF3⟩ (by show s.length-(p+(Utf8.decode (bs s) p).2)<s.length-p;omega)
 refine Ve rfl hg2 h22 rfl ?_;have hpe:p=s.length:=by rw[iQ] at h22;omega
 subst hpe;refine Gz 17 ?_;exact⟨_,rfl,by rw[zD h8 h11 h14 h18 (AG hcl)],hF2⟩
theorem GK(s:By)(W:World)(hs:s.length≤maxLen):CA 136 [.string (bs s)] W fun v w'=>v=iV (cZ s)∧w'=W:=by
 have hl:(s.length:Int)≤9223372036854775807:=by unfold maxLen at hs;omega
 refine cS 33 [(0,_)] Tryz.func136 ?_;refine Gz 9 ?_;refine cL (Te ty9 rfl) ?_;refine fK 0 ?_ ?_<;>intro h6
 ·refine Gz 11 ?_;exact⟨_,rfl,by rw[zC h6],rfl⟩
 refine Gz 12 ?_;refine SO (β:=Nat) (fun k=>[(0,.string (bs s)),(3,iV k)]) (fun k w=>k≤s.length∧rB s k∧w=W) (fun k=>s.length-k) 0 ⟨rfl,rfl,trivial⟩ ⟨WG _,fun k hk=>by omega,rfl⟩ ?_;rintro k w2 ⟨hk,hcl,hw2⟩;subst hw2;refine Gz 5 ?_;refine cL (Te ty9 rfl) ?_;refine fK 0 ?_ ?_<;>intro h10
 ·refine Gz 11 ?_;refine cL (T2 ty9 rfl rfl (by omega)) ?_;refine fK 0 ?_ ?_<;>intro h16
  ·have hm:(0:UInt8)∈s:=by have e:s.getD k 0=0:=XV.1 (by have h16:((s.getD ((k:Int)).toNat 0).toNat:Int)=0:=h16;have e2:((k:Int)).toNat=k:=rfl;rw[e2] at h16;show _=0;omega);have hk2:k<s.length:=(by omega);rw[WI,Wv hk2] at e;rw[←e];exact Xw hk2
   refine Gz 21 ?_;exact⟨_,rfl,by rw[eP h6 (.inr (.inr (.inr (.inl hm))))],rfl⟩
  have g1:s.getD k 0≠0:=by intro e;apply h16;show ((s.getD k 0).toNat:Int)=0;rw[e];rfl
  refine Gz 3 ?_;refine cW (T2 ty9 rfl rfl (by omega)) ?_;refine fW 0 ?_ ?_<;>intro h21
  ·have hm:(47:UInt8)∈s:=by have e:s.getD k 0=47:=XV.1 (by have h21:((s.getD ((k:Int)).toNat 0).toNat:Int)=47:=h21;have e2:((k:Int)).toNat=k:=rfl;rw[e2] at h21;show _=47;omega);have hk2:k<s.length:=(by omega);rw[WI,Wv hk2] at e;rw[←e];exact Xw hk2
   refine Gz 16 ?_;exact⟨_,rfl,by rw[eP h6 (.inr (.inr (.inr (.inr hm))))],rfl⟩
  have g2:s.getD k 0≠47:=by intro e;apply h21;show ((s.getD k 0).toNat:Int)=47;rw[e];rfl
  refine Gz 12 ?_;refine aG (k+1) ⟨by omega,fun i hi=>?_,rfl⟩ (by show s.length-(k+1)<s.length-k;omega);by_cases hik:i=k
  ·subst hik;exact⟨g1,g2⟩
  ·exact hcl i (by omega)
 refine fK 12 ?_ ?_<;>intro h24
 ·refine Gz 19 ?_;exact⟨_,rfl,by rw[eP h6 (.inl h24)],rfl⟩
 refine fW 2 ?_ ?_<;>intro h27
 ·refine Gz 16 ?_;exact⟨_,rfl,by rw[eP h6 (.inr (.inl h27))],rfl⟩
 refine fW 3 ?_ ?_<;>intro h31
 ·refine Gz 12 ?_;exact⟨_,rfl,by rw[eP h6 (.inr (.inr (.inl h31)))],rfl⟩
 refine Gz 13 ?_;have hke:k=s.length:=by omega
 subst hke;exact⟨_,rfl,by rw[zD h6 h24 h27 h31 (AG hcl)],rfl⟩
section
theorem SC(a:Addr)(i j:Nat):(a.add i).add j=a.add (i+j):=Addr.add_add a i j
theorem CX{α:Type}{a b:List α}(hl:a.length=b.length){k:Nat}(hk:a.length≤k)(d:α)(h:∀ i,i<k→i<a.length→a.getD i d=b.getD i d):a=b:=by
 apply List.ext_getElem hl;intro i h1 h2;have:=h i (by omega) h1;simpa[WI,h1,h2] using this
theorem Co(ao bo:Option Addr)(ac bc:Nat)(a b:List By)(W:World)(ha:Vw gQ W.heap ao ac a)(hb:Vw gQ W.heap bo bc b) :
 CA 39 [.slice ao a.length ac,.slice bo b.length bc] W fun v w'=>v=.bool (decide (a=b))∧aA nob W w':=by
 have h63:=ha.Wq;refine cS 26 [(0,_),(1,_)] Tryz.func39 ?_;refine fK 12 ?_ ?_<;>intro h10
 ·refine Gz 11 ?_;exact⟨_,rfl,by rw[Wx (fun e=>by subst e;exact h10 rfl)],VK _ _⟩
 refine Gz 12 ?_;refine SO (β:=Nat) (fun k=>[(0,.slice ao a.length ac),(1,.slice bo b.length bc),(5,iV k)]) (fun k w=>k≤a.length∧(∀ i,i<k→i<a.length→a.getD i []=b.getD i [])∧aA nob W w) (fun k=>a.length-k) 0 ⟨rfl,rfl,rfl,trivial⟩ ⟨WG _,fun i hi=>by omega,VK _ _⟩ ?_;rintro k w2 ⟨hk,hsm,hF2⟩;refine fK 6 ?_ ?_<;>intro h14
 ·have hka:k<a.length:=by omega
  have hkb:k<b.length:=by omega
  have ha2:=ha.Wr hF2;have hb2:=hb.Wr hF2;refine Gz 8 ?_;refine Tg 9 [0,1,2,3,4,5,6,7,8] aL (by kernel_rfl) ?_;refine Gz 2 ?_;refine xC rfl (SI jK rfl rfl ha2.non (by omega)) ?_;refine xC rfl (SM fT rfl (ha2.get k (a.getD k []) (by simp[WI,hka]))) ?_;refine Gz 2 ?_;refine xC rfl (SI jK rfl rfl hb2.non (by omega)) ?_;refine xC rfl (SM fT rfl (hb2.get k (b.getD k []) (by simp[WI,hkb]))) ?_;refine xK 0 ?_ ?_<;>intro h25
  ·refine Gz 15 ?_;exact⟨_,rfl,by rw[Wx (fun e=>h25 (by rw[e]))],hF2.draws 1⟩
  refine Gz 11 ?_;refine aG (k+1) ⟨by omega,fun i hi hia=>?_,hF2.draws 1⟩ (by show a.length-(k+1)<a.length-k;omega);by_cases hik:i=k
  ·subst hik;exact W3.1 h25
  ·exact hsm i (by omega) hia
 refine Gz 15 ?_;exact⟨_,rfl,by rw[WA (CX (by omega) (k:=k) (by omega) [] hsm)],hF2⟩
def fP(ps:List (NdH×Nd))(s:List By):Int:=match ps.findIdx? (fun p=>decide (p.2.names=s)) with|some i=>i|none=>-1
theorem Hz{ps:List (NdH×Nd)}{s:List By}{i:Nat}{p:NdH×Nd}(hp:ps[i]?=some p)(h1:p.2.names=s)(h2:∀ j q,j<i→ps[j]?=some q→q.2.names≠s):fP ps s=i:=by
 have hi:=(Wy.1 hp).1;have:ps.findIdx? (fun p=>decide (p.2.names=s))=some i:=by
  rw[Xu];refine⟨hi,by rw[(Wy.1 hp).2];exact WA h1,fun j hj=>?_⟩;have:=h2 j _ hj (Wv (by omega));simpa using this
 unfold fP;rw[this]
theorem xH{ps:List (NdH×Nd)}{s:List By}(h:∀ p∈ps,p.2.names≠s):fP ps s = -1:=by
 have:ps.findIdx? (fun p=>decide (p.2.names=s))=none:=by
  rw[XX];intro p hp;exact Wx (h p hp)
 unfold fP;rw[this]
theorem fJ(ps:List (NdH×Nd))(s:List By):(fP ps s = -1∧∀ p∈ps,p.2.names≠s)∨∃ (i:Nat) (p:NdH×Nd),fP ps s=i∧ps[i]?=some p∧p.2.names=s∧∀ j q,j<i→ps[j]?=some q→q.2.names≠s:=by
 by_cases h:∃ p∈ps,p.2.names=s
 · right
   obtain⟨i,hi⟩:∃ i,ps.findIdx? (fun p=>decide (p.2.names=s))=some i:=by
    cases hf:ps.findIdx? (fun p=>decide (p.2.names=s)) with
   |some i=>exact⟨i,rfl⟩
   |none=>
      rw[XX] at hf;obtain⟨p,hp,e⟩:=h;have:=hf p hp;simp[e] at this
   obtain⟨h1,h2,h3⟩:=Xu.1 hi;refine⟨i,ps[i],by unfold fP;rw[hi],Wv h1,by simpa using h2,fun j q hj hq=>?_⟩;have:=h3 j hj;rw[(Wy.1 hq).2] at this;simpa using this
 · left
   have h':∀ p∈ps,p.2.names≠s:=fun p hp e=>h ⟨p,hp,e⟩;exact⟨xH h',h'⟩
variable {D:Nat→Prop}
theorem Cr(lo:Option Addr)(lc:Nat)(ps:List (NdH×Nd))(so:Option Addr)(sc:Nat)(s:List By)(W:World)(hv:aQ D W.heap lo lc ps)(hs:Vw gQ W.heap so sc s) :
 CA 190 [.slice lo ps.length lc,.slice so s.length sc] W fun v w'=>v=iV (fP ps s)∧aA nob W w':=by
 have h63:=hv.1.Wq;refine cS 22 [(0,_),(1,_)] Tryz.func190 ?_;refine Gz 12 ?_;refine SO (β:=Nat) (fun k=>[(0,.slice lo ps.length lc),(1,.slice so s.length sc),(5,iV k)]) (fun k w=>k≤ps.length∧(∀ j q,j<k→ps[j]?=some q→q.2.names≠s)∧aA nob W w) (fun k=>ps.length-k) 0 ⟨rfl,rfl,rfl,trivial⟩ ⟨WG _,fun i q hi=>by omega,VK _ _⟩ ?_;rintro k w2 ⟨hk,hno,hF2⟩;refine fK 6 ?_ ?_<;>intro h10
 ·obtain⟨p,hp⟩:∃ p,ps[k]?=some p:=⟨_,Wv (by omega)⟩
  have hv2:=hv.Wr hF2;have hn2:=(hv2.2 p (Wz hp)).1;obtain⟨p1,p2⟩:=p;refine Gz 11 ?_;refine cL (SL aS rfl rfl hv2.1.non (by omega)) ?_;refine Gz 1 ?_;refine cL (SM eW rfl (hv2.1.rowZ k rfl hp 0 _ rfl)) ?_;refine Gz 1 ?_;refine SJ Pw rfl ((by show Calls _ _ [Value.slice p1.names.a p1.names.n p1.names.c,_].toArray _ _;rw[hn2.1];exact Co p1.names.a so p1.names.c sc p2.names s w2 hn2.2.1 (hs.Wr hF2))) rfl ?_;rintro _ w3 ⟨rfl,hf3⟩;by_cases h19:p2.names=s
  ·rw[WA h19];refine Gz 22 ?_;exact⟨_,rfl,by rw[Hz hp h19 hno],hF2.trans hf3⟩
  rw[Wx h19];refine Gz 17 ?_;refine aG (k+1) ⟨by omega,fun j q hj hq=>?_,hF2.trans hf3⟩ (by show ps.length-(k+1)<ps.length-k;omega);by_cases hjk:j=k
  ·subst hjk;rw[hp] at hq;cases hq;exact h19
  ·exact hno j q (by omega) hq
 have hke:k=ps.length:=by omega
 subst hke;refine Gz 15 ?_;refine⟨_,rfl,?_,hF2⟩;rw[xH (fun q hq=>by obtain⟨j,hj⟩:=WO hq;exact hno j q (Wy.1 hj).1 hj)]
def jU(ps:List (NdH×Nd))(s:List By):Prop:=0≤fP ps s∧(ps.getD (fP ps s).toNat (mN,nd0)).2.kind=1
instance (ps:List (NdH×Nd))(s:List By):Decidable (jU ps s):=by unfold jU;exact inferInstance
theorem pA(ps:List (NdH×Nd))(s:List By):jU ps s↔∃ (i:Nat) (p:NdH×Nd),fP ps s=i∧ps[i]?=some p∧p.2.kind=1:=by
 rcases fJ ps s with⟨h1,h2⟩|⟨i,p,h1,h2,h3,h4⟩
 · constructor
   ·intro h;have:=h.1;omega
   ·rintro⟨i,p,e,_⟩;omega
 · have e:ps.getD (fP ps s).toNat (mN,nd0)=p:=by rw[h1,WI,Xd,h2];rfl
   constructor
   ·intro h;exact⟨i,p,h1,h2,by rw[←e];exact h.2⟩
   · rintro⟨j,q,e1,hq,hk⟩
     have:j=i:=by omega
     subst this;rw[h2] at hq;cases hq;exact⟨by omega,by rw[e];exact hk⟩
theorem zT(lo:Option Addr)(lc:Nat)(ps:List (NdH×Nd))(so:Option Addr)(sc:Nat)(s:List By)(W:World)(hv:aQ D W.heap lo lc ps)(hs:Vw gQ W.heap so sc s) :
 CA 144 [.slice lo ps.length lc,.slice so s.length sc] W fun v w'=>v=.bool (decide (jU ps s))∧aA nob W w':=by
 have hsp:=fJ ps s;obtain⟨F,hF⟩:∃ F,F=fP ps s:=⟨_,rfl⟩
 refine cS 19 [(0,_),(1,_)] Tryz.func144 ?_;refine cA 9 Nk (Cr lo lc ps so sc s W hv hs) ?_;rintro _ w2 ⟨rfl,hf2⟩;rw[←hF] at hsp ⊢;refine fK 6 ?_ ?_<;>intro h10
 ·obtain⟨i,p,h1,hp,h3,h4⟩:∃ (i:Nat) (p:NdH×Nd),F=i∧ps[i]?=some p∧p.2.names=s∧∀ j q,j<i→ps[j]?=some q→q.2.names≠s:=hsp.resolve_left (fun h=>by have:=h.1;omega);have hil:=(Wy.1 hp).1;refine Gz 3 ?_;refine cW (SL aS rfl rfl hv.1.non (by omega)) ?_;refine Gz 1 ?_;refine cW (SM aN rfl ((hv.1.Wr hf2).rowZ i h1 hp 2 _ rfl)) ?_;refine fW 0 ?_ ?_<;>intro h17
  ·have hyes:jU ps s:=(pA ps s).2 ⟨i,p,by rw[←hF];exact h1,hp,h17⟩;refine Gz 6 ?_;exact⟨_,rfl,by rw[WA hyes],hf2⟩
  have hno:¬ jU ps s:=fun h=>by
   obtain⟨j,q,e,hq,hk⟩:=(pA ps s).1 h;rw[←hF,h1] at e;have e:i=j:=by omega
   subst e;rw[hp] at hq;cases hq;exact h17 hk
  refine Gz 6 ?_;exact⟨_,rfl,by rw[Wx hno],hf2⟩
 have hno:¬ jU ps s:=fun h=>by have:=h.1;rw[←hF] at this;omega
 refine Gz 13 ?_;exact⟨_,rfl,by rw[Wx hno],hf2⟩
end
section
def nmd(l:List Nd):Int:=if gG (dT l)≠0 then gG (dT l) else if ∃ n∈l,16<n.names.length then 9 else if bL l then 6 else 0
def plc(l:List Nd):Int:=if 1024<l.length then 3 else if nmd l≠0 then nmd l else if ¬ fD l [] then 4 else if ∃ n∈l,n.names≠[]∧¬ fD l n.names.dropLast then 5 else 0
theorem aK(l:List Nd):chk l=if plc l≠0 then plc l else if ∃ n∈l,¬ dL n then 7 else if l.Pairwise gE then 0 else 8:=by
 unfold chk plc nmd;by_cases h1:1024<l.length
 ·simp[h1]
 · by_cases h2:gG (dT l)=0
   · by_cases h3:∃ n∈l,16<n.names.length
     ·simp[h1,h2,h3]
     · by_cases h4:bL l
       ·simp[h1,h2,h3,h4]
       · by_cases h5:fD l []
         · by_cases h6:∃ n∈l,n.names≠[]∧¬ fD l n.names.dropLast
           ·simp[h1,h2,h3,h4,h5,h6]
           ·simp only[h1,h2,h3,h4,h5,h6,if_false,ne_eq,not_true_eq_false]
         ·simp[h1,h2,h3,h4,h5]
   ·simp[h1,h2]
abbrev nds(ps:List (NdH×Nd)):List Nd:=ps.map (·.2)
theorem bE{ps:List (NdH×Nd)}{i:Nat}{p:NdH×Nd}(h:ps[i]?=some p):(nds ps)[i]?=some p.2:=by simp[nds,h]
theorem CS(ps:List (NdH×Nd))(i:Nat):nds (ps.take i)=(nds ps).take i:=by simp[nds,List.map_take]
theorem eG(ps:List (NdH×Nd)):bL (nds ps)↔∃ (i j:Nat) (p q:NdH×Nd),i<j∧ps[i]?=some p∧ps[j]?=some q∧p.2.names=q.2.names:=by
 unfold bL;rw[W8];constructor
 · intro h
   simp only[Classical.not_forall] at h;obtain⟨i,j,h1,h2,h3,h4⟩:=h;rw[WK] at h1 h2;exact⟨i,j,ps[i],ps[j],h3,Wv h1,Wv h2,by simpa using h4⟩
 · rintro⟨i,j,p,q,h1,h2,h3,h4⟩ h
   have e2:=(Wy.1 h2)
   have e3:=(Wy.1 h3)
   refine h i j (by simpa using e2.1) (by simpa using e3.1) h1 ?_;simp only[List.getElem_map,e2.2,e3.2];exact h4
theorem MB{ps:List (NdH×Nd)}{i:Nat}{p:NdH×Nd}(h:ps[i]?=some p):0≤fP ps p.2.names∧fP ps p.2.names≤i:=by
 rcases fJ ps p.2.names with⟨h1,h2⟩|⟨j,q,h1,h2,h3,h4⟩
 ·exact absurd rfl (h2 p (Wz h))
 · refine⟨by omega,?_⟩
   by_cases hj:j≤i
   ·omega
   ·exact absurd rfl (h4 i p (by omega) h)
theorem Ic{ps:List (NdH×Nd)}{i:Nat}{p:NdH×Nd}(h:ps[i]?=some p)(hf:fP ps p.2.names<i):bL (nds ps):=by
 rcases fJ ps p.2.names with⟨h1,h2⟩|⟨j,q,h1,h2,h3,h4⟩
 ·exact absurd rfl (h2 p (Wz h))
 ·exact(eG ps).2 ⟨j,i,q,p,by omega,h2,h,h3⟩
theorem zE{ps:List (NdH×Nd)}(h:∀ (i:Nat) (p:NdH×Nd),ps[i]?=some p→¬ fP ps p.2.names<i):¬ bL (nds ps):=by
 intro ht;obtain⟨i,j,p,q,h1,h2,h3,h4⟩:=(eG ps).1 ht;have:=(MB h2).2;have g:=h j q h3;rw[←h4] at g;omega
theorem qY{ps:List (NdH×Nd)}(ht:¬ bL (nds ps))(s:List By):jU ps s↔fD (nds ps) s:=by
 rw[pA];constructor
 · rintro⟨i,p,h1,h2,h3⟩
   refine⟨p.2,Wz (bE h2),?_,h3⟩;rcases fJ ps s with⟨g1,_⟩|⟨j,q,g1,g2,g3,_⟩
   ·omega
   · have:j=i:=by omega
     subst this;rw[h2] at g2;cases g2;exact g3
 · rintro⟨n,hn,h1,h2⟩
   obtain⟨i,hi⟩:=WO hn;obtain⟨p,hp,rfl⟩:∃ p,ps[i]?=some p∧p.2=n:=by
    simp only[nds,W7,WR] at hi;exact hi
   rcases fJ ps s with⟨g1,g2⟩|⟨j,q,g1,g2,g3,g4⟩
   ·exact absurd h1 (g2 p (Wz hp))
   · have:j=i:=by
      apply WH;intro hne;rcases YV hne with hlt|hgt
      ·exact ht ((eG ps).2 ⟨j,i,q,p,hlt,g2,hp,g3.trans h1.symm⟩)
      ·exact g4 i p hgt hp h1
     subst this;rw[hp] at g2;cases g2;exact⟨j,p,g1,hp,h2⟩
theorem tkN{ps:List (NdH×Nd)}{i:Nat}{p:NdH×Nd}(h:ps[i]?=some p):(nds ps).take (i+1)=(nds ps).take i++[p.2]:=tkL (bE h)
theorem HT{ps:List (NdH×Nd)}{i:Nat}{p:NdH×Nd}{R:Nd→Prop}(hp:ps[i]?=some p)(h:∀ n∈(nds ps).take i,R n)(hn:R p.2):∀ n∈(nds ps).take (i+1),R n:=by
 intro n hm;rw[tkN hp,WZ,WY] at hm;rcases hm with hm|rfl
 ·exact h n hm
 ·exact hn
variable {D:Nat→Prop}
theorem GO(lo:Option Addr)(lc:Nat)(ps:List (NdH×Nd))(W:World)(hv:aQ D W.heap lo lc ps)(hsm:∀ p∈ps,smN p.2) :
 CA 143 [.slice lo ps.length lc] W fun v w'=>v=iV (nmd (nds ps))∧aA nob W w':=by
 have h63:=hv.1.Wq;refine cS 64 [(0,_)] Tryz.func143 ?_;refine Gz 12 ?_;refine SO (β:=Nat) (fun i=>[(0,.slice lo ps.length lc),(3,iV i)]) (fun i w=>i≤ps.length∧(∀ s∈dT ((nds ps).take i),cZ s=0)∧aA nob W w) (fun i=>ps.length-i) 0 ⟨rfl,rfl,trivial⟩ ⟨WG _,by simp[dT],VK _ _⟩ ?_;rintro i w2 ⟨hi,hok,hF2⟩;refine fK 6 ?_ ?_<;>intro h11
 ·have hil:i<ps.length:=by omega
  obtain⟨p,hp⟩:∃ p,ps[i]?=some p:=⟨_,Wv hil⟩
  have hpm:=Wz hp;refine Gz 13 ?_;refine SO (β:=Nat) (fun k=>[(0,.slice lo ps.length lc),(3,iV i),(4,iV k)]) (fun k w=>k≤p.2.names.length∧(∀ s∈p.2.names.take k,cZ s=0)∧aA nob W w) (fun k=>p.2.names.length-k) 0 ⟨rfl,rfl,rfl,trivial⟩ ⟨WG _,by simp,hF2⟩ ?_;rintro k w3 ⟨hk,hok2,hF3⟩;refine Gz 6 ?_;have hv3:=hv.Wr hF3;have hn3:=(hv3.2 p hpm).1;refine cL (SL aS rfl rfl hv3.1.non (by omega)) ?_;refine Gz 1 ?_;refine cL (SM eW rfl (hv3.1.rowZ i rfl hp 0 _ rfl)) ?_;refine Gz 1 ?_;rw[hn3.1];refine fK 0 ?_ ?_<;>intro h21
  ·have hkl:k<p.2.names.length:=by omega
   have hl63:=hn3.2.1.Wq;obtain⟨s,hs⟩:∃ s,p.2.names[k]?=some s:=⟨_,Wv hkl⟩
   refine Gz 11 ?_;refine cL (SL aS rfl rfl hv3.1.non (by omega)) ?_;refine Gz 1 ?_;refine cL (SM eW rfl (hv3.1.rowZ i rfl hp 0 _ rfl)) ?_;refine Gz 1 ?_;refine cL (SI jK rfl rfl (by rw[hn3.1];exact hn3.2.1.non) (by have:=hn3.1;omega)) ?_;refine cL (SM fT rfl (hn3.2.1.get k s hs)) ?_;refine cA 0 P7 (GK s w3 ((hsm p hpm).2.1 s (Wz hs))) ?_;rintro _ w4 ⟨rfl,rfl⟩;refine fK 6 ?_ ?_<;>intro h34
   ·refine Gz 20 ?_;have e:=CR (bE hp) hs hok hok2 h34;refine⟨_,rfl,?_,hF3⟩;unfold nmd;rw[e,Wu h34]
   refine Gz 11 ?_;refine aG (k+1) ⟨by omega,fun t ht=>?_,hF3⟩ (by show p.2.names.length-(k+1)<p.2.names.length-k;omega);rw[tkL hs,WZ,WY] at ht;rcases ht with ht|rfl
   ·exact hok2 t ht
   ·exact W3.1 h34
  have hke:k=p.2.names.length:=by omega
  subst hke;rw[Xg] at hok2;refine Gz 14 ?_;refine aG (i+1) ⟨by omega,fun s hs=>?_,hF3⟩ (by show ps.length-(i+1)<ps.length-i;omega);rw[tkN hp,yJ,WZ] at hs;exact hs.elim (hok s) (hok2 s)
 have hie:i=ps.length:=by omega
 subst hie;rw[WJ (by simp)] at hok;refine Gz 15 ?_;have hz:gG (dT (nds ps))=0:=oT hok;refine SO (β:=Nat) (fun j=>[(0,.slice lo ps.length lc),(6,iV j)]) (fun j w=>j≤ps.length∧(∀ n∈(nds ps).take j,¬ 16<n.names.length)∧aA nob W w) (fun j=>ps.length-j) 0 ⟨rfl,rfl,trivial⟩ ⟨WG _,by simp,hF2⟩ ?_;rintro j w3 ⟨hj,hdp,hF3⟩;refine fK 6 ?_ ?_<;>intro h39
 ·have hjl:j<ps.length:=by omega
  obtain⟨p,hp⟩:∃ p,ps[j]?=some p:=⟨_,Wv hjl⟩
  have hpm:=Wz hp;have hv3:=hv.Wr hF3;have hn3:=(hv3.2 p hpm).1;refine Gz 11 ?_;refine cL (SL aS rfl rfl hv3.1.non (by omega)) ?_;refine Gz 1 ?_;refine cL (SM eW rfl (hv3.1.rowZ j rfl hp 0 _ rfl)) ?_;refine Gz 1 ?_;rw[hn3.1];refine fK 0 ?_ ?_<;>intro h48
  ·refine Gz 15 ?_;refine⟨_,rfl,?_,hF3⟩;unfold nmd;rw[Wt (fun h=>h hz),Wu ⟨p.2,Wz (bE hp),by omega⟩]
  refine Gz 11 ?_;refine aG (j+1) ⟨by omega,fun n hn=>?_,hF3⟩ (by show ps.length-(j+1)<ps.length-j;omega);rw[tkN hp,WZ,WY] at hn;rcases hn with hn|rfl
  ·exact hdp n hn
  ·omega
 have hje:j=ps.length:=by omega
 subst hje;rw[WJ (by simp)] at hdp;refine Gz 15 ?_;have hd:¬ ∃ n∈nds ps,16<n.names.length:=fun⟨n,hn,h⟩=>hdp n hn h;refine SO (β:=Nat) (fun j=>[(0,.slice lo ps.length lc),(7,iV j)]) (fun j w=>j≤ps.length∧(∀ (i:Nat) (p:NdH×Nd),i<j→ps[i]?=some p→¬ fP ps p.2.names<i)∧aA nob W w) (fun j=>ps.length-j) 0 ⟨rfl,rfl,trivial⟩ ⟨WG _,fun i p hi=>by omega,hF3⟩ ?_;rintro j w3 ⟨hj,hno,hF3⟩;refine fK 6 ?_ ?_<;>intro h52
 ·have hjl:j<ps.length:=by omega
  obtain⟨p,hp⟩:∃ p,ps[j]?=some p:=⟨_,Wv hjl⟩
  have hpm:=Wz hp;have hv3:=hv.Wr hF3;have hn3:=(hv3.2 p hpm).1;refine Gz 12 ?_;refine cL (SL aS rfl rfl hv3.1.non (by omega)) ?_;refine Gz 1 ?_;refine cL (SM eW rfl (hv3.1.rowZ j rfl hp 0 _ rfl)) ?_;refine SJ Nk rfl ((by show Calls _ _ [_,Value.slice p.1.names.a p.1.names.n p.1.names.c].toArray _ _;rw[hn3.1];exact Cr lo lc ps p.1.names.a p.1.names.c p.2.names w3 hv3 hn3.2.1)) rfl ?_;rintro _ w4 ⟨rfl,hf4⟩;refine fK 1 ?_ ?_<;>intro h63
  ·refine Gz 15 ?_;refine⟨_,rfl,?_,hF3.trans hf4⟩;unfold nmd;rw[Wt (fun h=>h hz),Wt hd,Wu (Ic hp h63)]
  refine Gz 11 ?_;refine aG (j+1) ⟨by omega,fun i q hi hq=>?_,hF3.trans hf4⟩ (by show ps.length-(j+1)<ps.length-j;omega);by_cases e:i=j
  ·subst e;rw[hp] at hq;cases hq;exact h63
  ·exact hno i q (by omega) hq
 have hje:j=ps.length:=by omega
 subst hje;refine Gz 15 ?_;refine⟨_,rfl,?_,hF3⟩;unfold nmd;rw[Wt (fun h=>h hz),Wt hd,Wt (zE fun i p h=>hno i p (Wy.1 h).1 h)]
theorem iA{l:List Nd}(h:nmd l=0):(∀ s∈dT l,cZ s=0)∧(∀ n∈l,n.names.length≤16)∧¬ bL l:=by
 unfold nmd at h;by_cases h1:gG (dT l)=0
 · rw[Wt (fun g=>g h1)] at h
   by_cases h2:∃ n∈l,16<n.names.length
   ·rw[Wu h2] at h;simp at h
   · rw[Wt h2] at h
     by_cases h3:bL l
     ·rw[Wu h3] at h;simp at h
     ·exact⟨CQ h1,fun n hn=>by have:¬ 16<n.names.length:=fun g=>h2 ⟨n,hn,g⟩;omega,h3⟩
 ·rw[Wu h1] at h;exact absurd h h1
theorem drop_take{α:Type}(l:List α):l.dropLast=l.take (l.length-1):=by rw[List.dropLast_eq_take]
theorem D7(lo:Option Addr)(lc:Nat)(ps:List (NdH×Nd))(W:World)(hv:aQ D W.heap lo lc ps)(hsm:∀ p∈ps,smN p.2) :
 CA 103 [.slice lo ps.length lc] W fun v w'=>v=iV (plc (nds ps))∧aA nob W w':=by
 have h63:=hv.1.Wq;have hll:(nds ps).length=ps.length:=by simp
 refine cS 43 [(0,_)] Tryz.func103 ?_;refine fK 10 ?_ ?_<;>intro h9
 ·refine Gz 11 ?_;refine⟨_,rfl,?_,VK _ _⟩;unfold plc;rw[Wu (by omega)]
 refine cA 8 P6 (GO lo lc ps W hv hsm) ?_;rintro _ w2 ⟨rfl,hf2⟩;refine fK 7 ?_ ?_<;>intro h13
 ·refine Gz 12 ?_;refine⟨_,rfl,?_,hf2⟩;unfold plc;rw[Wt (by omega),Wu h13]
 have hz:nmd (nds ps)=0:=W3.1 h13;have hz3:=iA hz;refine Gz 8 ?_;refine SJ Ns rfl (zT lo lc ps none 0 [] w2 (hv.Wr hf2) (VQ 0 (WG _))) rfl ?_;rintro _ w3 ⟨rfl,hf3⟩;by_cases h16:jU ps []
 ·rw[WA h16];refine Gz 7 ?_;refine cL (S3 rfl) ?_;refine Gz 12 ?_;refine SO (β:=Nat) (fun i=>[(0,.slice lo ps.length lc),(5,iV i)]) (fun i w=>i≤ps.length∧(∀ n∈(nds ps).take i,¬ (n.names≠[]∧¬ fD (nds ps) n.names.dropLast))∧aA nob W w) (fun i=>ps.length-i) 0 ⟨rfl,rfl,trivial⟩ ⟨WG _,by simp,hf2.trans hf3⟩ ?_;rintro i w4 ⟨hi,hok,hF4⟩;refine fK 6 ?_ ?_<;>intro h22
  ·have hil:i<ps.length:=by omega
   obtain⟨p,hp⟩:∃ p,ps[i]?=some p:=⟨_,Wv hil⟩
   have hpm:=Wz hp;have hv4:=hv.Wr hF4;have hn4:=(hv4.2 p hpm).1;have hl63:=hn4.2.1.Wq;refine Gz 11 ?_;refine cL (SL aS rfl rfl hv4.1.non (by omega)) ?_;refine Gz 1 ?_;refine cL (SM eW rfl (hv4.1.rowZ i rfl hp 0 _ rfl)) ?_;refine Gz 7 ?_;rw[hn4.1];refine fK 0 ?_ ?_<;>intro h32
   ·refine Gz 5 ?_;rw[hn4.1];refine Gz 1 ?_;refine cW (SN (u:=.slice p.1.names.a p.2.names.dropLast.length p.1.names.c) (S8 jK rfl rfl (by have:=hn4.2.1.le;omega)) (by rw[bD,Yf];congr 1;omega)) ?_;refine SS rfl rfl Ns rfl (zT lo lc ps p.1.names.a p.1.names.c p.2.names.dropLast w4 hv4 (by rw[drop_take];exact hn4.2.1.take _)) rfl ?_;rintro _ w5 ⟨rfl,hf5⟩;by_cases h40:jU ps p.2.names.dropLast
    ·rw[WA h40];refine cW (S3 rfl) ?_;refine Gz 12 ?_;exact aG (i+1) ⟨by omega,HT hp hok (fun⟨_,h⟩=>h ((qY hz3.2.2 _).1 h40)),hF4.trans hf5⟩ (by show ps.length-(i+1)<ps.length-i;omega)
    rw[Wx h40];refine cW (S3 rfl) ?_;refine Gz 16 ?_;refine⟨_,rfl,?_,hF4.trans hf5⟩;unfold plc;rw[Wt (by omega),Wt (fun h=>h hz),Wt (fun h=>h ((qY hz3.2.2 _).1 h16)),Wu ⟨p.2,Wz (bE hp),fun e=>by rw[e] at h32;simp at h32,fun h=>h40 ((qY hz3.2.2 _).2 h)⟩]
   refine Gz 21 ?_;exact aG (i+1) ⟨by omega,HT hp hok (fun⟨h,_⟩=>h (WM.1 (by omega))),hF4⟩ (by show ps.length-(i+1)<ps.length-i;omega)
  have hie:i=ps.length:=by omega
  subst hie;rw[WJ (by simp)] at hok;refine Gz 15 ?_;refine⟨_,rfl,?_,hF4⟩;unfold plc;rw[Wt (by omega),Wt (fun h=>h hz),Wt (fun h=>h ((qY hz3.2.2 _).1 h16)),Wt (fun⟨n,hn,h⟩=>hok n hn h)]
 rw[Wx h16];refine Gz 7 ?_;refine cL (S3 rfl) ?_;refine Gz 11 ?_;refine⟨_,rfl,?_,hf2.trans hf3⟩;unfold plc;rw[Wt (by omega),Wt (fun h=>h hz),Wu (fun h=>h16 ((qY hz3.2.2 _).2 h))]
end
section
def Iu (P:Program) (t e:TypeId):Bool:=match P.underlying t with
 | some (.struct fs)=>(match fs.toList with
   | [f0, f1, f2] => decide (f0.type = e ∧ f0.offset = 0 ∧ f0.name ≠ "_") && decide (f1.type = e ∧ f1.offset = 1 ∧ f1.name ≠ "_") && decide (f2.type = e ∧ f2.offset = 2 ∧ f2.name ≠ "_")
   | _=>false)
 | _=>false
theorem FB{P:Program}{t e:TypeId}(h:Iu P t e=true)(he:P.underlying e=some (.int .i64))(hs:P.stoodInHeld t=false)(w:World)(a b c a' b' c':Int) :
 (Op.equalIn 10000 t (.agg [iV a,iV b,iV c].toArray) (.agg [iV a',iV b',iV c'].toArray)).run P w=.ok (decide (a=a'∧b=b'∧c=c')) w:=by
 unfold Iu at h
 split at h
 · rename_i fs hu
   split at h
   · rename_i f0 f1 f2 hl
     simp only[WW,decide_eq_true_eq] at h;obtain⟨⟨⟨t0,o0,n0⟩,⟨t1,o1,n1⟩⟩,⟨t2,o2,n2⟩⟩:=h;have hf:P.fieldsOf t=fs:=by unfold Program.fieldsOf;rw[hu]
     rw[run_equalIn_struct w 9999 t _ _ (by rw[hf];exact hu) hs,hf,hl];have hp:∀ (cs:Array Value) (o:Nat) (v:Value),cs[o]?=some v→(part e cs o).run P w=.ok v w:=fun cs o v hv=>by
      simp[part,isAgg,run_underlying he,hv]
     have hq:∀ (x y:Int),(Op.equalIn 9999 e (iV x) (iV y)).run P w=.ok (x == y) w:=fun x y=>run_equalIn_int w 9998 e .i64 .i64 x y he;simp only[Op.eqFields,n0,n1,n2,ne_eq,not_false_eq_true,if_true,t0,o0,t1,o1,t2,o2,Sem.run_bind];rw[hp _ 0 (iV a) rfl,Result.andThen_ok,hp _ 0 (iV a') rfl,Result.andThen_ok,hq,Result.andThen_ok];by_cases h1:a=a'
     · subst h1
       simp only[beq_self_eq_true,Bool.not_true,Bool.false_eq_true,if_false,Sem.run_bind,true_and];rw[hp _ 1 (iV b) rfl,Result.andThen_ok,hp _ 1 (iV b') rfl,Result.andThen_ok,hq,Result.andThen_ok];by_cases h2:b=b'
       · subst h2
         simp only[beq_self_eq_true,Bool.not_true,Bool.false_eq_true,if_false,Sem.run_bind,true_and];rw[hp _ 2 (iV c) rfl,Result.andThen_ok,hp _ 2 (iV c') rfl,Result.andThen_ok,hq,Result.andThen_ok];by_cases h3:c=c'
         ·subst h3;simp
         ·simp[h3]
       ·simp[h2]
     ·simp[h1]
   ·cases h
 ·cases h
section
variable {P:Program}{N:Nt}{l:SF}{ty t':TypeId}{pos:String}{aft:Array Edge}{dd:Option Nat}{g:Option (Nat×Bool)}{CH:Array Obj→Prop}{x y:Operand}{t e:TypeId}
theorem Vf(h:Iu P t e=true)(he:P.underlying e=some (.int .i64))(hs:P.stoodInHeld t=false)(hg:P.eqGuardType P.depth t=false){a b c a' b' c':Int}(hx:evL l x=some (.agg [iV a,iV b,iV c].toArray))(hy:evL l y=some (.agg [iV a',iV b',iV c'].toArray)) :
 Cm P N CH l ⟨dd,.binOp .neq t x y t',ty,pos,aft,g⟩ (.bool (decide (¬ (a=a'∧b=b'∧c=c')))):=fun k w ha _=>by
 simp only[execOp,ha.ev hx,ha.ev hy,Sem.run_bind,run_eqGuard_agg w .neq t x y _ _ hg,Result.andThen_ok,run_neq_struct,FB h he hs];simp
theorem Vg(h:Iu P t e=true)(he:P.underlying e=some (.int .i64))(hs:P.stoodInHeld t=false)(hg:P.eqGuardType P.depth t=false){a b c a' b' c':Int}(hx:evL l x=some (.agg [iV a,iV b,iV c].toArray))(hy:evL l y=some (.agg [iV a',iV b',iV c'].toArray)) :
 Cm P N CH l ⟨dd,.binOp .eql t x y t',ty,pos,aft,g⟩ (.bool (decide (a=a'∧b=b'∧c=c'))):=fun k w ha _=>by
 simp only[execOp,ha.ev hx,ha.ev hy,Sem.run_bind,run_eqGuard_agg w .eql t x y _ _ hg,Result.andThen_ok,run_eql_struct,FB h he hs];simp
end
theorem stA:Iu Tryz.prog 34 3=true:=by kernel_rfl
theorem O1:Tryz.prog.underlying 3=some (.int .i64):=by kernel_rfl
theorem O2:Tryz.prog.stoodInHeld 34=false:=by kernel_rfl
theorem O3:Tryz.prog.eqGuardType Tryz.prog.depth 34=false:=by kernel_rfl
theorem bJ{H:Array Obj}{q:Nat}{cs ds:List Value}{T:TypeId}{fr:Nat×Nat}(h:H[q]?=some (.cells cs.toArray T fr))(o:Nat)(hd:(cs.drop o).take ds.length=ds):∀ (j:Nat) (v:Value),ds[j]?=some v→bH H (((⟨q,0,none⟩:Addr).add o).add j)=some v:=by
 intro j v hj;rw[SC];refine aD h ?_;rw[←hd,Xf] at hj
 split at hj
 ·rw[List.getElem?_drop] at hj;exact hj
 ·cases hj
def Dp(n:Nd):List Value:=[iV n.md,iV n.ud,iV n.gd]
variable {D:Nat→Prop}
theorem LD(p:NdH×Nd)(W:World)(hn:NdV D W.heap p)(hsm:smN p.2) :
 CA 104 [.agg (aF p).toArray] W fun v w'=>v=.bool (decide (dL p.2))∧aA nob W w':=by
 have no:∀ w',¬ dL p.2→aA nob W w'→Ret (fun v w'=>v=.bool (decide (dL p.2))∧aA nob W w') (.returned (.bool false)) w':=fun w' h f=>⟨_,rfl,by rw[Wx h],f⟩
 have yes:∀ w',(dL p.2↔dF p.2.xs)→aA nob W w'→Ret (fun v w'=>v=.bool (decide (dL p.2))∧aA nob W w') (.returned (.bool (decide (dF p.2.xs)))) w':=fun w' h f=>⟨_,rfl,congrArg _ (decide_eq_decide.2 h.symm),f⟩
 refine cS 95 [(0,_)] Tryz.func104 ?_;refine Gz 2 ?_;refine Td rfl rfl ?_;intro w1 hg1 hs1 hf1;obtain⟨g,hg⟩:∃ g,g=W.heap.size:=⟨_,rfl⟩
 rw[←hg] at hg1 hs1 ⊢
 replace hg1:w1.heap[g]?=some (.cells (aF p).toArray 37 (0,0)):=hg1
 refine fK 8 ?_ ?_<;>intro h7
 ·refine Gz 20 ?_;exact no _ (fun hm=>by have:=hm.1;omega) hf1
 refine fW 3 ?_ ?_<;>intro h11
 ·refine Gz 16 ?_;exact no _ (fun hm=>by have:=hm.1;omega) hf1
 refine Gz 3 ?_;refine Ta rfl rfl (S6 (SM AY rfl (aD hg1 rfl))) rfl (fun h15=>?_) (fun h15=>?_)
 ·refine Gz 12 ?_;exact no _ (fun hm=>by rw[hm.2.1] at h15;cases h15) hf1
 refine Gz 9 ?_;refine cL (SX (cs:=Dp p.2) tP rfl (bJ hg1 3 rfl)) ?_;refine SP OP rfl ?_;intro w2 hg2 hs2 hf2;obtain⟨q,hq⟩:∃ q,q=w1.heap.size:=⟨_,rfl⟩
 rw[←hq] at hg2 ⊢;refine sA rfl tP (by simp[Dp,Value.oneCell']) hg2 ?_;intro w3 hg3 hs3 hf3;have hf13:aA nob w1 w3:=hf2.Wo hf3 (fun k e=>.inr (by have e:k=q:=e;omega));have hg4:=hf13.obj hg1 id;have hF3:=hf1.trans hf13;have hn3:=hn.Wr hF3;refine fK 7 ?_ ?_<;>intro h21
 ·refine Gz 36 ?_;exact no _ (fun hm=>by have h3:=hm.2.2.1;have h4:=hm.2.2.2.1;have h5:=hm.2.2.2.2.1;omega) hF3
 refine fW 3 ?_ ?_<;>intro h25
 ·refine Gz 32 ?_;exact no _ (fun hm=>by have h3:=hm.2.2.1;have h4:=hm.2.2.2.1;have h5:=hm.2.2.2.2.1;omega) hF3
 refine fW 4 ?_ ?_<;>intro h30
 ·refine Gz 27 ?_;exact no _ (fun hm=>by have h3:=hm.2.2.1;have h4:=hm.2.2.2.1;have h5:=hm.2.2.2.2.1;omega) hF3
 refine fW 4 ?_ ?_<;>intro h35
 ·refine Gz 22 ?_;exact no _ (fun hm=>by have h3:=hm.2.2.1;have h4:=hm.2.2.2.1;have h5:=hm.2.2.2.2.1;omega) hF3
 refine fW 4 ?_ ?_<;>intro h40
 ·refine Gz 17 ?_;exact no _ (fun hm=>by have h3:=hm.2.2.1;have h4:=hm.2.2.2.1;have h5:=hm.2.2.2.2.1;omega) hF3
 refine fW 4 ?_ ?_<;>intro h45
 ·refine Gz 12 ?_;exact no _ (fun hm=>by have h3:=hm.2.2.1;have h4:=hm.2.2.2.1;have h5:=hm.2.2.2.2.1;omega) hF3
 refine Gz 6 ?_;refine Tj (β:=Unit) (fun _u=>[(1,pT g)]) (fun _u w=>(p.2.kind=2∨p.2.data=[])∧p.2.data.length≤4096∧w=w3) ?_ ?_
 ·refine fK 4 ?_ ?_<;>intro h49
  ·refine Gz 4 ?_;rw[hn3.2.1.1];refine fW 0 ?_ ?_<;>intro h54
   ·refine Gz 18 ?_;exact no _ (fun hm=>hm.2.2.2.2.2.1.elim (fun e=>h49 e) (fun e=>by have:=congrArg W6 e;have e0:([]:By).length=0:=rfl;omega)) hF3
   refine Gz 5 ?_;rw[hn3.2.1.1];refine fW 0 ?_ ?_<;>intro h60
   ·refine Gz 12 ?_;exact no _ (fun hm=>by have h3:=hm.2.2.1;have h4:=hm.2.2.2.1;have h5:=hm.2.2.2.2.1;omega) hF3
   refine Gz 5 ?_;refine aC () ⟨?_,by omega,rfl⟩;exact .inr (WM.1 (by omega))
  refine Gz 10 ?_;rw[hn3.2.1.1];refine fW 0 ?_ ?_<;>intro h60
  ·refine Gz 12 ?_;exact no _ (fun hm=>by have:=hm.2.2.2.2.2.2.1;omega) hF3
  refine Gz 5 ?_;refine aC () ⟨?_,by omega,rfl⟩;exact .inl (W3.1 h49)
 rintro _ w4 ⟨k1,k1l,hw4⟩;subst w4;refine cA 4 Nr (Jf p.2.tgt w3 hsm.1) ?_;rintro _ w5 ⟨rfl,hw5⟩;subst w5;by_cases h64:(0:UInt8)∈p.2.tgt
 ·rw[WA h64];refine Gz 3 ?_;refine Tj (β:=Unit) (fun _u=>[(1,pT g)]) (fun _u w=>okT p.2∧w=w3) ?_ ?_
  ·refine fK 4 ?_ ?_<;>intro h67
   ·refine fW 3 ?_ ?_<;>intro h71
    ·refine Gz 31 ?_;exact no _ (fun hm=>by have m:=hm.2.2.2.2.2.2.2.1;unfold okT at m;rw[Wt h67] at m;exact h71 m) hF3
    refine fW 4 ?_ ?_<;>intro h76
    ·refine fW 3 ?_ ?_<;>intro h80
     ·refine Gz 22 ?_;exact no _ (fun hm=>by have h3:=hm.2.2.1;have h4:=hm.2.2.2.1;have h5:=hm.2.2.2.2.1;omega) hF3
     refine Gz 3 ?_;refine cW (Te ty9 rfl) ?_;refine fW 0 ?_ ?_<;>intro h85
     ·refine Gz 17 ?_;exact no _ (fun hm=>by have h3:=hm.2.2.1;have h4:=hm.2.2.2.1;have h5:=hm.2.2.2.2.1;omega) hF3
     refine Gz 17 ?_;exact no _ (fun hm=>by have h3:=hm.2.2.1;have h4:=hm.2.2.2.1;have h5:=hm.2.2.2.2.1;omega) hF3
    refine Gz 19 ?_;exact aC () ⟨by unfold okT;rw[Wt h67];exact W3.1 h71,rfl⟩
   refine fW 8 ?_ ?_<;>intro h76
   ·refine fW 3 ?_ ?_<;>intro h80
    ·refine Gz 22 ?_;exact no _ (fun hm=>by have m:=hm.2.2.2.2.2.2.2.1;unfold okT at m;rw[Wu h76] at m;exact m.1 h80) hF3
    refine Gz 3 ?_;refine cW (Te ty9 rfl) ?_;refine fW 0 ?_ ?_<;>intro h85
    ·refine Gz 17 ?_;exact no _ (fun hm=>by have m:=hm.2.2.2.2.2.2.2.1;unfold okT at m;rw[Wu h76] at m;have:=m.2.1;omega) hF3
    refine Gz 17 ?_;exact no _ (fun hm=>by have m:=hm.2.2.2.2.2.2.2.1;unfold okT at m;rw[Wu h76] at m;exact m.2.2 h64) hF3
   refine Gz 19 ?_;exact absurd h76 h67
  rintro _ w5 ⟨k2,hw5⟩;subst w5;refine Gz 4 ?_;refine SJ Nq rfl ((by show Calls _ _ [Value.slice p.1.xs.a p.1.xs.n p.1.xs.c].toArray _ _;rw[hn3.2.2.1];exact Cp _ _ _ w3 (hn3.2.2.xav hsm.2.2))) rfl ?_;rintro _ w6 ⟨rfl,hf6⟩;refine Gz 5 ?_;exact yes _ ⟨fun hm=>hm.2.2.2.2.2.2.2.2,fun hx=>⟨by omega,by simpa using h15,by omega,by omega,by omega,k1,k1l,k2,hx⟩⟩ (hF3.trans hf6)
 rw[Wx h64];refine Gz 3 ?_;refine Tj (β:=Unit) (fun _u=>[(1,pT g)]) (fun _u w=>okT p.2∧w=w3) ?_ ?_
 ·refine fK 4 ?_ ?_<;>intro h67
  ·refine fW 3 ?_ ?_<;>intro h71
   ·refine Gz 31 ?_;exact no _ (fun hm=>by have m:=hm.2.2.2.2.2.2.2.1;unfold okT at m;rw[Wt h67] at m;exact h71 m) hF3
   refine fW 4 ?_ ?_<;>intro h76
   ·refine fW 3 ?_ ?_<;>intro h80
    ·refine Gz 22 ?_;exact no _ (fun hm=>by have h3:=hm.2.2.1;have h4:=hm.2.2.2.1;have h5:=hm.2.2.2.2.1;omega) hF3
    refine Gz 3 ?_;refine cW (Te ty9 rfl) ?_;refine fW 0 ?_ ?_<;>intro h85
    ·refine Gz 17 ?_;exact no _ (fun hm=>by have h3:=hm.2.2.1;have h4:=hm.2.2.2.1;have h5:=hm.2.2.2.2.1;omega) hF3
    refine Gz 10 ?_;exact absurd h76 h67
   refine Gz 19 ?_;exact aC () ⟨by unfold okT;rw[Wt h67];exact W3.1 h71,rfl⟩
  refine fW 8 ?_ ?_<;>intro h76
  ·refine fW 3 ?_ ?_<;>intro h80
   ·refine Gz 22 ?_;exact no _ (fun hm=>by have m:=hm.2.2.2.2.2.2.2.1;unfold okT at m;rw[Wu h76] at m;exact m.1 h80) hF3
   refine Gz 3 ?_;refine cW (Te ty9 rfl) ?_;refine fW 0 ?_ ?_<;>intro h85
   ·refine Gz 17 ?_;exact no _ (fun hm=>by have m:=hm.2.2.2.2.2.2.2.1;unfold okT at m;rw[Wu h76] at m;have:=m.2.1;omega) hF3
   refine Gz 10 ?_;exact aC () ⟨by unfold okT;rw[Wu h76];exact⟨h80,by omega,h64⟩,rfl⟩
  refine Gz 19 ?_;exact absurd h76 h67
 rintro _ w5 ⟨k2,hw5⟩;subst w5;refine Gz 4 ?_;refine SJ Nq rfl ((by show Calls _ _ [Value.slice p.1.xs.a p.1.xs.n p.1.xs.c].toArray _ _;rw[hn3.2.2.1];exact Cp _ _ _ w3 (hn3.2.2.xav hsm.2.2))) rfl ?_;rintro _ w6 ⟨rfl,hf6⟩;refine Gz 5 ?_;exact yes _ ⟨fun hm=>hm.2.2.2.2.2.2.2.2,fun hx=>⟨by omega,by simpa using h15,by omega,by omega,by omega,k1,k1l,k2,hx⟩⟩ (hF3.trans hf6)
end
section
theorem iN{α:Type}{a b:List α}{k:Nat}(hl:a.length=b.length)(hk:a.length≤k)(h:∀ j:Nat,j<k→a[j]?=b[j]?):a=b:=by
 apply Xy;intro j;by_cases hj:j<k
 ·exact h j hj
 ·rw[Xe (by omega),Xe (by omega)]
theorem XsV.at{D:Nat→Prop}{H:Array Obj}{h:Hd}{X:List Xa}{ys:List (By×Hd)}(hl:ys.length=X.length)(hx:∀ (i:Nat) (x:By×Hd) (y:Xa),ys[i]?=some x→X[i]?=some y→x.1=y.1∧ByV D H x.2 y.2){k:Nat}(hk:k<X.length) :
 ∃ (a:Xa) (b:Hd),X[k]?=some a∧ys[k]?=some (a.1,b)∧ByV D H b a.2:=by
 have h1:=Wv hk;have h2:ys[k]?=some ys[k]:=Wv (by omega);obtain⟨e,hb⟩:=hx k _ _ h2 h1;refine⟨X[k],(ys[k]).2,h1,?_,hb⟩;rw[h2,←e]
variable {D:Nat→Prop}
theorem zX(p q:NdH×Nd)(W:World)(hp:NdV D W.heap p)(hq:NdV D W.heap q) :
 CA 40 [.agg (aF p).toArray,.agg (aF q).toArray] W fun v w'=>v=.bool (decide (Alk p.2 q.2))∧aA nob W w':=by
 have no:∀ w',¬ Alk p.2 q.2→aA nob W w'→Ret (fun v w'=>v=.bool (decide (Alk p.2 q.2))∧aA nob W w') (.returned (.bool false)) w':=fun w' h f=>⟨_,rfl,by rw[Wx h],f⟩
 refine cS 87 [(0,_),(1,_)] Tryz.func40 ?_;refine Gz 2 ?_;refine Td rfl rfl ?_;intro w1 hg1 hs1 hf1;obtain⟨g,hg⟩:∃ g,g=W.heap.size:=⟨_,rfl⟩
 rw[←hg] at hg1 hs1 ⊢
 replace hg1:w1.heap[g]?=some (.cells (aF p).toArray 37 (0,0)):=hg1
 refine Td rfl rfl ?_;intro w2 hg2 hs2 hf2;obtain⟨r,hr⟩:∃ r,r=w1.heap.size:=⟨_,rfl⟩
 rw[←hr] at hg2 hs2 ⊢;have hgq:w2.heap[r]?=some (.cells (aF q).toArray 37 (0,0)):=hg2;have hgp:=hf2.obj hg1 id;have hF2:=hf1.trans hf2;have hp2:=hp.Wr hF2;have hq2:=hq.Wr hF2;refine Gz 7 ?_;refine cL (SM aN rfl (by first|exact aD hgp rfl|exact aD hgq rfl)) ?_;refine Gz 1 ?_;refine cL (SM aN rfl (by first|exact aD hgp rfl|exact aD hgq rfl)) ?_;refine fK 0 ?_ ?_<;>intro h10
 ·refine Gz 50 ?_;exact no _ (fun A=>h10 A.1) hF2
 refine Gz 2 ?_;refine cW (SX (cs:=Dp p.2) tP rfl (bJ hgp 3 rfl)) ?_;refine Gz 1 ?_;refine cW (SX (cs:=Dp q.2) tP rfl (bJ hgq 3 rfl)) ?_;refine Ta rfl rfl (Vf stA O1 O2 O3 (a:=p.2.md) (b:=p.2.ud) (c:=p.2.gd) (a':=q.2.md) (b':=q.2.ud) (c':=q.2.gd) rfl rfl) rfl (fun h16=>?_) (fun h16=>?_)
 ·refine Gz 44 ?_;exact no _ (fun A=>h16 A.2.1) hF2
 refine Gz 3 ?_;refine cW (SN (u:=.slice p.1.data.a p.2.data.length p.1.data.c) (SM aX rfl (aD hgp rfl)) (by rw[←hp2.2.1.1];rfl)) ?_;refine cW (Tt aT ty5 ty9 rfl hp2.2.1.2.1) ?_;refine Gz 1 ?_;refine cW (SN (u:=.slice q.1.data.a q.2.data.length q.1.data.c) (SM aX rfl (aD hgq rfl)) (by rw[←hq2.2.1.1];rfl)) ?_;refine cW (Tt aT ty5 ty9 rfl hq2.2.1.2.1) ?_;refine fW 0 ?_ ?_<;>intro h25
 ·refine Gz 35 ?_;exact no _ (fun A=>h25 A.2.2.2.2.1) hF2
 refine Gz 3 ?_;refine cW (SM fT rfl (by first|exact aD hgp rfl|exact aD hgq rfl)) ?_;refine Gz 1 ?_;refine cW (SM fT rfl (by first|exact aD hgp rfl|exact aD hgq rfl)) ?_;refine fW 0 ?_ ?_<;>intro h32
 ·refine Gz 28 ?_;exact no _ (fun A=>h32 A.2.2.1) hF2
 refine Gz 3 ?_;refine cW (SM AY rfl (by first|exact aD hgp rfl|exact aD hgq rfl)) ?_;refine Gz 1 ?_;refine cW (SM AY rfl (by first|exact aD hgp rfl|exact aD hgq rfl)) ?_;refine Ta rfl rfl (S6 (UI ty4 rfl rfl)) rfl (fun h39=>?_) (fun h39=>?_)
 ·refine Gz 21 ?_;exact no _ (fun A=>(bne_iff_ne.1 h39) A.2.2.2.1) hF2
 refine Gz 3 ?_;refine cW (SM cF rfl (by first|exact aD hgp rfl|exact aD hgq rfl)) ?_;refine Gz 1 ?_;rw[hp2.2.2.1];refine Gz 1 ?_;refine cW (SM cF rfl (by first|exact aD hgp rfl|exact aD hgq rfl)) ?_;refine Gz 1 ?_;rw[hq2.2.2.1];refine fW 0 ?_ ?_<;>intro h48
 ·refine Gz 12 ?_;exact no _ (fun A=>h48 (by rw[A.2.2.2.2.2])) hF2
 refine Gz 13 ?_;have hxe:p.2.xs.length=q.2.xs.length:=by omega
 obtain⟨hxl,ys,hyv,hyl,hyd,hyx⟩:=hp2.2.2;obtain⟨hwl,zs,hzv,hzl,hzd,hzx⟩:=hq2.2.2;have hx63:=hyv.Wq;refine SO (β:=Nat) (fun k=>[(2,pT g),(3,pT r),(5,iV k)]) (fun k w=>k≤p.2.xs.length∧(∀ j:Nat,j<k→p.2.xs[j]?=q.2.xs[j]?)∧aA nob w2 w) (fun k=>p.2.xs.length-k) 0 ⟨rfl,rfl,rfl,trivial⟩ ⟨WG _,fun j hj=>by omega,VK _ _⟩ ?_;rintro k w3 ⟨hk,hsame,hF3⟩;have hgp3:=hF3.obj hgp id;have hgq3:=hF3.obj hgq id;refine Gz 5 ?_;refine cL (SM cF rfl (by first|exact aD hgp3 rfl|exact aD hgq3 rfl)) ?_;refine Gz 1 ?_;rw[hp2.2.2.1];refine fK 0 ?_ ?_<;>intro h54
 ·have hkx:k<p.2.xs.length:=by omega
  obtain⟨a,ah,hak,hyk,hva⟩:=XsV.at (D:=D) (H:=w3.heap) (h:=p.1.xs) hyl (fun i x y h1 h2=>⟨(hyx i x y h1 h2).1,(hyx i x y h1 h2).2.Ws hF3 (fun _ _=>id)⟩) hkx;obtain⟨b,bh,hbk,hzk,hvb⟩:=XsV.at (D:=D) (H:=w3.heap) (h:=q.1.xs) hzl (fun i x y h1 h2=>⟨(hzx i x y h1 h2).1,(hzx i x y h1 h2).2.Ws hF3 (fun _ _=>id)⟩) (by omega:k<q.2.xs.length);have hyv3:=hyv.keep' hF3 (fun _ _ _=>id);have hzv3:=hzv.keep' hF3 (fun _ _ _=>id);refine Gz 8 ?_;refine Tg 30 [0,1,2,3,4,5,6,7,8,9,10,11,12,13,14,15,16,17,18,19,20,21,22,23,24,25,26,27,28,29] aL (by kernel_rfl) ?_;refine Gz 1 ?_;refine xC rfl (SM cF rfl (by first|exact aD hgp3 rfl|exact aD hgq3 rfl)) ?_;refine Gz 1 ?_;refine xC rfl (SL iY rfl rfl (by rw[hp2.2.2.1,←hyl];exact hyv3.non) (by have:=hp2.2.2.1;omega)) ?_;refine Gz 1 ?_;refine xC rfl (SM fT rfl (hyv3.rowZ k rfl hyk 0 _ rfl)) ?_;refine Gz 1 ?_;refine xC rfl (SM cF rfl (by first|exact aD hgp3 rfl|exact aD hgq3 rfl)) ?_;refine Gz 1 ?_;refine xC rfl (SL iY rfl rfl (by rw[hq2.2.2.1,←hzl];exact hzv3.non) (by have:=hq2.2.2.1;omega)) ?_;refine Gz 1 ?_;refine xC rfl (SM fT rfl (hzv3.rowZ k rfl hzk 0 _ rfl)) ?_;refine xK 0 ?_ ?_<;>intro h69
  ·refine Gz 32 ?_;exact no _ (fun A=>h69 (by rw[A.2.2.2.2.2,hbk] at hak;cases hak;rfl)) ((hF2.trans hF3).draws 1)
  refine Gz 2 ?_;refine xV rfl (SM cF rfl (by first|exact aD hgp3 rfl|exact aD hgq3 rfl)) ?_;refine Gz 1 ?_;refine xV rfl (SL iY rfl rfl (by rw[hp2.2.2.1,←hyl];exact hyv3.non) (by have:=hp2.2.2.1;omega)) ?_;refine Gz 1 ?_;refine xV rfl (SN (u:=.slice ah.a a.2.length ah.c) (SM aX rfl (hyv3.rowZ k rfl hyk 1 _ rfl)) (by rw[←hva.1];rfl)) ?_;refine xV rfl (Tt aT ty5 ty9 rfl hva.2.1) ?_;refine Gz 1 ?_;refine xV rfl (SM cF rfl (by first|exact aD hgp3 rfl|exact aD hgq3 rfl)) ?_;refine Gz 1 ?_;refine xV rfl (SL iY rfl rfl (by rw[hq2.2.2.1,←hzl];exact hzv3.non) (by have:=hq2.2.2.1;omega)) ?_;refine Gz 1 ?_;refine xV rfl (SN (u:=.slice bh.a b.2.length bh.c) (SM aX rfl (hzv3.rowZ k rfl hzk 1 _ rfl)) (by rw[←hvb.1];rfl)) ?_;refine xV rfl (Tt aT ty5 ty9 rfl hvb.2.1) ?_;refine xW 0 ?_ ?_<;>intro h85
  ·refine Gz 16 ?_;exact no _ (fun A=>h85 (by rw[A.2.2.2.2.2,hbk] at hak;cases hak;rfl)) ((hF2.trans hF3).draws 1)
  refine Gz 12 ?_;refine aG (k+1) ⟨by omega,fun j hj=>?_,hF3.draws 1⟩ (by show p.2.xs.length-(k+1)<p.2.xs.length-k;omega);by_cases e:j=k
  ·subst e;rw[hak,hbk];exact congrArg _ (Yl (W3.1 h69) (W3.1 h85))
  ·exact hsame j (by omega)
 refine Gz 15 ?_;exact⟨_,rfl,by rw[WA (show Alk p.2 q.2 from ⟨W3.1 h10,W3.1 h16,W3.1 h32,by simpa using h39,W3.1 h25,iN hxe (by omega) hsame⟩)],hF2.trans hF3⟩
end
section
theorem Es{ps:List (NdH×Nd)}{i k:Nat}{p q:NdH×Nd}(h:(nds ps).Pairwise gE)(hk:k<i)(hq:ps[k]?=some q)(hp:ps[i]?=some p):gE q.2 p.2:=by
 have e1:=Wy.1 (bE hq);have e2:=Wy.1 (bE hp);have:=W8.1 h k i e1.1 e2.1 hk;rw[e1.2,e2.2] at this;exact this
variable {D:Nat→Prop}
theorem GU(lo:Option Addr)(lc:Nat)(ps:List (NdH×Nd))(W:World)(hv:aQ D W.heap lo lc ps)(hsm:∀ p∈ps,smN p.2) :
 CA 52 [.slice lo ps.length lc] W fun v w'=>v=iV (chk (nds ps))∧aA nob W w':=by
 have h63:=hv.1.Wq;refine cS 68 [(0,_)] Tryz.func52 ?_;refine cA 8 Qq (D7 lo lc ps W hv hsm) ?_;rintro _ w2 ⟨rfl,hf2⟩;refine fK 7 ?_ ?_<;>intro h11
 ·refine Gz 12 ?_;exact⟨_,rfl,by rw[aK,Wu h11],hf2⟩
 have hz:plc (nds ps)=0:=W3.1 h11;refine Gz 12 ?_;refine SO (β:=Nat) (fun i=>[(0,.slice lo ps.length lc),(4,iV i)]) (fun i w=>i≤ps.length∧(∀ n∈(nds ps).take i,dL n)∧aA nob W w) (fun i=>ps.length-i) 0 ⟨rfl,rfl,trivial⟩ ⟨WG _,by simp,hf2⟩ ?_;rintro i w3 ⟨hi,hmy,hF3⟩;refine fK 6 ?_ ?_<;>intro h16
 ·have hil:i<ps.length:=by omega
  obtain⟨p,hp⟩:∃ p,ps[i]?=some p:=⟨_,Wv hil⟩
  have hpm:=Wz hp;have hv3:=hv.Wr hF3;refine Gz 11 ?_;refine cL (SL aS rfl rfl hv3.1.non (by omega)) ?_;refine cL (SX (cs:=aF p) bB rfl (fun j v hj=>hv3.1.rowZ i rfl hp j v hj)) ?_;refine cA 0 Qp (LD p w3 (hv3.2 p hpm) (hsm p hpm)) ?_;rintro _ w4 ⟨rfl,hf4⟩;by_cases h23:dL p.2
  ·rw[WA h23];refine Gz 6 ?_;refine cL (S3 rfl) ?_;refine Gz 11 ?_;exact aG (i+1) ⟨by omega,HT hp hmy h23,hF3.trans hf4⟩ (by show ps.length-(i+1)<ps.length-i;omega)
  rw[Wx h23];refine Gz 6 ?_;refine cL (S3 rfl) ?_;refine Gz 15 ?_;exact⟨_,rfl,by rw[aK,Wt (fun h=>h hz),Wu ⟨p.2,Wz (bE hp),h23⟩],hF3.trans hf4⟩
 have hie:i=ps.length:=by omega
 subst hie;rw[WJ (by simp)] at hmy;have hmy2:¬ ∃ n∈nds ps,¬ dL n:=fun⟨n,hn,h⟩=>h (hmy n hn);refine Gz 15 ?_;refine SO (β:=Nat) (fun i=>[(0,.slice lo ps.length lc),(6,iV i)]) (fun i w=>i≤ps.length∧((nds ps).take i).Pairwise gE∧aA nob W w) (fun i=>ps.length-i) 0 ⟨rfl,rfl,trivial⟩ ⟨WG _,by simp,hF3⟩ ?_;rintro i w3 ⟨hi,hlk,hF3⟩;refine fK 6 ?_ ?_<;>intro h29
 ·have hil:i<ps.length:=by omega
  obtain⟨p,hp⟩:∃ p,ps[i]?=some p:=⟨_,Wv hil⟩
  have hpm:=Wz hp;refine Gz 13 ?_;refine SO (β:=Nat) (fun k=>[(0,.slice lo ps.length lc),(6,iV i),(7,iV k)]) (fun k w=>k≤i∧(∀ n∈(nds ps).take k,gE n p.2)∧aA nob W w) (fun k=>i-k) 0 ⟨rfl,rfl,rfl,trivial⟩ ⟨WG _,by simp,hF3⟩ ?_;rintro k w4 ⟨hk,hbl,hF4⟩;refine fK 5 ?_ ?_<;>intro h34
  ·have hkl:k<i:=by omega
   obtain⟨q,hq⟩:∃ q,ps[k]?=some q:=⟨_,Wv (by omega)⟩
   have hqm:=Wz hq;have hv4:=hv.Wr hF4;refine Gz 8 ?_;refine SZ 31 (fun H=>VwM 10 aF H lo lc ps) [27] [0,1,2,3,4,5,6,7,8,9,10,11,12,13,14,15,16,17,18,19,20,21,22,23,24,25,26,27,28,29,30] aL (by kernel_rfl) (hv4.1) ?_;refine Gz 2 ?_;refine xC rfl (SL aS rfl rfl hv4.1.non (by omega)) ?_;refine Gz 1 ?_;refine xC rfl (SR aN rfl (fun H hH=>hH.rowZ i rfl hp 1 _ rfl)) ?_;refine Gz 2 ?_;refine xC rfl (SL aS rfl rfl hv4.1.non (by omega)) ?_;refine Gz 1 ?_;refine xC rfl (SR aN rfl (fun H hH=>hH.rowZ k rfl hq 1 _ rfl)) ?_;refine xK 0 ?_ ?_<;>intro h47
   ·refine Gz 3 ?_;refine xV rfl (SL aS rfl rfl hv4.1.non (by omega)) ?_;refine Gz 1 ?_;refine xV rfl (SR aN rfl (fun H hH=>hH.rowZ i rfl hp 2 _ rfl)) ?_;refine xW 0 ?_ ?_<;>intro h54
    ·refine Gz 9 ?_;refine SU rfl rfl (TZ rfl rfl rfl rfl ?_);refine S5 (by exact hv4.1) ?_;refine Gz 1 ?_;refine xV rfl (TW rfl rfl) ?_;refine Gz 20 ?_;exact⟨_,rfl,by rw[aK,Wt (fun h=>h hz),Wt hmy2,Wt (fun h=>(Es h hkl hq hp h47).1 h54)],hF4.draws _⟩
    refine Gz 3 ?_;refine xV rfl (SL aS rfl rfl hv4.1.non (by omega)) ?_;refine xV rfl (TN (cs:=aF p) bB rfl (fun H hH j v hj=>hH.rowZ i rfl hp j v hj)) ?_;refine Gz 2 ?_;refine xV rfl (SL aS rfl rfl hv4.1.non (by omega)) ?_;refine xV rfl (TN (cs:=aF q) bB rfl (fun H hH j v hj=>hH.rowZ k rfl hq j v hj)) ?_;refine SU rfl rfl (SS rfl rfl Pv rfl (zX p q _ (hv4.2 p hpm) (hv4.2 q hqm)) rfl ?_);rintro _ w5 ⟨rfl,hf5⟩;have hF5:=(hF4.draws 1).trans hf5;refine S5 (by exact(hv.Wr hF5).1) ?_;by_cases h64:Alk p.2 q.2
    ·rw[WA h64];refine xV rfl (S3 rfl) ?_;refine xV rfl (TX rfl rfl) ?_;refine Gz 12 ?_;exact aG (k+1) ⟨by omega,HT (R:=fun n=>gE n p.2) hq hbl (fun _=>⟨h54,h64⟩),hF5⟩ (by show i-(k+1)<i-k;omega)
    rw[Wx h64];refine xV rfl (S3 rfl) ?_;refine xV rfl (TX rfl rfl) ?_;refine Gz 20 ?_;exact⟨_,rfl,by rw[aK,Wt (fun h=>h hz),Wt hmy2,Wt (fun h=>h64 (Es h hkl hq hp h47).2)],hF5⟩
   refine Gz 16 ?_;refine SU rfl rfl (TZ rfl rfl rfl rfl ?_);refine S5 (by exact hv4.1) ?_;refine Gz 14 ?_;exact aG (k+1) ⟨by omega,HT (R:=fun n=>gE n p.2) hq hbl (fun e=>absurd e h47),hF4.draws _⟩ (by show i-(k+1)<i-k;omega)
  rw[show k=i by omega] at hbl;refine Gz 14 ?_;refine aG (i+1) ⟨by omega,?_,hF4⟩ (by show ps.length-(i+1)<ps.length-i;omega);rw[tkN hp];exact Yu.2 ⟨hlk,by simp,fun b hb a ha=>by rw[WY] at ha;subst ha;exact hbl b hb⟩
 have hie:i=ps.length:=by omega
 subst hie;rw[WJ (by simp)] at hlk;refine Gz 15 ?_;exact⟨_,rfl,by rw[aK,Wt (fun h=>h hz),Wt hmy2,Wu hlk],hF3⟩
end
section
theorem dM(x a b:Int)(W:World):CA 151 [iV x,iV a,iV b] W fun v w'=>v=.bool (decide (a≤x∧x≤b))∧w'=W:=by
 refine cS 15 [(0,_),(1,_),(2,_)] Tryz.func151 ?_;refine fK 9 ?_ ?_<;>intro h9
 ·refine fW 3 ?_ ?_<;>intro h13
  ·refine Gz 6 ?_
   first
   |exact⟨_,rfl,by rw[WA (show a≤x∧x≤b from ⟨h9,h13⟩)],rfl⟩
   |exact⟨_,rfl,by rw[Wx (show ¬ (a≤x∧x≤b) from fun h=>h13 h.2)],rfl⟩
   |exact⟨_,rfl,by rw[Wx (show ¬ (a≤x∧x≤b) from fun h=>h9 h.1)],rfl⟩
  refine Gz 6 ?_
  first
  |exact⟨_,rfl,by rw[WA (show a≤x∧x≤b from ⟨h9,h13⟩)],rfl⟩
  |exact⟨_,rfl,by rw[Wx (show ¬ (a≤x∧x≤b) from fun h=>h13 h.2)],rfl⟩
  |exact⟨_,rfl,by rw[Wx (show ¬ (a≤x∧x≤b) from fun h=>h9 h.1)],rfl⟩
 refine Gz 10 ?_
 first
 |exact⟨_,rfl,by rw[WA (show a≤x∧x≤b from ⟨h9,h13⟩)],rfl⟩
 |exact⟨_,rfl,by rw[Wx (show ¬ (a≤x∧x≤b) from fun h=>h13 h.2)],rfl⟩
 |exact⟨_,rfl,by rw[Wx (show ¬ (a≤x∧x≤b) from fun h=>h9 h.1)],rfl⟩
def fZ(s:By)(m:Int):Prop:=(1≤(s.length:Int)∧(s.length:Int)≤m)∧(0:UInt8)∉s
instance (s:By)(m:Int):Decidable (fZ s m):=by unfold fZ;exact inferInstance
theorem CC(s:By)(m:Int)(W:World):CA 150 [.string (bs s),iV m] W fun v w'=>v=.bool (decide (fZ s m))∧w'=W:=by
 refine cS 14 [(0,_),(1,_)] Tryz.func150 ?_;refine Gz 8 ?_;refine cL (Te ty9 rfl) ?_;refine Gz 1 ?_;refine SJ oI rfl (dM _ 1 m W) rfl ?_;rintro _ w1 ⟨rfl,hw1⟩;subst w1;by_cases h8:1≤(s.length:Int)∧(s.length:Int)≤m
 ·rw[WA h8];refine Gz 2 ?_;refine SS rfl rfl J0 rfl (Ey s 0 W) rfl ?_;rintro _ w1 ⟨rfl,hw1⟩;subst w1;refine fW 0 ?_ ?_<;>intro h12
  ·refine Gz 6 ?_
   first
   |exact⟨_,rfl,by rw[WA (show fZ s m from ⟨h8,pW h12⟩)],rfl⟩
   |exact⟨_,rfl,by rw[Wx (show ¬ fZ s m from fun h=>h.2 (pV (Int.not_lt.1 h12)))],rfl⟩
   |exact⟨_,rfl,by rw[Wx (show ¬ fZ s m from fun h=>h8 h.1)],rfl⟩
  refine Gz 6 ?_
  first
  |exact⟨_,rfl,by rw[WA (show fZ s m from ⟨h8,pW h12⟩)],rfl⟩
  |exact⟨_,rfl,by rw[Wx (show ¬ fZ s m from fun h=>h.2 (pV (Int.not_lt.1 h12)))],rfl⟩
  |exact⟨_,rfl,by rw[Wx (show ¬ fZ s m from fun h=>h8 h.1)],rfl⟩
 rw[Wx h8];refine Gz 10 ?_
 first
 |exact⟨_,rfl,by rw[WA (show fZ s m from ⟨h8,pW h12⟩)],rfl⟩
 |exact⟨_,rfl,by rw[Wx (show ¬ fZ s m from fun h=>h.2 (pV (Int.not_lt.1 h12)))],rfl⟩
 |exact⟨_,rfl,by rw[Wx (show ¬ fZ s m from fun h=>h8 h.1)],rfl⟩
theorem vH(xo:Option Addr)(xc:Nat)(X:List Xa)(W:World)(hv:XaV W.heap xo xc X) :
 CA 152 [.slice xo X.length xc] W fun v w'=>v=.bool (decide (dF X))∧aA nob W w':=by
 have hl:=hv.Wq;refine cS 34 [(0,_)] Tryz.func152 ?_;refine Gz 19 ?_;refine SO (β:=Nat) (fun k=>[(0,.slice xo X.length xc),(3,.string (bs (tB X k))),(6,.slice xo X.length xc),(7,iV X.length),(8,iV k)]) (fun k w=>k≤X.length∧(∀ i,i<k→Ai X i)∧aA nob W w) (fun k=>X.length-k) 0 ⟨rfl,rfl,rfl,rfl,rfl,trivial⟩ ⟨WG _,by intro i hi;omega,VK _ _⟩ ?_;rintro k w2 ⟨hk,hgood,hF2⟩;refine fK 2 ?_ ?_<;>intro h9
 ·refine Gz 10 ?_;obtain⟨xa,xc2,hrow,hxv,hnl⟩:=(hv.Wr hF2).at (i:=k) rfl (by omega);refine cL (SL iY rfl rfl hv.non (by omega)) ?_;refine cL (SX (cs:=[.string (bs (X.getD k x0).1),.slice xa (X.getD k x0).2.length xc2]) dS rfl hrow) ?_;refine SP sS rfl ?_;intro w3 hg3 hs3 hf3;refine sA rfl dS (by simp[Value.oneCell']) hg3 ?_;intro w4 hg4 hs4 hf4;have hF4:aA nob W w4:=hF2.trans (hf3.Wo hf4 (fun k hk=>.inr (by omega)));refine Gz 7 ?_;refine SJ No rfl (CC _ 40 w4) rfl ?_;rintro _ w5 ⟨rfl,hw5⟩;subst w5;by_cases h14:fZ (X.getD k x0).1 40
  ·rw[WA h14];refine cL (S3 rfl) ?_;refine Gz 4 ?_;refine Ta rfl rfl (S6 (Ut (a:=(X.getD k x0).1) (b:=tB X k) rfl rfl)) rfl (fun h20=>?_) (fun h20=>?_)
   ·rw[iB] at h20;have hbad:¬ dF X:=fun h=>by rw[(h.1 k (by omega)).1] at h20;cases h20
    refine Gz 23 ?_;exact⟨_,rfl,by rw[Wx hbad],hF4⟩
   rw[iB] at h20;have g1:WU (tB X k) (X.getD k x0).1=true:=by revert h20;cases WU (tB X k) (X.getD k x0).1<;>simp
   refine fW 5 ?_ ?_<;>intro h26
   ·have hbad:¬ dF X:=fun h=>by have:=(h.1 k (by omega)).2.2.2;omega
    refine Gz 17 ?_;exact⟨_,rfl,by rw[Wx hbad],hF4⟩
   refine Gz 17 ?_;refine aG (k+1) ⟨by omega,fun i hi=>?_,hF4⟩ (by show X.length-(k+1)<X.length-k;omega);by_cases hik:i=k
   ·subst hik;exact⟨g1,by have:=h14.1.2;omega,h14.2,by omega⟩
   ·exact hgood i (by omega)
  rw[Wx h14];have hbad:¬ dF X:=fun h=>h14 (by have g:=h.1 k (by omega);have:=WN.2 (F1 g.1);exact⟨⟨by omega,by have:=g.2.1;omega⟩,g.2.2.1⟩);refine cL (S3 rfl) ?_;refine Gz 28 ?_;exact⟨_,rfl,by rw[Wx hbad],hF4⟩
 refine Gz 13 ?_;refine cL (TR rfl rfl) ?_;refine Gz 5 ?_;refine⟨_,rfl,?_,hF2⟩;have hk2:k=X.length:=by omega
 subst hk2;congr 1;exact decide_eq_decide.2 ⟨fun h=>⟨hgood,by omega⟩,fun h=>by have:=h.2;omega⟩
variable {D:Nat→Prop}
theorem Lj(p:NdH×Nd)(W:World)(hn:NdV D W.heap p)(hsm:smN p.2) :
 CA 110 [.agg (aF p).toArray] W fun v w'=>v=.bool (decide (dL p.2))∧aA nob W w':=by
 have no:∀ w',¬ dL p.2→aA nob W w'→Ret (fun v w'=>v=.bool (decide (dL p.2))∧aA nob W w') (.returned (.bool false)) w':=fun w' h f=>⟨_,rfl,by rw[Wx h],f⟩
 have yes:∀ w',(dL p.2↔dF p.2.xs)→aA nob W w'→Ret (fun v w'=>v=.bool (decide (dL p.2))∧aA nob W w') (.returned (.bool (decide (dF p.2.xs)))) w':=fun w' h f=>⟨_,rfl,congrArg _ (decide_eq_decide.2 h.symm),f⟩
 refine cS 59 [(0,_)] Tryz.func110 ?_;refine Gz 2 ?_;refine Td rfl rfl ?_;intro w1 hg1 hs1 hf1;obtain⟨g,hg⟩:∃ g,g=W.heap.size:=⟨_,rfl⟩
 rw[←hg] at hg1 hs1 ⊢
 replace hg1:w1.heap[g]?=some (.cells (aF p).toArray 37 (0,0)):=hg1
 refine Gz 6 ?_;refine cL (SX (cs:=Dp p.2) tP rfl (bJ hg1 3 rfl)) ?_;refine SP OP rfl ?_;intro w2 hg2 hs2 hf2;obtain⟨q,hq⟩:∃ q,q=w1.heap.size:=⟨_,rfl⟩
 rw[←hq] at hg2 ⊢;refine sA rfl tP (by simp[Dp,Value.oneCell']) hg2 ?_;intro w3 hg3 hs3 hf3;have hf13:aA nob w1 w3:=hf2.Wo hf3 (fun k e=>.inr (by have e:k=q:=e;omega));have hg4:=hf13.obj hg1 id;have hF3:=(hf1.trans hf13).draws 1;have hn3:=hn.Wr hF3;refine Gz 3 ?_;refine Tg 9 [0,1,2,3,4,5,6,7,8] aL (by kernel_rfl) ?_;refine Gz 1 ?_;refine xC rfl (SM aX rfl (by first|exact aD hg4 rfl|exact aD hg3 rfl)) ?_;refine Gz 1 ?_;rw[hn3.2.1.1];refine xC rfl (Ty rfl rfl) ?_;refine Gz 1 ?_;refine xC rfl (SM fT rfl (by first|exact aD hg4 rfl|exact aD hg3 rfl)) ?_;refine xC rfl (Tz rfl rfl) ?_;refine Gz 8 ?_;refine cL (SM aN rfl (by first|exact aD hg4 rfl|exact aD hg3 rfl)) ?_;refine fK 5 ?_ ?_<;>intro h18
 ·refine Gz 10 ?_;by_cases h30:(p.2.data.length:Int)=0
  ·rw[WA h30];refine Gz 2 ?_;by_cases h32:p.2.tgt=[]
   ·rw[WA h32];refine Gz 3 ?_;refine Ta rfl rfl (S6 (SM AY rfl (by first|exact aD hg4 rfl|exact aD hg3 rfl))) rfl (fun h36=>?_) (fun h36=>?_)
    ·refine cW (S3 rfl) ?_;refine Gz 26 ?_
     first
     |exact no _ (fun hm=>by have:=hm.1;omega) hF3
     |exact no _ (fun hm=>by have:=hm.2.2.2.2.2.2.1;omega) hF3
     |exact no _ (fun hm=>hm.2.2.2.2.2.1.elim (fun e=>by omega) (fun e=>h30 (by rw[e];rfl))) hF3
     |exact no _ (fun hm=>by have m:=hm.2.2.2.2.2.2.2.1;unfold okT at m;rw[Wt (by omega)] at m;exact h32 m) hF3
     |exact no _ (fun hm=>by have m:=hm.2.2.2.2.2.2.2.1;unfold okT at m;rw[Wu h26] at m;exact h32 ⟨⟨by have:=WN.2 m.1;omega,by have:=m.2.1;omega⟩,m.2.2⟩) hF3
     |exact no _ (fun hm=>by rw[hm.2.1] at h36;cases h36) hF3
     |exact no _ (fun hm=>h42 hm.2.2.1) hF3
     |exact no _ (fun hm=>h47 hm.2.2.2.1) hF3
     |exact no _ (fun hm=>h52 hm.2.2.2.2.1) hF3
     |refine yes _ ?_ (hF3.trans hf6)
      have k2:okT p.2:=by
       unfold okT
       first
       |(rw[Wt (by omega)];exact h32)
       |(rw[Wu h26];exact⟨fun e=>by have:=h32.1.1;have e0:=congrArg W6 e;have e1:([]:By).length=0:=rfl;omega,by have:=h32.1.2;omega,h32.2⟩)
      have k1:p.2.kind=2∨p.2.data=[]:=by
       first
       |exact .inl h20
       |exact .inr (WM.1 (by omega))
      exact⟨fun hm=>hm.2.2.2.2.2.2.2.2,fun hx=>⟨by omega,by simpa using h36,h42,h47,h52,k1,by omega,k2,hx⟩⟩
    refine cW (S3 rfl) ?_;refine Gz 3 ?_;refine cW (SM aN rfl (by first|exact aD hg4 rfl|exact aD hg3 rfl)) ?_;refine SS rfl rfl oI rfl (dM _ _ _ _) rfl ?_;rintro _ w4 ⟨rfl,hw4⟩;subst w4;by_cases h42:0≤p.2.md∧p.2.md≤511
    ·rw[WA h42];refine Gz 3 ?_;refine cW (SM aN rfl (by first|exact aD hg4 rfl|exact aD hg3 rfl)) ?_;refine SS rfl rfl oI rfl (dM _ _ _ _) rfl ?_;rintro _ w4 ⟨rfl,hw4⟩;subst w4;by_cases h47:0≤p.2.ud∧p.2.ud≤65535
     ·rw[WA h47];refine Gz 3 ?_;refine cW (SM aN rfl (by first|exact aD hg4 rfl|exact aD hg3 rfl)) ?_;refine SS rfl rfl oI rfl (dM _ _ _ _) rfl ?_;rintro _ w4 ⟨rfl,hw4⟩;subst w4;by_cases h52:0≤p.2.gd∧p.2.gd≤65535
      ·rw[WA h52];refine Gz 3 ?_;refine cW (SM cF rfl (by first|exact aD hg4 rfl|exact aD hg3 rfl)) ?_;refine SS rfl rfl J1 rfl ((by show Calls _ _ [Value.slice p.1.xs.a p.1.xs.n p.1.xs.c].toArray _ _;rw[hn3.2.2.1];exact vH _ _ _ _ (hn3.2.2.xav hsm.2.2))) rfl ?_;rintro _ w6 ⟨rfl,hf6⟩;refine Gz 6 ?_
       first
       |exact no _ (fun hm=>by have:=hm.1;omega) hF3
       |exact no _ (fun hm=>by have:=hm.2.2.2.2.2.2.1;omega) hF3
       |exact no _ (fun hm=>hm.2.2.2.2.2.1.elim (fun e=>by omega) (fun e=>h30 (by rw[e];rfl))) hF3
       |exact no _ (fun hm=>by have m:=hm.2.2.2.2.2.2.2.1;unfold okT at m;rw[Wt (by omega)] at m;exact h32 m) hF3
       |exact no _ (fun hm=>by have m:=hm.2.2.2.2.2.2.2.1;unfold okT at m;rw[Wu h26] at m;exact h32 ⟨⟨by have:=WN.2 m.1;omega,by have:=m.2.1;omega⟩,m.2.2⟩) hF3
       |exact no _ (fun hm=>by rw[hm.2.1] at h36;cases h36) hF3
       |exact no _ (fun hm=>h42 hm.2.2.1) hF3
       |exact no _ (fun hm=>h47 hm.2.2.2.1) hF3
       |exact no _ (fun hm=>h52 hm.2.2.2.2.1) hF3
       |refine yes _ ?_ (hF3.trans hf6)
        have k2:okT p.2:=by
         unfold okT
         first
         |(rw[Wt (by omega)];exact h32)
         |(rw[Wu h26];exact⟨fun e=>by have:=h32.1.1;have e0:=congrArg W6 e;have e1:([]:By).length=0:=rfl;omega,by have:=h32.1.2;omega,h32.2⟩)
        have k1:p.2.kind=2∨p.2.data=[]:=by
         first
         |exact .inl h20
         |exact .inr (WM.1 (by omega))
        exact⟨fun hm=>hm.2.2.2.2.2.2.2.2,fun hx=>⟨by omega,by simpa using h36,h42,h47,h52,k1,by omega,k2,hx⟩⟩
      rw[Wx h52];refine Gz 11 ?_
      first
      |exact no _ (fun hm=>by have:=hm.1;omega) hF3
      |exact no _ (fun hm=>by have:=hm.2.2.2.2.2.2.1;omega) hF3
      |exact no _ (fun hm=>hm.2.2.2.2.2.1.elim (fun e=>by omega) (fun e=>h30 (by rw[e];rfl))) hF3
      |exact no _ (fun hm=>by have m:=hm.2.2.2.2.2.2.2.1;unfold okT at m;rw[Wt (by omega)] at m;exact h32 m) hF3
      |exact no _ (fun hm=>by have m:=hm.2.2.2.2.2.2.2.1;unfold okT at m;rw[Wu h26] at m;exact h32 ⟨⟨by have:=WN.2 m.1;omega,by have:=m.2.1;omega⟩,m.2.2⟩) hF3
      |exact no _ (fun hm=>by rw[hm.2.1] at h36;cases h36) hF3
      |exact no _ (fun hm=>h42 hm.2.2.1) hF3
      |exact no _ (fun hm=>h47 hm.2.2.2.1) hF3
      |exact no _ (fun hm=>h52 hm.2.2.2.2.1) hF3
      |refine yes _ ?_ (hF3.trans hf6)
       have k2:okT p.2:=by
        unfold okT
        first
        |(rw[Wt (by omega)];exact h32)
        |(rw[Wu h26];exact⟨fun e=>by have:=h32.1.1;have e0:=congrArg W6 e;have e1:([]:By).length=0:=rfl;omega,by have:=h32.1.2;omega,h32.2⟩)
       have k1:p.2.kind=2∨p.2.data=[]:=by
        first
        |exact .inl h20
        |exact .inr (WM.1 (by omega))
       exact⟨fun hm=>hm.2.2.2.2.2.2.2.2,fun hx=>⟨by omega,by simpa using h36,h42,h47,h52,k1,by omega,k2,hx⟩⟩
     rw[Wx h47];refine Gz 16 ?_
     first
     |exact no _ (fun hm=>by have:=hm.1;omega) hF3
     |exact no _ (fun hm=>by have:=hm.2.2.2.2.2.2.1;omega) hF3
     |exact no _ (fun hm=>hm.2.2.2.2.2.1.elim (fun e=>by omega) (fun e=>h30 (by rw[e];rfl))) hF3
     |exact no _ (fun hm=>by have m:=hm.2.2.2.2.2.2.2.1;unfold okT at m;rw[Wt (by omega)] at m;exact h32 m) hF3
     |exact no _ (fun hm=>by have m:=hm.2.2.2.2.2.2.2.1;unfold okT at m;rw[Wu h26] at m;exact h32 ⟨⟨by have:=WN.2 m.1;omega,by have:=m.2.1;omega⟩,m.2.2⟩) hF3
     |exact no _ (fun hm=>by rw[hm.2.1] at h36;cases h36) hF3
     |exact no _ (fun hm=>h42 hm.2.2.1) hF3
     |exact no _ (fun hm=>h47 hm.2.2.2.1) hF3
     |exact no _ (fun hm=>h52 hm.2.2.2.2.1) hF3
     |refine yes _ ?_ (hF3.trans hf6)
      have k2:okT p.2:=by
       unfold okT
       first
       |(rw[Wt (by omega)];exact h32)
       |(rw[Wu h26];exact⟨fun e=>by have:=h32.1.1;have e0:=congrArg W6 e;have e1:([]:By).length=0:=rfl;omega,by have:=h32.1.2;omega,h32.2⟩)
      have k1:p.2.kind=2∨p.2.data=[]:=by
       first
       |exact .inl h20
       |exact .inr (WM.1 (by omega))
      exact⟨fun hm=>hm.2.2.2.2.2.2.2.2,fun hx=>⟨by omega,by simpa using h36,h42,h47,h52,k1,by omega,k2,hx⟩⟩
    rw[Wx h42];refine Gz 21 ?_
    first
    |exact no _ (fun hm=>by have:=hm.1;omega) hF3
    |exact no _ (fun hm=>by have:=hm.2.2.2.2.2.2.1;omega) hF3
    |exact no _ (fun hm=>hm.2.2.2.2.2.1.elim (fun e=>by omega) (fun e=>h30 (by rw[e];rfl))) hF3
    |exact no _ (fun hm=>by have m:=hm.2.2.2.2.2.2.2.1;unfold okT at m;rw[Wt (by omega)] at m;exact h32 m) hF3
    |exact no _ (fun hm=>by have m:=hm.2.2.2.2.2.2.2.1;unfold okT at m;rw[Wu h26] at m;exact h32 ⟨⟨by have:=WN.2 m.1;omega,by have:=m.2.1;omega⟩,m.2.2⟩) hF3
    |exact no _ (fun hm=>by rw[hm.2.1] at h36;cases h36) hF3
    |exact no _ (fun hm=>h42 hm.2.2.1) hF3
    |exact no _ (fun hm=>h47 hm.2.2.2.1) hF3
    |exact no _ (fun hm=>h52 hm.2.2.2.2.1) hF3
    |refine yes _ ?_ (hF3.trans hf6)
     have k2:okT p.2:=by
      unfold okT
      first
      |(rw[Wt (by omega)];exact h32)
      |(rw[Wu h26];exact⟨fun e=>by have:=h32.1.1;have e0:=congrArg W6 e;have e1:([]:By).length=0:=rfl;omega,by have:=h32.1.2;omega,h32.2⟩)
     have k1:p.2.kind=2∨p.2.data=[]:=by
      first
      |exact .inl h20
      |exact .inr (WM.1 (by omega))
     exact⟨fun hm=>hm.2.2.2.2.2.2.2.2,fun hx=>⟨by omega,by simpa using h36,h42,h47,h52,k1,by omega,k2,hx⟩⟩
   rw[Wx h32];refine Gz 31 ?_
   first
   |exact no _ (fun hm=>by have:=hm.1;omega) hF3
   |exact no _ (fun hm=>by have:=hm.2.2.2.2.2.2.1;omega) hF3
   |exact no _ (fun hm=>hm.2.2.2.2.2.1.elim (fun e=>by omega) (fun e=>h30 (by rw[e];rfl))) hF3
   |exact no _ (fun hm=>by have m:=hm.2.2.2.2.2.2.2.1;unfold okT at m;rw[Wt (by omega)] at m;exact h32 m) hF3
   |exact no _ (fun hm=>by have m:=hm.2.2.2.2.2.2.2.1;unfold okT at m;rw[Wu h26] at m;exact h32 ⟨⟨by have:=WN.2 m.1;omega,by have:=m.2.1;omega⟩,m.2.2⟩) hF3
   |exact no _ (fun hm=>by rw[hm.2.1] at h36;cases h36) hF3
   |exact no _ (fun hm=>h42 hm.2.2.1) hF3
   |exact no _ (fun hm=>h47 hm.2.2.2.1) hF3
   |exact no _ (fun hm=>h52 hm.2.2.2.2.1) hF3
   |refine yes _ ?_ (hF3.trans hf6)
    have k2:okT p.2:=by
     unfold okT
     first
     |(rw[Wt (by omega)];exact h32)
     |(rw[Wu h26];exact⟨fun e=>by have:=h32.1.1;have e0:=congrArg W6 e;have e1:([]:By).length=0:=rfl;omega,by have:=h32.1.2;omega,h32.2⟩)
    have k1:p.2.kind=2∨p.2.data=[]:=by
     first
     |exact .inl h20
     |exact .inr (WM.1 (by omega))
    exact⟨fun hm=>hm.2.2.2.2.2.2.2.2,fun hx=>⟨by omega,by simpa using h36,h42,h47,h52,k1,by omega,k2,hx⟩⟩
  rw[Wx h30];refine Gz 33 ?_
  first
  |exact no _ (fun hm=>by have:=hm.1;omega) hF3
  |exact no _ (fun hm=>by have:=hm.2.2.2.2.2.2.1;omega) hF3
  |exact no _ (fun hm=>hm.2.2.2.2.2.1.elim (fun e=>by omega) (fun e=>h30 (by rw[e];rfl))) hF3
  |exact no _ (fun hm=>by have m:=hm.2.2.2.2.2.2.2.1;unfold okT at m;rw[Wt (by omega)] at m;exact h32 m) hF3
  |exact no _ (fun hm=>by have m:=hm.2.2.2.2.2.2.2.1;unfold okT at m;rw[Wu h26] at m;exact h32 ⟨⟨by have:=WN.2 m.1;omega,by have:=m.2.1;omega⟩,m.2.2⟩) hF3
  |exact no _ (fun hm=>by rw[hm.2.1] at h36;cases h36) hF3
  |exact no _ (fun hm=>h42 hm.2.2.1) hF3
  |exact no _ (fun hm=>h47 hm.2.2.2.1) hF3
  |exact no _ (fun hm=>h52 hm.2.2.2.2.1) hF3
  |refine yes _ ?_ (hF3.trans hf6)
   have k2:okT p.2:=by
    unfold okT
    first
    |(rw[Wt (by omega)];exact h32)
    |(rw[Wu h26];exact⟨fun e=>by have:=h32.1.1;have e0:=congrArg W6 e;have e1:([]:By).length=0:=rfl;omega,by have:=h32.1.2;omega,h32.2⟩)
   have k1:p.2.kind=2∨p.2.data=[]:=by
    first
    |exact .inl h20
    |exact .inr (WM.1 (by omega))
   exact⟨fun hm=>hm.2.2.2.2.2.2.2.2,fun hx=>⟨by omega,by simpa using h36,h42,h47,h52,k1,by omega,k2,hx⟩⟩
 refine fK 6 ?_ ?_<;>intro h20
 ·refine Gz 6 ?_;refine cL (SM aX rfl (by first|exact aD hg4 rfl|exact aD hg3 rfl)) ?_;refine Gz 1 ?_;rw[hn3.2.1.1];refine cL (TR rfl rfl) ?_;refine Gz 7 ?_;by_cases h30:(p.2.data.length:Int)≤4096
  ·rw[WA h30];refine Gz 2 ?_;by_cases h32:p.2.tgt=[]
   ·rw[WA h32];refine Gz 3 ?_;refine Ta rfl rfl (S6 (SM AY rfl (by first|exact aD hg4 rfl|exact aD hg3 rfl))) rfl (fun h36=>?_) (fun h36=>?_)
    ·refine cW (S3 rfl) ?_;refine Gz 26 ?_
     first
     |exact no _ (fun hm=>by have:=hm.1;omega) hF3
     |exact no _ (fun hm=>by have:=hm.2.2.2.2.2.2.1;omega) hF3
     |exact no _ (fun hm=>hm.2.2.2.2.2.1.elim (fun e=>by omega) (fun e=>h30 (by rw[e];rfl))) hF3
     |exact no _ (fun hm=>by have m:=hm.2.2.2.2.2.2.2.1;unfold okT at m;rw[Wt (by omega)] at m;exact h32 m) hF3
     |exact no _ (fun hm=>by have m:=hm.2.2.2.2.2.2.2.1;unfold okT at m;rw[Wu h26] at m;exact h32 ⟨⟨by have:=WN.2 m.1;omega,by have:=m.2.1;omega⟩,m.2.2⟩) hF3
     |exact no _ (fun hm=>by rw[hm.2.1] at h36;cases h36) hF3
     |exact no _ (fun hm=>h42 hm.2.2.1) hF3
     |exact no _ (fun hm=>h47 hm.2.2.2.1) hF3
     |exact no _ (fun hm=>h52 hm.2.2.2.2.1) hF3
     |refine yes _ ?_ (hF3.trans hf6)
      have k2:okT p.2:=by
       unfold okT
       first
       |(rw[Wt (by omega)];exact h32)
       |(rw[Wu h26];exact⟨fun e=>by have:=h32.1.1;have e0:=congrArg W6 e;have e1:([]:By).length=0:=rfl;omega,by have:=h32.1.2;omega,h32.2⟩)
      have k1:p.2.kind=2∨p.2.data=[]:=by
       first
       |exact .inl h20
       |exact .inr (WM.1 (by omega))
      exact⟨fun hm=>hm.2.2.2.2.2.2.2.2,fun hx=>⟨by omega,by simpa using h36,h42,h47,h52,k1,by omega,k2,hx⟩⟩
    refine cW (S3 rfl) ?_;refine Gz 3 ?_;refine cW (SM aN rfl (by first|exact aD hg4 rfl|exact aD hg3 rfl)) ?_;refine SS rfl rfl oI rfl (dM _ _ _ _) rfl ?_;rintro _ w4 ⟨rfl,hw4⟩;subst w4;by_cases h42:0≤p.2.md∧p.2.md≤511
    ·rw[WA h42];refine Gz 3 ?_;refine cW (SM aN rfl (by first|exact aD hg4 rfl|exact aD hg3 rfl)) ?_;refine SS rfl rfl oI rfl (dM _ _ _ _) rfl ?_;rintro _ w4 ⟨rfl,hw4⟩;subst w4;by_cases h47:0≤p.2.ud∧p.2.ud≤65535
     ·rw[WA h47];refine Gz 3 ?_;refine cW (SM aN rfl (by first|exact aD hg4 rfl|exact aD hg3 rfl)) ?_;refine SS rfl rfl oI rfl (dM _ _ _ _) rfl ?_;rintro _ w4 ⟨rfl,hw4⟩;subst w4;by_cases h52:0≤p.2.gd∧p.2.gd≤65535
      ·rw[WA h52];refine Gz 3 ?_;refine cW (SM cF rfl (by first|exact aD hg4 rfl|exact aD hg3 rfl)) ?_;refine SS rfl rfl J1 rfl ((by show Calls _ _ [Value.slice p.1.xs.a p.1.xs.n p.1.xs.c].toArray _ _;rw[hn3.2.2.1];exact vH _ _ _ _ (hn3.2.2.xav hsm.2.2))) rfl ?_;rintro _ w6 ⟨rfl,hf6⟩;refine Gz 6 ?_
       first
       |exact no _ (fun hm=>by have:=hm.1;omega) hF3
       |exact no _ (fun hm=>by have:=hm.2.2.2.2.2.2.1;omega) hF3
       |exact no _ (fun hm=>hm.2.2.2.2.2.1.elim (fun e=>by omega) (fun e=>h30 (by rw[e];rfl))) hF3
       |exact no _ (fun hm=>by have m:=hm.2.2.2.2.2.2.2.1;unfold okT at m;rw[Wt (by omega)] at m;exact h32 m) hF3
       |exact no _ (fun hm=>by have m:=hm.2.2.2.2.2.2.2.1;unfold okT at m;rw[Wu h26] at m;exact h32 ⟨⟨by have:=WN.2 m.1;omega,by have:=m.2.1;omega⟩,m.2.2⟩) hF3
       |exact no _ (fun hm=>by rw[hm.2.1] at h36;cases h36) hF3
       |exact no _ (fun hm=>h42 hm.2.2.1) hF3
       |exact no _ (fun hm=>h47 hm.2.2.2.1) hF3
       |exact no _ (fun hm=>h52 hm.2.2.2.2.1) hF3
       |refine yes _ ?_ (hF3.trans hf6)
        have k2:okT p.2:=by
         unfold okT
         first
         |(rw[Wt (by omega)];exact h32)
         |(rw[Wu h26];exact⟨fun e=>by have:=h32.1.1;have e0:=congrArg W6 e;have e1:([]:By).length=0:=rfl;omega,by have:=h32.1.2;omega,h32.2⟩)
        have k1:p.2.kind=2∨p.2.data=[]:=by
         first
         |exact .inl h20
         |exact .inr (WM.1 (by omega))
        exact⟨fun hm=>hm.2.2.2.2.2.2.2.2,fun hx=>⟨by omega,by simpa using h36,h42,h47,h52,k1,by omega,k2,hx⟩⟩
      rw[Wx h52];refine Gz 11 ?_
      first
      |exact no _ (fun hm=>by have:=hm.1;omega) hF3
      |exact no _ (fun hm=>by have:=hm.2.2.2.2.2.2.1;omega) hF3
      |exact no _ (fun hm=>hm.2.2.2.2.2.1.elim (fun e=>by omega) (fun e=>h30 (by rw[e];rfl))) hF3
      |exact no _ (fun hm=>by have m:=hm.2.2.2.2.2.2.2.1;unfold okT at m;rw[Wt (by omega)] at m;exact h32 m) hF3
      |exact no _ (fun hm=>by have m:=hm.2.2.2.2.2.2.2.1;unfold okT at m;rw[Wu h26] at m;exact h32 ⟨⟨by have:=WN.2 m.1;omega,by have:=m.2.1;omega⟩,m.2.2⟩) hF3
      |exact no _ (fun hm=>by rw[hm.2.1] at h36;cases h36) hF3
      |exact no _ (fun hm=>h42 hm.2.2.1) hF3
      |exact no _ (fun hm=>h47 hm.2.2.2.1) hF3
      |exact no _ (fun hm=>h52 hm.2.2.2.2.1) hF3
      |refine yes _ ?_ (hF3.trans hf6)
       have k2:okT p.2:=by
        unfold okT
        first
        |(rw[Wt (by omega)];exact h32)
        |(rw[Wu h26];exact⟨fun e=>by have:=h32.1.1;have e0:=congrArg W6 e;have e1:([]:By).length=0:=rfl;omega,by have:=h32.1.2;omega,h32.2⟩)
       have k1:p.2.kind=2∨p.2.data=[]:=by
        first
        |exact .inl h20
        |exact .inr (WM.1 (by omega))
       exact⟨fun hm=>hm.2.2.2.2.2.2.2.2,fun hx=>⟨by omega,by simpa using h36,h42,h47,h52,k1,by omega,k2,hx⟩⟩
     rw[Wx h47];refine Gz 16 ?_
     first
     |exact no _ (fun hm=>by have:=hm.1;omega) hF3
     |exact no _ (fun hm=>by have:=hm.2.2.2.2.2.2.1;omega) hF3
     |exact no _ (fun hm=>hm.2.2.2.2.2.1.elim (fun e=>by omega) (fun e=>h30 (by rw[e];rfl))) hF3
     |exact no _ (fun hm=>by have m:=hm.2.2.2.2.2.2.2.1;unfold okT at m;rw[Wt (by omega)] at m;exact h32 m) hF3
     |exact no _ (fun hm=>by have m:=hm.2.2.2.2.2.2.2.1;unfold okT at m;rw[Wu h26] at m;exact h32 ⟨⟨by have:=WN.2 m.1;omega,by have:=m.2.1;omega⟩,m.2.2⟩) hF3
     |exact no _ (fun hm=>by rw[hm.2.1] at h36;cases h36) hF3
     |exact no _ (fun hm=>h42 hm.2.2.1) hF3
     |exact no _ (fun hm=>h47 hm.2.2.2.1) hF3
     |exact no _ (fun hm=>h52 hm.2.2.2.2.1) hF3
     |refine yes _ ?_ (hF3.trans hf6)
      have k2:okT p.2:=by
       unfold okT
       first
       |(rw[Wt (by omega)];exact h32)
       |(rw[Wu h26];exact⟨fun e=>by have:=h32.1.1;have e0:=congrArg W6 e;have e1:([]:By).length=0:=rfl;omega,by have:=h32.1.2;omega,h32.2⟩)
      have k1:p.2.kind=2∨p.2.data=[]:=by
       first
       |exact .inl h20
       |exact .inr (WM.1 (by omega))
      exact⟨fun hm=>hm.2.2.2.2.2.2.2.2,fun hx=>⟨by omega,by simpa using h36,h42,h47,h52,k1,by omega,k2,hx⟩⟩
    rw[Wx h42];refine Gz 21 ?_
    first
    |exact no _ (fun hm=>by have:=hm.1;omega) hF3
    |exact no _ (fun hm=>by have:=hm.2.2.2.2.2.2.1;omega) hF3
    |exact no _ (fun hm=>hm.2.2.2.2.2.1.elim (fun e=>by omega) (fun e=>h30 (by rw[e];rfl))) hF3
    |exact no _ (fun hm=>by have m:=hm.2.2.2.2.2.2.2.1;unfold okT at m;rw[Wt (by omega)] at m;exact h32 m) hF3
    |exact no _ (fun hm=>by have m:=hm.2.2.2.2.2.2.2.1;unfold okT at m;rw[Wu h26] at m;exact h32 ⟨⟨by have:=WN.2 m.1;omega,by have:=m.2.1;omega⟩,m.2.2⟩) hF3
    |exact no _ (fun hm=>by rw[hm.2.1] at h36;cases h36) hF3
    |exact no _ (fun hm=>h42 hm.2.2.1) hF3
    |exact no _ (fun hm=>h47 hm.2.2.2.1) hF3
    |exact no _ (fun hm=>h52 hm.2.2.2.2.1) hF3
    |refine yes _ ?_ (hF3.trans hf6)
     have k2:okT p.2:=by
      unfold okT
      first
      |(rw[Wt (by omega)];exact h32)
      |(rw[Wu h26];exact⟨fun e=>by have:=h32.1.1;have e0:=congrArg W6 e;have e1:([]:By).length=0:=rfl;omega,by have:=h32.1.2;omega,h32.2⟩)
     have k1:p.2.kind=2∨p.2.data=[]:=by
      first
      |exact .inl h20
      |exact .inr (WM.1 (by omega))
     exact⟨fun hm=>hm.2.2.2.2.2.2.2.2,fun hx=>⟨by omega,by simpa using h36,h42,h47,h52,k1,by omega,k2,hx⟩⟩
   rw[Wx h32];refine Gz 31 ?_
   first
   |exact no _ (fun hm=>by have:=hm.1;omega) hF3
   |exact no _ (fun hm=>by have:=hm.2.2.2.2.2.2.1;omega) hF3
   |exact no _ (fun hm=>hm.2.2.2.2.2.1.elim (fun e=>by omega) (fun e=>h30 (by rw[e];rfl))) hF3
   |exact no _ (fun hm=>by have m:=hm.2.2.2.2.2.2.2.1;unfold okT at m;rw[Wt (by omega)] at m;exact h32 m) hF3
   |exact no _ (fun hm=>by have m:=hm.2.2.2.2.2.2.2.1;unfold okT at m;rw[Wu h26] at m;exact h32 ⟨⟨by have:=WN.2 m.1;omega,by have:=m.2.1;omega⟩,m.2.2⟩) hF3
   |exact no _ (fun hm=>by rw[hm.2.1] at h36;cases h36) hF3
   |exact no _ (fun hm=>h42 hm.2.2.1) hF3
   |exact no _ (fun hm=>h47 hm.2.2.2.1) hF3
   |exact no _ (fun hm=>h52 hm.2.2.2.2.1) hF3
   |refine yes _ ?_ (hF3.trans hf6)
    have k2:okT p.2:=by
     unfold okT
     first
     |(rw[Wt (by omega)];exact h32)
     |(rw[Wu h26];exact⟨fun e=>by have:=h32.1.1;have e0:=congrArg W6 e;have e1:([]:By).length=0:=rfl;omega,by have:=h32.1.2;omega,h32.2⟩)
    have k1:p.2.kind=2∨p.2.data=[]:=by
     first
     |exact .inl h20
     |exact .inr (WM.1 (by omega))
    exact⟨fun hm=>hm.2.2.2.2.2.2.2.2,fun hx=>⟨by omega,by simpa using h36,h42,h47,h52,k1,by omega,k2,hx⟩⟩
  rw[Wx h30];refine Gz 33 ?_
  first
  |exact no _ (fun hm=>by have:=hm.1;omega) hF3
  |exact no _ (fun hm=>by have:=hm.2.2.2.2.2.2.1;omega) hF3
  |exact no _ (fun hm=>hm.2.2.2.2.2.1.elim (fun e=>by omega) (fun e=>h30 (by rw[e];rfl))) hF3
  |exact no _ (fun hm=>by have m:=hm.2.2.2.2.2.2.2.1;unfold okT at m;rw[Wt (by omega)] at m;exact h32 m) hF3
  |exact no _ (fun hm=>by have m:=hm.2.2.2.2.2.2.2.1;unfold okT at m;rw[Wu h26] at m;exact h32 ⟨⟨by have:=WN.2 m.1;omega,by have:=m.2.1;omega⟩,m.2.2⟩) hF3
  |exact no _ (fun hm=>by rw[hm.2.1] at h36;cases h36) hF3
  |exact no _ (fun hm=>h42 hm.2.2.1) hF3
  |exact no _ (fun hm=>h47 hm.2.2.2.1) hF3
  |exact no _ (fun hm=>h52 hm.2.2.2.2.1) hF3
  |refine yes _ ?_ (hF3.trans hf6)
   have k2:okT p.2:=by
    unfold okT
    first
    |(rw[Wt (by omega)];exact h32)
    |(rw[Wu h26];exact⟨fun e=>by have:=h32.1.1;have e0:=congrArg W6 e;have e1:([]:By).length=0:=rfl;omega,by have:=h32.1.2;omega,h32.2⟩)
   have k1:p.2.kind=2∨p.2.data=[]:=by
    first
    |exact .inl h20
    |exact .inr (WM.1 (by omega))
   exact⟨fun hm=>hm.2.2.2.2.2.2.2.2,fun hx=>⟨by omega,by simpa using h36,h42,h47,h52,k1,by omega,k2,hx⟩⟩
 refine fK 6 ?_ ?_<;>intro h26
 ·refine Gz 6 ?_;refine cL (SM fT rfl (by first|exact aD hg4 rfl|exact aD hg3 rfl)) ?_;refine SJ No rfl (CC p.2.tgt 200 _) rfl ?_;rintro _ w4 ⟨rfl,hw4⟩;subst w4;refine Gz 7 ?_;by_cases h30:(p.2.data.length:Int)=0
  ·rw[WA h30];refine Gz 2 ?_;by_cases h32:fZ p.2.tgt 200
   ·rw[WA h32];refine Gz 3 ?_;refine Ta rfl rfl (S6 (SM AY rfl (by first|exact aD hg4 rfl|exact aD hg3 rfl))) rfl (fun h36=>?_) (fun h36=>?_)
    ·refine cW (S3 rfl) ?_;refine Gz 26 ?_
     first
     |exact no _ (fun hm=>by have:=hm.1;omega) hF3
     |exact no _ (fun hm=>by have:=hm.2.2.2.2.2.2.1;omega) hF3
     |exact no _ (fun hm=>hm.2.2.2.2.2.1.elim (fun e=>by omega) (fun e=>h30 (by rw[e];rfl))) hF3
     |exact no _ (fun hm=>by have m:=hm.2.2.2.2.2.2.2.1;unfold okT at m;rw[Wt (by omega)] at m;exact h32 m) hF3
     |exact no _ (fun hm=>by have m:=hm.2.2.2.2.2.2.2.1;unfold okT at m;rw[Wu h26] at m;exact h32 ⟨⟨by have:=WN.2 m.1;omega,by have:=m.2.1;omega⟩,m.2.2⟩) hF3
     |exact no _ (fun hm=>by rw[hm.2.1] at h36;cases h36) hF3
     |exact no _ (fun hm=>h42 hm.2.2.1) hF3
     |exact no _ (fun hm=>h47 hm.2.2.2.1) hF3
     |exact no _ (fun hm=>h52 hm.2.2.2.2.1) hF3
     |refine yes _ ?_ (hF3.trans hf6)
      have k2:okT p.2:=by
       unfold okT
       first
       |(rw[Wt (by omega)];exact h32)
       |(rw[Wu h26];exact⟨fun e=>by have:=h32.1.1;have e0:=congrArg W6 e;have e1:([]:By).length=0:=rfl;omega,by have:=h32.1.2;omega,h32.2⟩)
      have k1:p.2.kind=2∨p.2.data=[]:=by
       first
       |exact .inl h20
       |exact .inr (WM.1 (by omega))
      exact⟨fun hm=>hm.2.2.2.2.2.2.2.2,fun hx=>⟨by omega,by simpa using h36,h42,h47,h52,k1,by omega,k2,hx⟩⟩
    refine cW (S3 rfl) ?_;refine Gz 3 ?_;refine cW (SM aN rfl (by first|exact aD hg4 rfl|exact aD hg3 rfl)) ?_;refine SS rfl rfl oI rfl (dM _ _ _ _) rfl ?_;rintro _ w4 ⟨rfl,hw4⟩;subst w4;by_cases h42:0≤p.2.md∧p.2.md≤511
    ·rw[WA h42];refine Gz 3 ?_;refine cW (SM aN rfl (by first|exact aD hg4 rfl|exact aD hg3 rfl)) ?_;refine SS rfl rfl oI rfl (dM _ _ _ _) rfl ?_;rintro _ w4 ⟨rfl,hw4⟩;subst w4;by_cases h47:0≤p.2.ud∧p.2.ud≤65535
     ·rw[WA h47];refine Gz 3 ?_;refine cW (SM aN rfl (by first|exact aD hg4 rfl|exact aD hg3 rfl)) ?_;refine SS rfl rfl oI rfl (dM _ _ _ _) rfl ?_;rintro _ w4 ⟨rfl,hw4⟩;subst w4;by_cases h52:0≤p.2.gd∧p.2.gd≤65535
      ·rw[WA h52];refine Gz 3 ?_;refine cW (SM cF rfl (by first|exact aD hg4 rfl|exact aD hg3 rfl)) ?_;refine SS rfl rfl J1 rfl ((by show Calls _ _ [Value.slice p.1.xs.a p.1.xs.n p.1.xs.c].toArray _ _;rw[hn3.2.2.1];exact vH _ _ _ _ (hn3.2.2.xav hsm.2.2))) rfl ?_;rintro _ w6 ⟨rfl,hf6⟩;refine Gz 6 ?_
       first
       |exact no _ (fun hm=>by have:=hm.1;omega) hF3
       |exact no _ (fun hm=>by have:=hm.2.2.2.2.2.2.1;omega) hF3
       |exact no _ (fun hm=>hm.2.2.2.2.2.1.elim (fun e=>by omega) (fun e=>h30 (by rw[e];rfl))) hF3
       |exact no _ (fun hm=>by have m:=hm.2.2.2.2.2.2.2.1;unfold okT at m;rw[Wt (by omega)] at m;exact h32 m) hF3
       |exact no _ (fun hm=>by have m:=hm.2.2.2.2.2.2.2.1;unfold okT at m;rw[Wu h26] at m;exact h32 ⟨⟨by have:=WN.2 m.1;omega,by have:=m.2.1;omega⟩,m.2.2⟩) hF3
       |exact no _ (fun hm=>by rw[hm.2.1] at h36;cases h36) hF3
       |exact no _ (fun hm=>h42 hm.2.2.1) hF3
       |exact no _ (fun hm=>h47 hm.2.2.2.1) hF3
       |exact no _ (fun hm=>h52 hm.2.2.2.2.1) hF3
       |refine yes _ ?_ (hF3.trans hf6)
        have k2:okT p.2:=by
         unfold okT
         first
         |(rw[Wt (by omega)];exact h32)
         |(rw[Wu h26];exact⟨fun e=>by have:=h32.1.1;have e0:=congrArg W6 e;have e1:([]:By).length=0:=rfl;omega,by have:=h32.1.2;omega,h32.2⟩)
        have k1:p.2.kind=2∨p.2.data=[]:=by
         first
         |exact .inl h20
         |exact .inr (WM.1 (by omega))
        exact⟨fun hm=>hm.2.2.2.2.2.2.2.2,fun hx=>⟨by omega,by simpa using h36,h42,h47,h52,k1,by omega,k2,hx⟩⟩
      rw[Wx h52];refine Gz 11 ?_
      first
      |exact no _ (fun hm=>by have:=hm.1;omega) hF3
      |exact no _ (fun hm=>by have:=hm.2.2.2.2.2.2.1;omega) hF3
      |exact no _ (fun hm=>hm.2.2.2.2.2.1.elim (fun e=>by omega) (fun e=>h30 (by rw[e];rfl))) hF3
      |exact no _ (fun hm=>by have m:=hm.2.2.2.2.2.2.2.1;unfold okT at m;rw[Wt (by omega)] at m;exact h32 m) hF3
      |exact no _ (fun hm=>by have m:=hm.2.2.2.2.2.2.2.1;unfold okT at m;rw[Wu h26] at m;exact h32 ⟨⟨by have:=WN.2 m.1;omega,by have:=m.2.1;omega⟩,m.2.2⟩) hF3
      |exact no _ (fun hm=>by rw[hm.2.1] at h36;cases h36) hF3
      |exact no _ (fun hm=>h42 hm.2.2.1) hF3
      |exact no _ (fun hm=>h47 hm.2.2.2.1) hF3
      |exact no _ (fun hm=>h52 hm.2.2.2.2.1) hF3
      |refine yes _ ?_ (hF3.trans hf6)
       have k2:okT p.2:=by
        unfold okT
        first
        |(rw[Wt (by omega)];exact h32)
        |(rw[Wu h26];exact⟨fun e=>by have:=h32.1.1;have e0:=congrArg W6 e;have e1:([]:By).length=0:=rfl;omega,by have:=h32.1.2;omega,h32.2⟩)
       have k1:p.2.kind=2∨p.2.data=[]:=by
        first
        |exact .inl h20
        |exact .inr (WM.1 (by omega))
       exact⟨fun hm=>hm.2.2.2.2.2.2.2.2,fun hx=>⟨by omega,by simpa using h36,h42,h47,h52,k1,by omega,k2,hx⟩⟩
     rw[Wx h47];refine Gz 16 ?_
     first
     |exact no _ (fun hm=>by have:=hm.1;omega) hF3
     |exact no _ (fun hm=>by have:=hm.2.2.2.2.2.2.1;omega) hF3
     |exact no _ (fun hm=>hm.2.2.2.2.2.1.elim (fun e=>by omega) (fun e=>h30 (by rw[e];rfl))) hF3
     |exact no _ (fun hm=>by have m:=hm.2.2.2.2.2.2.2.1;unfold okT at m;rw[Wt (by omega)] at m;exact h32 m) hF3
     |exact no _ (fun hm=>by have m:=hm.2.2.2.2.2.2.2.1;unfold okT at m;rw[Wu h26] at m;exact h32 ⟨⟨by have:=WN.2 m.1;omega,by have:=m.2.1;omega⟩,m.2.2⟩) hF3
     |exact no _ (fun hm=>by rw[hm.2.1] at h36;cases h36) hF3
     |exact no _ (fun hm=>h42 hm.2.2.1) hF3
     |exact no _ (fun hm=>h47 hm.2.2.2.1) hF3
     |exact no _ (fun hm=>h52 hm.2.2.2.2.1) hF3
     |refine yes _ ?_ (hF3.trans hf6)
      have k2:okT p.2:=by
       unfold okT
       first
       |(rw[Wt (by omega)];exact h32)
       |(rw[Wu h26];exact⟨fun e=>by have:=h32.1.1;have e0:=congrArg W6 e;have e1:([]:By).length=0:=rfl;omega,by have:=h32.1.2;omega,h32.2⟩)
      have k1:p.2.kind=2∨p.2.data=[]:=by
       first
       |exact .inl h20
       |exact .inr (WM.1 (by omega))
      exact⟨fun hm=>hm.2.2.2.2.2.2.2.2,fun hx=>⟨by omega,by simpa using h36,h42,h47,h52,k1,by omega,k2,hx⟩⟩
    rw[Wx h42];refine Gz 21 ?_
    first
    |exact no _ (fun hm=>by have:=hm.1;omega) hF3
    |exact no _ (fun hm=>by have:=hm.2.2.2.2.2.2.1;omega) hF3
    |exact no _ (fun hm=>hm.2.2.2.2.2.1.elim (fun e=>by omega) (fun e=>h30 (by rw[e];rfl))) hF3
    |exact no _ (fun hm=>by have m:=hm.2.2.2.2.2.2.2.1;unfold okT at m;rw[Wt (by omega)] at m;exact h32 m) hF3
    |exact no _ (fun hm=>by have m:=hm.2.2.2.2.2.2.2.1;unfold okT at m;rw[Wu h26] at m;exact h32 ⟨⟨by have:=WN.2 m.1;omega,by have:=m.2.1;omega⟩,m.2.2⟩) hF3
    |exact no _ (fun hm=>by rw[hm.2.1] at h36;cases h36) hF3
    |exact no _ (fun hm=>h42 hm.2.2.1) hF3
    |exact no _ (fun hm=>h47 hm.2.2.2.1) hF3
    |exact no _ (fun hm=>h52 hm.2.2.2.2.1) hF3
    |refine yes _ ?_ (hF3.trans hf6)
     have k2:okT p.2:=by
      unfold okT
      first
      |(rw[Wt (by omega)];exact h32)
      |(rw[Wu h26];exact⟨fun e=>by have:=h32.1.1;have e0:=congrArg W6 e;have e1:([]:By).length=0:=rfl;omega,by have:=h32.1.2;omega,h32.2⟩)
     have k1:p.2.kind=2∨p.2.data=[]:=by
      first
      |exact .inl h20
      |exact .inr (WM.1 (by omega))
     exact⟨fun hm=>hm.2.2.2.2.2.2.2.2,fun hx=>⟨by omega,by simpa using h36,h42,h47,h52,k1,by omega,k2,hx⟩⟩
   rw[Wx h32];refine Gz 31 ?_
   first
   |exact no _ (fun hm=>by have:=hm.1;omega) hF3
   |exact no _ (fun hm=>by have:=hm.2.2.2.2.2.2.1;omega) hF3
   |exact no _ (fun hm=>hm.2.2.2.2.2.1.elim (fun e=>by omega) (fun e=>h30 (by rw[e];rfl))) hF3
   |exact no _ (fun hm=>by have m:=hm.2.2.2.2.2.2.2.1;unfold okT at m;rw[Wt (by omega)] at m;exact h32 m) hF3
   |exact no _ (fun hm=>by have m:=hm.2.2.2.2.2.2.2.1;unfold okT at m;rw[Wu h26] at m;exact h32 ⟨⟨by have:=WN.2 m.1;omega,by have:=m.2.1;omega⟩,m.2.2⟩) hF3
   |exact no _ (fun hm=>by rw[hm.2.1] at h36;cases h36) hF3
   |exact no _ (fun hm=>h42 hm.2.2.1) hF3
   |exact no _ (fun hm=>h47 hm.2.2.2.1) hF3
   |exact no _ (fun hm=>h52 hm.2.2.2.2.1) hF3
   |refine yes _ ?_ (hF3.trans hf6)
    have k2:okT p.2:=by
     unfold okT
     first
     |(rw[Wt (by omega)];exact h32)
     |(rw[Wu h26];exact⟨fun e=>by have:=h32.1.1;have e0:=congrArg W6 e;have e1:([]:By).length=0:=rfl;omega,by have:=h32.1.2;omega,h32.2⟩)
    have k1:p.2.kind=2∨p.2.data=[]:=by
     first
     |exact .inl h20
     |exact .inr (WM.1 (by omega))
    exact⟨fun hm=>hm.2.2.2.2.2.2.2.2,fun hx=>⟨by omega,by simpa using h36,h42,h47,h52,k1,by omega,k2,hx⟩⟩
  rw[Wx h30];refine Gz 33 ?_
  first
  |exact no _ (fun hm=>by have:=hm.1;omega) hF3
  |exact no _ (fun hm=>by have:=hm.2.2.2.2.2.2.1;omega) hF3
  |exact no _ (fun hm=>hm.2.2.2.2.2.1.elim (fun e=>by omega) (fun e=>h30 (by rw[e];rfl))) hF3
  |exact no _ (fun hm=>by have m:=hm.2.2.2.2.2.2.2.1;unfold okT at m;rw[Wt (by omega)] at m;exact h32 m) hF3
  |exact no _ (fun hm=>by have m:=hm.2.2.2.2.2.2.2.1;unfold okT at m;rw[Wu h26] at m;exact h32 ⟨⟨by have:=WN.2 m.1;omega,by have:=m.2.1;omega⟩,m.2.2⟩) hF3
  |exact no _ (fun hm=>by rw[hm.2.1] at h36;cases h36) hF3
  |exact no _ (fun hm=>h42 hm.2.2.1) hF3
  |exact no _ (fun hm=>h47 hm.2.2.2.1) hF3
  |exact no _ (fun hm=>h52 hm.2.2.2.2.1) hF3
  |refine yes _ ?_ (hF3.trans hf6)
   have k2:okT p.2:=by
    unfold okT
    first
    |(rw[Wt (by omega)];exact h32)
    |(rw[Wu h26];exact⟨fun e=>by have:=h32.1.1;have e0:=congrArg W6 e;have e1:([]:By).length=0:=rfl;omega,by have:=h32.1.2;omega,h32.2⟩)
   have k1:p.2.kind=2∨p.2.data=[]:=by
    first
    |exact .inl h20
    |exact .inr (WM.1 (by omega))
   exact⟨fun hm=>hm.2.2.2.2.2.2.2.2,fun hx=>⟨by omega,by simpa using h36,h42,h47,h52,k1,by omega,k2,hx⟩⟩
 refine Gz 13 ?_
 first
 |exact no _ (fun hm=>by have:=hm.1;omega) hF3
 |exact no _ (fun hm=>by have:=hm.2.2.2.2.2.2.1;omega) hF3
 |exact no _ (fun hm=>hm.2.2.2.2.2.1.elim (fun e=>by omega) (fun e=>h30 (by rw[e];rfl))) hF3
 |exact no _ (fun hm=>by have m:=hm.2.2.2.2.2.2.2.1;unfold okT at m;rw[Wt (by omega)] at m;exact h32 m) hF3
 |exact no _ (fun hm=>by have m:=hm.2.2.2.2.2.2.2.1;unfold okT at m;rw[Wu h26] at m;exact h32 ⟨⟨by have:=WN.2 m.1;omega,by have:=m.2.1;omega⟩,m.2.2⟩) hF3
 |exact no _ (fun hm=>by rw[hm.2.1] at h36;cases h36) hF3
 |exact no _ (fun hm=>h42 hm.2.2.1) hF3
 |exact no _ (fun hm=>h47 hm.2.2.2.1) hF3
 |exact no _ (fun hm=>h52 hm.2.2.2.2.1) hF3
 |refine yes _ ?_ (hF3.trans hf6)
  have k2:okT p.2:=by
   unfold okT
   first
   |(rw[Wt (by omega)];exact h32)
   |(rw[Wu h26];exact⟨fun e=>by have:=h32.1.1;have e0:=congrArg W6 e;have e1:([]:By).length=0:=rfl;omega,by have:=h32.1.2;omega,h32.2⟩)
  have k1:p.2.kind=2∨p.2.data=[]:=by
   first
   |exact .inl h20
   |exact .inr (WM.1 (by omega))
  exact⟨fun hm=>hm.2.2.2.2.2.2.2.2,fun hx=>⟨by omega,by simpa using h36,h42,h47,h52,k1,by omega,k2,hx⟩⟩
def EJ(ps:List (NdH×Nd))(R:NdH×Nd→Prop)[DecidablePred R]:Int:=match ps.findIdx? (fun p=>decide (R p)) with|some i=>i|none=>-1
section
variable {R:NdH×Nd→Prop}[DecidablePred R]
theorem Kb{ps:List (NdH×Nd)}{i:Nat}{p:NdH×Nd}(hp:ps[i]?=some p)(h1:R p)(h2:∀ (j:Nat) (q:NdH×Nd),j<i→ps[j]?=some q→¬ R q):EJ ps R=i:=by
 have hi:=(Wy.1 hp).1;have:ps.findIdx? (fun p=>decide (R p))=some i:=by
  rw[Xu];refine⟨hi,by rw[(Wy.1 hp).2];exact WA h1,fun j hj=>?_⟩;have:=h2 j _ hj (Wv (by omega));simpa using this
 unfold EJ;rw[this]
theorem Aw{ps:List (NdH×Nd)}(h:∀ p∈ps,¬ R p):EJ ps R = -1:=by
 have:ps.findIdx? (fun p=>decide (R p))=none:=by
  rw[XX];intro p hp;exact Wx (h p hp)
 unfold EJ;rw[this]
theorem Ka{ps:List (NdH×Nd)}:0≤EJ ps R↔∃ p∈ps,R p:=by
 constructor
 · intro h
   apply WH;intro hn;rw[Aw (fun p hp hr=>hn ⟨p,hp,hr⟩)] at h;omega
 · rintro⟨p,hp,hr⟩
   unfold EJ;cases hf:ps.findIdx? (fun p=>decide (R p)) with
  |some i=>exact Int.natCast_nonneg i
  |none=>
     rw[XX] at hf;have:=hf p hp;simp[hr] at this
theorem Bo(f:FuncId)(cs:List Value)(hf:fnB Tryz.prog f=true)(lo:Option Addr)(lc:Nat)(ps:List (NdH×Nd))(W:World)(hv:aQ D W.heap lo lc ps)
 (hc:∀ w p,p∈ps→aA nob W w→Calls Tryz.prog f ([Value.agg (aF p).toArray]++cs).toArray w (Ret fun v w'=>v=.bool (decide (R p))∧aA nob w w')) :
 CA 149 [.slice lo ps.length lc,.func (.func f) #[] cs.toArray] W fun v w'=>v=iV (EJ ps R)∧aA nob W w':=by
 have h63:=hv.1.Wq;refine cS 19 [(0,_),(1,_)] Tryz.func149 ?_;refine Gz 14 ?_;refine SO (β:=Nat) (fun i=>[(0,.slice lo ps.length lc),(1,.func (.func f) #[] cs.toArray),(7,iV ps.length),(8,iV i)]) (fun i w=>i≤ps.length∧(∀ (j:Nat) (q:NdH×Nd),j<i→ps[j]?=some q→¬ R q)∧aA nob W w) (fun i=>ps.length-i) 0 ⟨rfl,rfl,rfl,rfl,trivial⟩ ⟨WG _,fun j q hj=>by omega,VK _ _⟩ ?_;rintro i w2 ⟨hi,hno,hF2⟩;refine fK 2 ?_ ?_<;>intro h9
 ·have hil:i<ps.length:=by omega
  obtain⟨p,hp⟩:∃ p,ps[i]?=some p:=⟨_,Wv hil⟩
  have hpm:=Wz hp;have hv2:=hv.Wr hF2;refine Gz 19 ?_;refine cL (SL aS rfl rfl hv2.1.non (by omega)) ?_;refine cL (SX (cs:=aF p) bB rfl (fun j v hj=>hv2.1.rowZ i rfl hp j v hj)) ?_;refine Tu hf rfl rfl (hc w2 p hpm hF2) rfl ?_;intro v3 w3 hr3;obtain⟨rfl,hf3⟩:=hr3;by_cases h16:R p
  ·rw[WA h16];refine Gz 16 ?_;exact⟨_,rfl,by rw[Kb hp h16 hno],hF2.trans hf3⟩
  rw[Wx h16];refine Gz 10 ?_;refine aG (i+1) ⟨by omega,fun j q hj hq=>?_,hF2.trans hf3⟩ (by show ps.length-(i+1)<ps.length-i;omega);by_cases e:j=i
  ·subst e;rw[hp] at hq;cases hq;exact h16
  ·exact hno j q (by omega) hq
 have hie:i=ps.length:=by omega
 subst hie;refine Gz 16 ?_;refine⟨_,rfl,?_,hF2⟩;rw[Aw (fun q hq=>by obtain⟨j,hj⟩:=WO hq;exact hno j q (Wy.1 hj).1 hj)]
theorem tX(f:FuncId)(cs:List Value)(hf:fnB Tryz.prog f=true)(lo:Option Addr)(lc:Nat)(ps:List (NdH×Nd))(W:World)(hv:aQ D W.heap lo lc ps)
 (hc:∀ w p,p∈ps→aA nob W w→Calls Tryz.prog f ([Value.agg (aF p).toArray]++cs).toArray w (Ret fun v w'=>v=.bool (decide (R p))∧aA nob w w')) :
 CA 108 [.slice lo ps.length lc,.func (.func f) #[] cs.toArray] W fun v w'=>v=.bool (decide (∃ p∈ps,R p))∧aA nob W w':=by
 refine cS 9 [(0,_),(1,_)] Tryz.func108 ?_;refine cA 9 P4 (Bo (R:=R) f cs hf lo lc ps W hv hc) ?_;rintro _ w2 ⟨rfl,hf2⟩;refine cL (T5 rfl rfl) ?_;refine Gz 5 ?_;exact⟨_,rfl,congrArg _ (decide_eq_decide.2 Ka),hf2⟩
end
theorem HM(p:NdH×Nd)(W:World)(hn:NdV D W.heap p)(hsm:smN p.2) :
 CA 109 [.agg (aF p).toArray] W fun v w'=>v=.bool (decide (¬ dL p.2))∧aA nob W w':=by
 refine cS 6 [(0,_)] Tryz.func109 ?_;refine Gz 2 ?_;refine Td rfl rfl ?_;intro w1 hg1 hs1 hf1;obtain⟨g,hg⟩:∃ g,g=W.heap.size:=⟨_,rfl⟩
 rw[←hg] at hg1 hs1 ⊢
 replace hg1:w1.heap[g]?=some (.cells (aF p).toArray 37 (0,0)):=hg1
 refine Gz 5 ?_;refine cL (SX (cs:=aF p) bB rfl (bJ hg1 0 rfl)) ?_;refine cA 0 Qk (Lj p w1 (hn.Wr hf1) hsm) ?_;rintro _ w2 ⟨rfl,hf2⟩;by_cases h4:dL p.2
 ·rw[WA h4];refine cL (S3 rfl) ?_;refine Gz 5 ?_
  first
  |exact⟨_,rfl,(congrArg Value.bool (Wx (p:=¬ dL p.2) (fun h=>h h4))).symm,hf1.trans hf2⟩
  |exact⟨_,rfl,(congrArg Value.bool (WA (p:=¬ dL p.2) h4)).symm,hf1.trans hf2⟩
 rw[Wx h4];refine cL (S3 rfl) ?_;refine Gz 5 ?_
 first
 |exact⟨_,rfl,(congrArg Value.bool (Wx (p:=¬ dL p.2) (fun h=>h h4))).symm,hf1.trans hf2⟩
 |exact⟨_,rfl,(congrArg Value.bool (WA (p:=¬ dL p.2) h4)).symm,hf1.trans hf2⟩
end
section
theorem yE(ao bo:Option Addr)(ac bc:Nat)(xs ys:By)(W:World)(ha:Vw b8 W.heap ao ac xs)(hb:Vw b8 W.heap bo bc ys) :
 CA 195 [.slice ao xs.length ac,.slice bo ys.length bc] W fun v w'=>v=.bool (decide (xs=ys))∧w'=W:=by
 refine cS 10 [(0,_),(1,_)] Tryz.func195 ?_;refine Gz 8 ?_;refine cL (Tt aT ty5 ty9 rfl ha) ?_;refine Gz 1 ?_;refine cL (Tt aT ty5 ty9 rfl hb) ?_;refine cL (Tz rfl rfl) ?_;refine Gz 5 ?_;exact⟨_,rfl,rfl,rfl⟩
variable {D:Nat→Prop}
theorem HU(a b:Xa)(ah bh:Hd)(W:World)(ha:ByV D W.heap ah a.2)(hb:ByV D W.heap bh b.2) :
 CA 194 [.agg (fC (a.1,ah)).toArray,.agg (fC (b.1,bh)).toArray] W fun v w'=>v=.bool (decide (a=b))∧aA nob W w':=by
 refine cS 17 [(0,_),(1,_)] Tryz.func194 ?_;refine Gz 2 ?_;refine Td rfl rfl ?_;intro w1 hg1 hs1 hf1;obtain⟨g,hg⟩:∃ g,g=W.heap.size:=⟨_,rfl⟩
 rw[←hg] at hg1 hs1 ⊢
 replace hg1:w1.heap[g]?=some (.cells (fC (a.1,ah)).toArray 123 (0,0)):=hg1
 refine Td rfl rfl ?_;intro w2 hg2 hs2 hf2;obtain⟨r,hr⟩:∃ r,r=w1.heap.size:=⟨_,rfl⟩
 rw[←hr] at hg2 hs2 ⊢;have hgq:w2.heap[r]?=some (.cells (fC (b.1,bh)).toArray 123 (0,0)):=hg2;have hgp:=hf2.obj hg1 id;have hF2:=hf1.trans hf2;have ha2:=ha.Ws hF2 (fun _ _=>id);have hb2:=hb.Ws hF2 (fun _ _=>id);refine Gz 6 ?_;refine cL (SM fT rfl (by first|exact aD hgp rfl|exact aD hgq rfl)) ?_;refine Gz 1 ?_;refine cL (SM fT rfl (by first|exact aD hgp rfl|exact aD hgq rfl)) ?_;refine fK 0 ?_ ?_<;>intro h9
 ·refine Gz 2 ?_;refine cW (SN (u:=.slice ah.a a.2.length ah.c) (SM aX rfl (aD hgp rfl)) (by rw[←ha2.1];rfl)) ?_;refine Gz 1 ?_;refine cW (SN (u:=.slice bh.a b.2.length bh.c) (SM aX rfl (aD hgq rfl)) (by rw[←hb2.1];rfl)) ?_;refine SS rfl rfl Nj rfl (yE _ _ _ _ _ _ w2 ha2.2.1 hb2.2.1) rfl ?_;rintro _ w3 ⟨rfl,hw3⟩;subst w3;refine Gz 6 ?_
  first
  |exact⟨_,rfl,congrArg _ (decide_eq_decide.2 ⟨fun e=>Yl h9 e,fun e=>by rw[e]⟩),hF2⟩
  |exact⟨_,rfl,by rw[Wx (show ¬ a=b from fun e=>h9 (by rw[e]))],hF2⟩
 refine Gz 12 ?_
 first
 |exact⟨_,rfl,congrArg _ (decide_eq_decide.2 ⟨fun e=>Yl h9 e,fun e=>by rw[e]⟩),hF2⟩
 |exact⟨_,rfl,by rw[Wx (show ¬ a=b from fun e=>h9 (by rw[e]))],hF2⟩
theorem Bz(xh yh:Hd)(X Y:List Xa)(W:World)(hx:XsV D W.heap xh X)(hy:XsV D W.heap yh Y) :
 CA 196 [hd xh,hd yh,.func (.func 194) #[] #[]] W fun v w'=>v=.bool (decide (X=Y))∧aA nob W w':=by
 obtain⟨hxl,ys,hyv,hyl,hyd,hyx⟩:=hx;obtain⟨hwl,zs,hzv,hzl,hzd,hzx⟩:=hy;have hx63:=hyv.Wq;refine cS 32 [(0,_),(1,_),(2,_)] Tryz.func196 ?_;refine Gz 10 ?_;rw[hxl];refine Gz 2 ?_;rw[hwl];refine fK 0 ?_ ?_<;>intro h14
 ·refine Gz 11 ?_
  first
  |exact⟨_,rfl,by rw[Wx (show ¬ X=Y from fun e=>h14 (by rw[e]))],VK _ _⟩
  |exact⟨_,rfl,by rw[Wx (show ¬ X=Y from fun e=>h29 (by rw[e,hbk] at hak;cases hak;rfl))],hF6.trans hf7⟩
  |exact⟨_,rfl,by rw[WA (show X=Y from iN hxe (by omega) hsame)],hF2⟩
 refine Gz 10 ?_;rw[hxl];refine Gz 4 ?_;have hxe:X.length=Y.length:=by omega
 refine SO (β:=Nat) (fun k=>[(0,hd xh),(1,hd yh),(2,.func (.func 194) #[] #[]),(15,hd xh),(16,iV X.length),(17,iV k)]) (fun k w=>k≤X.length∧(∀ j:Nat,j<k→X[j]?=Y[j]?)∧aA nob W w) (fun k=>X.length-k) 0 ⟨rfl,rfl,rfl,rfl,rfl,rfl,trivial⟩ ⟨WG _,fun j hj=>by omega,VK _ _⟩ ?_;rintro k w2 ⟨hk,hsame,hF2⟩;refine fK 2 ?_ ?_<;>intro h18
 ·have hkx:k<X.length:=by omega
  obtain⟨a,ah,hak,hyk,hva⟩:=XsV.at (D:=D) (H:=w2.heap) (h:=xh) hyl (fun i x y h1 h2=>⟨(hyx i x y h1 h2).1,(hyx i x y h1 h2).2.Ws hF2 (fun _ _=>id)⟩) hkx;obtain⟨b,bh,hbk,hzk,hvb⟩:=XsV.at (D:=D) (H:=w2.heap) (h:=yh) hzl (fun i x y h1 h2=>⟨(hzx i x y h1 h2).1,(hzx i x y h1 h2).2.Ws hF2 (fun _ _=>id)⟩) (by omega:k<Y.length);have hyv3:=hyv.keep' hF2 (fun _ _ _=>id);have hzv3:=hzv.keep' hF2 (fun _ _ _=>id);refine Gz 11 ?_;refine cL (SL iY rfl rfl (by rw[hxl,←hyl];exact hyv3.non) (by omega)) ?_;refine cL (SX (cs:=fC (a.1,ah)) dS rfl (fun j v hj=>hyv3.rowZ k rfl hyk j v hj)) ?_;refine SP sS rfl ?_;intro w3 hg3 hs3 hf3;obtain⟨q,hq⟩:∃ q,q=w2.heap.size:=⟨_,rfl⟩
  rw[←hq] at hg3 ⊢;refine Gz 1 ?_;refine SY (vs:=fC (a.1,ah)) dS rfl rfl (cH (a.1,ah)).2 hg3 rfl ?_;intro w4 hg4 hs4 hf4;have hf24:aA nob w2 w4:=hf3.Wo hf4 (fun k e=>.inr (by have e:k=q:=e;omega));have hzv4:=hzv3.keep' hf24 (fun _ _ _=>id);refine Gz 6 ?_;refine cL (SL iY rfl rfl (by rw[hwl,←hzl];exact hzv4.non) (by omega)) ?_;refine cL (SX (cs:=fC (b.1,bh)) dS rfl (fun j v hj=>hzv4.rowZ k rfl hzk j v hj)) ?_;refine SP sS rfl ?_;intro w5 hg5 hs5 hf5;obtain⟨r,hr⟩:∃ r,r=w4.heap.size:=⟨_,rfl⟩
  rw[←hr] at hg5 ⊢;refine SY (vs:=fC (b.1,bh)) dS rfl rfl (cH (b.1,bh)).2 hg5 rfl ?_;intro w6 hg6 hs6 hf6;have hf46:aA nob w4 w6:=hf5.Wo hf6 (fun k e=>.inr (by have e:k=r:=e;omega));have hg64:=hf46.obj hg4 id;have hf26:=hf24.trans hf46;have hF6:=hF2.trans hf26;refine Gz 5 ?_;refine cL (SX (cs:=fC (a.1,ah)) dS rfl (bJ hg64 0 rfl)) ?_;refine cL (SX (cs:=fC (b.1,bh)) dS rfl (bJ hg6 0 rfl)) ?_;refine TU PH rfl rfl (HU a b ah bh w6 (hva.Ws hf26 (fun _ _=>id)) (hvb.Ws hf26 (fun _ _=>id))) rfl ?_;rintro _ w7 ⟨rfl,hf7⟩;by_cases h29:a=b
  ·rw[WA h29];refine cL (S3 rfl) ?_;refine Gz 10 ?_;refine aG (k+1) ⟨by omega,fun j hj=>?_,hF6.trans hf7⟩ (by show X.length-(k+1)<X.length-k;omega);by_cases e:j=k
   ·subst e;rw[hak,hbk,h29]
   ·exact hsame j (by omega)
  rw[Wx h29];refine cL (S3 rfl) ?_;refine Gz 15 ?_
  first
  |exact⟨_,rfl,by rw[Wx (show ¬ X=Y from fun e=>h14 (by rw[e]))],VK _ _⟩
  |exact⟨_,rfl,by rw[Wx (show ¬ X=Y from fun e=>h29 (by rw[e,hbk] at hak;cases hak;rfl))],hF6.trans hf7⟩
  |exact⟨_,rfl,by rw[WA (show X=Y from iN hxe (by omega) hsame)],hF2⟩
 refine Gz 16 ?_
 first
 |exact⟨_,rfl,by rw[Wx (show ¬ X=Y from fun e=>h14 (by rw[e]))],VK _ _⟩
 |exact⟨_,rfl,by rw[Wx (show ¬ X=Y from fun e=>h29 (by rw[e,hbk] at hak;cases hak;rfl))],hF6.trans hf7⟩
 |exact⟨_,rfl,by rw[WA (show X=Y from iN hxe (by omega) hsame)],hF2⟩
theorem K4(p q:NdH×Nd)(W:World)(hp:NdV D W.heap p)(hq:NdV D W.heap q) :
 CA 153 [.agg (aF p).toArray,.agg (aF q).toArray] W fun v w'=>v=.bool (decide (Alk p.2 q.2))∧aA nob W w':=by
 have no:∀ w',¬ Alk p.2 q.2→aA nob W w'→Ret (fun v w'=>v=.bool (decide (Alk p.2 q.2))∧aA nob W w') (.returned (.bool false)) w':=fun w' h f=>⟨_,rfl,by rw[Wx h],f⟩
 refine cS 47 [(0,_),(1,_)] Tryz.func153 ?_;refine Gz 2 ?_;refine Td rfl rfl ?_;intro w1 hg1 hs1 hf1;obtain⟨g,hg⟩:∃ g,g=W.heap.size:=⟨_,rfl⟩
 rw[←hg] at hg1 hs1 ⊢
 replace hg1:w1.heap[g]?=some (.cells (aF p).toArray 37 (0,0)):=hg1
 refine Td rfl rfl ?_;intro w2 hg2 hs2 hf2;obtain⟨r,hr⟩:∃ r,r=w1.heap.size:=⟨_,rfl⟩
 rw[←hr] at hg2 hs2 ⊢;have hgq:w2.heap[r]?=some (.cells (aF q).toArray 37 (0,0)):=hg2;have hgp:=hf2.obj hg1 id;have hF2:=hf1.trans hf2;have hp2:=hp.Wr hF2;have hq2:=hq.Wr hF2;refine Gz 11 ?_;refine cL (SM aN rfl (by first|exact aD hgp rfl|exact aD hgq rfl)) ?_;refine Gz 1 ?_;refine cL (SM aN rfl (by first|exact aD hgp rfl|exact aD hgq rfl)) ?_;refine fK 0 ?_ ?_<;>intro h10
 ·refine Gz 2 ?_;refine cW (SX (cs:=Dp p.2) tP rfl (bJ hgp 3 rfl)) ?_;refine Gz 1 ?_;refine cW (SX (cs:=Dp q.2) tP rfl (bJ hgq 3 rfl)) ?_;refine Ta rfl rfl (Vg stA O1 O2 O3 (a:=p.2.md) (b:=p.2.ud) (c:=p.2.gd) (a':=q.2.md) (b':=q.2.ud) (c':=q.2.gd) rfl rfl) rfl (fun h16=>?_) (fun h16=>?_)
  ·refine Gz 3 ?_;refine cW (SM fT rfl (by first|exact aD hgp rfl|exact aD hgq rfl)) ?_;refine Gz 1 ?_;refine cW (SM fT rfl (by first|exact aD hgp rfl|exact aD hgq rfl)) ?_;refine fW 0 ?_ ?_<;>intro h23
   ·refine Gz 3 ?_;refine cW (SM AY rfl (by first|exact aD hgp rfl|exact aD hgq rfl)) ?_;refine Gz 1 ?_;refine cW (SM AY rfl (by first|exact aD hgp rfl|exact aD hgq rfl)) ?_;refine Ta rfl rfl (S6 (Tw ty4 rfl rfl)) rfl (fun h30=>?_) (fun h30=>?_)
    ·refine Gz 3 ?_;refine cW (SN (u:=.slice p.1.data.a p.2.data.length p.1.data.c) (SM aX rfl (aD hgp rfl)) (by rw[←hp2.2.1.1];rfl)) ?_;refine Gz 1 ?_;refine cW (SN (u:=.slice q.1.data.a q.2.data.length q.1.data.c) (SM aX rfl (aD hgq rfl)) (by rw[←hq2.2.1.1];rfl)) ?_;refine SS rfl rfl Nj rfl (yE _ _ _ _ _ _ w2 hp2.2.1.2.1 hq2.2.1.2.1) rfl ?_;rintro _ w3 ⟨rfl,hw3⟩;subst w3;by_cases h37:p.2.data=q.2.data
     ·rw[WA h37];refine Gz 3 ?_;refine cW (SM cF rfl (by first|exact aD hgp rfl|exact aD hgq rfl)) ?_;refine Gz 1 ?_;refine cW (SM cF rfl (by first|exact aD hgp rfl|exact aD hgq rfl)) ?_;refine Gz 1 ?_;refine SS rfl rfl PG rfl (Bz p.1.xs q.1.xs p.2.xs q.2.xs _ hp2.2.2 hq2.2.2) rfl ?_;rintro _ w3 ⟨rfl,hf3⟩;refine Gz 6 ?_
      first
      |exact⟨_,rfl,congrArg _ (decide_eq_decide.2 ⟨fun e=>⟨h10,h16,h23,by simpa using h30,h37,e⟩,fun A=>A.2.2.2.2.2⟩),hF2.trans hf3⟩
      |exact no _ (fun A=>h10 A.1) hF2
      |exact no _ (fun A=>h16 A.2.1) hF2
      |exact no _ (fun A=>h23 A.2.2.1) hF2
      |exact no _ (fun A=>h30 (by rw[A.2.2.2.1];exact beq_self_eq_true _)) hF2
      |exact no _ (fun A=>h37 A.2.2.2.2.1) hF2
     rw[Wx h37];refine Gz 14 ?_
     first
     |exact⟨_,rfl,congrArg _ (decide_eq_decide.2 ⟨fun e=>⟨h10,h16,h23,by simpa using h30,h37,e⟩,fun A=>A.2.2.2.2.2⟩),hF2.trans hf3⟩
     |exact no _ (fun A=>h10 A.1) hF2
     |exact no _ (fun A=>h16 A.2.1) hF2
     |exact no _ (fun A=>h23 A.2.2.1) hF2
     |exact no _ (fun A=>h30 (by rw[A.2.2.2.1];exact beq_self_eq_true _)) hF2
     |exact no _ (fun A=>h37 A.2.2.2.2.1) hF2
    refine Gz 21 ?_
    first
    |exact⟨_,rfl,congrArg _ (decide_eq_decide.2 ⟨fun e=>⟨h10,h16,h23,by simpa using h30,h37,e⟩,fun A=>A.2.2.2.2.2⟩),hF2.trans hf3⟩
    |exact no _ (fun A=>h10 A.1) hF2
    |exact no _ (fun A=>h16 A.2.1) hF2
    |exact no _ (fun A=>h23 A.2.2.1) hF2
    |exact no _ (fun A=>h30 (by rw[A.2.2.2.1];exact beq_self_eq_true _)) hF2
    |exact no _ (fun A=>h37 A.2.2.2.2.1) hF2
   refine Gz 28 ?_
   first
   |exact⟨_,rfl,congrArg _ (decide_eq_decide.2 ⟨fun e=>⟨h10,h16,h23,by simpa using h30,h37,e⟩,fun A=>A.2.2.2.2.2⟩),hF2.trans hf3⟩
   |exact no _ (fun A=>h10 A.1) hF2
   |exact no _ (fun A=>h16 A.2.1) hF2
   |exact no _ (fun A=>h23 A.2.2.1) hF2
   |exact no _ (fun A=>h30 (by rw[A.2.2.2.1];exact beq_self_eq_true _)) hF2
   |exact no _ (fun A=>h37 A.2.2.2.2.1) hF2
  refine Gz 35 ?_
  first
  |exact⟨_,rfl,congrArg _ (decide_eq_decide.2 ⟨fun e=>⟨h10,h16,h23,by simpa using h30,h37,e⟩,fun A=>A.2.2.2.2.2⟩),hF2.trans hf3⟩
  |exact no _ (fun A=>h10 A.1) hF2
  |exact no _ (fun A=>h16 A.2.1) hF2
  |exact no _ (fun A=>h23 A.2.2.1) hF2
  |exact no _ (fun A=>h30 (by rw[A.2.2.2.1];exact beq_self_eq_true _)) hF2
  |exact no _ (fun A=>h37 A.2.2.2.2.1) hF2
 refine Gz 41 ?_
 first
 |exact⟨_,rfl,congrArg _ (decide_eq_decide.2 ⟨fun e=>⟨h10,h16,h23,by simpa using h30,h37,e⟩,fun A=>A.2.2.2.2.2⟩),hF2.trans hf3⟩
 |exact no _ (fun A=>h10 A.1) hF2
 |exact no _ (fun A=>h16 A.2.1) hF2
 |exact no _ (fun A=>h23 A.2.2.1) hF2
 |exact no _ (fun A=>h30 (by rw[A.2.2.2.1];exact beq_self_eq_true _)) hF2
 |exact no _ (fun A=>h37 A.2.2.2.2.1) hF2
end
section
open Go Go.Proofs Go.Shelf
def V6:Go.Shelf.Ren:=⟨fun|156=>148|165=>191|166=>192|169=>193|240=>219|241=>220|276=>232|277=>233|n=>n,fun|31=>32|9=>9|3=>3|4=>4|0=>0|20=>20|72=>243|76=>246|70=>241|37=>25|75=>245|127=>272|164=>282|5=>5|80=>248|n=>n,fun|n=>n⟩
theorem V7:Go.Proofs.Lays.n156 Tryz.prog V6 where
 mixed:=by kernel_rfl
 f156:=Tryz.func148.trans (congrArg some (by kernel_rfl))
 f165:=Tryz.func191.trans (congrArg some (by kernel_rfl))
 f166:=Tryz.func192.trans (congrArg some (by kernel_rfl))
 f169:=Tryz.func193.trans (congrArg some (by kernel_rfl))
 f240:=Tryz.func219.trans (congrArg some (by kernel_rfl))
 f241:=Tryz.func220.trans (congrArg some (by kernel_rfl))
 f276:=Tryz.func232.trans (congrArg some (by kernel_rfl))
 f277:=Tryz.func233.trans (congrArg some (by kernel_rfl))
 t0:=Tryz.underlying0
 a0:=Tryz.isAgg0
 z0:=Tryz.sizeOf0
 v0:=Tryz.zeroValue0
 t3:=Tryz.underlying3
 a3:=Tryz.isAgg3
 z3:=Tryz.sizeOf3
 v3:=Tryz.zeroValue3
 t4:=Tryz.underlying4
 a4:=Tryz.isAgg4
 z4:=Tryz.sizeOf4
 v4:=Tryz.zeroValue4
 t9:=Tryz.underlying9
 a9:=Tryz.isAgg9
 z9:=Tryz.sizeOf9
 v9:=Tryz.zeroValue9
 t20:=Tryz.underlying20
 a20:=Tryz.isAgg20
 z20:=Tryz.sizeOf20
 v20:=Tryz.zeroValue20
 t31:=Tryz.underlying32
 a31:=Tryz.isAgg32
 z31:=Tryz.sizeOf32
 v31:=Tryz.zeroValue32
 t37:=Tryz.underlying25
 a37:=Tryz.isAgg25
 z37:=Tryz.sizeOf25
 v37:=Tryz.zeroValue25
 t70:=Tryz.underlying241
 a70:=Tryz.isAgg241
 z70:=Tryz.sizeOf241
 v70:=Tryz.zeroValue241
 t72:=Tryz.underlying243
 a72:=Tryz.isAgg243
 z72:=Tryz.sizeOf243
 v72:=Tryz.zeroValue243
 t75:=Tryz.underlying245
 a75:=Tryz.isAgg245
 z75:=Tryz.sizeOf245
 v75:=Tryz.zeroValue245
 t76:=Tryz.underlying246
 a76:=Tryz.isAgg246
 z76:=Tryz.sizeOf246
 v76:=Tryz.zeroValue246
 t127:=Tryz.underlying272
 a127:=Tryz.isAgg272
 z127:=Tryz.sizeOf272
 v127:=Tryz.zeroValue272
 t164:=Tryz.underlying282
 a164:=Tryz.isAgg282
 z164:=Tryz.sizeOf282
 v164:=Tryz.zeroValue282
end
theorem wW:Builder.Extra Tryz.prog V6 where
 sizeBuilder:=by kernel_rfl
 liesBuilder:=by kernel_rfl
 t5:=Tryz.underlying5
 a5:=Tryz.isAgg5
 z5:=Tryz.sizeOf5
 v5:=Tryz.zeroValue5
 infoByte:=by kernel_rfl
 cellsByte:=by kernel_rfl
 sizeByte:=by kernel_rfl
 neB5:=by decide
theorem DV(a:Option Addr)(c:Nat)(L:List By)(W:World)(hv:Vw gQ W.heap a c L)(hl:L.length≤1000)(hs:∀ s∈L,s.length≤255) :
 CA 148 [.slice a L.length c,.string (bs [47])] W fun v w'=>v=.string (bs (Lib.join L [47]))∧aA nob W w':=by
 match L,hv,hl,hs with
|[],hv,_,_=>
   refine(Any.strings_Join_none V7 wW a c (bs [47]) W).mono ?_;rintro e w' ⟨rfl,rfl⟩;exact⟨_,rfl,rfl,VK _ _⟩
|x::L,hv,hl,hs=>
   cases a with
  |none=>exact absurd rfl (hv.non (by simp))
  |some ad=>
     obtain⟨bk,o,sp⟩:=ad;have h0:=hv.get 0 x rfl;have hsp:sp=none:=by
      unfold bH at h0
      split at h0
      · split at h0
        ·cases h0
        ·rename_i h;simpa[adr,Addr.add] using h
      ·cases h0
     subst hsp;have hlt:bk<W.heap.size:=by
      unfold bH at h0
      split at h0
      ·rename_i h;exact(WD.1 h).1
      ·cases h0
     have hj:(Lib.join (((x::L).map bs).map (·.data.toList)) (bs [47]).data.toList)=Lib.join (x::L) [47]:=by
      congr 1;rw[List.map_map];conv=>rhs;rw[←List.map_id (x::L)]
      rfl
     have hc:=Any.strings_Join V7 wW bk o c ((x::L).map bs) (bs [47]) W (fun j y hy=>by
      rw[W7,WR] at hy;obtain⟨s,hs1,rfl⟩:=hy;have hg:=hv.get j s hs1;by_cases hj0:j=0<;>simpa[adr,Addr.add,cell?_eq,gQ,hj0] using hg) hlt (by rw[WK];omega) (by rw[WK];exact hv.le) (by
       rw[hj];have:=wV hs;omega)
     rw[hj,WK] at hc;refine hc.mono ?_;rintro e w' ⟨rfl,hb⟩;exact⟨_,rfl,rfl,hb.os,hb.tape,hb.output,hb.size,fun k hk _=>hb.block k hk⟩
theorem wO(a:Option Addr)(c:Nat)(L:List By)(W:World)(hv:Vw gQ W.heap a c L)(hl:L.length≤1000)(hs:∀ s∈L,s.length≤255) :
 CA 107 [.slice a L.length c] W fun v w'=>v=.string (bs (dY L))∧aA nob W w':=by
 have hjl:=wV hs;refine cS 6 [(0,_)] Tryz.func107 ?_;refine cA 8 P5 (DV a c L W hv hl hs) ?_;rintro _ w1 ⟨rfl,hf1⟩;refine cL (U8 (a:=[47]) rfl rfl (by simp;omega)) ?_;refine Gz 5 ?_;exact⟨_,rfl,rfl,hf1⟩
section
open Go Go.RowKit Go.Maps
def zNd:Value:=.agg (aF (mN,nd0)).toArray
theorem mpN:sQ Tryz.prog 174 9 37 zNd:=⟨by kernel_rfl,by kernel_rfl⟩
def atN(qs:List (NdH×Nd))(s:List By):NdH×Nd:=(qs.find? (fun q=>decide (q.2.names=s))).getD (mN,nd0)
def Br(qs:List (NdH×Nd))(s:List By):Prop:=∃ q∈qs,q.2.names=s
instance (qs:List (NdH×Nd))(s:List By):Decidable (Br qs s):=by unfold Br;exact inferInstance
def sR(qs:List (NdH×Nd))(m:List (SK×Value)):Prop:=∀ (s:List By) (h:(dY s).length≤maxLen),jE s→cG m (⟨dY s,h⟩:SK)=(qs.find? (fun q=>decide (q.2.names=s))).map (fun q=>Value.agg (aF q).toArray)
section
variable {qs:List (NdH×Nd)}{m:List (SK×Value)}{s:List (List UInt8)}
theorem V8:sR [] []:=fun s h hs=>rfl
theorem sR.z(h:sR qs m)(hs:jE s)(hl:(dY s).length≤maxLen):(cG m (⟨dY s,hl⟩:SK)).getD zNd=Value.agg (aF (atN qs s)).toArray:=by
 rw[h s hl hs];unfold atN;cases qs.find? (fun q=>decide (q.2.names=s))<;>rfl
theorem sR.is(h:sR qs m)(hs:jE s)(hl:(dY s).length≤maxLen):decide ((cG m (⟨dY s,hl⟩:SK)).isSome=true)=decide (Br qs s):=by
 apply decide_eq_decide.2;rw[h s hl hs,Option.isSome_map,Y4];simp[Br]
theorem sR.snoc(h:sR qs m){p:NdH×Nd}(hp:jE p.2.names)(hn:¬ Br qs p.2.names)(hl:(dY p.2.names).length≤maxLen):sR (qs++[p]) (cN m (⟨dY p.2.names,hl⟩:SK) (.agg (aF p).toArray)):=fun s hs ho=>by
 rw[iZ,Y5];by_cases e:p.2.names=s
 · subst e
   have:qs.find? (fun q=>decide (q.2.names=p.2.names))=none:=find?_eq_none.2 (fun q hq=>by simpa using fun e=>hn ⟨q,hq,e⟩);rw[Wu rfl,this];simp
 · have:[p].find? (fun q=>decide (q.2.names=s))=none:=by simp[e]
   rw[Wt (fun g=>e (G5 ho hp (congrArg Subtype.val g)).symm),h s hs ho,this,or_none]
end
theorem CT{l:List Nd}{n:Nd}(h:∀ s∈dT l,cZ s=0)(hn:n∈l):jE n.names∧∀ s∈n.names,s.length≤255:=by
 have k:∀ s∈n.names,cZ s=0:=fun s hs=>h s (List.mem_flatMap.2 ⟨n,hn,hs⟩);exact⟨fun s hs=>⟨(jN (k s hs)).2.1,(jN (k s hs)).2.2.2⟩,fun s hs=>(jN (k s hs)).1⟩
theorem wK{s:List By}(hl:s.length≤16)(h:∀ x∈s,x.length≤255):(dY s).length≤maxLen:=by
 have:=wV h;unfold dY maxLen;rw[WT];omega
theorem Ie{ps:List (NdH×Nd)}{i:Nat}{p:NdH×Nd}(hp:ps[i]?=some p)(h:Br (ps.take i) p.2.names):bL (nds ps):=by
 obtain⟨q,hq,e⟩:=h;obtain⟨j,hj⟩:=WO hq;rw[Xf] at hj
 split at hj
 ·exact(eG ps).2 ⟨j,i,q,p,by assumption,hj,hp,e⟩
 ·cases hj
theorem Eo{ps:List (NdH×Nd)}{i:Nat}{p:NdH×Nd}(hp:ps[i]?=some p)(h:¬ Br (ps.take i) p.2.names):¬ fP ps p.2.names<i:=by
 intro hlt;rcases fJ ps p.2.names with⟨h1,h2⟩|⟨j,q,h1,h2,h3,h4⟩
 ·exact absurd rfl (h2 p (Wz hp))
 ·exact h ⟨q,Wz (i:=j) (by rw[Xf,Wu (by omega)];exact h2),h3⟩
theorem rG{ps:List (NdH×Nd)}(ht:¬ bL (nds ps))(s:List By):(atN ps s).2.kind=1↔fD (nds ps) s:=by
 unfold atN;cases hf:ps.find? (fun q=>decide (q.2.names=s)) with
|none=>
   rw[find?_eq_none] at hf;constructor
   ·intro h;cases h
   · rintro⟨n,hn,h1,h2⟩
     obtain⟨q,hq,rfl⟩:=WS.1 hn;exact absurd (WA h1) (hf q hq)
|some q=>
   have hq:=Yz hf;have he:q.2.names=s:=by simpa using List.find?_some (p:=fun q:NdH×Nd=>decide (q.2.names=s)) hf
   constructor
   ·intro h;exact⟨q.2,WS.2 ⟨q,hq,rfl⟩,he,h⟩
   · rintro⟨n,hn,h1,h2⟩
     obtain⟨r,hr,rfl⟩:=WS.1 hn;obtain⟨i,hi⟩:=WO hq;obtain⟨j,hj⟩:=WO hr;have:i=j:=by
      apply WH;intro hne;rcases YV hne with hlt|hgt
      ·exact ht ((eG ps).2 ⟨i,j,q,r,hlt,hi,hj,he.trans h1.symm⟩)
      ·exact ht ((eG ps).2 ⟨j,i,r,q,hgt,hj,hi,h1.trans he.symm⟩)
     subst this;rw[hi] at hj;cases hj;exact h2
variable {D:Nat→Prop}
theorem Jj(lo:Option Addr)(lc:Nat)(ps:List (NdH×Nd))(W:World)(hv:aQ D W.heap lo lc ps)(hsm:∀ p∈ps,smN p.2) :
 CA 106 [.slice lo ps.length lc] W fun v w'=>∃ z,z=nmd (nds ps)∧aA nob W w'∧((z≠0∧v=.tuple [.map none,iV z].toArray)∨(z=0∧∃ g m,v=.tuple [.map (some g),iV 0].toArray∧cY enS w'.heap g m∧sR ps m)):=by
 have h63:=hv.1.Wq;refine cS 70 [(0,_)] Tryz.func106 ?_;refine Gz 15 ?_;refine SO (β:=Nat) (fun i=>[(0,.slice lo ps.length lc),(17,.slice lo ps.length lc),(18,iV ps.length),(19,iV i)]) (fun i w=>i≤ps.length∧(∀ s∈dT ((nds ps).take i),cZ s=0)∧aA nob W w) (fun i=>ps.length-i) 0 ⟨rfl,rfl,rfl,rfl,trivial⟩ ⟨WG _,by simp[dT],VK _ _⟩ ?_;rintro i w2 ⟨hi,hok,hF2⟩;refine fK 2 ?_ ?_<;>intro h20
 ·have hil:i<ps.length:=by omega
  obtain⟨p,hp⟩:∃ p,ps[i]?=some p:=⟨_,Wv hil⟩
  have hpm:=Wz hp;have hv2:=hv.Wr hF2;refine Gz 10 ?_;refine cL (SL aS rfl rfl hv2.1.non (by omega)) ?_;refine cL (SX (cs:=aF p) bB rfl (fun j v hj=>hv2.1.rowZ i rfl hp j v hj)) ?_;refine SP fF rfl ?_;intro w4 hg4 hs4 hf4;obtain⟨q,hq⟩:∃ q,q=w2.heap.size:=⟨_,rfl⟩
  rw[←hq] at hg4 ⊢;refine SY (vs:=aF p) bB rfl rfl (aB p).2 hg4 rfl ?_;intro w5 hg5 hs5 hf5;have hF5:aA nob W w5:=hF2.trans (hf4.Wo hf5 (fun k e=>.inr (by have e:k=q:=e;omega)));have hn5:=((hv.Wr hF5).2 p hpm).1;refine Gz 7 ?_;rw[hn5.1];refine Gz 4 ?_;refine SO (β:=Nat) (fun k=>[(0,.slice lo ps.length lc),(17,.slice lo ps.length lc),(18,iV ps.length),(19,iV i),(24,hd p.1.names),(25,iV p.2.names.length),(26,iV k)]) (fun k w=>k≤p.2.names.length∧(∀ s∈p.2.names.take k,cZ s=0)∧aA nob W w) (fun k=>p.2.names.length-k) 0 ⟨rfl,rfl,rfl,rfl,rfl,rfl,rfl,trivial⟩ ⟨WG _,by simp,hF5⟩ ?_;rintro k w3 ⟨hk,hok2,hF3⟩;refine fK 2 ?_ ?_<;>intro h27
  ·have hkl:k<p.2.names.length:=by omega
   obtain⟨s,hs⟩:∃ s,p.2.names[k]?=some s:=⟨_,Wv hkl⟩
   have hn3:=((hv.Wr hF3).2 p hpm).1;have hl63:=hn3.2.1.Wq;refine Gz 10 ?_;refine cL (SI jK rfl rfl (by rw[hn3.1];exact hn3.2.1.non) (by have:=hn3.1;omega)) ?_;refine cL (SM fT rfl (hn3.2.1.get k s hs)) ?_;refine cA 6 Np (BR s w3 ((hsm p hpm).2.1 s (Wz hs))) ?_;rintro _ w6 ⟨rfl,hf6⟩;refine fK 6 ?_ ?_<;>intro h33
   ·refine Gz 21 ?_;have e:=CR (bE hp) hs hok hok2 h33;exact⟨_,rfl,_,(show cZ s=nmd (nds ps) by unfold nmd;rw[e,Wu h33]),hF3.trans hf6,.inl ⟨h33,rfl⟩⟩
   refine Gz 10 ?_;refine aG (k+1) ⟨by omega,fun t ht=>?_,hF3.trans hf6⟩ (by show p.2.names.length-(k+1)<p.2.names.length-k;omega);rw[tkL hs,WZ,WY] at ht;rcases ht with ht|rfl
   ·exact hok2 t ht
   ·exact W3.1 h33
  have hke:k=p.2.names.length:=by omega
  subst hke;rw[Xg] at hok2;refine Gz 14 ?_;refine aG (i+1) ⟨by omega,fun s hs=>?_,hF3⟩ (by show ps.length-(i+1)<ps.length-i;omega);rw[tkN hp,yJ,WZ] at hs;exact hs.elim (hok s) (hok2 s)
 have hie:i=ps.length:=by omega
 subst hie;rw[WJ (by simp)] at hok;have hz:gG (dT (nds ps))=0:=oT hok;refine Gz 18 ?_;refine SO (β:=Nat) (fun i=>[(0,.slice lo ps.length lc),(37,.slice lo ps.length lc),(38,iV ps.length),(39,iV i)]) (fun i w=>i≤ps.length∧(∀ n∈(nds ps).take i,¬ 16<n.names.length)∧aA nob W w) (fun i=>ps.length-i) 0 ⟨rfl,rfl,rfl,rfl,trivial⟩ ⟨WG _,by simp,hF2⟩ ?_;rintro i w2 ⟨hi,hdp,hF2⟩;refine fK 2 ?_ ?_<;>intro h40
 ·have hil:i<ps.length:=by omega
  obtain⟨p,hp⟩:∃ p,ps[i]?=some p:=⟨_,Wv hil⟩
  have hpm:=Wz hp;have hv2:=hv.Wr hF2;refine Gz 10 ?_;refine cL (SL aS rfl rfl hv2.1.non (by omega)) ?_;refine cL (SX (cs:=aF p) bB rfl (fun j v hj=>hv2.1.rowZ i rfl hp j v hj)) ?_;refine SP fF rfl ?_;intro w4 hg4 hs4 hf4;obtain⟨q,hq⟩:∃ q,q=w2.heap.size:=⟨_,rfl⟩
  rw[←hq] at hg4 ⊢;refine SY (vs:=aF p) bB rfl rfl (aB p).2 hg4 rfl ?_;intro w5 hg5 hs5 hf5;have hF5:aA nob W w5:=hF2.trans (hf4.Wo hf5 (fun k e=>.inr (by have e:k=q:=e;omega)));have hn5:=((hv.Wr hF5).2 p hpm).1;refine Gz 7 ?_;rw[hn5.1];refine fK 0 ?_ ?_<;>intro h46
  ·refine Gz 16 ?_;exact⟨_,rfl,9,(by unfold nmd;rw[Wt (fun h=>h hz),Wu ⟨p.2,Wz (bE hp),by omega⟩]),hF5,.inl ⟨by decide,rfl⟩⟩
  refine Gz 10 ?_;exact aG (i+1) ⟨by omega,HT hp hdp (by omega),hF5⟩ (by show ps.length-(i+1)<ps.length-i;omega)
 have hie:i=ps.length:=by omega
 subst hie;rw[WJ (by simp)] at hdp;have hd:¬ ∃ n∈nds ps,16<n.names.length:=fun⟨n,hn,h⟩=>hdp n hn h;refine Gz 11 ?_;refine To (enc:=enS) rfl ?_;intro w3 hm3 hs3 hf3;obtain⟨g,hg⟩:∃ g,g=w2.heap.size:=⟨_,rfl⟩
 rw[←hg] at hm3 ⊢;refine Gz 12 ?_;have hF3:=hF2.trans hf3;refine SO (β:=Nat×List (SK×Value)) (fun⟨i,m⟩=>[(0,.slice lo ps.length lc),(11,.map (some g)),(49,.slice lo ps.length lc),(50,iV ps.length),(51,iV i)]) (fun⟨i,m⟩ w=>i≤ps.length∧cY enS w.heap g m∧sR (ps.take i) m∧(∀ (j:Nat) (q:NdH×Nd),j<i→ps[j]?=some q→¬ fP ps q.2.names<j)∧aA nob W w) (fun⟨i,m⟩=>ps.length-i) ⟨0,[]⟩ ⟨rfl,rfl,rfl,rfl,rfl,trivial⟩ ⟨WG _,hm3,V8,fun j q hj=>by omega,hF3⟩ ?_;rintro⟨i,m⟩ w4 ⟨hi,hm4,hMN,hno,hF4⟩;refine fK 2 ?_ ?_<;>intro h52
 ·have hil:i<ps.length:=by omega
  obtain⟨p,hp⟩:∃ p,ps[i]?=some p:=⟨_,Wv hil⟩
  have hpm:=Wz hp;have hv4:=hv.Wr hF4;have hnl:p.2.names.length≤16:=by have:¬ 16<p.2.names.length:=fun h=>hd ⟨p.2,Wz (bE hp),h⟩;omega
  obtain⟨hop,hsl⟩:=CT hok (Wz (bE hp));have hpl:=wK hnl hsl;refine Gz 10 ?_;refine cL (SL aS rfl rfl hv4.1.non (by omega)) ?_;refine cL (SX (cs:=aF p) bB rfl (fun j v hj=>hv4.1.rowZ i rfl hp j v hj)) ?_;refine SP fF rfl ?_;intro w5 hg5 hs5 hf5;obtain⟨q,hq⟩:∃ q,q=w4.heap.size:=⟨_,rfl⟩
  rw[←hq] at hg5 ⊢;refine SY (vs:=aF p) bB rfl rfl (aB p).2 hg5 rfl ?_;intro w6 hg6 hs6 hf6;have hf46:aA nob w4 w6:=hf5.Wo hf6 (fun k e=>.inr (by have e:k=q:=e;omega));have hF6:aA nob W w6:=hF4.trans hf46;have hn6:=((hv.Wr hF6).2 p hpm).1;have hm6:=hm4.Ws hf46 id;have hgq:g<q:=by rw[hq];exact hm4.obj
  refine Gz 1 ?_;refine aW [(0,_),(11,_),(13,_),(49,_),(50,_),(51,_),(52,_)] ?_;refine Gz 5 ?_;refine SJ J3 rfl ((by show Calls _ _ [Value.slice p.1.names.a p.1.names.n p.1.names.c].toArray _ _;rw[hn6.1];exact wO _ _ _ w6 hn6.2.1 (by omega) hsl)) rfl ?_;rintro _ w7 ⟨rfl,hf7⟩;have hm7:=hm6.Ws hf7 id;have hg7:=hf7.obj hg6 id;refine Gz 8 ?_;refine cL (SN (u:=.tuple [.agg (aF (atN (ps.take i) p.2.names)).toArray,.bool (decide (Br (ps.take i) p.2.names))].toArray) (Tr mpN C1 (a:=(⟨dY p.2.names,hpl⟩:SK)) rfl rfl (fun _ e=>by rw[e];exact hm7)) (by rw[hMN.z hop hpl,hMN.is hop hpl])) ?_;refine Gz 3 ?_;by_cases h63:Br (ps.take i) p.2.names
  ·rw[WA h63];refine SP fF rfl ?_;intro w8 hg8 hs8 hf8;obtain⟨r,hr⟩:∃ r,r=w7.heap.size:=⟨_,rfl⟩
   rw[←hr] at hg8 ⊢;refine SY (vs:=aF (atN (ps.take i) p.2.names)) bB rfl rfl (aB _).2 hg8 rfl ?_;intro w9 hg9 hs9 hf9;have hf79:aA nob w7 w9:=hf8.Wo hf9 (fun k e=>.inr (by have e:k=r:=e;omega));have hF9:aA nob W w9:=(hF6.trans hf7).trans hf79;have hm9:=hm7.Ws hf79 id;have hgn:=hf79.obj hg7 id;refine Gz 23 ?_;exact⟨_,rfl,6,(by unfold nmd;rw[Wt (fun h=>h hz),Wt hd,Wu (Ie hp h63)]),hF9,.inl ⟨by decide,rfl⟩⟩
  rw[Wx h63];refine SP fF rfl ?_;intro w8 hg8 hs8 hf8;obtain⟨r,hr⟩:∃ r,r=w7.heap.size:=⟨_,rfl⟩
  rw[←hr] at hg8 ⊢;refine SY (vs:=aF (atN (ps.take i) p.2.names)) bB rfl rfl (aB _).2 hg8 rfl ?_;intro w9 hg9 hs9 hf9;have hf79:aA nob w7 w9:=hf8.Wo hf9 (fun k e=>.inr (by have e:k=r:=e;omega));have hF9:aA nob W w9:=(hF6.trans hf7).trans hf79;have hm9:=hm7.Ws hf79 id;have hgn:=hf79.obj hg7 id;refine Gz 14 ?_;refine cL (SX (cs:=aF p) bB rfl (bJ hgn 0 rfl)) ?_;refine Th mpN C1 (a:=(⟨dY p.2.names,hpl⟩:SK)) rfl rfl rfl hm9 ?_;intro w10 hm10 hs10 hf10;have hF10:aA nob W w10:=hF9.Wo hf10 (fun k e=>.inr (by have e:k=g:=e;have:=hF2.size;omega));refine Gz 7 ?_;refine aG ⟨i+1,_⟩ ⟨by omega,hm10,?_,fun j q hj hq=>?_,hF10⟩ (by show ps.length-(i+1)<ps.length-i;omega)
  ·rw[tkL hp];exact hMN.snoc hop h63 hpl
  · by_cases e:j=i
    ·subst e;rw[hp] at hq;cases hq;exact Eo hp h63
    ·exact hno j q (by omega) hq
 have hie:i=ps.length:=by omega
 subst hie;rw[Xg] at hMN;refine Gz 15 ?_;refine aW [(0,_),(2,_),(3,_),(11,_),(49,_),(50,_),(51,_),(52,_)] ?_;refine Gz 3 ?_;exact⟨_,rfl,0,(by unfold nmd;rw[Wt (fun h=>h hz),Wt hd,Wt (zE fun i p h=>hno i p (Wy.1 h).1 h)]),hF4,.inr ⟨rfl,g,m,rfl,hm4,hMN⟩⟩
end
section
open Go Go.RowKit Go.Maps
def OD(P:Program)(s f o:Nat):Bool:=match P.underlying s with
|some (.struct fs)=>(match fs[f]? with|some x=>decide (x.offset=o) && fS P x.type|none=>false)
|_=>false
section
variable {P:Program}{N:Nt}{l:SF}{ty:TypeId}{pos:String}{aft:Array Edge}{dd:Option Nat}{g:Option (Nat×Bool)}{CH:Array Obj→Prop}{x:Operand}{v:Value}
theorem Uj{cs:List Value}{s f o:Nat}(hs:OD P s f o=true)(hx:evL l x=some (.agg cs.toArray))(hv:cs[o]?=some v):Cm P N CH l ⟨dd,.field s x f,ty,pos,aft,g⟩ v:=fun a w ha _=>by
 unfold OD at hs
 split at hs
 · rename_i fs hu
   split at hs
   · rename_i y hy
     simp only[WW,decide_eq_true_eq] at hs;obtain⟨h1,h2⟩:=hs;simp[execOp,ha.ev hx,Instr.field,run_underlying hu,hy,part,Fz h2,h1,asAgg,hv]
   ·cases hs
 ·cases hs
end
theorem JU:OD Tryz.prog 37 2 2=true:=by kernel_rfl
theorem mpI:sQ Tryz.prog 217 3 37 zNd:=⟨by kernel_rfl,by kernel_rfl⟩
def atK(qs:List (NdH×Nd))(z:Int):NdH×Nd:=(qs.find? (fun q=>decide (q.2.ino=z))).getD (mN,nd0)
def sB(qs:List (NdH×Nd))(z:Int):Prop:=∃ q∈qs,q.2.ino=z
instance (qs:List (NdH×Nd))(z:Int):Decidable (sB qs z):=by unfold sB;exact inferInstance
def rI(qs:List (NdH×Nd))(m:List (I6×Value)):Prop:=∀ z:I6,cG m z=(qs.find? (fun q=>decide (q.2.ino=z.1))).map (fun q=>Value.agg (aF q).toArray)
section
variable {qs:List (NdH×Nd)}{m:List (I6×Value)}
theorem V9:rI [] []:=fun z=>rfl
theorem rI.z(h:rI qs m)(z:I6):(cG m z).getD zNd=Value.agg (aF (atK qs z.1)).toArray:=by
 rw[h z];unfold atK;cases qs.find? (fun q=>decide (q.2.ino=z.1))<;>rfl
theorem rI.is(h:rI qs m)(z:I6):decide ((cG m z).isSome=true)=decide (sB qs z.1):=by
 apply decide_eq_decide.2;rw[h z,Option.isSome_map,Y4];simp[sB]
theorem rI.new(h:rI qs m){p:NdH×Nd}(z:I6)(hz:z.1=p.2.ino)(hn:¬ sB qs p.2.ino):rI (qs++[p]) (cN m z (.agg (aF p).toArray)):=fun y=>by
 rw[iZ,Y5];by_cases e:y=z
 · subst e
   have:qs.find? (fun q=>decide (q.2.ino=y.1))=none:=find?_eq_none.2 (fun q hq=>by simpa using fun e=>hn ⟨q,hq,by rw[e,hz]⟩);rw[Wu rfl,this];simp[hz]
 · have:[p].find? (fun q=>decide (q.2.ino=y.1))=none:=by
    have:¬ p.2.ino=y.1:=fun g=>e (Subtype.ext (by rw[←g,hz]));simp[this]
   rw[Wt e,h y,this,or_none]
theorem rI.old(h:rI qs m){p:NdH×Nd}(hn:sB qs p.2.ino):rI (qs++[p]) m:=fun y=>by
 rw[Y5,h y];by_cases e:y.1=p.2.ino
 · obtain⟨q,hq,hi⟩:=hn
   have:(qs.find? (fun q=>decide (q.2.ino=y.1))).isSome=true:=by
    rw[Y4];exact⟨q,hq,by simp[hi,e]⟩
   obtain⟨r,hr⟩:=Y6.1 this;rw[hr];rfl
 · have:[p].find? (fun q=>decide (q.2.ino=y.1))=none:=by
    have:¬ p.2.ino=y.1:=fun g=>e g.symm;simp[this]
   rw[this,or_none]
theorem vB{z:Int}(h:sB qs z):atK qs z∈qs∧(atK qs z).2.ino=z:=by
 obtain⟨q,hq,hi⟩:=h;have:(qs.find? (fun q=>decide (q.2.ino=z))).isSome=true:=by
  rw[Y4];exact⟨q,hq,by simp[hi]⟩
 obtain⟨r,hr⟩:=Y6.1 this;unfold atK;rw[hr];exact⟨Yz hr,by simpa using List.find?_some (p:=fun q:NdH×Nd=>decide (q.2.ino=z)) hr⟩
end
theorem L8{l:List Nd}(h:l.Pairwise gE){b q:Nd}(hb:b∈l)(hq:q∈l)(e:b.ino=q.ino):Alk b q:=by
 obtain⟨i,h1,rfl⟩:=Xn hb;obtain⟨j,h2,rfl⟩:=Xn hq;rcases Nat.lt_trichotomy i j with hlt|heq|hgt
 ·exact(W8.1 h i j h1 h2 hlt e.symm).2.symm
 ·subst heq;exact V5 _
 ·exact(W8.1 h j i h2 h1 hgt e).2
theorem Ij{ps:List (NdH×Nd)}{i:Nat}{q:NdH×Nd}(h:q∈ps.take i):q.2∈(nds ps).take i:=by
 rw[←CS];exact WS.2 ⟨q,h,rfl⟩
theorem CW{ps:List (NdH×Nd)}{i:Nat}{p:NdH×Nd}(hp:ps[i]?=some p)(h:((nds ps).take i).Pairwise gE)(hb:∀ b∈(nds ps).take i,gE b p.2):((nds ps).take (i+1)).Pairwise gE:=by
 rw[tkN hp];exact Yu.2 ⟨h,by simp,fun b hb' a ha=>by rw[WY] at ha;subst ha;exact hb b hb'⟩
theorem FY{ps:List (NdH×Nd)}{i:Nat}{p:NdH×Nd}(hp:ps[i]?=some p)(h:((nds ps).take i).Pairwise gE)(ho:sB (ps.take i) p.2.ino)(hk:p.2.kind≠1)(ha:Alk p.2 (atK (ps.take i) p.2.ino).2):((nds ps).take (i+1)).Pairwise gE:=
 CW hp h fun b hb e=>⟨hk,ha.trans (L8 h (Ij (vB ho).1) hb ((vB ho).2.trans e))⟩
theorem FZ{ps:List (NdH×Nd)}{i:Nat}{p:NdH×Nd}(hp:ps[i]?=some p)(h:((nds ps).take i).Pairwise gE)(ho:¬ sB (ps.take i) p.2.ino):((nds ps).take (i+1)).Pairwise gE:=
 CW hp h fun b hb e=>absurd (show sB (ps.take i) p.2.ino by
  rw[←CS] at hb;obtain⟨q,hq,rfl⟩:=WS.1 hb;exact⟨q,hq,e.symm⟩) ho
theorem nL{ps:List (NdH×Nd)}{i:Nat}{p:NdH×Nd}(hp:ps[i]?=some p)(ho:sB (ps.take i) p.2.ino)(hb:¬ (p.2.kind≠1∧Alk p.2 (atK (ps.take i) p.2.ino).2)):¬ (nds ps).Pairwise gE:=by
 intro h;obtain⟨h1,h2⟩:=vB ho;obtain⟨j,hj⟩:=WO h1;rw[Xf] at hj
 split at hj
 ·exact hb (Es h (by assumption) hj hp h2.symm)
 ·cases hj
variable {D:Nat→Prop}
theorem Hl(lo:Option Addr)(lc:Nat)(ps:List (NdH×Nd))(W:World)(hv:aQ D W.heap lo lc ps)(hok:∀ p∈ps,okN p.2) :
 CA 111 [.slice lo ps.length lc] W fun v w'=>v=iV (if (nds ps).Pairwise gE then 0 else 8)∧aA nob W w':=by
 have h63:=hv.1.Wq;refine cS 41 [(0,_)] Tryz.func111 ?_;refine Gz 7 ?_;refine To (enc:=enI) rfl ?_;intro w1 hm1 hs1 hf1;obtain⟨g,hg⟩:∃ g,g=W.heap.size:=⟨_,rfl⟩
 rw[←hg] at hm1 ⊢;refine Gz 12 ?_;refine SO (β:=Nat×List (I6×Value)) (fun⟨i,m⟩=>[(0,.slice lo ps.length lc),(3,.map (some g)),(9,.slice lo ps.length lc),(10,iV ps.length),(11,iV i)]) (fun⟨i,m⟩ w=>i≤ps.length∧cY enI w.heap g m∧rI (ps.take i) m∧((nds ps).take i).Pairwise gE∧aA nob W w) (fun⟨i,m⟩=>ps.length-i) ⟨0,[]⟩ ⟨rfl,rfl,rfl,rfl,rfl,trivial⟩ ⟨WG _,hm1,V9,by simp,hf1⟩ ?_;rintro⟨i,m⟩ w4 ⟨hi,hm4,hMK,hlk,hF4⟩;refine fK 2 ?_ ?_<;>intro h12
 ·have hil:i<ps.length:=by omega
  obtain⟨p,hp⟩:∃ p,ps[i]?=some p:=⟨_,Wv hil⟩
  have hpm:=Wz hp;have hv4:=hv.Wr hF4;have hzi:=hok p hpm p.2.ino (by simp);refine Gz 10 ?_;refine cL (SL aS rfl rfl hv4.1.non (by omega)) ?_;refine cL (SX (cs:=aF p) bB rfl (fun j v hj=>hv4.1.rowZ i rfl hp j v hj)) ?_;refine SP fF rfl ?_;intro w5 hg5 hs5 hf5;obtain⟨q,hq⟩:∃ q,q=w4.heap.size:=⟨_,rfl⟩
  rw[←hq] at hg5 ⊢;refine SY (vs:=aF p) bB rfl rfl (aB p).2 hg5 rfl ?_;intro w6 hg6 hs6 hf6;have hf46:aA nob w4 w6:=hf5.Wo hf6 (fun k e=>.inr (by have e:k=q:=e;omega));have hF6:aA nob W w6:=hF4.trans hf46;have hm6:=hm4.Ws hf46 id;have hgq:g<q:=by rw[hq];exact hm4.obj
  refine Gz 1 ?_;refine aW [(0,_),(3,_),(5,_),(9,_),(10,_),(11,_),(12,_)] ?_;refine Gz 6 ?_;refine cL (SN (u:=.tuple [.agg (aF (atK (ps.take i) p.2.ino)).toArray,.bool (decide (sB (ps.take i) p.2.ino))].toArray) (Tr mpI tW (a:=(⟨p.2.ino,hzi⟩:I6)) rfl rfl (fun _ e=>by rw[e];exact hm6)) (by rw[hMK.z,hMK.is])) ?_;refine Gz 3 ?_;by_cases h21:sB (ps.take i) p.2.ino
  ·rw[WA h21];refine SP fF rfl ?_;intro w8 hg8 hs8 hf8;obtain⟨r,hr⟩:∃ r,r=w6.heap.size:=⟨_,rfl⟩
   rw[←hr] at hg8 ⊢;refine SY (vs:=aF (atK (ps.take i) p.2.ino)) bB rfl rfl (aB _).2 hg8 rfl ?_;intro w9 hg9 hs9 hf9;have hf69:aA nob w6 w9:=hf8.Wo hf9 (fun k e=>.inr (by have e:k=r:=e;omega));have hF9:aA nob W w9:=hF6.trans hf69;have hm9:=hm6.Ws hf69 id;have hgn:=hf69.obj hg6 id;have hv9:=hv.Wr hF9;refine fW 10 ?_ ?_<;>intro h26
   ·refine Gz 23 ?_
    first
    |exact⟨_,rfl,by rw[Wt (nL hp h21 (fun h=>h.1 h26))],hF9⟩
    |exact⟨_,rfl,by rw[Wt (nL hp h21 (fun h=>h30 h.2))],hF9.trans hf10⟩
    |exact⟨_,rfl,by rw[Wu hlk],hF4⟩
   refine Gz 1 ?_;refine cW (SX (cs:=aF p) bB rfl (bJ hgn 0 rfl)) ?_;refine cW (SX (cs:=aF (atK (ps.take i) p.2.ino)) bB rfl (bJ hg9 0 rfl)) ?_;refine SS rfl rfl P2 rfl (K4 p (atK (ps.take i) p.2.ino) w9 (hv9.2 p hpm) (hv9.2 _ (XF (vB h21).1))) rfl ?_;rintro _ w10 ⟨rfl,hf10⟩;by_cases h30:Alk p.2 (atK (ps.take i) p.2.ino).2
   ·rw[WA h30];refine cW (S3 rfl) ?_;refine Gz 10 ?_;refine cL (S3 rfl) ?_;refine Gz 10 ?_
    first
    |exact aG ⟨i+1,m⟩ ⟨by omega,hm9.Ws hf10 id,by rw[tkL hp];exact hMK.old h21,FY hp hlk h21 h26 h30,hF9.trans hf10⟩ (by show ps.length-(i+1)<ps.length-i;omega)
    |exact aG ⟨i+1,_⟩ ⟨by omega,hm11,by rw[tkL hp];exact hMK.new _ rfl h21,FZ hp hlk h21,hF11⟩ (by show ps.length-(i+1)<ps.length-i;omega)
   rw[Wx h30];refine cW (S3 rfl) ?_;refine Gz 18 ?_
   first
   |exact⟨_,rfl,by rw[Wt (nL hp h21 (fun h=>h.1 h26))],hF9⟩
   |exact⟨_,rfl,by rw[Wt (nL hp h21 (fun h=>h30 h.2))],hF9.trans hf10⟩
   |exact⟨_,rfl,by rw[Wu hlk],hF4⟩
  rw[Wx h21];refine SP fF rfl ?_;intro w8 hg8 hs8 hf8;obtain⟨r,hr⟩:∃ r,r=w6.heap.size:=⟨_,rfl⟩
  rw[←hr] at hg8 ⊢;refine SY (vs:=aF (atK (ps.take i) p.2.ino)) bB rfl rfl (aB _).2 hg8 rfl ?_;intro w9 hg9 hs9 hf9;have hf69:aA nob w6 w9:=hf8.Wo hf9 (fun k e=>.inr (by have e:k=r:=e;omega));have hF9:aA nob W w9:=hF6.trans hf69;have hm9:=hm6.Ws hf69 id;have hgn:=hf69.obj hg6 id;have hv9:=hv.Wr hF9;refine Gz 26 ?_;refine cL (S3 rfl) ?_;refine Gz 7 ?_;refine cL (SX (cs:=aF p) bB rfl (bJ hgn 0 rfl)) ?_;refine Th mpI tW (a:=(⟨p.2.ino,hzi⟩:I6)) rfl rfl rfl hm9 ?_;intro w11 hm11 hs11 hf11;have hF11:aA nob W w11:=hF9.Wo hf11 (fun k e=>.inr (by have e:k=g:=e;omega));refine Gz 7 ?_
  first
  |exact aG ⟨i+1,m⟩ ⟨by omega,hm9.Ws hf10 id,by rw[tkL hp];exact hMK.old h21,FY hp hlk h21 h26 h30,hF9.trans hf10⟩ (by show ps.length-(i+1)<ps.length-i;omega)
  |exact aG ⟨i+1,_⟩ ⟨by omega,hm11,by rw[tkL hp];exact hMK.new _ rfl h21,FZ hp hlk h21,hF11⟩ (by show ps.length-(i+1)<ps.length-i;omega)
 have hie:i=ps.length:=by omega
 subst hie;rw[WJ (by simp)] at hlk;refine Gz 16 ?_
 first
 |exact⟨_,rfl,by rw[Wt (nL hp h21 (fun h=>h.1 h26))],hF9⟩
 |exact⟨_,rfl,by rw[Wt (nL hp h21 (fun h=>h30 h.2))],hF9.trans hf10⟩
 |exact⟨_,rfl,by rw[Wu hlk],hF4⟩
theorem I1{ps:List (NdH×Nd)}(hl:¬ (1024:Int)<ps.length)(hz:nmd (nds ps)=0)(hr:¬ (atN ps []).2.kind=1):plc (nds ps)=4:=by
 have hll:(nds ps).length=ps.length:=by simp
 unfold plc;rw[Wt (by omega),Wt (fun h=>h hz),Wu (fun h=>hr ((rG (iA hz).2.2 _).2 h))]
theorem LL{ps:List (NdH×Nd)}(hl:¬ (1024:Int)<ps.length)(hz:nmd (nds ps)=0)(hr:(atN ps []).2.kind=1){p:NdH×Nd}(hp:p∈ps)(hne:p.2.names≠[])(hb:¬ (atN ps p.2.names.dropLast).2.kind=1):plc (nds ps)=5:=by
 have hll:(nds ps).length=ps.length:=by simp
 have ht:=(iA hz).2.2;unfold plc;rw[Wt (by omega),Wt (fun h=>h hz),Wt (fun h=>h ((rG ht _).1 hr)),Wu ⟨p.2,WS.2 ⟨p,hp,rfl⟩,hne,fun h=>hb ((rG ht _).2 h)⟩]
theorem I0{ps:List (NdH×Nd)}(hl:¬ (1024:Int)<ps.length)(hz:nmd (nds ps)=0)(hr:(atN ps []).2.kind=1)(hb:∀ p∈ps,p.2.names≠[]→(atN ps p.2.names.dropLast).2.kind=1):plc (nds ps)=0:=by
 have hll:(nds ps).length=ps.length:=by simp
 have ht:=(iA hz).2.2;unfold plc;rw[Wt (by omega),Wt (fun h=>h hz),Wt (fun h=>h ((rG ht _).1 hr)),Wt];rintro⟨n,hn,h1,h2⟩;obtain⟨p,hp,rfl⟩:=WS.1 hn;exact h2 ((rG ht _).1 (hb p hp h1))
theorem iF{ps:List (NdH×Nd)}{R:Nd→Prop}:(∃ n∈nds ps,R n)↔∃ p∈ps,R p.2:=
 ⟨fun⟨n,hn,h⟩=>by obtain⟨p,hp,rfl⟩:=WS.1 hn;exact⟨p,hp,h⟩,fun⟨p,hp,h⟩=>⟨p.2,WS.2 ⟨p,hp,rfl⟩,h⟩⟩
theorem Hi(lo:Option Addr)(lc:Nat)(ps:List (NdH×Nd))(W:World)(hv:aQ D W.heap lo lc ps)(hsm:∀ p∈ps,smN p.2) :
 CA 106 [.slice lo ps.length lc] W fun v w'=>∃ og,v=.tuple [.map og,iV (nmd (nds ps))].toArray∧aA nob W w'∧(nmd (nds ps)=0→∃ g m,og=some g∧cY enS w'.heap g m∧sR ps m):=by
 refine(Jj lo lc ps W hv hsm).mono ?_;rintro e w' ⟨v,rfl,z,rfl,hf,⟨h1,rfl⟩|⟨h1,g,m,rfl,h2,h3⟩⟩
 ·exact⟨_,rfl,none,rfl,hf,fun h=>absurd h h1⟩
 ·exact⟨_,rfl,some g,by rw[h1],hf,fun _=>⟨g,m,rfl,h2,h3⟩⟩
theorem KE(lo:Option Addr)(lc:Nat)(ps:List (NdH×Nd))(W:World)(hv:aQ D W.heap lo lc ps)(hsm:∀ p∈ps,smN p.2)(hok:∀ p∈ps,okN p.2) :
 CA 55 [.slice lo ps.length lc] W fun v w'=>v=iV (chk (nds ps))∧aA nob W w':=by
 have h63:=hv.1.Wq;have hll:(nds ps).length=ps.length:=by simp
 have hp0:(dY []).length≤maxLen:=wK (by simp) (by simp);have ho0:jE []:=fun s hs=>by cases hs
 refine cS 55 [(0,_)] Tryz.func55 ?_;refine fK 10 ?_ ?_<;>intro h10
 ·have hc:plc (nds ps)=3:=by unfold plc;rw[Wu (by omega)]
  refine Gz 11 ?_
  first
  |exact⟨_,rfl,by rw[aK,hc,Wu (by decide)],VK _ _⟩
  |exact⟨_,rfl,by rw[aK,hc,Wu h18],hf2⟩
  |exact⟨_,rfl,by rw[aK,hc,Wu (by decide)],hF6.trans hf7⟩
  |exact⟨_,rfl,by rw[aK,hc,Wu (by decide)],hf2.trans hf3⟩
  |exact⟨_,rfl,by rw[aK,Wt (fun h=>h hpz),Wu (iF.2 h51)],hF4.trans hf5⟩
  |exact⟨_,rfl,by rw[aK,hpz,Wt (show ¬ ((0:Int)≠0) from fun h=>h rfl),Wt (fun h:∃ n∈nds ps,¬ dL n=>h51 (iF.1 h))],(hF4.trans hf5).trans hf6⟩
 refine cA 8 Qn (Hi lo lc ps W hv hsm) ?_;rintro _ w2 ⟨og,rfl,hf2,hmn⟩;refine fK 12 ?_ ?_<;>intro h18
 ·have hc:plc (nds ps)=nmd (nds ps):=by unfold plc;rw[Wt (by omega),Wu h18]
  refine Gz 14 ?_
  first
  |exact⟨_,rfl,by rw[aK,hc,Wu (by decide)],VK _ _⟩
  |exact⟨_,rfl,by rw[aK,hc,Wu h18],hf2⟩
  |exact⟨_,rfl,by rw[aK,hc,Wu (by decide)],hF6.trans hf7⟩
  |exact⟨_,rfl,by rw[aK,hc,Wu (by decide)],hf2.trans hf3⟩
  |exact⟨_,rfl,by rw[aK,Wt (fun h=>h hpz),Wu (iF.2 h51)],hF4.trans hf5⟩
  |exact⟨_,rfl,by rw[aK,hpz,Wt (show ¬ ((0:Int)≠0) from fun h=>h rfl),Wt (fun h:∃ n∈nds ps,¬ dL n=>h51 (iF.1 h))],(hF4.trans hf5).trans hf6⟩
 have hz:nmd (nds ps)=0:=W3.1 h18;obtain⟨g,m,rfl,hm2,hMN⟩:=hmn hz;obtain⟨hvn,hnl,ht⟩:=iA hz;refine Gz 7 ?_;refine SJ J3 rfl (wO none 0 [] w2 (VQ 0 (WG _)) (by simp) (by simp)) rfl ?_;rintro _ w3 ⟨rfl,hf3⟩;have hm3:=hm2.Ws hf3 id;refine cL (SN (u:=.agg (aF (atN ps [])).toArray) (TY mpN C1 (a:=(⟨dY [],hp0⟩:SK)) rfl rfl (fun _ e=>by rw[e];exact hm3)) (hMN.z ho0 hp0)) ?_;refine cL (Uj JU (cs:=aF (atN ps [])) rfl rfl) ?_;refine fK 0 ?_ ?_<;>intro h25
 ·have hc:=I1 h10 hz h25;refine Gz 13 ?_
  first
  |exact⟨_,rfl,by rw[aK,hc,Wu (by decide)],VK _ _⟩
  |exact⟨_,rfl,by rw[aK,hc,Wu h18],hf2⟩
  |exact⟨_,rfl,by rw[aK,hc,Wu (by decide)],hF6.trans hf7⟩
  |exact⟨_,rfl,by rw[aK,hc,Wu (by decide)],hf2.trans hf3⟩
  |exact⟨_,rfl,by rw[aK,Wt (fun h=>h hpz),Wu (iF.2 h51)],hF4.trans hf5⟩
  |exact⟨_,rfl,by rw[aK,hpz,Wt (show ¬ ((0:Int)≠0) from fun h=>h rfl),Wt (fun h:∃ n∈nds ps,¬ dL n=>h51 (iF.1 h))],(hF4.trans hf5).trans hf6⟩
 have hr:(atN ps []).2.kind=1:=W3.1 h25;refine Gz 16 ?_;refine SO (β:=Nat) (fun i=>[(0,.slice lo ps.length lc),(3,.map (some g)),(26,.slice lo ps.length lc),(27,iV ps.length),(28,iV i)]) (fun i w=>i≤ps.length∧cY enS w.heap g m∧(∀ (j:Nat) (p:NdH×Nd),j<i→ps[j]?=some p→p.2.names≠[]→(atN ps p.2.names.dropLast).2.kind=1)∧aA nob W w) (fun i=>ps.length-i) 0 ⟨rfl,rfl,rfl,rfl,rfl,trivial⟩ ⟨WG _,hm3,fun j p hj=>by omega,hf2.trans hf3⟩ ?_;rintro i w4 ⟨hi,hm4,hpar,hF4⟩;refine fK 2 ?_ ?_<;>intro h29
 ·have hil:i<ps.length:=by omega
  obtain⟨p,hp⟩:∃ p,ps[i]?=some p:=⟨_,Wv hil⟩
  have hpm:=Wz hp;have hv4:=hv.Wr hF4;have hnm:=Wz (bE hp);obtain⟨hop,hsl⟩:=CT hvn hnm;have hn16:=hnl _ hnm;refine Gz 10 ?_;refine cL (SL aS rfl rfl hv4.1.non (by omega)) ?_;refine cL (SX (cs:=aF p) bB rfl (fun j v hj=>hv4.1.rowZ i rfl hp j v hj)) ?_;refine SP fF rfl ?_;intro w5 hg5 hs5 hf5;obtain⟨q,hq⟩:∃ q,q=w4.heap.size:=⟨_,rfl⟩
  rw[←hq] at hg5 ⊢;refine SY (vs:=aF p) bB rfl rfl (aB p).2 hg5 rfl ?_;intro w6 hg6 hs6 hf6;have hf46:aA nob w4 w6:=hf5.Wo hf6 (fun k e=>.inr (by have e:k=q:=e;omega));have hF6:aA nob W w6:=hF4.trans hf46;have hn6:=((hv.Wr hF6).2 p hpm).1;have hm6:=hm4.Ws hf46 id;refine Gz 7 ?_;rw[hn6.1];refine fK 7 ?_ ?_<;>intro h37
  ·refine Gz 5 ?_;refine cW (SN (u:=.slice p.1.names.a p.2.names.dropLast.length p.1.names.c) (S8 jK rfl rfl (by have:=hn6.2.1.le;omega)) (by rw[bD,Yf];congr 1;omega)) ?_;refine SS rfl rfl J3 rfl (wO p.1.names.a p.1.names.c p.2.names.dropLast w6 (by rw[drop_take];exact hn6.2.1.take _) (by rw[Yf];omega) (fun s hs=>hsl s (List.dropLast_subset _ hs))) rfl ?_;rintro _ w7 ⟨rfl,hf7⟩;have hm7:=hm6.Ws hf7 id;have hdo:jE p.2.names.dropLast:=fun s hs=>hop s (List.dropLast_subset _ hs);have hdl:(dY p.2.names.dropLast).length≤maxLen:=wK (by rw[Yf];omega) (fun s hs=>hsl s (List.dropLast_subset _ hs));refine cW (SN (u:=.agg (aF (atN ps p.2.names.dropLast)).toArray) (TY mpN C1 (a:=(⟨dY p.2.names.dropLast,hdl⟩:SK)) rfl rfl (fun _ e=>by rw[e];exact hm7)) (hMN.z hdo hdl)) ?_;refine cW (Uj JU (cs:=aF (atN ps p.2.names.dropLast)) rfl rfl) ?_;refine fW 0 ?_ ?_<;>intro h47
   ·have hc:=LL h10 hz hr hpm (fun e=>by rw[e] at h37;simp at h37) h47;refine Gz 16 ?_
    first
    |exact⟨_,rfl,by rw[aK,hc,Wu (by decide)],VK _ _⟩
    |exact⟨_,rfl,by rw[aK,hc,Wu h18],hf2⟩
    |exact⟨_,rfl,by rw[aK,hc,Wu (by decide)],hF6.trans hf7⟩
    |exact⟨_,rfl,by rw[aK,hc,Wu (by decide)],hf2.trans hf3⟩
    |exact⟨_,rfl,by rw[aK,Wt (fun h=>h hpz),Wu (iF.2 h51)],hF4.trans hf5⟩
    |exact⟨_,rfl,by rw[aK,hpz,Wt (show ¬ ((0:Int)≠0) from fun h=>h rfl),Wt (fun h:∃ n∈nds ps,¬ dL n=>h51 (iF.1 h))],(hF4.trans hf5).trans hf6⟩
   refine Gz 11 ?_
   first
   |(refine aG (i+1) ⟨by omega,hm7,fun j q hj hq hne=>?_,hF6.trans hf7⟩ (by show ps.length-(i+1)<ps.length-i;omega)
     by_cases e:j=i
     ·subst e;rw[hp] at hq;cases hq;exact W3.1 h47
     ·exact hpar j q (by omega) hq hne)
   |(refine aG (i+1) ⟨by omega,hm6,fun j q hj hq hne=>?_,hF6⟩ (by show ps.length-(i+1)<ps.length-i;omega)
     by_cases e:j=i
     ·subst e;rw[hp] at hq;cases hq;exact absurd (WM.1 (by omega)) hne
     ·exact hpar j q (by omega) hq hne)
  refine Gz 21 ?_
  first
  |(refine aG (i+1) ⟨by omega,hm7,fun j q hj hq hne=>?_,hF6.trans hf7⟩ (by show ps.length-(i+1)<ps.length-i;omega)
    by_cases e:j=i
    ·subst e;rw[hp] at hq;cases hq;exact W3.1 h47
    ·exact hpar j q (by omega) hq hne)
  |(refine aG (i+1) ⟨by omega,hm6,fun j q hj hq hne=>?_,hF6⟩ (by show ps.length-(i+1)<ps.length-i;omega)
    by_cases e:j=i
    ·subst e;rw[hp] at hq;cases hq;exact absurd (WM.1 (by omega)) hne
    ·exact hpar j q (by omega) hq hne)
 have hie:i=ps.length:=by omega
 subst hie;have hpz:=I0 h10 hz hr (fun p hp hne=>by obtain⟨j,hj⟩:=WO hp;exact hpar j p (Wy.1 hj).1 hj hne);refine cA 13 Qm (tX (R:=fun p:NdH×Nd=>¬ dL p.2) 109 [] Ql lo lc ps w4 (hv.Wr hF4) (fun w p hp hf=>HM p w (((hv.Wr hF4).2 p hp).Wr hf) (hsm p hp))) ?_;rintro _ w5 ⟨rfl,hf5⟩;by_cases h51:∃ p∈ps,¬ dL p.2
 ·rw[WA h51];refine cL (S3 rfl) ?_;refine Gz 12 ?_
  first
  |exact⟨_,rfl,by rw[aK,hc,Wu (by decide)],VK _ _⟩
  |exact⟨_,rfl,by rw[aK,hc,Wu h18],hf2⟩
  |exact⟨_,rfl,by rw[aK,hc,Wu (by decide)],hF6.trans hf7⟩
  |exact⟨_,rfl,by rw[aK,hc,Wu (by decide)],hf2.trans hf3⟩
  |exact⟨_,rfl,by rw[aK,Wt (fun h=>h hpz),Wu (iF.2 h51)],hF4.trans hf5⟩
  |exact⟨_,rfl,by rw[aK,hpz,Wt (show ¬ ((0:Int)≠0) from fun h=>h rfl),Wt (fun h:∃ n∈nds ps,¬ dL n=>h51 (iF.1 h))],(hF4.trans hf5).trans hf6⟩
 rw[Wx h51];refine cL (S3 rfl) ?_;refine cA 6 Qj (Hl lo lc ps w5 ((hv.Wr hF4).Wr hf5) hok) ?_;rintro _ w6 ⟨rfl,hf6⟩;refine Gz 6 ?_
 first
 |exact⟨_,rfl,by rw[aK,hc,Wu (by decide)],VK _ _⟩
 |exact⟨_,rfl,by rw[aK,hc,Wu h18],hf2⟩
 |exact⟨_,rfl,by rw[aK,hc,Wu (by decide)],hF6.trans hf7⟩
 |exact⟨_,rfl,by rw[aK,hc,Wu (by decide)],hf2.trans hf3⟩
 |exact⟨_,rfl,by rw[aK,Wt (fun h=>h hpz),Wu (iF.2 h51)],hF4.trans hf5⟩
 |exact⟨_,rfl,by rw[aK,hpz,Wt (show ¬ ((0:Int)≠0) from fun h=>h rfl),Wt (fun h:∃ n∈nds ps,¬ dL n=>h51 (iF.1 h))],(hF4.trans hf5).trans hf6⟩
end
section
open Go Go.RowKit Go.Maps
section
variable {P:Program}{N:Nt}{Q:Exit→Act→World→Prop}{l:SF}{w:World}{ops:Array Oper}{rest:List Oper}{op:Op}{ty:TypeId}{pos:String}{aft:Array Edge}{d:Nat}
theorem U0{j s:Nat}{b:Bool}(hj:(ops[j]?).bind (·.dst)=some s)(hs:lk l s=some (.bool b))(h:Sl P N ops Q (⟨some d,op,ty,pos,aft,none⟩::rest) l w) :
 Sl P N ops Q (⟨some d,op,ty,pos,aft,some (j,b)⟩::rest) l w:=fun a ha=>by
 have h1:=h a ha;unfold wpList at h1 ⊢;rw[Wu (by simp[Region.wanted])] at h1;rw[Wu (by simp[Region.wanted,gJ ha hj hs])];exact h1
end
theorem cP{B n:Nat}{o o':Option Addr}(h:Fr B o)(hr:∀ a,o'=some a→o=some a∨n≤a.block)(hn:B≤n):Fr B o':=fun a ha=>by
 rcases hr a ha with h1|h1
 ·exact h a h1
 ·omega
def gI(h:Hd)(n:Nat):Hd:=if n<h.n then ⟨h.a,n,h.c⟩ else h
theorem dN{h:Hd}{n:Nat}(k:n<h.n):gI h n=⟨h.a,n,h.c⟩:=Wu k
theorem fE{h:Hd}{n:Nat}(k:¬ n<h.n):gI h n=h:=Wt k
variable {D:Nat→Prop}
theorem AS{α:Type}{l:List α}{n:Nat}(h:l.take n≠[]):l≠[]:=fun e=>h (by rw[e];exact List.take_nil)
theorem NmV.cut{H:Array Obj}{h:Hd}{l:List By}(v:NmV D H h l)(n:Nat):NmV D H (gI h n) (l.take n):=by
 by_cases k:n<h.n
 · rw[dN k]
   exact⟨by have:=v.1;rw[WB];show n=_;omega,v.2.1.take n,fun hne=>v.2.2 (AS hne)⟩
 ·rw[fE k,WJ (by have:=v.1;omega)];exact v
theorem ByV.cut{H:Array Obj}{h:Hd}{l:By}(v:ByV D H h l)(n:Nat):ByV D H (gI h n) (l.take n):=by
 by_cases k:n<h.n
 · rw[dN k]
   exact⟨by have:=v.1;rw[WB];show n=_;omega,v.2.1.take n,fun hne=>v.2.2 (AS hne)⟩
 ·rw[fE k,WJ (by have:=v.1;omega)];exact v
theorem XsV.cut{H:Array Obj}{h:Hd}{X:List Xa}(v:XsV D H h X)(n:Nat):XsV D H (gI h n) (X.take n):=by
 by_cases k:n<h.n
 · rw[dN k]
   obtain⟨h1,ys,h2,h3,h4,h5⟩:=v;refine⟨by rw[WB];show n=_;omega,ys.take n,h2.take n,by simp[h3],fun hne=>h4 (AS hne),fun i x y hx hy=>?_⟩;rw[Xf] at hx hy;by_cases hi:i<n
   ·rw[Wu hi] at hx hy;exact h5 i x y hx hy
   ·rw[Wt hi] at hx;cases hx
 ·rw[fE k,WJ (by have:=v.1;omega)];exact v
def bS:NdH×Nd:=(mN,{ nd0 with ino:=1,kind:=1 })
theorem DB:chk (nds [bS])=0:=by decide +kernel
theorem LA:smN bS.2:=⟨WG _,by simp[bS,nd0],by simp[bS,nd0]⟩
theorem LB:okN bS.2:=by simp[okN,bS,nd0]
end
section
open Go Go.RowKit Go.Maps
theorem kV:∀ a:By,WU a a=false
|[]=>rfl
|x::a=>by
   have ih:=kV a;have h:¬ x<x:=by rw[XY];omega
   simp[WU,h,ih]
theorem yH:∀ {a b c:By},WU a b=true→WU b c=true→WU a c=true
|_,[],_,h,_=>by simp[WU] at h
|_,_::_,[],_,h=>by simp[WU] at h
|[],_::_,_::_,_,_=>by simp[WU]
|x::a,y::b,z::c,h1,h2=>by
   simp only[WU,X3,decide_eq_true_eq,WW,beq_iff_eq] at h1 h2 ⊢;rcases h1 with h1|⟨rfl,h1⟩
   · rcases h2 with h2|⟨rfl,h2⟩
     ·left;rw[XY] at *;omega
     ·exact .inl h1
   · rcases h2 with h2|⟨rfl,h2⟩
     ·exact .inl h2
     ·exact .inr ⟨rfl,yH h1 h2⟩
theorem KS{a b:By}(h:WU a b=true):WU b a=false:=by
 cases h2:WU b a with
|false=>rfl
|true=>have:=yH h h2;rw[kV] at this;cases this
theorem OM{a b:By}(hne:a≠b)(h:WU a b=false):WU b a=true:=by
 have:=iB a b;rw[h] at this;have hb:(a == b)=false:=by simpa using hne
 rw[hb] at this
 revert this;cases WU b a<;>simp
def cQ:List By→List By→Int
|[],[]=>0
|[],_::_=>-1
|_::_,[]=>1
|x::a,y::b=>if x=y then cQ a b else if WU x y=true then -1 else 1
theorem nS:∀ a,cQ a a=0
|[]=>rfl
|x::a=>by unfold cQ;rw[Wu rfl];exact nS a
theorem kU:∀ {a b:List By},cQ a b=0→a=b
|[],[],_=>rfl
|[],_::_,h=>by simp[cQ] at h
|_::_,[],h=>by simp[cQ] at h
|x::a,y::b,h=>by
   unfold cQ at h
   split at h
   ·rename_i e;rw[e,kU h]
   ·split at h<;>simp at h
theorem xX:∀ a b:List By,cQ b a = - cQ a b
|[],[]=>rfl
|[],_::_=>rfl
|_::_,[]=>rfl
|x::a,y::b=>by
   unfold cQ;by_cases e:x=y
   ·rw[Wu e,Wu e.symm];exact xX a b
   · rw[Wt e,Wt (fun h=>e h.symm)]
     by_cases h:WU x y=true
     ·rw[Wu h,Wt (by rw[KS h];decide)];rfl
     ·rw[Wt h,Wu (OM e (by simpa using h))]
theorem pE:∀ {a b c:List By},cQ a b<0→cQ b c<0→cQ a c<0
|_,_::_,[],_,h=>by simp[cQ] at h
|[],_::_,_::_,_,_=>by simp[cQ]
|[],[],_,h,_=>by simp[cQ] at h
|_::_,[],_,h,_=>by simp[cQ] at h
|x::a,y::b,z::c,h1,h2=>by
   unfold cQ at h1 h2 ⊢;by_cases e1:x=y
   · subst e1
     rw[Wu rfl] at h1;by_cases e2:x=z
     · subst e2
       rw[Wu rfl] at h2 ⊢;exact pE h1 h2
     ·rw[Wt e2] at h2 ⊢;exact h2
   · rw[Wt e1] at h1
     have l1:WU x y=true:=by
      by_cases h:WU x y=true
      ·exact h
      ·rw[Wt h] at h1;simp at h1
     by_cases e2:y=z
     ·subst e2;rw[Wt e1,Wu l1];decide
     · rw[Wt e2] at h2
       have l2:WU y z=true:=by
        by_cases h:WU y z=true
        ·exact h
        ·rw[Wt h] at h2;simp at h2
       have l3:=yH l1 l2;rw[Wt (fun e=>by subst e;rw[kV] at l3;cases l3),Wu l3];decide
theorem xY:∀ (p a b:List By),cQ (p++a) (p++b)=cQ a b
|[],a,b=>rfl
|x::p,a,b=>by
   show (if x=x then cQ (p++a) (p++b) else if WU x x=true then -1 else 1)=_;rw[Wu rfl];exact xY p a b
theorem uW{α:Type}{l:List α}{k:Nat}{x:α}(h:l[k]?=some x):l.drop k=x::l.drop (k+1):=by
 rw[Xv (Wy.1 h).1,(Wy.1 h).2]
theorem pF{a b:List By}{k:Nat}(h:a.take k=b.take k):cQ a b=cQ (a.drop k) (b.drop k):=by
 conv=>lhs;rw[←WX k a,←WX k b,h]
 exact xY _ _ _
theorem Gv{a b:List By}{k:Nat}{x y:By}(h:a.take k=b.take k)(hx:a[k]?=some x)(hy:b[k]?=some y)(hne:x≠y):cQ a b=if WU x y=true then -1 else 1:=by
 rw[pF h,uW hx,uW hy];unfold cQ;rw[Wt hne]
theorem sL{a b:List By}{k:Nat}{x:By}(h:a.take k=b.take k)(hx:a[k]?=some x)(hy:b.length≤k):cQ a b=1:=by
 rw[pF h,uW hx,Yk hy];rfl
theorem rA{a b:List By}{k:Nat}(h:a.take k=b.take k)(hx:a.length≤k):cQ a b=if a.length<b.length then -1 else 0:=by
 rw[pF h,Yk hx];by_cases hl:a.length<b.length
 · rw[Wu hl]
   have h2:(b.take k).length=a.length:=by rw[←h,WB];omega
   cases hd:b.drop k with
  |nil=>have:=congrArg W6 hd;rw[WB] at h2;simp at this;omega
  |cons y r=>rfl
 ·rw[Wt hl,Yk (by have:=congrArg W6 h;simp only[WB] at this;omega)];rfl
theorem vL{a b:List By}{k:Nat}{x:By}(h:a.take k=b.take k)(hx:a[k]?=some x)(hy:b[k]?=some x):a.take (k+1)=b.take (k+1):=by rw[tkL hx,tkL hy,h]
theorem C2(x:By)(W:World):CA 164 [.string (bs x)] W fun v w'=>v=.bool false∧w'=W:=by
 refine cS 6 [(0,_)] Tryz.func164 ?_;refine fK 9 ?_ ?_<;>intro h5
 ·exact absurd rfl h5
 refine Gz 5 ?_;exact⟨_,rfl,rfl,rfl⟩
def tY(x y:By):Int:=if WU x y=true then -1 else if x=y then 0 else 1
theorem HJ{x y:By}(h:tY x y=0):x=y:=by
 unfold tY at h
 split at h
 ·cases h
 · split at h
   ·assumption
   ·cases h
theorem MP(x y:By)(W:World):CA 114 [.string (bs x),.string (bs y)] W fun v w'=>v=iV (tY x y)∧w'=W:=by
 refine cS 20 [(0,_),(1,_)] Tryz.func114 ?_;refine cA 8 Nn (C2 x W) ?_;rintro _ w1 ⟨rfl,hw1⟩;subst w1;refine cA 6 Nn (C2 y W) ?_;rintro _ w1 ⟨rfl,hw1⟩;subst w1;refine Gz 26 ?_;refine Tl (S6 (Us (a:=x) (b:=y) rfl rfl)) rfl (fun h16=>?_) (fun h16=>?_)
 ·refine Gz 11 ?_;exact⟨_,rfl,by unfold tY;rw[Wu h16],rfl⟩
 refine Gz 10 ?_;refine Tl (S6 (Uu (a:=x) (b:=y) rfl rfl)) rfl (fun h19=>?_) (fun h19=>?_)
 ·refine Gz 11 ?_;exact⟨_,rfl,by unfold tY;rw[Wt h16,Wt (fun e=>by subst e;simp at h19)],rfl⟩
 refine Gz 12 ?_;exact⟨_,rfl,by unfold tY;rw[Wt h16,Wu (by simpa[h16] using h19)],rfl⟩
theorem xU(ao bo:Option Addr)(ac bc:Nat)(a b:List By)(W:World)(ha:Vw gQ W.heap ao ac a)(hb:Vw gQ W.heap bo bc b) :
 CA 59 [.slice ao a.length ac,.slice bo b.length bc] W fun v w'=>v=iV (cQ a b)∧w'=W:=by
 have h63:=ha.Wq;refine cS 36 [(0,_),(1,_)] Tryz.func59 ?_;refine Gz 14 ?_;refine SO (β:=Nat) (fun k=>[(0,.slice ao a.length ac),(1,.slice bo b.length bc),(9,.slice ao a.length ac),(10,iV a.length),(11,iV k)]) (fun k w=>k≤a.length∧a.take k=b.take k∧w=W) (fun k=>a.length-k) 0 ⟨rfl,rfl,rfl,rfl,rfl,trivial⟩ ⟨WG _,by simp,rfl⟩ ?_;rintro k w ⟨hk,hsm,rfl⟩;refine fK 2 ?_ ?_<;>intro h12
 ·have hka:k<a.length:=by omega
  obtain⟨x,hx⟩:∃ x,a[k]?=some x:=⟨_,Wv hka⟩
  refine Gz 11 ?_;refine cL (SI jK rfl rfl ha.non (by omega)) ?_;refine cL (SM fT rfl (ha.get k x hx)) ?_;refine fK 10 ?_ ?_<;>intro h19
  ·refine Gz 16 ?_;exact⟨_,rfl,by rw[sL hsm hx (by omega)],rfl⟩
  obtain⟨y,hy⟩:∃ y,b[k]?=some y:=⟨_,Wv (by omega)⟩
  refine Gz 9 ?_;refine cL (SI jK rfl rfl hb.non (by omega)) ?_;refine cL (SM fT rfl (hb.get k y hy)) ?_;refine cA 7 Qi (MP x y w) ?_;rintro _ w1 ⟨rfl,hw1⟩;subst w1;refine fK 6 ?_ ?_<;>intro h28
  ·refine Gz 16 ?_;refine⟨_,rfl,?_,rfl⟩;have hne:x≠y:=fun e=>h28 (by unfold tY;rw[Wt (by rw[e,kV];decide),Wu e]);rw[Gv hsm hx hy hne];unfold tY;rw[Wt hne]
  have hxy:x=y:=HJ (W3.1 h28);refine Gz 10 ?_;exact aG (k+1) ⟨by omega,vL hsm hx (hxy ▸ hy),rfl⟩ (by show a.length-(k+1)<a.length-k;omega)
 refine fK 16 ?_ ?_<;>intro h35
 ·refine Gz 11 ?_;exact⟨_,rfl,by rw[rA hsm (by omega),Wu (by omega)],rfl⟩
 refine Gz 12 ?_;exact⟨_,rfl,by rw[rA hsm (by omega),Wt (by omega)],rfl⟩
def bO(a b:List By):Bool:=decide (cQ a b<0)
theorem IK(ao bo:Option Addr)(ac bc:Nat)(a b:List By)(W:World)(ha:Vw gQ W.heap ao ac a)(hb:Vw gQ W.heap bo bc b) :
 CA 105 [.slice ao a.length ac,.slice bo b.length bc] W fun v w'=>v=.bool (bO a b)∧aA nob W w':=by
 have h63:=ha.Wq;refine cS 41 [(0,_),(1,_)] Tryz.func105 ?_;refine Gz 12 ?_;refine SO (β:=Nat) (fun k=>[(0,.slice ao a.length ac),(1,.slice bo b.length bc),(5,iV k)]) (fun k w=>k≤a.length∧k≤b.length∧a.take k=b.take k∧aA nob W w) (fun k=>a.length-k) 0 ⟨rfl,rfl,rfl,trivial⟩ ⟨WG _,WG _,by simp,VK _ _⟩ ?_;rintro k w2 ⟨hk,hkb,hsm,hF2⟩;refine fK 6 ?_ ?_<;>intro h9
 ·refine fW 4 ?_ ?_<;>intro h14
  ·have hka:k<a.length:=by omega
   have hkb:k<b.length:=by omega
   have ha2:=ha.Wr hF2;have hb2:=hb.Wr hF2;obtain⟨x,hx⟩:∃ x,a[k]?=some x:=⟨_,Wv hka⟩
   obtain⟨y,hy⟩:∃ y,b[k]?=some y:=⟨_,Wv hkb⟩
   refine Gz 9 ?_;refine Tg 9 [0,1,2,3,4,5,6,7,8] aL (by kernel_rfl) ?_;refine Gz 2 ?_;refine xC rfl (SI jK rfl rfl ha2.non (by omega)) ?_;refine xC rfl (SM fT rfl (ha2.get k x hx)) ?_;refine Gz 2 ?_;refine xC rfl (SI jK rfl rfl hb2.non (by omega)) ?_;refine xC rfl (SM fT rfl (hb2.get k y hy)) ?_;refine xK 0 ?_ ?_<;>intro h26
   ·refine Gz 4 ?_;refine Tg 10 [0,1,2,3,4,5,6,7,8,9] aL (by kernel_rfl) ?_;refine Gz 2 ?_;refine xC rfl (SI jK rfl rfl ha2.non (by omega)) ?_;refine xC rfl (SM fT rfl (ha2.get k x hx)) ?_;refine Gz 2 ?_;refine xC rfl (SI jK rfl rfl hb2.non (by omega)) ?_;refine xC rfl (SM fT rfl (hb2.get k y hy)) ?_;refine xC rfl (Us (a:=x) (b:=y) rfl rfl) ?_;refine Gz 10 ?_;refine⟨_,rfl,?_,(hF2.draws 1).draws 1⟩;unfold bO;rw[Gv hsm hx hy h26];cases hl:WU x y<;>simp
   refine Gz 11 ?_;exact aG (k+1) ⟨by omega,by omega,vL hsm hx (by rw[W3.1 h26];exact hy),hF2.draws 1⟩ (by show a.length-(k+1)<a.length-k;omega)
  refine Gz 15 ?_;refine cL (TI rfl rfl) ?_;refine Gz 5 ?_;refine⟨_,rfl,?_,hF2⟩;unfold bO;by_cases hka:a.length≤k
  · rw[rA hsm hka];by_cases hl:a.length<b.length
    ·rw[Wu hl];simp;omega
    ·rw[Wt hl];simp;omega
  · obtain⟨x,hx⟩:∃ x,a[k]?=some x:=⟨_,Wv (by omega)⟩
    rw[sL hsm hx (by omega)];simp;omega
 refine Gz 20 ?_;refine cL (TI rfl rfl) ?_;refine Gz 5 ?_;refine⟨_,rfl,?_,hF2⟩;unfold bO;by_cases hka:a.length≤k
 · rw[rA hsm hka];by_cases hl:a.length<b.length
   ·rw[Wu hl];simp;omega
   ·rw[Wt hl];simp;omega
 · obtain⟨x,hx⟩:∃ x,a[k]?=some x:=⟨_,Wv (by omega)⟩
   rw[sL hsm hx (by omega)];simp;omega
end
end Go.Proofs.YthmmmagklhiiiaaGreatDoor
