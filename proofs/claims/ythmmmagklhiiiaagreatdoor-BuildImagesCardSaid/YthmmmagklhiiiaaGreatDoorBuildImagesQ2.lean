/- lamella: what the law needs. No condition beyond the bounds that each states. -/
import Derived.Lib.AppendZeros
import Derived.RangeFuncWrites
import Derived.RangeFuncCalls
import Derived.RangeFuncLeaves
import Derived.RangeFuncBound
import Derived.OrdersIn
import Derived.Lib.Join
import Derived.Laws.StructEq
import Derived.Test.YthmmmagklhiiiaaGreatDoorBuildImagesQ1
namespace Go.Proofs.YthmmmagklhiiiaaGreatDoor
open Go Go.RowKit
set_option linter.unusedVariables false
set_option linter.unusedSectionVars false
set_option maxHeartbeats 64000000
open List renaming getElem?_eq_getElem → WK, length_append → WM, getElem?_eq_some_iff → WN, length_singleton → WP, mem_of_getElem? → WQ, length_take → WR, getD → WW, length_drop → WX, take_of_length_le → WY, length_nil → WZ, length_eq_zero_iff → W3, length_pos_iff → W5, eq_nil_of_length_eq_zero → W6, length_cons → W7, getElem?_of_mem → W8, append_assoc → W9, take_succ_eq_append_getElem → Xb, mem_singleton → Xg, nil_append → Xi, mem_append → Xj, take_length → Xl, take_append_drop → Xn, mem_cons → Xo, length → Xp, pairwise_iff_getElem → Xu, getElem?_map → Xv, getElem?_set_self → Xx, getElem?_eq_none → Xy, cons_append → XA, not_mem_nil → XD, getElem_mem → XE, getElem_of_mem → XF, findIdx?_eq_some_iff_getElem → XN, append_nil → XP, map_cons → XQ, ext_getElem? → XR, drop_of_length_le → XU, foldl_append → XY, mem_cons_of_mem → X3, findIdx?_eq_none_iff → X8, take_zero → Yr, dropLast_concat_getLast → Yy, cons → YA, forall_mem_cons → YF, map_append → YR, flatten_append → Y9
open _root_.Array renaming getElem?_eq_some_iff → WS
open _root_.Nat renaming le_refl → WT, zero_le → WU, le_trans → Xf, blt → Xs, zero_add → XJ, min_eq_left → XT, add_assoc → Yz, add_zero → YH, mod_eq_of_lt → Y0
open Classical renaming byContradiction → WV, not_not → Xk
open UInt8 renaming ofNat → W4, toNat_inj → XS
open Go.Op renaming bytesLess → Xd
open _root_.Bool renaming and_eq_true → Xh, or_eq_true → Yf, false_eq_true → Yw
open _root_.Int renaming toNat_natCast → Xm
open Decidable renaming not_not → X4
open Prod renaming ext → YU
theorem ChM.mono{D D':Nat→Prop}{H:Array Obj}{g:Nat}{b:By}{lo hi:Nat}(h:ChM D H g b lo hi)(hd:∀ k,D k→D' k):ChM D' H g b lo hi:=by
 obtain⟨m,A,C,h1,h2,h3,h4,h5,h6⟩:=h;exact⟨m,A,C,h1,hd _ h2,h3,h4,fun a k hk=>⟨hd _ (h5 a k hk).1,(h5 a k hk).2⟩,h6⟩
theorem ChM.low{D:Nat→Prop}{H:Array Obj}{g:Nat}{b:By}{lo hi:Nat}(h:ChM D H g b lo hi):ChM (fun k=>D k∧k<H.size) H g b lo hi:=by
 obtain⟨m,A,C,h1,h2,h3,h4,h5,h6⟩:=h;exact⟨m,A,C,h1,⟨h2,h1.obj⟩,h3,h4,fun a k hk=>⟨⟨(h5 a k hk).1,by obtain⟨x,hx,e⟩:=hk;rw[←e];exact(h4 a).lt x hx⟩,(h5 a k hk).2⟩,h6⟩
def pkR(b:By):By×Int:=if 4096<b.length then ([],3) else (pkS b,0)
theorem FJ{b:By}(h:b.length≤4096):pkR b=(pkS b,0):=by unfold pkR;rw[WI (by omega)]
theorem LL(b:By)(a:Nat):mtZ b (a:Int)=mt b a:=by unfold mtZ;rw[WI (by omega)];rfl
theorem G1{b:By}{a f:Nat}(hf:f≤a)(h:a<b.length):(b.take a).drop f++[b.getD a 0]=(b.take (a+1)).drop f:=by
 rw[Xb h,List.drop_append_of_le_length (by rw[WR];omega),WW,WK h];rfl
theorem IY{b:By}{a f:Nat}(h:a≤b.length):((b.take a).drop f).length=a-f:=by rw[WX,WR];omega
theorem FK{H:Array Obj}{ao:Option Addr}{cap:Nat}{b:By}(hv:Vw b8 H ao cap b){a f:Nat}(hf:f≤a)(ha:a≤b.length):Vw b8 H (bA ao cap f 1) (cap-f) ((b.take a).drop f):=by
 have h:=hv.cut (l:=f) (h:=a) (m:=cap) hf ha (by have:=hv.le;omega) (WT _);rwa[List.drop_take]
theorem qZ{x:Int}{n:Nat}(h:x=n):IntKind.u8.wrap x=((W4 n).toNat:Int):=by rw[vX (by omega),h];rfl
theorem LC(ao:Option Addr)(cap:Nat)(b:By)(W:World)(hv:Vw b8 W.heap ao cap b) :
 CA 131 [.slice ao b.length cap] W (sP W (pkR b)):=by
 have hle:=hv.le;refine cS 65 [(0,_)] Tryz.func131 ?_;refine fK 11 ?_ ?_<;>intro h12
 ·have e:pkR b=([],3):=by unfold pkR;rw[WJ (by omega)]
  refine Gz 12 ?_
  first
  |(rw[e];exact⟨_,rfl,none,0,rfl,V8,V6,VZ _ _⟩)
  |(rw[e,←hpk];exact⟨_,rfl,o3,c3,rfl,ho3,cH hfr1 hr3 hz1,hF1.WD hf3 hfr1.step⟩)
 have e:pkR b=(pkS b,0):=by unfold pkR;rw[WI (by omega)]
 refine Gz 7 ?_;refine TN (enc:=DL) rfl ?_;intro w0 hm0 hs0 hf0;refine Gz 20 ?_;refine S4 (β:=Nat×Nat×By×Option Addr×Nat) (fun⟨a,f,out,o1,c1⟩=>[(0,.slice ao b.length cap),(4,.map (some W.heap.size)),(5,.slice o1 out.length c1),(6,iV f),(7,iV a)]) (fun⟨a,f,out,o1,c1⟩ w=>f≤a∧a≤b.length∧pk b a ((b.take a).drop f) out=pkS b∧ChM (fun k=>W.heap.size≤k∧¬ blk o1 k) w.heap W.heap.size b 0 a∧Own b8 5 w.heap o1 c1 out∧Fr W.heap.size o1∧out.length≤3*f∧aA nob W w) (fun⟨a,f,out,o1,c1⟩=>b.length-a) ⟨0,0,[],none,0⟩ ⟨rfl,rfl,rfl,rfl,rfl,trivial⟩ ⟨WT _,WU _,rfl,ChM.new hm0 ⟨WT _,fun⟨x,hx,_⟩=>by cases hx⟩ b 0,V8,V6,WT _,hf0⟩ ?_;rintro⟨a,f,out,o1,c1⟩ w1 ⟨hf,ha,hpk,hc1,ho1,hfr1,hol,hF1⟩;have hv1:=hv.WG hF1;have hz1:=hF1.size;refine fK 6 ?_ ?_<;>intro h17
 ·have hltA:=wD hv (show 0<b.length by omega);refine Gz 11 ?_;refine SZ Pj rfl (Je _ W.heap.size ao cap b 0 a w1 hv1 hc1 (WU _) ha (by omega)) rfl ?_;rintro _ _ ⟨rfl,d1,rfl⟩;obtain⟨n,hn⟩:∃ n,n=(mt b a).1:=⟨_,rfl⟩
  obtain⟨bk,hbk⟩:∃ x,x=(mt b a).2:=⟨_,rfl⟩
  rw[←hn,←hbk];refine fK 11 ?_ ?_<;>intro h26
  ·have hn0:(mt b a).1=0:=by omega
   refine Gz 10 ?_;rw[show ((a:Int)+1)=((a+1:Nat):Int) by omega];refine SZ M0 rfl (FQ _ W.heap.size ao cap b 0 a (a+1) _ hv1 (fun k hk h=>by have:=hltA k hk;have:=h.1;omega) hc1 (fun k hk=>⟨Xf hz1 hk,fun⟨x,hx,e⟩=>by have:=ho1.lt x hx;have h:w1.heap.size≤k:=hk;omega⟩) (WU _) (by omega) (by omega) (by omega)) rfl ?_;rintro _ w2 ⟨hc2,hf2⟩;have hf2:=hf2.WE;refine Gz 12 ?_;have hF2:aA nob W w2:=hF1.WD hf2 (fun k h=>.inr h.1);exact aG ⟨a+1,f,out,o1,c1⟩ ⟨by omega,by omega,by rw[←hpk,EA (by omega) hn0,G1 hf (by omega)],hc2,ho1.WH hf2 (fun x hx h=>h.2 ⟨x,hx,rfl⟩),hfr1,hol,hF2⟩ (by show b.length-(a+1)<b.length-a;omega)
  have hn1:(mt b a).1≠0:=by omega
  obtain⟨m1,m2,m3,m4,m5,m6,m7,m8,m9⟩:=rG hn1;rw[←hn] at m2 m3 m4 m8 m9;rw[←hbk] at m5 m6 m7 m8 m9;have hpl:=IY (b:=b) (a:=a) (f:=f) ha;refine Gz 11 ?_;refine cL (S3 (u:=.slice (bA ao cap f 1) ((b.take a).drop f).length (cap-f)) (U9 aH rfl rfl rfl (by omega) (by omega)) (by rw[hpl];rfl)) ?_;refine SZ MZ rfl (FB o1 c1 out (bA ao cap f 1) (cap-f) ((b.take a).drop f) _ ho1 (FK hv1 hf ha) (fun _ k hk hk2=>by have:=hltA k (lC hk2);obtain⟨x,hx,e⟩:=hk;have:=hfr1 x hx;omega) (by rw[hpl];omega)) rfl ?_;rintro _ w3 ⟨o3,c3,rfl,ho3,hf3,hr3⟩;have hf3:=hf3.WE;have hz3:=hf3.size;have hrl:=Iu _ ((b.take a).drop f) out rfl;rw[hpl] at hrl;have hfr3:Fr W.heap.size o3:=cH hfr1 hr3 hz1;refine Gz 2 ?_;refine cL (Td (n:=((W4 (n+125)).toNat:Int)) is3 ty5 rfl (qZ (by omega))) ?_;refine Gz 2 ?_;refine cL (Td (n:=((W4 (bk-1)).toNat:Int)) is3 ty5 rfl (qZ (by omega))) ?_;refine UQ (enc:=b8) (u:=W4 (n+125)) (u':=W4 (bk-1)) aH aN rfl rfl rfl ?_;intro w4 ho4 hs4 hf4;have hz4:=hf4.size;refine S8 aN aH rfl rfl (ho3.WG hf4) ho4.vw (by simp only[W7,WZ];omega) (by simp only[W7,WZ];unfold maxLen;omega) rfl ?_;intro o5 c5 w5 ho5 hf5 hr5 hn5;have hz5:=hf5.size;have hfr5:Fr W.heap.size o5:=cH hfr3 hr5 (by omega);have hto3:∀ k,blk o3 k→blk o1 k∨w1.heap.size≤k:=fun k ⟨x,hx,hk⟩=>by rcases hr3 x hx with h|h;exact .inl ⟨x,h,hk⟩;exact .inr (by have h:w1.heap.size≤x.block:=h;omega)
  have hto5:∀ k,blk o5 k→blk o1 k∨w1.heap.size≤k:=fun k ⟨x,hx,hk⟩=>by rcases hr5 x hx with h|h;exact hto3 k ⟨x,h,hk⟩;exact .inr (by omega)
  have hF15:aA (blk o1) w1 w5:=(hf3.trans hf4.any).WD hf5 hto3;have hF5:aA nob W w5:=hF1.WD hF15 hfr1.step;have hc5:ChM (fun k=>W.heap.size≤k∧¬ blk o5 k) w5.heap W.heap.size b 0 a:=(hc1.low.WH hF15 (fun k hk=>hk.1.2)).mono (fun k hk=>⟨hk.1.1,fun h=>by rcases hto5 k h with h2|h2;exact hk.1.2 h2;have:=hk.2;omega⟩);refine Gz 11 ?_;rw[show ((a:Int)+n)=((a+n:Nat):Int) by omega];refine SZ M0 rfl (FQ _ W.heap.size ao cap b 0 a (a+n) w5 (hv.WG hF5) (fun k hk h=>by have:=hltA k hk;have:=h.1;omega) hc5 (fun k hk=>⟨Xf hF5.size hk,fun⟨x,hx,e⟩=>by have:=ho5.lt x hx;omega⟩) (WU _) (by omega) (by omega) (by omega)) rfl ?_;rintro _ w6 ⟨hc6,hf6⟩;refine Gz 15 ?_;have hF6:aA nob W w6:=hF5.WD hf6 (fun k h=>.inr h.1);refine aG ⟨a+n,a+n,rn out ((b.take a).drop f)++[W4 (n+125),W4 (bk-1)],o5,c5⟩ ⟨WT _,by omega,?_,hc6,ho5.WH hf6 (fun x hx h=>h.2 ⟨x,hx,rfl⟩),hfr5,by rw[WM,hrl];simp only[W7,WZ];omega,hF6⟩ (by show b.length-(a+n)<b.length-a;omega);rw[←hpk,BF hn1,←hn,←hbk,XU (by rw[WR];omega)]
 refine Gz 13 ?_;have haf:a=b.length:=by omega
 rw[haf,Xl,EB (Nat.lt_irrefl _)] at hpk;refine cL (S3 (u:=.slice (bA ao cap f 1) (b.drop f).length (cap-f)) (TK aH rfl rfl (by omega)) (by rw[WX];rfl)) ?_;have hvd:=FK hv1 (show f≤b.length by omega) (WT _);rw[Xl] at hvd;refine SZ MZ rfl (FB o1 c1 out (bA ao cap f 1) (cap-f) (b.drop f) _ ho1 hvd (fun h k hk hk2=>by have hltA:=wD hv (show 0<b.length by rw[WX] at h;omega);have:=hltA k (lC hk2);obtain⟨x,hx,e⟩:=hk;have:=hfr1 x hx;omega) (by rw[WX];omega)) rfl ?_;rintro _ w3 ⟨o3,c3,rfl,ho3,hf3,hr3⟩;refine Gz 6 ?_
 first
 |(rw[e];exact⟨_,rfl,none,0,rfl,V8,V6,VZ _ _⟩)
 |(rw[e,←hpk];exact⟨_,rfl,o3,c3,rfl,ho3,cH hfr1 hr3 hz1,hF1.WD hf3 hfr1.step⟩)
theorem Ir(ao:Option Addr)(cap:Nat)(b:By)(W:World)(hv:Vw b8 W.heap ao cap b) :
 CA 134 [.slice ao b.length cap] W (sP W (pkR b)):=by
 refine cS 54 [(0,_)] Tryz.func134 ?_;refine fK 11 ?_ ?_<;>intro h11
 ·have e:pkR b=([],3):=by unfold pkR;rw[WJ (by omega)]
  refine Gz 12 ?_
  (rw[e];exact⟨_,rfl,none,0,rfl,V8,V6,VZ _ _⟩)
 have e:pkR b=(pkS b,0):=by unfold pkR;rw[WI (by omega)]
 refine Gz 7 ?_;refine TF b8 aH rfl ?_;intro w0 ho0 hs0 hf0;refine Gz 5 ?_;refine TF b8 aH rfl ?_;intro wr hor hsr hfr;have hlr:w0.heap.size=W.heap.size+1:=hs0;refine Gz 10 ?_;refine S4 (β:=Nat×(By×Option Addr×Nat)×(By×Option Addr×Nat)) (fun⟨a,⟨run,ro,rc⟩,⟨out,o1,c1⟩⟩=>[(0,.slice ao b.length cap),(4,.slice o1 out.length c1),(5,.slice ro run.length rc),(6,iV a)]) (fun⟨a,⟨run,ro,rc⟩,⟨out,o1,c1⟩⟩ w=>a≤b.length∧pk b a run out=pkS b∧Own b8 5 w.heap ro rc run∧Own b8 5 w.heap o1 c1 out∧(∀ k,blk ro k→¬ blk o1 k)∧Fr W.heap.size ro∧Fr W.heap.size o1∧out.length+3*run.length≤3*a∧aA nob W w) (fun⟨a,⟨run,ro,rc⟩,⟨out,o1,c1⟩⟩=>b.length-a) ⟨0,⟨[],some ⟨w0.heap.size,0,none⟩,0⟩,⟨[],some ⟨W.heap.size,0,none⟩,0⟩⟩ ⟨rfl,rfl,rfl,rfl,trivial⟩ ⟨WU _,rfl,hor,ho0.WG hfr,fun k ⟨x,hx,hk⟩ ⟨y,hy,hk2⟩=>by cases hx;cases hy;have h1:w0.heap.size=k:=hk;have h2:W.heap.size=k:=hk2;omega,(fJ _).mono (by omega),fJ _,WT _,hf0.trans hfr⟩ ?_;rintro⟨a,⟨run,ro,rc⟩,⟨out,o1,c1⟩⟩ w1 ⟨ha,hpk,hor1,ho1,hap1,hfrr,hfr1,hol,hF1⟩;have hv1:=hv.WG hF1;have hz1:=hF1.size;refine fK 6 ?_ ?_<;>intro h17
 ·refine Gz 1 ?_;refine aW [(0,_),(4,_),(5,_),(6,_),(17,_)] ?_;refine Gz 9 ?_;refine SZ Pi rfl (GK ao cap b (a:Int) w1 hv1 (by omega)) rfl ?_;rintro _ _ ⟨rfl,d1,rfl⟩;obtain⟨n,hn⟩:∃ n,n=(mt b a).1:=⟨_,rfl⟩
  obtain⟨bk,hbk⟩:∃ x,x=(mt b a).2:=⟨_,rfl⟩
  rw[LL,←hn,←hbk];have hv1d:Vw b8 (w1.drewN d1).heap ao cap b:=hv1;have hrd:Own b8 5 (w1.drewN d1).heap ro rc run:=hor1;have hod:Own b8 5 (w1.drewN d1).heap o1 c1 out:=ho1;have hF1d:aA nob W (w1.drewN d1):=hF1.draws d1;obtain⟨w2,hw2⟩:∃ w,w=w1.drewN d1:=⟨_,rfl⟩
  rw[←hw2] at hv1d hrd hod hF1d ⊢;have hz2:=hF1d.size;refine fK 11 ?_ ?_<;>intro h25
  ·have hn0:(mt b a).1=0:=by omega
   refine Gz 8 ?_;refine cL (SY aH rfl rfl hv1d.non (by omega)) ?_;refine cL (S2 nM rfl (hv1d.gz 0 a rfl (by omega))) ?_;refine TB (enc:=b8) (u:=b.getD a 0) aH rfl rfl rfl ?_;intro w3 hol hsl hfl;refine S8 aN aH rfl rfl (hrd.WG hfl) hol.vw (by simp only[WP];omega) (by simp only[WP];unfold maxLen;omega) rfl ?_;intro r4 rc4 w4 hor4 hf4 hr4 hn4;have hzl:=hfl.size;have hap1d:=hap1;refine Gz 13 ?_;refine aG ⟨a+1,⟨run++[b.getD a 0],r4,rc4⟩,⟨out,o1,c1⟩⟩ ⟨by omega,by rw[←hpk,EA (by omega) hn0],hor4,(hod.WG hfl).WH hf4 (fun x hx h=>hap1 _ h ⟨x,hx,rfl⟩),fun k ⟨x,hx,hk⟩ hk2=>?_,cH hfrr hr4 (by omega),hfr1,by rw[WM,WP];omega,(hF1d.trans hfl).WD hf4 hfrr.step⟩ (by show b.length-(a+1)<b.length-a;omega);rcases hr4 x hx with h|h
   ·exact hap1 k ⟨x,h,hk⟩ hk2
   ·obtain⟨y,hy,hk3⟩:=hk2;have:=hod.lt y hy;omega
  have hn1:(mt b a).1≠0:=by omega
  obtain⟨m1,m2,m3,m4,m5,m6,m7,m8,m9⟩:=rG hn1;rw[←hn] at m2 m3 m4 m8 m9;rw[←hbk] at m5 m6 m7 m8 m9;refine Gz 9 ?_;refine SZ MY rfl (CQ o1 c1 out ro rc run w2 hod hrd.vw (fun _ k hk hk2=>hap1 k hk2 hk) (by omega)) rfl ?_;rintro _ w3 ⟨o3,c3,rfl,ho3,hf3,hr3⟩;have hz3:=hf3.size;have hrl:=Iu _ run out rfl;have hfr3:Fr W.heap.size o3:=cH hfr1 hr3 hz2;have hF3:aA nob W w3:=hF1d.WD hf3 hfr1.step;refine Gz 5 ?_;refine TF b8 aH rfl ?_;intro w4 hor4 hs4 hf4;have hz4:=hf4.size;refine Gz 8 ?_;refine cL (Td (n:=((W4 (n+125)).toNat:Int)) is3 ty5 rfl (qZ (by omega))) ?_;refine Gz 2 ?_;refine cL (Td (n:=((W4 (bk-1)).toNat:Int)) is3 ty5 rfl (qZ (by omega))) ?_;refine UQ (enc:=b8) (u:=W4 (n+125)) (u':=W4 (bk-1)) aH aN rfl rfl rfl ?_;intro w5 ho5 hs5 hf5;have hz5:=hf5.size;refine S8 aN aH rfl rfl ((ho3.WG hf4).WG hf5) ho5.vw (by simp only[W7,WZ];omega) (by simp only[W7,WZ];unfold maxLen;omega) rfl ?_;intro o6 c6 w6 ho6 hf6 hr6 hn6;have hfr6:Fr W.heap.size o6:=cH hfr3 hr6 (by omega);have hF6:aA nob W w6:=((hF3.trans hf4).trans hf5).WD hf6 hfr3.step;have hb6:∀ k,blk (some (⟨w3.heap.size,0,none⟩:Addr)) k→¬ blk o6 k:=fun k ⟨x,hx,hk⟩ ⟨y,hy,hk2⟩=>by cases hx;have h1:w3.heap.size=k:=hk;rcases hr6 y hy with h|h;have:=ho3.lt y h;omega;omega
  have hor6:=(hor4.WG hf5).WH hf6 (fun x hx h=>by cases hx;obtain⟨y,hy,hk2⟩:=h;have:=ho3.lt y hy;have h1:y.block=w3.heap.size:=hk2;omega);refine Gz 10 ?_;exact aG ⟨a+n,⟨[],some ⟨w3.heap.size,0,none⟩,0⟩,⟨rn out run++[W4 (n+125),W4 (bk-1)],o6,c6⟩⟩ ⟨by omega,by rw[←hpk,BF hn1,←hn,←hbk],hor6,ho6,hb6,(fJ _).mono (by omega),hfr6,by rw[WM,hrl];simp only[W7,WZ];omega,hF6⟩ (by show b.length-(a+n)<b.length-a;omega)
 refine Gz 1 ?_;refine aW [(0,_),(4,_),(5,_),(6,_),(17,_)] ?_;refine Gz 11 ?_;have haf:a=b.length:=by omega
 rw[haf,EB (Nat.lt_irrefl _)] at hpk;refine SZ MY rfl (CQ o1 c1 out ro rc run w1 ho1 hor1.vw (fun _ k hk hk2=>hap1 k hk2 hk) (by omega)) rfl ?_;rintro _ w3 ⟨o3,c3,rfl,ho3,hf3,hr3⟩;refine Gz 6 ?_
 (rw[e,←hpk];exact⟨_,rfl,o3,c3,rfl,ho3,cH hfr1 hr3 hz1,hF1.WD hf3 hfr1.step⟩)
def hdV(n:Nat):List Value:=[.int .u8 ((n%256:Nat):Int),.int .u8 ((n/256%256:Nat):Int),.int .u8 ((255 ^^^ ((n%256) ^^^ (n/256%256)):Nat):Int)]
theorem Ga(n:Nat):∀ v∈hdV n,v.oneCell'=true:=by simp[hdV,Value.oneCell']
theorem Jw(n:Nat):hdV n=(hdB n).map b8:=by
 have h:=fun x (hx:x∈hdN n)=>NV hx;simp only[hdN,Xo,XD,or_false,forall_eq_or_imp,forall_eq] at h;obtain⟨h1,h2,h3⟩:=h;simp only[hdV,hdB,hdN,XQ,List.map_nil,b8,UInt8.toNat_ofNat'];rw[Y0 h1,Y0 h2,Y0 h3]
theorem KE:E8 Tryz.prog 201 5 3 1:=⟨by kernel_rfl,by kernel_rfl⟩
theorem Jv(n:Nat):((n:Nat):Int)/2 ^ (8:Int).toNat=((n/256:Nat):Int):=rfl
theorem L3(n:Nat)(W:World)(hn:n<65536):CA 130 [iV n] W fun v w'=>v=.agg (hdV n).toArray∧aA nob W w':=by
 refine cS 18 [(0,_)] Tryz.func130 ?_;refine Gz 2 ?_;refine S5 E9 rfl ?_;intro w1 hg1 hs1 hf1;have hg1:w1.heap[W.heap.size]?=some (.cells [.int .u8 0,.int .u8 0,.int .u8 0].toArray 201 (0,0)):=hg1;refine Gz 5 ?_;refine cL (Td (n:=((n%256:Nat):Int)) is3 ty5 rfl (vY n)) ?_;refine Gz 1 ?_;refine cL (S3 (u:=iV ((n/256:Nat):Int)) (Ur rfl rfl (by omega)) (by rw[Jv])) ?_;refine cL (Td (n:=((n/256%256:Nat):Int)) is3 ty5 rfl (vY _)) ?_;refine cL (U2 (cs:=[.int .u8 ((n%256:Nat):Int),.int .u8 ((n/256%256:Nat):Int),.int .u8 0].toArray) KE E9 rfl (by kernel_rfl)) ?_;refine S5 E9 rfl ?_;intro w2 hg2 hs2 hf2;have hg12:=hf2.obj hg1 id;obtain⟨q,hq⟩:∃ q,q=w1.heap.size:=⟨_,rfl⟩
 rw[←hq] at hg2 ⊢;refine sA rfl yW (by simp[Value.oneCell']) hg2 ?_;intro w3 hg3 hs3 hf3;have hg13:=hf3.obj hg12 (by omega);refine Gz 4 ?_;refine cL (S3 (u:=pT q) (TZ KE rfl rfl (by omega)) (by rw[Addr.add_lit];rfl)) ?_;refine cL (S2 nM rfl (aT hg3 rfl)) ?_;refine cL (S3 (u:=.pointer (some ⟨q,1,none⟩)) (TZ KE rfl rfl (by omega)) (by rw[Addr.add_lit];rfl)) ?_;refine cL (S2 nM rfl (aT hg3 rfl)) ?_;refine cL (US rfl rfl (by omega) (by omega)) ?_;refine cL (VR rfl (oD (by omega) (by omega))) ?_;refine cL (S3 (u:=.pointer (some ⟨q,2,none⟩)) (TZ KE rfl rfl (by omega)) (by rw[Addr.add_lit];rfl)) ?_;refine S6 nM rfl rfl rfl hg3 rfl ?_;intro w4 hg4 hs4 hf4;have hg4:w4.heap[q]?=some (.cells (hdV n).toArray 201 (0,0)):=hg4;have hg14:=hf4.obj hg13 (by omega);refine Gz 4 ?_;refine cL (Tf (cs:=hdV n) yW rfl (fun j v hj=>aD hg4 hj)) ?_;refine sA rfl yW (by exact Ga n) hg14 ?_;intro w5 hg5 hs5 hf5;refine Gz 3 ?_;refine UC (cs:=hdV n) rfl yW rfl (fun j v hj=>aD hg5 hj) ?_;exact⟨_,rfl,rfl,((((hf1.trans hf2).tw hf3).tw hf4)).tw hf5⟩
theorem OQ{H:Array Obj}{q n:Nat}{T:TypeId}(h:H[q]?=some (.cells (hdV n).toArray T (0,0))):Vw b8 H (some ⟨q,0,none⟩) 3 (hdB n):=by
 refine⟨WT _,by unfold maxLen;decide,fun _=>by simp,fun i x hx=>?_⟩;have e1:adr (some (⟨q,0,none⟩:Addr)) i=⟨q,i,none⟩:=by
  show (⟨q,0,none⟩:Addr).add _=_;rw[Addr.add_lit,XJ]
 rw[e1];refine aT h ?_;rw[Jw,Xv,hx];rfl
theorem I5{x:Nat}(h:x<4294967296):¬ eX x 4:=by
 unfold eX;have h2:((x:Int)/2 ^ (8*(4:Int)).toNat)=0:=by
  show (x:Int)/4294967296=0;omega
 omega
theorem Ay{E:Int}(xs:By){x:Nat}(h:x<4294967296)(hE:E=0):dU E x 4=0∧kU E xs x 4=xs++le x 4:=by
 have h1:dU E x 4=0:=by rw[bC (I5 h),hE]
 exact⟨h1,iQ h1⟩
theorem wY(xs ys:By):uS 0 xs ys=xs++ys:=by unfold uS;rw[WJ rfl]
theorem Gq(xs:By):dJ 0 xs=xs:=by unfold dJ;rw[WI (by decide)]
theorem pN(D:Nat→Prop)(pw tb p:Nat)(xo:Option Addr)(xc:Nat)(x:By)(mark:Nat)(W:World)(hP:WrL D W.heap pw 0 [])(hD:∀ k,W.heap.size≤k→D k)(hb:W.heap[tb]?=some (.cells [pT p].toArray 47 (0,0)))(ht:TbV W.heap p)
 (hv:Vw b8 W.heap xo xc x)(hDb:¬ D tb)(hDp:¬ D p)(hDx:∀ k,blk xo k→¬ D k)(hx:x.length≤128)(hm:mark≤32768) :
 CA 129 [.slice xo x.length xc,iV mark,pT pw,pT tb] W fun v w'=>∃ ao c,v=.tuple #[.slice ao (frS x mark).length c,iV 0]∧Own b8 5 w'.heap ao c (frS x mark)∧Fr W.heap.size ao∧aA D W w':=by
 have hs:=mG x;refine cS 29 [(0,_),(1,_),(2,_),(3,_)] Tryz.func129 ?_;refine Gz 12 ?_;rw[show ((x.length:Int)+mark)=((x.length+mark:Nat):Int) by omega];refine SZ PP rfl (L3 (x.length+mark) W (by omega)) rfl ?_;rintro _ w1 ⟨rfl,hf1⟩;refine S5 E9 rfl ?_;intro w2 hg2 hs2 hf2;refine sA rfl yW (by exact Ga _) hg2 ?_;intro w3 hg3 hs3 hf3;have hF3:aA nob W w3:=(hf1.trans hf2).WD hf3 (fun k hk=>.inr (by have h:k=w1.heap.size:=hk;have:=hf1.size;omega));have hz3:=hF3.size;have hz1:=hf1.size;have hP3:=hP.shrink hF3;have hvh:=OQ hg3;obtain⟨D3,hD3⟩:∃ D3:Nat→Prop,D3=fun k=>D k∧(k<W.heap.size∨w3.heap.size≤k):=⟨_,rfl⟩
 have hD3a:∀ k,w3.heap.size≤k→D3 k:=fun k hk=>by rw[hD3];exact⟨hD k (by omega),.inr hk⟩
 have hD3b:∀ k,D3 k→D k:=fun k hk=>by rw[hD3] at hk;exact hk.1
 have hD3c:¬ D3 w1.heap.size:=fun h=>by rw[hD3] at h;have:=h.2;omega
 rw[←hD3] at hP3;refine Gz 4 ?_;refine cL (U1 KE rfl) ?_;refine SZ JI rfl (oF D3 pw 0 [] (some ⟨w1.heap.size,0,none⟩) 3 (hdB (x.length+mark)) w3 hP3 hD3a hvh (by simp) (by simp[iU])) rfl ?_;rintro _ w4 ⟨hP4,hf4⟩;rw[wY,Xi] at hP4;have hF4:aA D W w4:=hF3.any.trans (hf4.mono hD3b);have hv4:=hv.WH hF4 (fun a ha h=>hDx _ ⟨a,ha,rfl⟩ h);have ht4:TbV w4.heap p:=hF4.obj ht hDp;have hb4:=hF4.obj hb hDb;have hz4:=hf4.size;refine Gz 2 ?_;refine Tw (β:=Unit) (fun _u=>[(2,pT pw)]) (fun _u w=>WrL D3 w.heap pw 0 (frS x mark)∧aA D W w) ?_ ?_
 ·refine fK 4 ?_ ?_<;>intro h18
  ·refine Gz 5 ?_;refine cL (S2 MJ rfl (aT hb4 rfl)) ?_;refine cA 1 N1 (Ee p xo xc x w4 ht4 hv4) ?_;rintro _ wq ⟨rfl,hwq⟩;subst wq;refine cL (Td (n:=((gD x:Nat):Int)) Hi ty3 rfl (cN (by omega))) ?_;refine SZ yC rfl (pQ D3 pw 0 (hdB (x.length+mark)) (gD x:Nat) 4 w4 hP4 (fun k hk=>hD3a k (by omega)) (by rw[iU];decide)) rfl ?_;rintro _ w5 ⟨hP5,hf5⟩;obtain⟨s1,s2⟩:=Ay (E:=0) (hdB (x.length+mark)) hs rfl;rw[s1,s2] at hP5;have hz5:=hf5.size;have hF5:aA D W w5:=hF4.trans (hf5.mono hD3b);have hv5:=hv.WH hF5 (fun a ha h=>hDx _ ⟨a,ha,rfl⟩ h);refine Gz 4 ?_;refine SZ JI rfl (oF D3 pw 0 _ xo xc x w5 hP5 (fun k hk=>hD3a k (by omega)) hv5 (by simp only[WM,iU,bB];omega) (by omega)) rfl ?_;rintro _ w6 ⟨hP6,hf6⟩;rw[wY] at hP6;have hF6:aA D W w6:=hF5.trans (hf6.mono hD3b);refine Gz 1 ?_;exact aC () ⟨by unfold frS;rw[WI (by omega),←W9];exact hP6,hF6⟩
  refine Gz 4 ?_;exact aC () ⟨by unfold frS;rw[WJ (by omega),XP];exact hP4,hF4⟩
 rintro _ w7 ⟨hP7,hF7⟩;refine Gz 2 ?_;refine SZ BY rfl (gW D3 pw 0 (frS x mark) w7 hP7 (by rw[vN];unfold Hh;split<;>omega)) rfl ?_;rintro _ w8 ⟨ao8,c8,rfl,ho8,hfr8,hf8⟩;rw[Gq] at ho8 ⊢;refine Gz 1 ?_;refine SZ Dv rfl (qB D3 pw 0 _ w8 (hP7.WG hf8)) rfl ?_;rintro _ wq ⟨rfl,hwq⟩;subst wq;refine Gz 6 ?_;exact⟨_,rfl,ao8,c8,rfl,ho8,hfr8.mono hF7.size,hF7.trans hf8.any⟩
theorem vP(p:Nat)(ao:Option Addr)(c:Nat)(b:By)(W:World)(ht:TbV W.heap p)(hv:Vw b8 W.heap ao c b) :
 CA 78 [pT p,.slice ao b.length c] W (sP W (bV b)):=by
 refine cS 45 [(0,_),(1,_)] Tryz.func78 ?_;refine Gz 2 ?_;refine To rfl rfl ?_;intro w1 hg1 hs1 hf1;have hg1:w1.heap[W.heap.size]?=some (.cells [pT p].toArray 47 (0,0)):=hg1;refine fK 9 ?_ ?_<;>intro h12
 ·have e:bV b=([],3):=by unfold bV;rw[WJ (by omega)]
  refine Gz 12 ?_
  first
  |(rw[e];exact⟨_,rfl,none,0,rfl,V8,V6,hf1⟩)
  |(rw[e];exact⟨_,rfl,ao9,c9,rfl,ho9,hfr9.mono hF2.size,hF2.WD hf9 (fun k hk=>.inr (by omega))⟩)
  |(rw[e];exact⟨_,rfl,ao9,c9,rfl,ho9,hfr9.mono hF3.size,hF3.WD hf9 (fun k hk=>.inr (by have:=hk.1;omega))⟩)
 refine Gz 7 ?_;refine S5 zV rfl ?_;intro w2 hg2 hs2 hf2;have hF2:=hf1.trans hf2;have hP2:WrL (fun k=>k=w1.heap.size∨w2.heap.size≤k) w2.heap w1.heap.size 0 []:=We hg2 (.inl rfl);have hb2:=hf2.obj hg1 id;have ht2:TbV w2.heap p:=hF2.obj ht id;have hplt:=(WS.1 ht).1;refine Gz 4 ?_;refine cL (Ua rfl) ?_;refine fK 8 ?_ ?_<;>intro h16
 ·have e:bV b=(frS [] 0,0):=by unfold bV;rw[WI (by omega),WJ (by omega)]
  refine Gz 6 ?_;refine TS JS rfl rfl (pN (fun k=>k=w1.heap.size∨w2.heap.size≤k) w1.heap.size W.heap.size p none 0 [] 0 w2 hP2 (fun k hk=>.inr hk) hb2 ht2 (V7 0 (WU _)) (by omega) (by omega) (fun k ⟨a,ha,_⟩=>by cases ha) (by simp) (by decide)) rfl ?_;intro v9 w9 hR9;obtain⟨ao9,c9,rfl,ho9,hfr9,hf9⟩:=hR9;refine Gz 9 ?_
  first
  |(rw[e];exact⟨_,rfl,none,0,rfl,V8,V6,hf1⟩)
  |(rw[e];exact⟨_,rfl,ao9,c9,rfl,ho9,hfr9.mono hF2.size,hF2.WD hf9 (fun k hk=>.inr (by omega))⟩)
  |(rw[e];exact⟨_,rfl,ao9,c9,rfl,ho9,hfr9.mono hF3.size,hF3.WD hf9 (fun k hk=>.inr (by have:=hk.1;omega))⟩)
 have hltA:=wD hv (show 0<b.length by omega);refine cA 9 PO (LC ao c b w2 (hv.WG hF2)) ?_;rw[FJ (by omega)];intro _ w3 hP;have hP:QJ _ (pkS b) 0 _ w3:=hP;obtain⟨o3,c3,rfl,ho3,hfr3,hf3⟩:=hP;have hP3:=hP2.shrink hf3;have hb3:=hf3.obj hb2 id;have ht3:TbV w3.heap p:=hf3.obj ht2 id;have hF3:=hF2.trans hf3;have hz3:=hf3.size;refine Gz 10 ?_;refine cL (TY (TU rfl rfl) rfl) ?_;refine fW 5 ?_ ?_<;>intro h33
 ·have e:bV b=(frS (pkS b) 0,0):=by unfold bV;rw[WI (by omega),WI (by omega),WJ (by omega)]
  refine Gz 8 ?_;refine TS JS rfl rfl (pN _ w1.heap.size W.heap.size p o3 c3 (pkS b) 0 w3 hP3 (fun k hk=>⟨.inr (by omega),.inr hk⟩) hb3 ht3 ho3.vw (by omega) (by omega) (fun k ⟨a,ha,hk⟩ h=>by have:=hfr3 a ha;have:=ho3.lt a ha;omega) (by omega) (by decide)) rfl ?_;intro v9 w9 hR9;obtain⟨ao9,c9,rfl,ho9,hfr9,hf9⟩:=hR9;refine Gz 9 ?_
  first
  |(rw[e];exact⟨_,rfl,none,0,rfl,V8,V6,hf1⟩)
  |(rw[e];exact⟨_,rfl,ao9,c9,rfl,ho9,hfr9.mono hF2.size,hF2.WD hf9 (fun k hk=>.inr (by omega))⟩)
  |(rw[e];exact⟨_,rfl,ao9,c9,rfl,ho9,hfr9.mono hF3.size,hF3.WD hf9 (fun k hk=>.inr (by have:=hk.1;omega))⟩)
 have e:bV b=(frS b 32768,0):=by unfold bV;rw[WI (by omega),WI (by omega),WI (by omega)]
 refine Gz 10 ?_;refine TS JS rfl rfl (pN _ w1.heap.size W.heap.size p ao c b 32768 w3 hP3 (fun k hk=>⟨.inr (by omega),.inr hk⟩) hb3 ht3 (hv.WG hF3) (by omega) (by omega) (fun k hk h=>by have:=hltA k hk;omega) (by omega) (by decide)) rfl ?_;intro v9 w9 hR9;obtain⟨ao9,c9,rfl,ho9,hfr9,hf9⟩:=hR9;refine Gz 8 ?_
 first
 |(rw[e];exact⟨_,rfl,none,0,rfl,V8,V6,hf1⟩)
 |(rw[e];exact⟨_,rfl,ao9,c9,rfl,ho9,hfr9.mono hF2.size,hF2.WD hf9 (fun k hk=>.inr (by omega))⟩)
 |(rw[e];exact⟨_,rfl,ao9,c9,rfl,ho9,hfr9.mono hF3.size,hF3.WD hf9 (fun k hk=>.inr (by have:=hk.1;omega))⟩)
theorem QD:∀ x,x<256→255-x=255 ^^^ x:=by decide +kernel
theorem RG{x:Nat}(h:x<256):IntKind.u8.wrap (255-(x:Int))=((255 ^^^ x:Nat):Int):=by
 rw[←QD x h,show (255:Int)-(x:Int)=((255-x:Nat):Int) by omega,HS (by omega)]
theorem wT(n:Nat)(W:World)(hn:n<65536):CA 133 [iV n] W fun v w'=>∃ o c,v=.slice o (hdB n).length c∧Own b8 5 w'.heap o c (hdB n)∧Fr W.heap.size o∧aA nob W w':=by
 refine cS 17 [(0,_)] Tryz.func133 ?_;refine Gz 8 ?_;refine cL (Td (n:=((n%256:Nat):Int)) is3 ty5 rfl (vY n)) ?_;refine Gz 6 ?_;refine cL (S3 (u:=iV ((n/256:Nat):Int)) (Ur rfl rfl (by omega)) (by rw[Jv])) ?_;refine cL (Td (n:=((n/256%256:Nat):Int)) is3 ty5 rfl (vY _)) ?_;refine Gz 9 ?_;refine cL (US rfl rfl (by omega) (by omega)) ?_;refine cL (S3 (u:=.int .u8 ((255 ^^^ ((n%256) ^^^ (n/256%256)):Nat):Int)) (Vd rfl rfl) (by rw[RG (oD (by omega) (by omega))])) ?_;refine Tu aH (cs:=(hdV n).toArray) zc5 rfl rfl rfl (by kernel_rfl) rfl ?_;intro w1 hg1 hs1 hf1;rw[Jw] at hg1;refine Gz 5 ?_;exact⟨_,rfl,_,3,rfl,iB (xs:=hdB n) hg1 (by rw[iU];unfold maxLen;decide),fJ _,hf1⟩
theorem lP(ao:Option Addr)(c:Nat)(b:By)(W:World)(hv:Vw b8 W.heap ao c b) :
 CA 85 [.slice ao b.length c] W (sP W (bV b)):=by
 refine cS 42 [(0,_)] Tryz.func85 ?_;refine fK 11 ?_ ?_<;>intro h9
 ·have e:bV b=([],3):=by unfold bV;rw[WJ (by omega)]
  refine Gz 12 ?_;rw[e];exact⟨_,rfl,none,0,rfl,V8,V6,VZ _ _⟩
 refine Gz 7 ?_;refine cL (TC pM kW rfl rfl) ?_;refine S5 kW rfl ?_;intro w1 hg1 hs1 hf1;refine sA rfl qF (by simp[Value.oneCell']) hg1 ?_;intro w2 hg2 hs2 hf2;have hF2:aA nob W w2:=hf1.tw hf2;have hP2:WrR (fun k=>W.heap.size≤k) w2.heap W.heap.size 0 []:=Wf hg2 (WT _);have hz2:=hF2.size;refine fK 7 ?_ ?_<;>intro h13
 ·have e:bV b=(frS [] 0,0):=by unfold bV;rw[WI (by omega),WJ (by omega)]
  refine Gz 5 ?_;refine SZ JR rfl (wT 0 w2 (by decide)) rfl ?_;rintro _ w3 ⟨o3,c3,rfl,ho3,hfr3,hf3⟩;refine Gz 7 ?_;rw[e];exact⟨_,rfl,o3,c3,rfl,ho3,hfr3.mono hz2,hF2.trans hf3⟩
 have hb0:0<b.length:=by omega
 have hltA:=wD hv hb0;refine cA 8 PM (Ir ao c b w2 (hv.WG hF2)) ?_;rw[FJ (by omega)];intro _ w3 hP;have hP:QJ _ (pkS b) 0 _ w3:=hP;obtain⟨o3,c3,rfl,ho3,hfr3,hf3⟩:=hP;have hP3:=hP2.shrink hf3;have hF3:=hF2.trans hf3;have hz3:=hf3.size;have hp0:=NC hb0;obtain⟨D3,hD3⟩:∃ D3:Nat→Prop,D3=fun k=>W.heap.size≤k∧(k<w2.heap.size∨w3.heap.size≤k):=⟨_,rfl⟩
 rw[←hD3] at hP3;have hD3a:∀ k,w3.heap.size≤k→D3 k:=fun k hk=>by rw[hD3];exact⟨by omega,.inr hk⟩
 have hD3b:∀ k,D3 k→W.heap.size≤k:=fun k hk=>by rw[hD3] at hk;exact hk.1
 have hD3c:∀ k,blk o3 k→¬ D3 k:=fun k ⟨a,ha,hk⟩ h=>by rw[hD3] at h;have h2:=h.2;have h3:=hfr3 a ha;have h4:=ho3.lt a ha;omega
 refine Gz 7 ?_;refine Tw (β:=Nat×By×Option Addr×Nat) (fun⟨n,x,xo,xc⟩=>[(4,pT W.heap.size),(5,.slice xo x.length xc)]) (fun⟨n,x,xo,xc⟩ w=>bV b=(hdB n++le (gD x:Nat) 4++x,0)∧WrR D3 w.heap W.heap.size 0 (hdB n)∧Vw b8 w.heap xo xc x∧(∀ k,blk xo k→¬ D3 k)∧x.length≤128∧w3.heap.size≤w.heap.size∧aA nob W w) ?_ ?_
 ·refine fK 6 ?_ ?_<;>intro h24
  ·have e:bV b=(hdB (pkS b).length++le (gD (pkS b):Nat) 4++pkS b,0):=by
    have h0:¬ (pkS b).length=0:=by omega
    unfold bV frS;rw[WI (by omega),WI (by omega),WJ (by omega),WI h0,YH,W9]
   refine Gz 6 ?_;refine SZ JR rfl (wT (pkS b).length w3 (by omega)) rfl ?_;rintro _ w4 ⟨o4,c4,rfl,ho4,hfr4,hf4⟩;refine SZ JH rfl (lQ D3 W.heap.size 0 [] o4 c4 (hdB (pkS b).length) w4 (hP3.WG hf4) (fun k hk=>hD3a k (Xf hf4.size hk)) ho4.vw (by simp) (by simp[iU])) rfl ?_;rintro _ w5 ⟨hP5,hf5⟩;rw[wY,Xi] at hP5;refine Gz 1 ?_;exact aC ⟨(pkS b).length,pkS b,o3,c3⟩ ⟨e,hP5,(ho3.vw.WG hf4).WH hf5 (fun a ha h=>hD3c _ ⟨a,ha,rfl⟩ h),hD3c,by omega,Xf hf4.size hf5.size,(hF3.trans hf4).WD hf5 (fun k h=>.inr (hD3b k h))⟩
  have e:bV b=(hdB (b.length+32768)++le (gD b:Nat) 4++b,0):=by
   have h0:¬ b.length=0:=by omega
   unfold bV frS;rw[WI (by omega),WI (by omega),WI (by omega),WI h0,W9]
  refine Gz 13 ?_;rw[show (32768+(b.length:Int))=((b.length+32768:Nat):Int) by omega];refine SZ JR rfl (wT (b.length+32768) w3 (by omega)) rfl ?_;rintro _ w4 ⟨o4,c4,rfl,ho4,hfr4,hf4⟩;refine SZ JH rfl (lQ D3 W.heap.size 0 [] o4 c4 (hdB (b.length+32768)) w4 (hP3.WG hf4) (fun k hk=>hD3a k (Xf hf4.size hk)) ho4.vw (by simp) (by simp[iU])) rfl ?_;rintro _ w5 ⟨hP5,hf5⟩;rw[wY,Xi] at hP5;refine Gz 1 ?_;exact aC ⟨b.length+32768,b,ao,c⟩ ⟨e,hP5,hv.WG ((hF3.trans hf4).WD hf5 (fun k h=>.inr (hD3b k h))),fun k hk h=>by have:=hltA k hk;have:=hD3b k h;omega,by omega,Xf hf4.size hf5.size,(hF3.trans hf4).WD hf5 (fun k h=>.inr (hD3b k h))⟩
 rintro⟨n,x,xo,xc⟩ w6 ⟨e,hP6,hvx,hxD,hxl,hz6,hF6⟩;refine Gz 3 ?_;have hs:=mG x;refine cA 0 OS (FD xo xc x w6 hvx) ?_;rintro _ wq ⟨rfl,hwq⟩;subst wq;refine cL (Td (n:=((gD x:Nat):Int)) Hi ty3 rfl (cN (by omega))) ?_;refine SZ fV rfl (dB D3 W.heap.size 0 (hdB n) (gD x:Nat) 4 w6 hP6 (fun k hk=>hD3a k (Xf hz6 hk)) (by rw[iU];decide)) rfl ?_;rintro _ w7 ⟨hP7,hf7⟩;obtain⟨s1,s2⟩:=Ay (E:=0) (hdB n) hs rfl;rw[s1,s2] at hP7;have hz7:=hf7.size;have hvx7:=hvx.WH hf7 (fun a ha h=>hxD _ ⟨a,ha,rfl⟩ h);refine Gz 5 ?_;refine SZ JH rfl (lQ D3 W.heap.size 0 _ xo xc x w7 hP7 (fun k hk=>hD3a k (by omega)) hvx7 (by simp only[WM,iU,bB];omega) (by omega)) rfl ?_;rintro _ w8 ⟨hP8,hf8⟩;rw[wY] at hP8;refine Gz 4 ?_;refine SZ BX rfl (hO D3 W.heap.size 0 _ w8 hP8 (by simp only[WM,iU,bB];omega)) rfl ?_;rintro _ w9 ⟨o9,c9,rfl,ho9,hfr9,hf9⟩;rw[Gq] at ho9 ⊢;refine Gz 6 ?_;rw[e];have hF8:aA nob W w8:=(hF6.WD hf7 (fun k h=>.inr (hD3b k h))).WD hf8 (fun k h=>.inr (hD3b k h));exact⟨_,rfl,o9,c9,rfl,ho9,hfr9.mono hF8.size,hF8.trans hf9⟩
def aP(f t:By):By×By:=if 128≤t.length then aP (f++(bV (t.take 128)).1) (t.drop 128) else (f,t)
termination_by t.length
decreasing_by rw[WX];omega
def jD(f t:By):By:=if t.length=0 then f else f++(bV t).1
theorem cJ{f t:By}(h:t.length<128):aP f t=(f,t):=by unfold aP;rw[WI (by omega)]
theorem kQ{f t:By}(h:128≤t.length):aP f t=aP (f++(bV (t.take 128)).1) (t.drop 128):=by rw[aP,WJ h]
theorem fH(f t:By):(aP f t).2.length<128:=by
 by_cases h:128≤t.length
 ·rw[kQ h];exact fH _ _
 ·rw[cJ (by omega)];show t.length<128;omega
termination_by t.length
decreasing_by rw[WX];omega
theorem nZ(f t b:By):aP f (t++b)=aP (aP f t).1 ((aP f t).2++b):=by
 by_cases h:128≤t.length
 · rw[kQ h,kQ (t:=t++b) (by rw[WM];omega),List.take_append_of_le_length h,List.drop_append_of_le_length h]
   exact nZ _ _ _
 ·rw[cJ (t:=t) (by omega)]
termination_by t.length
decreasing_by rw[WX];omega
theorem nJ{t:By}(h:128≤t.length):(t.take 128).length=128:=by rw[WR];omega
theorem sG(f t:By):(aP f t).1.length+2*(aP f t).2.length≤f.length+2*t.length:=by
 by_cases h:128≤t.length
 · have h1:=sG (f++(bV (t.take 128)).1) (t.drop 128)
   have h2:=dR (b:=t.take 128) (by rw[nJ h];omega);rw[nJ h] at h2;rw[WM,WX] at h1;rw[kQ h];omega
 ·rw[cJ (by omega)];exact WT _
termination_by t.length
decreasing_by rw[WX];omega
theorem Hy{f t:By}(h:t.length=128):aP f t=(f++(bV t).1,[]):=by
 rw[kQ (by omega),WY (by omega),XU (by omega),cJ (by simp)]
def chW(T:By)(q:Nat):By:=(T.drop (128*q)).take 128
def frW(T:By):Nat→By
|0=>[]
|q+1=>frW T q++(bV (chW T q)).1
def nF(T:By):Nat:=(T.length+127)/128
def bJ(T:By)(o:Nat):Nat:=256*(frW T (o/128)).length+o%128
theorem Mu(T:By)(q:Nat):(chW T q).length=min 128 (T.length-128*q):=by unfold chW;rw[WR,WX]
theorem E2(T:By)(q:Nat):(chW T q).length≤128:=by rw[Mu];omega
theorem Gg(T:By)(q:Nat):∀ k,∃ z,frW T (q+k)=frW T q++z
|0=>⟨[],by simp⟩
|k+1=>by
   obtain⟨z,hz⟩:=Gg T q k;exact⟨z++(bV (chW T (q+k))).1,by rw[←Yz];show frW T (q+k)++_=_;rw[hz,W9]⟩
theorem JG{T:By}{q n:Nat}(h:q≤n):(frW T q).length≤(frW T n).length:=by
 obtain⟨z,hz⟩:=Gg T q (n-q);rw[show q+(n-q)=n by omega] at hz;rw[hz,WM];omega
theorem tK(T:By):∀ q,(frW T q).length≤135*q
|0=>by simp[frW]
|q+1=>by
   have:=tK T q;have h1:=dR (E2 T q);have h2:=E2 T q;show (frW T q++_).length≤_;rw[WM];omega
theorem N0{T:By}(q:Nat):(frW T q).length<(frW T (q+1)).length:=by
 have h1:=dR (E2 T q);show _<(frW T q++_).length;rw[WM];omega
theorem Kq{T:By}{o q:Nat}(h:128*q+128≤o):chW (T.take o) q=chW T q:=by
 unfold chW;rw[List.drop_take,List.take_take,XT (by omega)]
theorem Ds{T:By}{o:Nat}:∀ q,128*q≤o→frW (T.take o) q=frW T q
|0,_=>rfl
|q+1,h=>by
   show frW (T.take o) q++_=frW T q++_;rw[Ds q (by omega),Kq (by omega)]
theorem DM(T:By)(q:Nat)(h:128*q≤T.length):aP (frW T q) (T.drop (128*q))=(frW T (T.length/128),T.drop (128*(T.length/128))):=by
 by_cases h1:128≤(T.drop (128*q)).length
 · have h2:=h1
   rw[WX] at h2;rw[kQ h1,List.drop_drop];exact DM T (q+1) (by omega)
 · rw[cJ (by omega)]
   rw[WX] at h1;rw[show T.length/128=q by omega]
termination_by T.length-128*q
decreasing_by rw[WX] at h1;omega
theorem DN(T:By):aP [] T=(frW T (T.length/128),T.drop (128*(T.length/128))):=DM T 0 (by omega)
theorem tO(T:By):jD (aP [] T).1 (aP [] T).2=frW T (nF T):=by
 rw[DN];unfold jD nF;simp only[WX];by_cases h:T.length-128*(T.length/128)=0
 ·rw[WJ h,show (T.length+127)/128=T.length/128 by omega]
 · rw[WI h,show (T.length+127)/128=T.length/128+1 by omega]
   show _=frW T _++_;unfold chW;rw[WY (by rw[WX];omega)]
theorem wW(T:By):bJ T T.length=256*(aP [] T).1.length+(aP [] T).2.length:=by
 rw[DN];unfold bJ;simp only[WX];omega
theorem Av{T:By}{o:Nat}(h:o≤T.length):bJ T o=bJ (T.take o) (T.take o).length:=by
 unfold bJ;rw[WR,XT h,Ds _ (by omega)]
theorem wV{T:By}{o:Nat}(h:o≤1099511627776):bJ T o≤1152921504606846976:=by
 have:=tK T (o/128);unfold bJ;omega
def bN(F:Nat→Int)(T:By):List Value:=[iV (F 0),iV (F 1),iV (F 2),iV (F 3),iV (F 4),iV (F 5),iV (F 6),iV (F 7),iV (F 8),iV (F 9),.string (bs T)]
theorem lY(F:Nat→Int)(T:By):∀ v∈bN F T,v.oneCell'=true:=by simp[bN,Value.oneCell']
theorem rQ(F:Nat→Int)(T:By){o:Nat}(h:o<10):(bN F T)[o]?=some (iV (F o)):=by
 match o,h with
|0,_|1,_|2,_|3,_|4,_|5,_|6,_|7,_|8,_|9,_=>rfl
def upd(F:Nat→Int)(o:Nat)(z:Int):Nat→Int:=fun q=>if q=o then z else F q
theorem Dn(F:Nat→Int)(T:By){o:Nat}(h:o<10)(z:Int):(bN F T).set o (iV z)=bN (upd F o z) T:=by
 match o,h with
|0,_|1,_|2,_|3,_|4,_|5,_|6,_|7,_|8,_|9,_=>simp[bN,upd]
theorem Js{F G:Nat→Int}{T U:By}(h:bN F T=bN G U):(∀ o,o<10→F o=G o)∧T=U:=by
 refine⟨fun o ho=>?_,?_⟩
 · have h1:=rQ F T ho
   rw[h,rQ G U ho] at h1;simpa using h1.symm
 · simp only[bN,YA.injEq,Value.string.injEq,and_true] at h
   exact Kx h.2.2.2.2.2.2.2.2.2.2
theorem L1{F G:Nat→Int}{T U:By}(h:∀ o,o<10→F o=G o)(h2:T=U):bN F T=bN G U:=by
 subst h2;simp only[bN,h 0 (by decide),h 1 (by decide),h 2 (by decide),h 3 (by decide),h 4 (by decide),h 5 (by decide),h 6 (by decide),h 7 (by decide),h 8 (by decide),h 9 (by decide)]
theorem Jt{F G:Nat→Int}{T U:By}(h:∀ o,o<11→(bN F T)[o]?=(bN G U)[o]?):bN F T=bN G U:=by
 apply XR;intro i;by_cases hi:i<11
 ·exact h i hi
 ·rw[Xy (by simp[bN];omega),Xy (by simp[bN];omega)]
structure Fd where
 f:Nat
 o:Nat
 b:Int
 m:Int
def fdV(x:Fd):List Value:=[.func (.func x.f) #[] #[],iV x.b,iV x.m]
theorem fG:iF 3 fdV:=fun x=>⟨rfl,by simp[fdV,Value.oneCell']⟩
def oZ:List Fd:=[⟨176,1,2,511⟩,⟨177,2,2,2047⟩,⟨178,3,2,2047⟩,⟨179,4,2,1024⟩,⟨180,5,4,4294967295⟩]
def uV:List Fd:=[⟨181,6,4,4294967295⟩,⟨182,7,2,4096⟩,⟨183,8,2,1024⟩,⟨184,9,1,127⟩]
def sF:List Fd:=[⟨181,6,4,4294967295⟩,⟨182,7,4,1048576⟩]
def iE(k:Int):List Fd:=if k=2 then uV else if k=1 then sF else []
def bF(k:Int):List Fd:=oZ++iE k
def fd0:Fd:=⟨176,1,2,511⟩
theorem JU{k:Int}{x:Fd}(h:x∈iE k):x∈uV∨x∈sF:=by
 unfold iE at h
 split at h
 ·exact .inl h
 · split at h
   ·exact .inr h
   ·cases h
theorem IE{k:Int}{x:Fd}(h:x∈bF k):x∈oZ∨x∈uV∨x∈sF:=by
 rcases Xj.1 h with h|h
 ·exact .inl h
 ·exact .inr (JU h)
theorem kI(k:Int):(bF k).length≤9:=by
 unfold bF iE
 split
 ·decide
 ·split<;>decide
theorem BA{k:Int}{i:Nat}(h:i<(bF k).length):(bF k).getD i fd0∈bF k:=by
 rw[WW,WK h];exact XE h
def zT(f o:Nat):Prop:=fnB Tryz.prog f=true∧o<10∧0<o∧∀ (b:Nat) (W:World),Calls Tryz.prog f [pT b].toArray W (Ret fun v w'=>v=.pointer (some ⟨b,o,none⟩)∧w'=W)
theorem jO(b o:Nat):Value.pointer (some ((⟨b,0,none⟩:Addr).add o))=.pointer (some ⟨b,o,none⟩):=by rw[Addr.add_lit,XJ]
theorem NJ:zT 176 1:=by
 refine⟨Pu,by decide,by decide,fun b W=>?_⟩;refine cS 6 [(0,_)] Tryz.func176 ?_;refine Gz 15 ?_;exact⟨_,rfl,jO b 1,rfl⟩
theorem NI:zT 177 2:=by
 refine⟨Pt,by decide,by decide,fun b W=>?_⟩;refine cS 6 [(0,_)] Tryz.func177 ?_;refine Gz 15 ?_;exact⟨_,rfl,jO b 2,rfl⟩
theorem NH:zT 178 3:=by
 refine⟨Pr,by decide,by decide,fun b W=>?_⟩;refine cS 6 [(0,_)] Tryz.func178 ?_;refine Gz 15 ?_;exact⟨_,rfl,jO b 3,rfl⟩
theorem NG:zT 179 4:=by
 refine⟨Pq,by decide,by decide,fun b W=>?_⟩;refine cS 6 [(0,_)] Tryz.func179 ?_;refine Gz 15 ?_;exact⟨_,rfl,jO b 4,rfl⟩
theorem NF:zT 180 5:=by
 refine⟨Pp,by decide,by decide,fun b W=>?_⟩;refine cS 6 [(0,_)] Tryz.func180 ?_;refine Gz 15 ?_;exact⟨_,rfl,jO b 5,rfl⟩
theorem I3:zT 181 6:=by
 refine⟨Po,by decide,by decide,fun b W=>?_⟩;refine cS 6 [(0,_)] Tryz.func181 ?_;refine Gz 15 ?_;exact⟨_,rfl,jO b 6,rfl⟩
theorem I2:zT 182 7:=by
 refine⟨Pn,by decide,by decide,fun b W=>?_⟩;refine cS 6 [(0,_)] Tryz.func182 ?_;refine Gz 15 ?_;exact⟨_,rfl,jO b 7,rfl⟩
theorem NE:zT 183 8:=by
 refine⟨Pm,by decide,by decide,fun b W=>?_⟩;refine cS 6 [(0,_)] Tryz.func183 ?_;refine Gz 15 ?_;exact⟨_,rfl,jO b 8,rfl⟩
theorem ND:zT 184 9:=by
 refine⟨Pk,by decide,by decide,fun b W=>?_⟩;refine cS 6 [(0,_)] Tryz.func184 ?_;refine Gz 15 ?_;exact⟨_,rfl,jO b 9,rfl⟩
theorem qV{k:Int}{x:Fd}(h:x∈bF k):zT x.f x.o∧1≤x.b∧x.b≤4∧0≤x.m∧x.m<2 ^ (8*x.b).toNat:=by
 rcases IE h with h|h|h
 · simp only[oZ,Xo,XD,or_false] at h
   rcases h with rfl|rfl|rfl|rfl|rfl
   ·exact⟨NJ,by decide,by decide,by decide,by decide⟩
   ·exact⟨NI,by decide,by decide,by decide,by decide⟩
   ·exact⟨NH,by decide,by decide,by decide,by decide⟩
   ·exact⟨NG,by decide,by decide,by decide,by decide⟩
   ·exact⟨NF,by decide,by decide,by decide,by decide⟩
 · simp only[uV,Xo,XD,or_false] at h
   rcases h with rfl|rfl|rfl|rfl
   ·exact⟨I3,by decide,by decide,by decide,by decide⟩
   ·exact⟨I2,by decide,by decide,by decide,by decide⟩
   ·exact⟨NE,by decide,by decide,by decide,by decide⟩
   ·exact⟨ND,by decide,by decide,by decide,by decide⟩
 · simp only[sF,Xo,XD,or_false] at h
   rcases h with rfl|rfl
   ·exact⟨I3,by decide,by decide,by decide,by decide⟩
   ·exact⟨I2,by decide,by decide,by decide,by decide⟩
def FdP(W:World)(L:List Fd):Value→World→Prop:=fun v w'=>∃ ao c,v=.slice ao L.length c∧bL 3 fdV 196 w'.heap ao c L∧Fr W.heap.size ao∧aA nob W w'
theorem Bd(W:World):CA 126 [] W (FdP W oZ):=by
 refine cS 7 [] Tryz.func126 ?_;refine Gz 7 ?_;refine cL (bU (fdV ⟨176,1,2,511⟩) kJ jK) ?_;refine cL (bU (fdV ⟨177,2,2,2047⟩) kJ jK) ?_;refine cL (bU (fdV ⟨178,3,2,2047⟩) kJ jK) ?_;refine cL (bU (fdV ⟨179,4,2,1024⟩) kJ jK) ?_;refine cL (bU (fdV ⟨180,5,4,4294967295⟩) kJ jK) ?_;refine Tu uB (cs:=(oZ.flatMap fdV).toArray) jK rfl rfl rfl (by kernel_rfl) rfl ?_;intro w1 ho1 hs1 hf1;refine Gz 5 ?_;exact⟨_,rfl,_,_,rfl,bS fG ho1 (by decide),fJ _,hf1⟩
theorem AW(k:Int)(W:World):CA 127 [iV k] W (FdP W (iE k)):=by
 refine cS 22 [(0,_)] Tryz.func127 ?_;refine fK 24 ?_ ?_<;>intro h7
 ·refine Gz 7 ?_;refine cL (bU (fdV ⟨181,6,4,4294967295⟩) kJ jK) ?_;refine Gz 1 ?_;refine cL (bU (fdV ⟨182,7,2,4096⟩) kJ jK) ?_;refine cL (bU (fdV ⟨183,8,2,1024⟩) kJ jK) ?_;refine cL (bU (fdV ⟨184,9,1,127⟩) kJ jK) ?_;refine Tu uB (cs:=(uV.flatMap fdV).toArray) jK rfl rfl rfl (by kernel_rfl) rfl ?_;intro w1 ho1 hs1 hf1;refine Gz 7 ?_;have e:iE k=uV:=by unfold iE;rw[WJ h7]
  rw[e];exact⟨_,rfl,_,_,rfl,bS fG ho1 (by decide),fJ _,hf1⟩
 refine fK 6 ?_ ?_<;>intro h16
 ·refine Gz 7 ?_;refine cL (bU (fdV ⟨181,6,4,4294967295⟩) kJ jK) ?_;refine Gz 1 ?_;refine cL (bU (fdV ⟨182,7,4,1048576⟩) kJ jK) ?_;refine Tu uB (cs:=(sF.flatMap fdV).toArray) jK rfl rfl rfl (by kernel_rfl) rfl ?_;intro w1 ho1 hs1 hf1;refine Gz 7 ?_;have e:iE k=sF:=by unfold iE;rw[WI h7,WJ h16]
  rw[e];exact⟨_,rfl,_,_,rfl,bS fG ho1 (by decide),fJ _,hf1⟩
 refine Gz 14 ?_;have e:iE k=[]:=by unfold iE;rw[WI h7,WI h16]
 rw[e];exact⟨_,rfl,none,0,rfl,Wc,V6,VZ _ _⟩
def cG(wide:Int)(s:Int×By)(z:Int):Int×By:=(dU s.1 z wide,kU s.1 s.2 z wide)
def fI(l:List Int)(wide:Int):Int×By:=l.foldl (cG wide) (0,[])
theorem fF(E:Int)(xs:By)(x n:Int):(kU E xs x n).length≤xs.length+4:=by
 by_cases h:eX x n
 ·unfold kU;rw[WJ (.inr h)];omega
 ·exact xH E xs x n h
theorem AE(wide:Int):∀ (l:List Int) (s:Int×By),(l.foldl (cG wide) s).2.length≤s.2.length+4*l.length
|[],s=>by simp
|z::r,s=>by
   have h1:=AE wide r (cG wide s z);have h2:=fF s.1 s.2 z wide;simp only[List.foldl_cons,W7];have:(cG wide s z).2.length≤s.2.length+4:=h2;omega
theorem pP(l:List Int)(wide:Int)(k:Nat)(h:k<l.length):fI (l.take (k+1)) wide=cG wide (fI (l.take k) wide) (l.getD k 0):=by
 unfold fI;rw[Xb h,XY];simp[WW,h]
theorem C3(l:List Int)(wide:Int)(k:Nat):(fI (l.take k) wide).2.length≤4*l.length:=by
 have:=AE wide (l.take k) (0,[]);simp only[WZ,WR] at this;unfold fI;omega
def aJ(l:List Int)(wide:Int):By×Int:=
 if wide=2∨wide=4 then (dJ (fI l wide).1 (fI l wide).2,(fI l wide).1) else ([],1)
theorem Mc(wide:Int)(W:World):CA 75 [iV wide] W fun v w'=>v=.bool (decide (wide=2∨wide=4))∧w'=W:=by
 refine cS 9 [(0,_)] Tryz.func75 ?_;refine fK 8 ?_ ?_<;>intro h4
 ·refine Gz 9 ?_;exact⟨_,rfl,by congr 1;symm;first|exact WO (by omega)|exact WL (by omega),rfl⟩
 refine fW 2 ?_ ?_<;>intro h7
 ·refine Gz 6 ?_;exact⟨_,rfl,by congr 1;symm;first|exact WO (by omega)|exact WL (by omega),rfl⟩
 refine Gz 6 ?_;exact⟨_,rfl,by congr 1;symm;first|exact WO (by omega)|exact WL (by omega),rfl⟩
theorem vT{α:Type}{l:List α}{k:Nat}(h1:k≤l.length)(h2:¬ ((k:Int)<(l.length:Int))):l.take k=l:=WY (by omega)
theorem Ez(lo:Option Addr)(lc:Nat)(l:List Int)(wide:Int)(W:World)(hv:Vw i64 W.heap lo lc l)(hb:l.length≤137438953472) :
 CA 25 [.slice lo l.length lc,iV wide] W (sP W (aJ l wide)):=by
 have hlen:=C3 l wide;refine cS 25 [(0,_),(1,_)] Tryz.func25 ?_;refine cA 10 R7 (Mc wide W) ?_;rintro _ w0 ⟨rfl,hw0⟩;subst w0;refine TE (T9 rfl) rfl (fun h11=>?_) (fun h11=>?_)
 ·have hw:¬ (wide=2∨wide=4):=by simpa using h11
  refine Gz 12 ?_;have e:aJ l wide=([],1):=by unfold aJ;rw[WI hw]
  rw[e];exact⟨_,rfl,none,0,rfl,V8,V6,VZ _ _⟩
 have hw:wide=2∨wide=4:=WV fun h=>h11 (WL h);refine Gz 7 ?_;refine S5 zV rfl ?_;intro w1 hg1 hs1 hf1;refine Gz 11 ?_;refine S4 (β:=Nat) (fun k=>[(1,iV wide),(6,pT W.heap.size),(12,.slice lo l.length lc),(13,iV l.length),(14,iV k)]) (fun k w=>k≤l.length∧WrL (fun k=>W.heap.size≤k) w.heap W.heap.size (fI (l.take k) wide).1 (fI (l.take k) wide).2∧aA nob W w) (fun k=>l.length-k) 0 ⟨rfl,rfl,rfl,rfl,rfl,trivial⟩ ⟨WU _,We hg1 (WT _),hf1⟩ ?_;rintro k w2 ⟨hk,hP2,hF2⟩;refine fK 2 ?_ ?_<;>intro h15
 ·refine Gz 10 ?_;refine cL (SY aY rfl rfl hv.non (by omega)) ?_;refine cL (S2 aF rfl ((hv.WG hF2).gz 0 k rfl (by omega))) ?_;refine Gz 6 ?_;refine SZ yC rfl (pQ (fun k=>W.heap.size≤k) W.heap.size _ _ (l.getD k 0) wide w2 hP2 (fun k hk=>Xf hF2.size hk) (by have:=hlen k;omega)) rfl ?_;rintro _ w3 ⟨hP3,hF3⟩;refine Gz 7 ?_;refine aG (k+1) ?_ (by show l.length-(k+1)<l.length-k;omega);exact⟨by omega,by rw[pP l wide k (by omega)];exact hP3,(hF2.any.trans hF3).fresh (fun k hk=>hk)⟩
 refine Gz 11 ?_;refine SZ BY rfl (gW _ W.heap.size _ _ w2 hP2 (by have:=hlen k;omega)) rfl ?_;rintro _ w3 ⟨ao3,c3,rfl,ho3,hfr3,hf3⟩;refine Gz 1 ?_;refine SZ Dv rfl (qB _ W.heap.size _ _ w3 (hP2.WG hf3)) rfl ?_;rintro _ w4 ⟨rfl,hw4⟩;subst w4;refine Gz 6 ?_;rw[vT hk (by assumption)] at *;exact⟨_,rfl,ao3,c3,by unfold aJ;rw[WJ hw],by unfold aJ;rw[WJ hw];exact ho3,hfr3.mono hF2.size,hF2.trans hf3⟩
theorem uE(lo:Option Addr)(lc:Nat)(l:List Int)(wide:Int)(W:World)(hv:Vw i64 W.heap lo lc l)(hb:l.length≤137438953472) :
 CA 35 [.slice lo l.length lc,iV wide] W (sP W (aJ l wide)):=by
 have hlen:=C3 l wide;have hl:=hv.WF;refine cS 33 [(0,_),(1,_)] Tryz.func35 ?_;refine fK 10 ?_ ?_<;>intro h9
 ·refine fW 2 ?_ ?_<;>intro h12
  ·refine Gz 13 ?_;have hw:¬ (wide=2∨wide=4):=by omega
   have e:aJ l wide=([],1):=by unfold aJ;rw[WI hw]
   rw[e];exact⟨_,rfl,none,0,rfl,V8,V6,VZ _ _⟩
  refine Gz 8 ?_;refine cL (TC pM kW rfl rfl) ?_;refine S5 kW rfl ?_;intro w1 hg1 hs1 hf1;refine sA rfl qF (by simp[Value.oneCell']) hg1 ?_;intro w1b hg1b hs1b hf1b;have hw:wide=2∨wide=4:=by omega
  have hF1:aA nob W w1b:=hf1.WD hf1b (fun k hk=>.inr (by omega));refine Gz 9 ?_;refine S4 (β:=Nat) (fun k=>[(0,.slice lo l.length lc),(1,iV wide),(6,pT W.heap.size),(7,iV k)]) (fun k w=>k≤l.length∧WrR (fun k=>W.heap.size≤k) w.heap W.heap.size (fI (l.take k) wide).1 (fI (l.take k) wide).2∧aA nob W w) (fun k=>l.length-k) 0 ⟨rfl,rfl,rfl,rfl,trivial⟩ ⟨WU _,Wf hg1b (WT _),hF1⟩ ?_;rintro k w2 ⟨hk,hP2,hF2⟩;refine fK 6 ?_ ?_<;>intro h18
  ·refine Gz 10 ?_;refine cL (SY aY rfl rfl hv.non (by omega)) ?_;refine cL (S2 aF rfl ((hv.WG hF2).gz 0 k rfl (by omega))) ?_;refine Gz 1 ?_;refine SZ fV rfl (dB (fun k=>W.heap.size≤k) W.heap.size _ _ (l.getD k 0) wide w2 hP2 (fun k hk=>Xf hF2.size hk) (by have:=hlen k;omega)) rfl ?_;rintro _ w3 ⟨hP3,hF3⟩;refine Gz 8 ?_;refine aG (k+1) ?_ (by show l.length-(k+1)<l.length-k;omega);exact⟨by omega,by rw[pP l wide k (by omega)];exact hP3,(hF2.any.trans hF3).fresh (fun k hk=>hk)⟩
  refine Gz 12 ?_;rw[vT hk (by assumption)] at *;have hPP:=hP2;obtain⟨ao,c,hobj,hown,hap,hDp,hDa⟩:=hP2;refine fK 1 ?_ ?_<;>intro h29
  ·refine Gz 4 ?_;refine Tk 4 [0,1,2,3] aI (by kernel_rfl) ?_;refine Gz 1 ?_;refine xC rfl (S2 pB rfl (aD hobj rfl)) ?_;refine Gz 7 ?_;have e:aJ l wide=([],(fI l wide).1):=by unfold aJ dJ;rw[WJ hw,WJ (by omega)]
   rw[e];exact⟨_,rfl,none,0,rfl,V8,V6,hF2.draws 1⟩
  refine Gz 7 ?_;refine SZ BX rfl (hO _ W.heap.size _ _ w2 hPP (by have:=hlen l.length;rw[Xl] at this;omega)) rfl ?_;rintro _ w3 ⟨ao3,c3,rfl,ho3,hfr3,hf3⟩;refine Gz 6 ?_;have e:aJ l wide=(dJ (fI l wide).1 (fI l wide).2,0):=by unfold aJ;rw[WJ hw];congr 1;omega
  rw[e];exact⟨_,rfl,ao3,c3,rfl,ho3,hfr3.mono hF2.size,hF2.trans hf3⟩
 refine Gz 11 ?_;refine cL (TC pM kW rfl rfl) ?_;refine S5 kW rfl ?_;intro w1 hg1 hs1 hf1;refine sA rfl qF (by simp[Value.oneCell']) hg1 ?_;intro w1b hg1b hs1b hf1b;have hw:wide=2∨wide=4:=by omega
 have hF1:aA nob W w1b:=hf1.WD hf1b (fun k hk=>.inr (by omega));refine Gz 9 ?_;refine S4 (β:=Nat) (fun k=>[(0,.slice lo l.length lc),(1,iV wide),(6,pT W.heap.size),(7,iV k)]) (fun k w=>k≤l.length∧WrR (fun k=>W.heap.size≤k) w.heap W.heap.size (fI (l.take k) wide).1 (fI (l.take k) wide).2∧aA nob W w) (fun k=>l.length-k) 0 ⟨rfl,rfl,rfl,rfl,trivial⟩ ⟨WU _,Wf hg1b (WT _),hF1⟩ ?_;rintro k w2 ⟨hk,hP2,hF2⟩;refine fK 6 ?_ ?_<;>intro h18
 ·refine Gz 10 ?_;refine cL (SY aY rfl rfl hv.non (by omega)) ?_;refine cL (S2 aF rfl ((hv.WG hF2).gz 0 k rfl (by omega))) ?_;refine Gz 1 ?_;refine SZ fV rfl (dB (fun k=>W.heap.size≤k) W.heap.size _ _ (l.getD k 0) wide w2 hP2 (fun k hk=>Xf hF2.size hk) (by have:=hlen k;omega)) rfl ?_;rintro _ w3 ⟨hP3,hF3⟩;refine Gz 8 ?_;refine aG (k+1) ?_ (by show l.length-(k+1)<l.length-k;omega);exact⟨by omega,by rw[pP l wide k (by omega)];exact hP3,(hF2.any.trans hF3).fresh (fun k hk=>hk)⟩
 refine Gz 12 ?_;rw[vT hk (by assumption)] at *;have hPP:=hP2;obtain⟨ao,c,hobj,hown,hap,hDp,hDa⟩:=hP2;refine fK 1 ?_ ?_<;>intro h29
 ·refine Gz 4 ?_;refine Tk 4 [0,1,2,3] aI (by kernel_rfl) ?_;refine Gz 1 ?_;refine xC rfl (S2 pB rfl (aD hobj rfl)) ?_;refine Gz 7 ?_;have e:aJ l wide=([],(fI l wide).1):=by unfold aJ dJ;rw[WJ hw,WJ (by omega)]
  rw[e];exact⟨_,rfl,none,0,rfl,V8,V6,hF2.draws 1⟩
 refine Gz 7 ?_;refine SZ BX rfl (hO _ W.heap.size _ _ w2 hPP (by have:=hlen l.length;rw[Xl] at this;omega)) rfl ?_;rintro _ w3 ⟨ao3,c3,rfl,ho3,hfr3,hf3⟩;refine Gz 6 ?_;have e:aJ l wide=(dJ (fI l wide).1 (fI l wide).2,0):=by unfold aJ;rw[WJ hw];congr 1;omega
 rw[e];exact⟨_,rfl,ao3,c3,rfl,ho3,hfr3.mono hF2.size,hF2.trans hf3⟩
theorem I7(s:By)(W:World)(hs:s.length≤maxLen):CA 145 [.string (bs s)] W fun v w'=>v=.bool (decide ((0:UInt8)∈s))∧w'=W:=by
 have hl:(s.length:Int)≤9223372036854775807:=by unfold maxLen at hs;omega
 refine cS 14 [(0,_)] Tryz.func145 ?_;refine Gz 12 ?_;refine S4 (β:=Nat) (fun k=>[(0,.string (bs s)),(3,iV k)]) (fun k w=>k≤s.length∧(∀ i,i<k→s.getD i 0≠0)∧w=W) (fun k=>s.length-k) 0 ⟨rfl,rfl,trivial⟩ ⟨WU _,by intro i hi;omega,rfl⟩ ?_;rintro k w2 ⟨hk,hgood,hw2⟩;subst hw2;refine Gz 5 ?_;refine cL (Tv ty9 rfl) ?_;refine fK 0 ?_ ?_<;>intro h7
 ·refine Gz 11 ?_;refine cL (Uj ty9 rfl rfl (by omega)) ?_;refine fK 0 ?_ ?_<;>intro h13
  ·refine Gz 15 ?_;refine⟨_,rfl,?_,rfl⟩;rw[WO];have e:s.getD k 0=0:=XS.1 (by have:((s.getD ((k:Int)).toNat 0).toNat:Int)=0:=h13;have e2:((k:Int)).toNat=k:=rfl;rw[e2] at this;show _=0;omega);have hk2:k<s.length:=by omega
   rw[WW,WK hk2] at e;rw[←e];exact XE hk2
  refine Gz 11 ?_;refine aG (k+1) ?_ (by show s.length-(k+1)<s.length-k;omega);refine⟨by omega,fun i hi=>?_,rfl⟩;by_cases hik:i=k
  ·subst hik;intro e;exact h13 (by rw[show ((i:Int)).toNat=i from rfl,e];rfl)
  ·exact hgood i (by omega)
 refine Gz 15 ?_;refine⟨_,rfl,?_,rfl⟩;rw[WL];intro h0;obtain⟨i,hi,e⟩:=XF h0;exact hgood i (by omega) (by simp[WW,hi,e])
theorem wS(xo:Option Addr)(xc:Nat)(X:List Xa)(W:World)(hv:XaV W.heap xo xc X) :
 CA 146 [.slice xo X.length xc] W fun v w'=>v=.bool (decide (dV X))∧aA nob W w':=by
 have hl:=hv.WF;refine cS 56 [(0,_)] Tryz.func146 ?_;refine Gz 12 ?_;refine S4 (β:=Nat) (fun k=>[(0,.slice xo X.length xc),(3,iV k)]) (fun k w=>k≤X.length∧(∀ i,i<k→AN X i)∧aA nob W w) (fun k=>X.length-k) 0 ⟨rfl,rfl,trivial⟩ ⟨WU _,by intro i hi;omega,VZ _ _⟩ ?_;rintro k w2 ⟨hk,hgood,hF2⟩;refine fK 6 ?_ ?_<;>intro h9
 ·refine Gz 11 ?_;obtain⟨xa,xc2,hrow,hxv,hnl⟩:=(hv.WG hF2).at (i:=k) rfl (by omega);refine cL (S1 gZ rfl rfl hv.non (by omega)) ?_;refine cL (Tf (cs:=[.string (bs (X.getD k x0).1),.slice xa (X.getD k x0).2.length xc2]) eK rfl hrow) ?_;refine S5 tY rfl ?_;intro w3 hg3 hs3 hf3;refine sA rfl eK (by simp[Value.oneCell']) hg3 ?_;intro w4 hg4 hs4 hf4;have hF4:aA nob W w4:=hF2.trans (hf3.WD hf4 (fun k hk=>.inr (by omega)));refine Gz 6 ?_;refine SZ M4 rfl (I7 _ w4 hnl) rfl ?_;rintro _ w5 ⟨rfl,hw5⟩;subst w5;refine Gz 4 ?_;refine Tk 34 [0,1,2,3,4,5,6,7,8,9,10,11,12,13,14,15,16,17,18,19,20,21,22,23,24,25,26,27,28,29,30,31,32,33] aI (by kernel_rfl) ?_;refine Gz 1 ?_;refine xC rfl (S2 eG rfl (aD hg4 rfl)) ?_;refine xC rfl (Tv ty9 rfl) ?_;refine xK 0 ?_ ?_<;>intro h22
  ·have hbad:¬ dV X:=fun h=>by have:=(h.1 k (by omega)).1;have:=W5.2 (FY this);omega
   refine Gz 45 ?_;exact⟨_,rfl,by rw[WL hbad],hF4.draws 1⟩
  refine Gz 2 ?_;refine xV rfl (S2 eG rfl (aD hg4 rfl)) ?_;refine xV rfl (Tv ty9 rfl) ?_;refine xW 0 ?_ ?_<;>intro h27
  ·have hbad:¬ dV X:=fun h=>by have:=(h.1 k (by omega)).2.1;omega
   refine Gz 40 ?_;exact⟨_,rfl,by rw[WL hbad],hF4.draws 1⟩
  refine Gz 2 ?_;refine T8 rfl rfl rfl rfl (Tm (Ta rfl)) rfl (fun h30=>?_) (fun h30=>?_)
  ·have hbad:¬ dV X:=fun h=>(h.1 k (by omega)).2.2.1 (of_decide_eq_true h30);refine Gz 37 ?_;exact⟨_,rfl,by rw[WL hbad],hF4.draws 1⟩
  have g3:(0:UInt8)∉(X.getD k x0).1:=fun h=>h30 (WO h);refine Gz 3 ?_;refine xV rfl (S2 aL rfl (aD hg4 rfl)) ?_;refine xW 1 ?_ ?_<;>intro h36
  ·have hbad:¬ dV X:=fun h=>by have:=(h.1 k (by omega)).2.2.2;omega
   refine Gz 31 ?_;exact⟨_,rfl,by rw[WL hbad],hF4.draws 1⟩
  refine xW 3 ?_ ?_<;>intro h40
  ·refine Gz 4 ?_;obtain⟨k,rfl⟩:∃ q,k=q+1:=⟨k-1,by omega⟩
   obtain⟨pa,pc2,prow,pxv,pnl⟩:=(hv.WG hF4).at (i:=k) (z:=((k+1:Nat):Int)-1) (by omega) (by omega);refine xV rfl (S1 gZ rfl rfl hv.non (by omega)) ?_;refine Gz 1 ?_;refine xV rfl (S2 eG rfl (prow 0 _ rfl)) ?_;refine Gz 1 ?_;refine xV rfl (S2 eG rfl (aD hg4 rfl)) ?_;refine T8 rfl rfl rfl rfl (Tm (UX rfl rfl)) rfl (fun h50=>?_) (fun h50=>?_)
   ·have hbad:¬ dV X:=fun h=>by have:Xd (X.getD k x0).1 (X.getD (k+1) x0).1=true:=(h.1 (k+1) (by omega)).1;rw[this] at h50;cases h50
    refine xV rfl (T2 rfl rfl) ?_;refine Gz 16 ?_;exact⟨_,rfl,by rw[WL hbad],hF4.draws 1⟩
   have g1:Xd (X.getD k x0).1 (X.getD (k+1) x0).1=true:=by revert h50;cases Xd (X.getD k x0).1 (X.getD (k+1) x0).1<;>simp
   refine xV rfl (T2 rfl rfl) ?_;refine Gz 12 ?_;refine aG (k+1+1) ?_ (by show X.length-(k+1+1)<X.length-(k+1);omega);refine⟨by omega,fun i hi=>?_,hF4.draws 1⟩;by_cases hik:i=k+1
   ·subst hik;exact⟨g1,by omega,g3,by omega⟩
   ·exact hgood i (by omega)
  refine Gz 10 ?_;refine xV rfl (Ub rfl rfl) ?_;refine Gz 12 ?_;refine aG (k+1) ?_ (by show X.length-(k+1)<X.length-k;omega);refine⟨by omega,fun i hi=>?_,hF4.draws 1⟩;by_cases hik:i=k
  · subst hik;have hi0:i=0:=by omega
    subst hi0;exact⟨(xO _).2 (by intro e;rw[e] at h22;simp at h22),by omega,g3,by omega⟩
  ·exact hgood i (by omega)
 refine Gz 12 ?_;refine cL (Uf rfl rfl) ?_;refine Gz 5 ?_;refine⟨_,rfl,?_,hF2⟩;have hk2:k=X.length:=by omega
 subst hk2;congr 1;exact decide_eq_decide.2 ⟨fun h=>⟨hgood,by omega⟩,fun h=>by have:=h.2;omega⟩
theorem LP(xo:Option Addr)(xc:Nat)(X:List Xa)(W:World)(hv:XaV W.heap xo xc X) :
 CA 174 [.slice xo X.length xc] W fun v w'=>v=.bool (decide (dV X))∧aA nob W w':=by
 have hl:=hv.WF;refine cS 40 [(0,_)] Tryz.func174 ?_;refine Gz 19 ?_;refine S4 (β:=Nat) (fun k=>[(0,.slice xo X.length xc),(3,.string (bs (uG X k))),(6,.slice xo X.length xc),(7,iV X.length),(8,iV k)]) (fun k w=>k≤X.length∧(∀ i,i<k→AN X i)∧aA nob W w) (fun k=>X.length-k) 0 ⟨rfl,rfl,rfl,rfl,rfl,trivial⟩ ⟨WU _,by intro i hi;omega,VZ _ _⟩ ?_;rintro k w2 ⟨hk,hgood,hF2⟩;refine fK 2 ?_ ?_<;>intro h9
 ·refine Gz 10 ?_;obtain⟨xa,xc2,hrow,hxv,hnl⟩:=(hv.WG hF2).at (i:=k) rfl (by omega);refine cL (S1 gZ rfl rfl hv.non (by omega)) ?_;refine cL (Tf (cs:=[.string (bs (X.getD k x0).1),.slice xa (X.getD k x0).2.length xc2]) eK rfl hrow) ?_;refine S5 tY rfl ?_;intro w3 hg3 hs3 hf3;refine sA rfl eK (by simp[Value.oneCell']) hg3 ?_;intro w4 hg4 hs4 hf4;have hF4:aA nob W w4:=hF2.trans (hf3.WD hf4 (fun k hk=>.inr (by omega)));refine Gz 8 ?_;refine TE (Tm (UW rfl rfl)) rfl (fun h15=>?_) (fun h15=>?_)
  ·have hbad:¬ dV X:=fun h=>by have:=(h.1 k (by omega)).1;rw[fT] at h15;rw[this] at h15;cases h15
   refine Gz 34 ?_;exact⟨_,rfl,by rw[WL hbad],hF4⟩
  have g1:Xd (uG X k) (X.getD k x0).1=true:=by rw[fT] at h15;revert h15;cases Xd (uG X k) (X.getD k x0).1<;>simp
  refine Gz 3 ?_;refine cW (Tv ty9 rfl) ?_;refine fW 0 ?_ ?_<;>intro h20
  ·have hbad:¬ dV X:=fun h=>by have:=(h.1 k (by omega)).2.1;omega
   refine Gz 29 ?_;exact⟨_,rfl,by rw[WL hbad],hF4⟩
  refine Gz 4 ?_;refine Tb rfl rfl JO rfl (EJ _ 0 w4) rfl ?_;rintro _ w5 ⟨rfl,hw5⟩;subst w5;refine fW 0 ?_ ?_<;>intro h26
  ·have hbad:¬ dV X:=fun h=>(h.1 k (by omega)).2.2.1 (rB h26);refine Gz 23 ?_;exact⟨_,rfl,by rw[WL hbad],hF4⟩
  have g3:=rD (Int.not_le.1 h26);refine fW 5 ?_ ?_<;>intro h32
  ·have hbad:¬ dV X:=fun h=>by have:=(h.1 k (by omega)).2.2.2;omega
   refine Gz 17 ?_;exact⟨_,rfl,by rw[WL hbad],hF4⟩
  refine Gz 17 ?_;refine aG (k+1) ?_ (by show X.length-(k+1)<X.length-k;omega);refine⟨by omega,fun i hi=>?_,hF4⟩;by_cases hik:i=k
  ·subst hik;exact⟨g1,by omega,g3,by omega⟩
  ·exact hgood i (by omega)
 refine Gz 13 ?_;refine cL (Uf rfl rfl) ?_;refine Gz 5 ?_;refine⟨_,rfl,?_,hF2⟩;have hk2:k=X.length:=by omega
 subst hk2;congr 1;exact decide_eq_decide.2 ⟨fun h=>⟨hgood,by omega⟩,fun h=>by have:=h.2;omega⟩
def bH(F:Nat→Int)(n:Nat):Prop:=
 0≤F 1∧F 1≤511∧0≤F 2∧F 2≤2047∧0≤F 3∧F 3≤2047∧1≤F 4∧F 4≤1024∧0≤F 5∧F 5≤4294967295 ∧
 ((F 0=2∧0≤F 7∧F 7≤4096∧0≤F 8∧F 8≤1024∧(0<F 8↔0<F 7%128)∧0≤F 6∧F 6≤4294967295∧0≤F 9∧F 9<128∧(0<F 8∨F 9=0)∧n=0) ∨
  (F 0=1∧0≤F 6∧F 6≤4294967295∧0≤F 7∧F 7≤1048576∧F 4=1∧F 8=0∧F 9=0∧n=0) ∨
  (F 0=3∧1≤n∧n≤200∧F 6=0∧F 7=0∧F 8=0∧F 9=0))
def jS(F:Nat→Int)(T:By):Prop:=bH F T.length∧(F 0=3→(0:UInt8)∉T)
instance (F:Nat→Int)(T:By):Decidable (jS F T):=by unfold jS bH;exact inferInstance
def okF(F:Nat→Int)(x:Fd):Prop:=0≤F x.o∧F x.o≤x.m
theorem Lv{F:Nat→Int}(h:∀ x∈bF (F 0),okF F x) :
 (0≤F 1∧F 1≤511∧0≤F 2∧F 2≤2047∧0≤F 3∧F 3≤2047∧0≤F 4∧F 4≤1024∧0≤F 5∧F 5≤4294967295) ∧
 (F 0=2→0≤F 6∧F 6≤4294967295∧0≤F 7∧F 7≤4096∧0≤F 8∧F 8≤1024∧0≤F 9∧F 9≤127) ∧
 (F 0=1→0≤F 6∧F 6≤4294967295∧0≤F 7∧F 7≤1048576):=by
 refine⟨?_,fun e=>?_,fun e=>?_⟩
 · have h2:∀ x∈oZ,okF F x:=fun x hx=>h x (Xj.2 (.inl hx))
   simp only[oZ,YF,okF] at h2;omega
 · have h2:∀ x∈uV,okF F x:=fun x hx=>h x (Xj.2 (.inr (by unfold iE;rw[WJ e];exact hx)))
   simp only[uV,YF,okF] at h2;omega
 · have h2:∀ x∈sF,okF F x:=fun x hx=>h x (Xj.2 (.inr (by unfold iE;rw[WI (by omega),WJ e];exact hx)))
   simp only[sF,YF,okF] at h2;omega
theorem Bz{F:Nat→Int}{T:By}(h:jS F T):∀ x∈bF (F 0),okF F x:=by
 intro x hx;have h1:=h.1;unfold bH at h1;unfold okF;rcases Xj.1 hx with hx|hx
 · simp only[oZ,Xo,XD,or_false] at hx
   rcases hx with rfl|rfl|rfl|rfl|rfl<;>(simp only;omega)
 · unfold iE at hx
   split at hx
   · simp only[uV,Xo,XD,or_false] at hx
     rcases hx with rfl|rfl|rfl|rfl<;>(simp only;omega)
   · split at hx
     · simp only[sF,Xo,XD,or_false] at hx
       rcases hx with rfl|rfl<;>(simp only;omega)
     ·cases hx
def iD(F:Nat→Int)(L:List Fd):Nat→Int:=fun o=>if o∈L.map (·.o) then F o else 0
def wO(G:Nat→Int)(U:By)(F:Nat→Int)(T:By):Prop:=(∀ o,o<10→G o=F o)∧U=T
instance (G:Nat→Int)(U:By)(F:Nat→Int)(T:By):Decidable (wO G U F T):=by unfold wO;exact inferInstance
theorem Dj(F:Nat→Int)(L:List Fd)(x:Fd):upd (iD F L) x.o (F x.o)=iD F (L++[x]):=by
 funext q;unfold upd iD;by_cases h:q=x.o
 ·subst h;simp
 · by_cases h2:q∈L.map (·.o)
   ·rw[WI h,WJ h2,WJ (by simp at h2 ⊢;exact .inl h2)]
   ·rw[WI h,WI h2,WI (by simp at h2 ⊢;exact⟨h2,h⟩)]
theorem EI(F:Nat→Int):iD F []=fun _=>0:=by funext q;simp[iD]
theorem xR(F:Nat→Int)(U T:By):wO (upd (iD F (bF (F 0))) 0 (F 0)) U F T↔(F 0≠2→F 8=0∧F 9=0)∧(F 0≠2→F 0≠1→F 6=0∧F 7=0)∧U=T:=by
 unfold wO;have hcom:∀ o,(o=1∨o=2∨o=3∨o=4∨o=5)→iD F (bF (F 0)) o=F o:=fun o ho=>by
  unfold iD bF;rw[WJ];rw[YR,Xj];left;simp[oZ];omega
 have hval:∀ o,6≤o→(iD F (bF (F 0)) o=if o∈(iE (F 0)).map (·.o) then F o else 0):=fun o ho=>by
  unfold iD bF;congr 1;rw[YR,Xj];simp[oZ];omega
 constructor
 · rintro⟨h,hU⟩
   have g:∀ o,6≤o→o<10→(if o∈(iE (F 0)).map (·.o) then F o else 0)=F o:=fun o h6 h10=>by
    have:=h o h10;unfold upd at this;rw[WI (by omega),hval o h6] at this;exact this
   have g6:=g 6 (by decide) (by decide);have g7:=g 7 (by decide) (by decide);have g8:=g 8 (by decide) (by decide);have g9:=g 9 (by decide) (by decide);refine⟨fun h2=>?_,fun h2 h1=>?_,hU⟩
   · by_cases h1:F 0=1
     ·simp[iE,h1,sF] at g8 g9;omega
     ·simp[iE,h1,h2] at g8 g9;omega
   ·simp[iE,h1,h2] at g6 g7;omega
 · rintro⟨h8,h6,hU⟩
   refine⟨fun o ho=>?_,hU⟩;unfold upd;by_cases h0:o=0
   ·rw[WJ h0,h0]
   · rw[WI h0]
     by_cases h5:o<6
     ·exact hcom o (by omega)
     · rw[hval o (by omega)]
       by_cases h2:F 0=2
       ·rw[WJ];simp[iE,h2,uV];omega
       · have h8':=h8 h2
         by_cases h1:F 0=1
         · by_cases h7:o<8
           ·rw[WJ];simp[iE,h1,sF];omega
           · rw[WI (by simp[iE,h1,sF];omega)]
             have:o=8∨o=9:=by omega
             rcases this with rfl|rfl<;>omega
         · have h6':=h6 h2 h1
           rw[WI (by simp[iE,h1,h2])];have:o=6∨o=7∨o=8∨o=9:=by omega
           rcases this with rfl|rfl|rfl|rfl<;>omega
section
variable {N:Nt}{l:SF}{ty:TypeId}{pos:String}{aft:Array Edge}{CH:Array Obj→Prop}{x y:Operand}{t':TypeId}{g:Option (Nat×Bool)}{dd:Option Nat}
theorem NR(G:Nat→Int)(U:By)(F:Nat→Int)(T:By)(w:World):(Op.equalIn 10000 88 (.agg (bN G U).toArray) (.agg (bN F T).toArray)).run Tryz.prog w=.ok (decide (wO G U F T)) w:=by
 have h0:=run_equalIn_struct (P:=Tryz.prog) w 9999 88 (bN G U).toArray (bN F T).toArray (by kernel_rfl) (by kernel_rfl);refine h0.trans ?_;obtain⟨r,hr,hr2⟩:=uL (P:=Tryz.prog) w (d:=9998) (d1:=9999) rfl (xs:=(bN G U).toArray) (ys:=(bN F T).toArray) (Tryz.prog.fieldsOf 88).toList (by
  unfold Program.fieldsOf;rw[Tryz.underlying88];simp only[YF];refine⟨⟨by decide,_,_,rfl,rfl,?_,?_⟩,⟨by decide,_,_,rfl,rfl,?_,?_⟩,⟨by decide,_,_,rfl,rfl,?_,?_⟩,⟨by decide,_,_,rfl,rfl,?_,?_⟩,⟨by decide,_,_,rfl,rfl,?_,?_⟩,⟨by decide,_,_,rfl,rfl,?_,?_⟩,⟨by decide,_,_,rfl,rfl,?_,?_⟩,⟨by decide,_,_,rfl,rfl,?_,?_⟩,⟨by decide,_,_,rfl,rfl,?_,?_⟩,⟨by decide,_,_,rfl,rfl,?_,?_⟩,⟨by decide,_,_,rfl,rfl,?_,?_⟩,by simp⟩<;>first|(unfold okV;rw[ty3];exact(rfl:IntKind.i64=IntKind.i64))|(unfold okV;rw[ty9];exact trivial))
 suffices hsf:r=decide (wO G U F T) by rw[←hsf];exact hr
 rw[Bool.eq_iff_iff,hr2,decide_eq_true_iff];unfold Program.fieldsOf;rw[Tryz.underlying88];constructor
 · intro h
   have h2:bN G U=bN F T:=by
    simp only[YF] at h;obtain⟨a0,a1,a2,a3,a4,a5,a6,a7,a8,a9,a10,_⟩:=h;apply Jt;intro o ho
    match o,ho with
   |0,_=>simpa using a0
   |1,_=>simpa using a1
   |2,_=>simpa using a2
   |3,_=>simpa using a3
   |4,_=>simpa using a4
   |5,_=>simpa using a5
   |6,_=>simpa using a6
   |7,_=>simpa using a7
   |8,_=>simpa using a8
   |9,_=>simpa using a9
   |10,_=>simpa using a10
   exact Js h2
 · rintro⟨h1,h2⟩ f _
   rw[L1 h1 h2]
theorem Vk{G F:Nat→Int}{U T:By}(hx:evL l x=some (.agg (bN G U).toArray))(hy:evL l y=some (.agg (bN F T).toArray)):Cm Tryz.prog N CH l ⟨dd,.binOp .neq 88 x y t',ty,pos,aft,g⟩ (.bool (decide (¬ wO G U F T))):=fun a w ha _=>by
 have h1:=run_eqGuard_agg (P:=Tryz.prog) w .neq 88 x y (bN G U).toArray (bN F T).toArray (by kernel_rfl);have h2:=run_neq_struct (P:=Tryz.prog) w 88 (bN G U).toArray (bN F T).toArray;rw[NR] at h2;simp only[execOp,ha.ev hx,ha.ev hy,Sem.run_bind,h1,h2,Result.andThen_ok,Sem.run_pure];simp
end
theorem B0{L:List Fd}{k:Nat}(h:k<L.length):L.take (k+1)=L.take k++[L.getD k fd0]:=by
 rw[Xb h];simp[WW,h]
theorem J1{H:Array Obj}{ao:Option Addr}{c:Nat}{L:List Fd}(h:VwM 3 fdV H ao c L){k:Nat}{z:Int}(hz:z=k)(hk:k<L.length) :
 ∀ j v,(fdV (L.getD k fd0))[j]?=some v→bD H ((adr ao (z.toNat*3)).add j)=some v:=by
 have e:L[k]?=some (L.getD k fd0):=by simp[WW,hk]
 exact h.rowZ k hz e
theorem cD{p:Prop}[Decidable p](h:¬ p):Value.bool false=.bool (decide p):=by rw[WL h]
theorem zH{p:Prop}[Decidable p](h:p):Value.bool true=.bool (decide p):=by rw[WO h]
theorem NP(F:Nat→Int)(T:By)(W:World)(hT:T.length≤maxLen) :
 CA 125 [.agg (bN F T).toArray] W fun v w'=>v=.bool (decide (jS F T))∧aA nob W w':=by
 refine cS 100 [(0,_)] Tryz.func125 ?_;refine Gz 2 ?_;refine To rfl rfl ?_;intro w1 hg1 hs1 hf1;have hg1:w1.heap[W.heap.size]?=some (.cells (bN F T).toArray 88 (0,0)):=hg1;refine Gz 4 ?_;refine Tc 6 (fun H=>H[W.heap.size]?=some (.cells (bN F T).toArray 88 (0,0))) [0,3,4] [1,2,0,3,4,5] aI (by kernel_rfl) (hg1) ?_;refine Gz 2 ?_;refine S7 rfl rfl (SZ M9 rfl (Bd _) rfl ?_);rintro _ w2 ⟨ao2,c2,rfl,ho2,hfr2,hf2⟩;refine Tg (by exact hf2.obj hg1 id) ?_;refine S7 rfl rfl (SZ M8 rfl (AW (F 0) w2) rfl ?_);rintro _ w3 ⟨ao3,c3,rfl,ho3,hfr3,hf3⟩;refine Tg (by exact hf3.obj (hf2.obj hg1 id) id) ?_;refine S7 rfl rfl (Th fG rfl uB rfl rfl (ho2.WG hf3) (ho3.vw fG) (by have:=kI (F 0);unfold bF at this;rw[WM] at this;omega) (by have:=kI (F 0);unfold bF at this;rw[WM] at this;unfold maxLen;omega) rfl ?_);intro ao4 c4 w4 ho4 hf4 hr4 hn4;have hfr2:Fr w1.heap.size ao2:=hfr2;have hg4:=hf4.obj (hf3.obj (hf2.obj hg1 id) id) (fun⟨a,ha,hb⟩=>by have:=hfr2 a ha;omega);have hF3:aA nob W w3:=(hf1.trans hf2.WE).trans hf3;have hF4:aA nob W w4:=hF3.WD hf4 (fun k ⟨a,ha,hb⟩=>.inr (by have:=hfr2 a ha;omega));refine Tg (by exact hg4) ?_;refine Gz 5 ?_;refine S5 Cn rfl ?_;intro w5 hg5 hs5 hf5;have hg5:w5.heap[w4.heap.size]?=some (.cells (bN (fun _=>0) []).toArray 88 (0,0)):=hg5;have hlt4:W.heap.size<w4.heap.size:=by have:=hf2.size;have:=hf3.size;have:=hf4.size;have:w1.heap.size≤w2.heap.size:=hf2.WE.size;omega
 have hF5:=hF4.trans hf5;have hp5:=hf5.obj hg4 id;have hL5:VwM 3 fdV w5.heap ao4 c4 (bF (F 0)):=(ho4.vw fG).WG hf5;have hLlen:=kI (F 0);have hne4:∀ a,ao4=some a→a.block<w4.heap.size:=fun a ha=>ho4.lt a ha;refine Gz 11 ?_;refine S4 (β:=Nat) (fun k=>[(1,pT W.heap.size),(4,pT w4.heap.size),(14,.slice ao4 (bF (F 0)).length c4),(15,iV (bF (F 0)).length),(16,iV k)]) (fun k w=>k≤(bF (F 0)).length∧w.heap[w4.heap.size]?=some (.cells (bN (iD F ((bF (F 0)).take k)) []).toArray 88 (0,0))∧(∀ x∈(bF (F 0)).take k,okF F x)∧w.heap[W.heap.size]?=some (.cells (bN F T).toArray 88 (0,0))∧VwM 3 fdV w.heap ao4 c4 (bF (F 0))∧w4.heap.size<w.heap.size∧aA nob W w) (fun k=>(bF (F 0)).length-k) 0 ⟨rfl,rfl,rfl,rfl,rfl,trivial⟩ ⟨WU _,by rw[Yr,EI];exact hg5,by simp,hp5,hL5,by omega,hF5⟩ ?_;rintro k w6 ⟨hk,hq,hall,hp,hL,hlt6,hF6⟩;refine fK 2 ?_ ?_<;>intro h17
 ·refine Gz 10 ?_;have hkL:k<(bF (F 0)).length:=by omega
  have hrow:=J1 hL (k:=k) rfl hkL;have hmem:=BA hkL;obtain⟨⟨hfn,ho10,ho0,hcall⟩,hb1,hb4,hm0,hmb⟩:=qV hmem;obtain⟨x,hx⟩:∃ x,x=(bF (F 0)).getD k fd0:=⟨_,rfl⟩
  rw[←hx] at hrow hmem hfn ho10 ho0 hcall hb1 hb4 hm0;refine cL (S1 uB rfl rfl hL.non (by omega)) ?_;refine cL (Tf (cs:=fdV x) Ch rfl hrow) ?_;refine S5 jK rfl ?_;intro w7 hg7 hs7 hf7;refine sA rfl Ch (by simp[fdV,Value.oneCell']) hg7 ?_;intro w8 hg8 hs8 hf8;have hF8:aA nob w6 w8:=hf7.WD hf8 (fun k hk=>.inr (by omega));have hp8:=hF8.obj hp id;have hq8:=hF8.obj hq id;refine Gz 6 ?_;refine Uh hfn rfl rfl (hcall W.heap.size w8) rfl ?_;rintro _ w9 ⟨rfl,hw9⟩;subst w9;refine Gz 1 ?_;refine cL (S2 aF rfl (aT hp8 (rQ F T ho10))) ?_;refine fK 7 ?_ ?_<;>intro h26
  ·have hbad:¬ jS F T:=fun h=>by have:=Bz h x hmem;unfold okF at this;omega
   refine Gz 22 ?_;exact⟨_,rfl,cD hbad,(hF6.trans hF8)⟩
  refine fW 4 ?_ ?_<;>intro h31
  ·have hbad:¬ jS F T:=fun h=>by have:=Bz h x hmem;unfold okF at this;omega
   refine Gz 17 ?_;exact⟨_,rfl,cD hbad,(hF6.trans hF8)⟩
  refine Gz 9 ?_;refine Uh hfn rfl rfl (hcall w4.heap.size w8) rfl ?_;rintro _ w9 ⟨rfl,hw9⟩;subst w9;refine Gz 2 ?_;refine S6 aF rfl rfl rfl hq8 (by simp[bN];omega) ?_;intro w10 hg10 hs10 hf10;rw[Dn _ _ ho10,Dj,hx,←B0 hkL] at hg10;refine Gz 7 ?_;refine aG (k+1) ?_ (by show (bF (F 0)).length-(k+1)<(bF (F 0)).length-k;omega);have hF10:aA (· = w4.heap.size) w6 w10:=(hF8.mono (fun _ h=>h.elim)).trans hf10;refine⟨by omega,hg10,fun y hy=>?_,hF10.obj hp (by omega),hL.WH hF10 (fun a ha e=>by have:=hne4 a ha;omega),by have:=hF10.size;omega,(hF6.trans hF8).WD hf10 (fun k hk=>.inr (by omega))⟩;rw[B0 hkL,←hx] at hy;rcases Xj.1 hy with hy|hy
  ·exact hall y hy
  ·rw[Xg] at hy;subst hy;unfold okF;omega
 refine Gz 12 ?_;have hfin:=vT hk (by assumption);rw[hfin] at hq hall;obtain⟨k0,k2,k1⟩:=Lv hall;refine Gz 2 ?_;refine S6 aF rfl rfl rfl hq rfl ?_;intro w11 hg11 hs11 hf11;have hg11:w11.heap[w4.heap.size]?=some (.cells (bN (upd (iD F (bF (F 0))) 0 (F 0)) []).toArray 88 (0,0)):=by rw[←Dn _ _ (by decide)];exact hg11
 have hp11:=hf11.obj hp (by omega);have hF11:aA nob W w11:=hF6.WD hf11 (fun k hk=>.inr (by omega));refine Gz 2 ?_;refine Tw (β:=By) (fun U=>[(1,pT W.heap.size),(4,pT w4.heap.size)]) (fun U w=>(if F 0=3 then T else [])=U∧w.heap[w4.heap.size]?=some (.cells (bN (upd (iD F (bF (F 0))) 0 (F 0)) U).toArray 88 (0,0))∧w.heap[W.heap.size]?=some (.cells (bN F T).toArray 88 (0,0))∧aA nob W w) ?_ ?_
 ·refine fK 4 ?_ ?_<;>intro h44
  ·refine Gz 7 ?_;refine S6 eG rfl rfl rfl hg11 rfl ?_;intro w12 hg12 hs12 hf12;have hp12:=hf12.obj hp11 (show ¬ (W.heap.size=w4.heap.size) by omega);have hF12:aA nob W w12:=hF11.tw hf12;refine Gz 1 ?_;refine aC (if F 0=3 then T else []) ?_;exact⟨rfl,by rw[WJ h44];exact hg12,hp12,hF12⟩
  refine Gz 4 ?_;refine aC (if F 0=3 then T else []) ?_;exact⟨rfl,by rw[WI h44];exact hg11,hp11,hF11⟩
 rintro U w13 ⟨hU,hqz,hpz,hFz⟩;refine Gz 3 ?_;refine cL (Tf (cs:=bN (upd (iD F (bF (F 0))) 0 (F 0)) U) lD rfl (fun j v hj=>aD hqz hj)) ?_;refine cL (Tf (cs:=bN F T) lD rfl (fun j v hj=>aD hpz hj)) ?_;refine TE (Vk rfl rfl) rfl (fun h50=>?_) (fun h50=>?_)
 ·rw[xR,←hU] at h50;have hbad:¬ jS F T:=fun h=>by have:=h.1;unfold bH at this;apply h50;refine⟨fun _=>by omega,fun _ _=>by omega,?_⟩;by_cases h3:F 0=3;rw[WJ h3];rw[WI h3];exact(W6 (by omega)).symm
  refine Gz 16 ?_;exact⟨_,rfl,cD hbad,hFz⟩
 have hsame:=(xR F U T).1 (X4.1 h50);obtain⟨s8,s6,sU⟩:=hsame;have sT:F 0≠3→T.length=0:=fun h3=>by rw[←sU,←hU,WI h3];rfl
 refine fW 3 ?_ ?_<;>intro h54
 ·have hbad:¬ jS F T:=fun h=>by have:=h.1;unfold bH at this;omega
  refine Gz 12 ?_;exact⟨_,rfl,cD hbad,hFz⟩
 refine fK 16 ?_ ?_<;>intro h59
 ·refine Gz 8 ?_;refine cL (T3 rfl rfl (by omega) (by decide)) ?_;refine fK 0 ?_ ?_<;>intro h63
  ·refine fK 7 ?_ ?_<;>intro h66
   ·refine Gz 1 ?_;refine cL (T6 ty4 rfl rfl) ?_;refine Gz 15 ?_;exact⟨_,rfl,zH ⟨by unfold bH;omega,fun h3=>by first|exact hnul|omega⟩,hFz⟩
   refine Gz 1 ?_;refine cL (T6 ty4 rfl rfl) ?_;refine Gz 15 ?_;exact⟨_,rfl,cD (fun h=>by have:=h.1;unfold bH at this;omega),hFz⟩
  refine fK 7 ?_ ?_<;>intro h66
  ·refine Gz 1 ?_;refine cL (T6 ty4 rfl rfl) ?_;refine Gz 15 ?_;exact⟨_,rfl,cD (fun h=>by have:=h.1;unfold bH at this;omega),hFz⟩
  refine Gz 1 ?_;refine cL (T6 ty4 rfl rfl) ?_;refine fW 5 ?_ ?_<;>intro h74
  ·refine Gz 9 ?_;exact⟨_,rfl,zH ⟨by unfold bH;omega,fun h3=>by first|exact hnul|omega⟩,hFz⟩
  refine Gz 9 ?_;exact⟨_,rfl,cD (fun h=>by have:=h.1;unfold bH at this;omega),hFz⟩
 refine fK 6 ?_ ?_<;>intro h78
 ·refine fK 8 ?_ ?_<;>intro h81
  ·refine Gz 7 ?_;exact⟨_,rfl,zH ⟨by unfold bH;omega,fun h3=>by first|exact hnul|omega⟩,hFz⟩
  refine Gz 7 ?_;exact⟨_,rfl,cD (fun h=>by have:=h.1;unfold bH at this;omega),hFz⟩
 refine fK 6 ?_ ?_<;>intro h83
 ·refine Gz 8 ?_;refine cL (Tv ty9 rfl) ?_;refine fK 0 ?_ ?_<;>intro h87
  ·refine Gz 3 ?_;refine cW (Tv ty9 rfl) ?_;refine fW 0 ?_ ?_<;>intro h92
   ·refine Gz 4 ?_;refine Tb rfl rfl JO rfl (EJ _ 0 w13) rfl ?_;rintro _ w14 ⟨rfl,hw14⟩;subst w14;refine fW 0 ?_ ?_<;>intro h98
    ·have hnul:=rD h98;refine Gz 8 ?_;exact⟨_,rfl,zH ⟨by unfold bH;omega,fun h3=>by first|exact hnul|omega⟩,hFz⟩
    have hnul:=rB (Int.not_lt.1 h98);refine Gz 8 ?_;exact⟨_,rfl,cD (fun h=>h.2 (by omega) hnul),hFz⟩
   refine Gz 14 ?_;exact⟨_,rfl,cD (fun h=>by have:=h.1;unfold bH at this;omega),hFz⟩
  refine Gz 19 ?_;exact⟨_,rfl,cD (fun h=>by have:=h.1;unfold bH at this;omega),hFz⟩
 refine Gz 14 ?_;exact⟨_,rfl,cD (fun h=>by have:=h.1;unfold bH at this;omega),hFz⟩
theorem Iw(F:Nat→Int)(T:By)(W:World)(hT:T.length≤maxLen) :
 CA 140 [.agg (bN F T).toArray] W fun v w'=>v=.bool (decide (jS F T))∧aA nob W w':=by
 have hTl:(T.length:Int)≤9223372036854775807:=by unfold maxLen at hT;omega
 refine cS 201 [(0,_)] Tryz.func140 ?_;refine Gz 2 ?_;refine To rfl rfl ?_;intro w1 hg1 hs1 hf1;have hg1:w1.heap[W.heap.size]?=some (.cells (bN F T).toArray 88 (0,0)):=hg1;refine fK 8 ?_ ?_<;>intro h6
 ·refine Gz 56 ?_;exact⟨_,rfl,cD (fun h=>by have:=h.1;unfold bH at this;omega),hf1⟩
 refine fW 3 ?_ ?_<;>intro h10
 ·refine Gz 52 ?_;exact⟨_,rfl,cD (fun h=>by have:=h.1;unfold bH at this;omega),hf1⟩
 refine fW 4 ?_ ?_<;>intro h15
 ·refine Gz 47 ?_;exact⟨_,rfl,cD (fun h=>by have:=h.1;unfold bH at this;omega),hf1⟩
 refine fW 4 ?_ ?_<;>intro h20
 ·refine Gz 42 ?_;exact⟨_,rfl,cD (fun h=>by have:=h.1;unfold bH at this;omega),hf1⟩
 refine fW 4 ?_ ?_<;>intro h25
 ·refine Gz 37 ?_;exact⟨_,rfl,cD (fun h=>by have:=h.1;unfold bH at this;omega),hf1⟩
 refine fW 4 ?_ ?_<;>intro h30
 ·refine Gz 32 ?_;exact⟨_,rfl,cD (fun h=>by have:=h.1;unfold bH at this;omega),hf1⟩
 refine fW 4 ?_ ?_<;>intro h35
 ·refine Gz 27 ?_;exact⟨_,rfl,cD (fun h=>by have:=h.1;unfold bH at this;omega),hf1⟩
 refine fW 4 ?_ ?_<;>intro h40
 ·refine Gz 22 ?_;exact⟨_,rfl,cD (fun h=>by have:=h.1;unfold bH at this;omega),hf1⟩
 refine fW 4 ?_ ?_<;>intro h45
 ·refine Gz 17 ?_;exact⟨_,rfl,cD (fun h=>by have:=h.1;unfold bH at this;omega),hf1⟩
 refine fW 4 ?_ ?_<;>intro h50
 ·refine Gz 12 ?_;exact⟨_,rfl,cD (fun h=>by have:=h.1;unfold bH at this;omega),hf1⟩
 refine fK 16 ?_ ?_<;>intro h55
 ·refine fK 9 ?_ ?_<;>intro h58
  ·refine Gz 38 ?_;exact⟨_,rfl,cD (fun h=>by have:=h.1;unfold bH at this;omega),hf1⟩
  refine fW 3 ?_ ?_<;>intro h62
  ·refine Gz 34 ?_;exact⟨_,rfl,cD (fun h=>by have:=h.1;unfold bH at this;omega),hf1⟩
  refine fW 4 ?_ ?_<;>intro h67
  ·refine Gz 29 ?_;exact⟨_,rfl,cD (fun h=>by have:=h.1;unfold bH at this;omega),hf1⟩
  refine fW 4 ?_ ?_<;>intro h72
  ·refine Gz 24 ?_;exact⟨_,rfl,cD (fun h=>by have:=h.1;unfold bH at this;omega),hf1⟩
  refine fW 4 ?_ ?_<;>intro h77
  ·refine Gz 2 ?_;refine cW (T3 rfl rfl (by omega) (by decide)) ?_;refine fW 0 ?_ ?_<;>intro h81
   ·refine cW (T7 ty4 rfl rfl) ?_;refine fK 10 ?_ ?_<;>intro h86
    ·refine fW 3 ?_ ?_<;>intro h90
     ·refine fW 4 ?_ ?_<;>intro h95
      ·refine fW 4 ?_ ?_<;>intro h100
       ·refine fW 4 ?_ ?_<;>intro h105
        ·refine fW 9 ?_ ?_<;>intro h115
         ·have hT0:T.length=0:=by rw[h115];rfl
          refine Gz 8 ?_;exact⟨_,rfl,zH ⟨by unfold bH;omega,fun h3=>by omega⟩,hf1⟩
         have hT0:T.length≠0:=fun e=>h115 (W6 e);refine Gz 8 ?_;exact⟨_,rfl,cD (fun h=>by have:=h.1;unfold bH at this;omega),hf1⟩
        refine fW 3 ?_ ?_<;>intro h109
        ·refine fW 5 ?_ ?_<;>intro h115
         ·have hT0:T.length=0:=by rw[h115];rfl
          refine Gz 8 ?_;exact⟨_,rfl,zH ⟨by unfold bH;omega,fun h3=>by omega⟩,hf1⟩
         have hT0:T.length≠0:=fun e=>h115 (W6 e);refine Gz 8 ?_;exact⟨_,rfl,cD (fun h=>by have:=h.1;unfold bH at this;omega),hf1⟩
        refine Gz 14 ?_;exact⟨_,rfl,cD (fun h=>by have:=h.1;unfold bH at this;omega),hf1⟩
       refine Gz 23 ?_;exact⟨_,rfl,cD (fun h=>by have:=h.1;unfold bH at this;omega),hf1⟩
      refine Gz 28 ?_;exact⟨_,rfl,cD (fun h=>by have:=h.1;unfold bH at this;omega),hf1⟩
     refine Gz 33 ?_;exact⟨_,rfl,cD (fun h=>by have:=h.1;unfold bH at this;omega),hf1⟩
    refine Gz 37 ?_;exact⟨_,rfl,cD (fun h=>by have:=h.1;unfold bH at this;omega),hf1⟩
   refine cW (T7 ty4 rfl rfl) ?_;refine Gz 14 ?_;exact⟨_,rfl,cD (fun h=>by have:=h.1;unfold bH at this;omega),hf1⟩
  refine Gz 2 ?_;refine cW (T3 rfl rfl (by omega) (by decide)) ?_;refine fW 0 ?_ ?_<;>intro h81
  ·refine cW (T7 ty4 rfl rfl) ?_;refine Gz 14 ?_;exact⟨_,rfl,cD (fun h=>by have:=h.1;unfold bH at this;omega),hf1⟩
  refine cW (T7 ty4 rfl rfl) ?_;refine fK 10 ?_ ?_<;>intro h86
  ·refine fW 3 ?_ ?_<;>intro h90
   ·refine fW 4 ?_ ?_<;>intro h95
    ·refine fW 4 ?_ ?_<;>intro h100
     ·refine fW 4 ?_ ?_<;>intro h105
      ·refine fW 9 ?_ ?_<;>intro h115
       ·have hT0:T.length=0:=by rw[h115];rfl
        refine Gz 8 ?_;exact⟨_,rfl,zH ⟨by unfold bH;omega,fun h3=>by omega⟩,hf1⟩
       have hT0:T.length≠0:=fun e=>h115 (W6 e);refine Gz 8 ?_;exact⟨_,rfl,cD (fun h=>by have:=h.1;unfold bH at this;omega),hf1⟩
      refine fW 3 ?_ ?_<;>intro h109
      ·refine fW 5 ?_ ?_<;>intro h115
       ·have hT0:T.length=0:=by rw[h115];rfl
        refine Gz 8 ?_;exact⟨_,rfl,zH ⟨by unfold bH;omega,fun h3=>by omega⟩,hf1⟩
       have hT0:T.length≠0:=fun e=>h115 (W6 e);refine Gz 8 ?_;exact⟨_,rfl,cD (fun h=>by have:=h.1;unfold bH at this;omega),hf1⟩
      refine Gz 14 ?_;exact⟨_,rfl,cD (fun h=>by have:=h.1;unfold bH at this;omega),hf1⟩
     refine Gz 23 ?_;exact⟨_,rfl,cD (fun h=>by have:=h.1;unfold bH at this;omega),hf1⟩
    refine Gz 28 ?_;exact⟨_,rfl,cD (fun h=>by have:=h.1;unfold bH at this;omega),hf1⟩
   refine Gz 33 ?_;exact⟨_,rfl,cD (fun h=>by have:=h.1;unfold bH at this;omega),hf1⟩
  refine Gz 37 ?_;exact⟨_,rfl,cD (fun h=>by have:=h.1;unfold bH at this;omega),hf1⟩
 refine fK 6 ?_ ?_<;>intro h118
 ·refine fK 8 ?_ ?_<;>intro h121
  ·refine fW 3 ?_ ?_<;>intro h125
   ·refine fW 4 ?_ ?_<;>intro h130
    ·refine fW 4 ?_ ?_<;>intro h135
     ·refine fW 4 ?_ ?_<;>intro h140
      ·refine fW 4 ?_ ?_<;>intro h145
       ·refine fW 4 ?_ ?_<;>intro h150
        ·refine fW 4 ?_ ?_<;>intro h155
         ·have hT0:T.length=0:=by rw[h155];rfl
          refine Gz 8 ?_;exact⟨_,rfl,zH ⟨by unfold bH;omega,fun h3=>by omega⟩,hf1⟩
         have hT0:T.length≠0:=fun e=>h155 (W6 e);refine Gz 8 ?_;exact⟨_,rfl,cD (fun h=>by have:=h.1;unfold bH at this;omega),hf1⟩
        refine Gz 13 ?_;exact⟨_,rfl,cD (fun h=>by have:=h.1;unfold bH at this;omega),hf1⟩
       refine Gz 18 ?_;exact⟨_,rfl,cD (fun h=>by have:=h.1;unfold bH at this;omega),hf1⟩
      refine Gz 23 ?_;exact⟨_,rfl,cD (fun h=>by have:=h.1;unfold bH at this;omega),hf1⟩
     refine Gz 28 ?_;exact⟨_,rfl,cD (fun h=>by have:=h.1;unfold bH at this;omega),hf1⟩
    refine Gz 33 ?_;exact⟨_,rfl,cD (fun h=>by have:=h.1;unfold bH at this;omega),hf1⟩
   refine Gz 38 ?_;exact⟨_,rfl,cD (fun h=>by have:=h.1;unfold bH at this;omega),hf1⟩
  refine Gz 42 ?_;exact⟨_,rfl,cD (fun h=>by have:=h.1;unfold bH at this;omega),hf1⟩
 refine fK 6 ?_ ?_<;>intro h158
 ·refine Gz 11 ?_;refine S4 (β:=Nat) (fun k=>[(1,pT W.heap.size),(3,iV k)]) (fun k w=>k≤T.length∧(∀ i,i<k→T.getD i 0≠0)∧w=w1) (fun k=>T.length-k) 0 ⟨rfl,rfl,trivial⟩ ⟨WU _,by intro i hi;omega,rfl⟩ ?_;rintro k w2 ⟨hk,hgood,hw2⟩;subst hw2;refine Gz 6 ?_;refine cL (Tv ty9 rfl) ?_;refine fK 0 ?_ ?_<;>intro h163
  ·refine Gz 12 ?_;refine cL (Uj ty9 rfl rfl (by omega)) ?_;refine fK 0 ?_ ?_<;>intro h170
   ·have hnul:(0:UInt8)∈T:=by
     have e:T.getD k 0=0:=XS.1 (by have:((T.getD ((k:Int)).toNat 0).toNat:Int)=0:=h170;have e2:((k:Int)).toNat=k:=rfl;rw[e2] at this;show _=0;omega);have hk2:k<T.length:=by omega
     rw[WW,WK hk2] at e;rw[←e];exact XE hk2
    refine Gz 17 ?_;exact⟨_,rfl,cD (fun h=>h.2 (by omega) hnul),hf1⟩
   refine Gz 11 ?_;refine aG (k+1) ?_ (by show T.length-(k+1)<T.length-k;omega);refine⟨by omega,fun i hi=>?_,rfl⟩;by_cases hik:i=k
   ·subst hik;intro e;exact h170 (by rw[show ((i:Int)).toNat=i from rfl,e];rfl)
   ·exact hgood i (by omega)
  refine Gz 12 ?_;refine cL (Tv ty9 rfl) ?_;refine fK 0 ?_ ?_<;>intro h174
  ·refine Gz 3 ?_;refine cW (Tv ty9 rfl) ?_;refine fW 0 ?_ ?_<;>intro h179
   ·refine fW 4 ?_ ?_<;>intro h184
    ·refine fW 4 ?_ ?_<;>intro h189
     ·refine fW 4 ?_ ?_<;>intro h194
      ·refine fW 4 ?_ ?_<;>intro h199
       ·refine Gz 8 ?_;exact⟨_,rfl,zH ⟨by unfold bH;omega,fun h3 h0=>by obtain⟨i,hi,e⟩:=XF h0;exact hgood i (by omega) (by simp[WW,hi,e])⟩,hf1⟩
       refine Gz 8 ?_;exact⟨_,rfl,cD (fun h=>by have:=h.1;unfold bH at this;omega),hf1⟩
      refine Gz 13 ?_;exact⟨_,rfl,cD (fun h=>by have:=h.1;unfold bH at this;omega),hf1⟩
     refine Gz 18 ?_;exact⟨_,rfl,cD (fun h=>by have:=h.1;unfold bH at this;omega),hf1⟩
    refine Gz 23 ?_;exact⟨_,rfl,cD (fun h=>by have:=h.1;unfold bH at this;omega),hf1⟩
   refine Gz 28 ?_;exact⟨_,rfl,cD (fun h=>by have:=h.1;unfold bH at this;omega),hf1⟩
  refine Gz 33 ?_;exact⟨_,rfl,cD (fun h=>by have:=h.1;unfold bH at this;omega),hf1⟩
 refine Gz 14 ?_;exact⟨_,rfl,cD (fun h=>by have:=h.1;unfold bH at this;omega),hf1⟩
def uP(s:Int×By)(t:By):Int×By:=(gX s.1 t,jF s.1 s.2 t)
def xF(s:Int×By)(x:Xa):Int×By:=uP (uP s x.1) x.2
def xSt(X:List Xa)(k:Nat):Int×By:=(X.take k).foldl xF (cG 1 (0,[]) X.length)
theorem qI(X:List Xa)(k:Nat)(h:k<X.length):xSt X (k+1)=xF (xSt X k) (X.getD k x0):=by
 unfold xSt;rw[Xb h,XY];simp[WW,h]
theorem gJ{s:Int×By}{t:By}(h:s.1=0)(ht:t.length≤255):(uP s t).1=0∧(uP s t).2.length=s.2.length+1+t.length:=by
 refine⟨by show gX s.1 t=0;rw[lK (.inr (by omega)),h],?_⟩;show (jF s.1 s.2 t).length=_;unfold jF;rw[WI (by omega)];simp only[WM,W7];omega
theorem vW{X:List Xa}(h:dV X):∀ k,k≤X.length→(xSt X k).1=0∧(xSt X k).2.length≤1+300*k
|0,_=>by
   have hb:=jX (n:=X.length) (by have:=h.2;omega);have h1:dU 0 X.length 1=0:=bC hb;refine⟨h1,?_⟩;show (kU 0 [] X.length 1).length≤_;rw[iQ h1,WM,bB];simp
|k+1,hk=>by
   obtain⟨h1,h2⟩:=vW h k (by omega);obtain⟨_,g2,_,g4⟩:=h.1 k (by omega);rw[qI X k (by omega)];obtain⟨a1,a2⟩:=gJ (s:=xSt X k) (t:=(X.getD k x0).1) h1 (by omega);obtain⟨b1,b2⟩:=gJ (s:=uP (xSt X k) (X.getD k x0).1) (t:=(X.getD k x0).2) a1 (by omega);exact⟨b1,by show (uP (uP (xSt X k) (X.getD k x0).1) (X.getD k x0).2).2.length≤_;omega⟩
def eM(X:List Xa):By×Int:=if X.length=0∨¬ dV X then ([],1) else ((xSt X X.length).2,0)
theorem Ly(xo:Option Addr)(xc:Nat)(X:List Xa)(W:World)(hv:XaV W.heap xo xc X) :
 CA 124 [.slice xo X.length xc] W (sP W (eM X)):=by
 have hl:=hv.WF;refine cS 35 [(0,_)] Tryz.func124 ?_;refine fK 11 ?_ ?_<;>intro h9
 ·refine Gz 17 ?_;have e:eM X=([],1):=by unfold eM;rw[WJ (.inl (by omega))]
  rw[e];exact⟨_,rfl,none,0,rfl,V8,V6,VZ _ _⟩
 refine Gz 2 ?_;refine Tb rfl rfl Pv rfl (LP xo xc X W hv) rfl ?_;rintro _ w0 ⟨rfl,hF0⟩;refine Tz rfl rfl (T9 rfl) rfl (fun h13=>?_) (fun h13=>?_)
 ·have hm:¬ dV X:=of_decide_eq_false h13;refine Gz 13 ?_;have e:eM X=([],1):=by unfold eM;rw[WJ (.inr hm)]
  rw[e];exact⟨_,rfl,none,0,rfl,V8,V6,hF0⟩
 have hm:dV X:=WV fun h=>h13 (WL h);have hlen:=vW hm;have hm8:=hm.2;refine Gz 8 ?_;refine S5 zV rfl ?_;intro w1 hg1 hs1 hf1;refine Gz 6 ?_;refine SZ yC rfl (pQ (fun k=>w0.heap.size≤k) w0.heap.size 0 [] _ 1 w1 (We hg1 (WT _)) (bO hf1 (fun k hk=>hk)) (by simp)) rfl ?_;rintro _ w1b ⟨hP1,hF1⟩;refine Gz 11 ?_;refine S4 (β:=Nat) (fun k=>[(4,pT w0.heap.size),(18,.slice xo X.length xc),(19,iV X.length),(20,iV k)]) (fun k w=>k≤X.length∧WrL (fun k=>w0.heap.size≤k) w.heap w0.heap.size (xSt X k).1 (xSt X k).2∧aA nob w0 w) (fun k=>X.length-k) 0 ⟨rfl,rfl,rfl,rfl,trivial⟩ ⟨WU _,hP1,(hf1.any.trans hF1).fresh (fun k hk=>hk)⟩ ?_;rintro k w2 ⟨hk,hP2,hF2⟩;refine fK 2 ?_ ?_<;>intro h21
 ·refine Gz 10 ?_;obtain⟨xa,xc2,hrow0,hxv,hnl⟩:=hv.at (i:=k) rfl (by omega);obtain⟨_,q2,_,q4⟩:=hm.1 k (by omega);have hFW:=hF0.trans hF2;have hrow:=fun j v h=>mU (hrow0 j v h) hFW id;obtain⟨z1,z2⟩:=hlen k hk;refine cL (S1 gZ rfl rfl hv.non (by omega)) ?_;refine cL (Tf (cs:=[.string (bs (X.getD k x0).1),.slice xa (X.getD k x0).2.length xc2]) eK rfl hrow) ?_;refine S5 tY rfl ?_;intro w3 hg3 hs3 hf3;refine sA rfl eK (by simp[Value.oneCell']) hg3 ?_;intro w4 hg4 hs4 hf4;have hF4:aA nob w2 w4:=hf3.WD hf4 (fun k hk=>.inr (by omega));have hP4:=hP2.shrink hF4;refine Gz 6 ?_;refine SZ Gi rfl (qJ _ w0.heap.size _ _ _ w4 hP4 (fun k hk=>⟨Xf (hF2.trans hF4).size hk,.inr hk⟩) (by omega)) rfl ?_;rintro _ w5 ⟨hP5,hF5⟩;have hg5:=hF5.obj hg4 (fun h=>by rcases h.2 with h|h<;>omega);have hF05:aA nob w0 w5:=((hF2.trans hF4).any.trans hF5).fresh (fun k hk=>hk.1);obtain⟨a1,a2⟩:=gJ (s:=xSt X k) (t:=(X.getD k x0).1) z1 (by omega);have a3:(jF (xSt X k).1 (xSt X k).2 (X.getD k x0).1).length=_:=a2;refine Gz 5 ?_;refine cL (TM aH ty5 ty9 rfl (hxv.WG (hF0.trans hF05))) ?_;refine SZ Gi rfl (qJ _ w0.heap.size _ _ _ w5 hP5 (fun k hk=>⟨Xf hF05.size hk,.inr (Xf hF5.size hk)⟩) (by omega)) rfl ?_;rintro _ w6 ⟨hP6,hF6⟩;refine Gz 7 ?_;refine aG (k+1) ?_ (by show X.length-(k+1)<X.length-k;omega);exact⟨by omega,by rw[qI X k (by omega)];exact hP6.mono (fun q hq=>hq.1),(hF05.any.trans hF6).fresh (fun k hk=>hk.1)⟩
 refine Gz 11 ?_;refine SZ BY rfl (gW _ w0.heap.size _ _ w2 hP2 (by have:=(hlen k hk).2;have:=hm.2;omega)) rfl ?_;rintro _ w3 ⟨ao3,c3,rfl,ho3,hfr3,hf3⟩;refine Gz 1 ?_;refine SZ Dv rfl (qB _ w0.heap.size _ _ w3 (hP2.WG hf3)) rfl ?_;rintro _ w4 ⟨rfl,hw4⟩;subst w4;refine Gz 6 ?_;have hk2:k=X.length:=by omega
 subst hk2;have z:=(hlen _ (WT _)).1;have e:eM X=(dJ (xSt X X.length).1 (xSt X X.length).2,(xSt X X.length).1):=by unfold eM dJ;rw[WI (by intro h;rcases h with h|h;omega;exact h hm),WI (by omega),z]
 rw[e];exact⟨_,rfl,ao3,c3,rfl,ho3,hfr3.mono (Xf hF0.size hF2.size),(hF0.trans hF2).trans hf3⟩
theorem Iq(xo:Option Addr)(xc:Nat)(X:List Xa)(W:World)(hv:XaV W.heap xo xc X) :
 CA 139 [.slice xo X.length xc] W (sP W (eM X)):=by
 have hl:=hv.WF;refine cS 40 [(0,_)] Tryz.func139 ?_;refine cA 9 JQ (wS xo xc X W hv) ?_;rintro _ w0 ⟨rfl,hF0⟩;refine Gz 7 ?_;refine TE (T9 rfl) rfl (fun h10=>?_) (fun h10=>?_)
 ·have hm:¬ dV X:=of_decide_eq_false h10;refine Gz 17 ?_;have e:eM X=([],1):=by unfold eM;rw[WJ (.inr hm)]
  rw[e];exact⟨_,rfl,none,0,rfl,V8,V6,hF0⟩
 have hm:dV X:=WV fun h=>h10 (WL h);have hlen:=vW hm;have hm8:=hm.2;refine fW 3 ?_ ?_<;>intro h14
 ·refine Gz 13 ?_;have e:eM X=([],1):=by unfold eM;rw[WJ (.inl (by omega))]
  rw[e];exact⟨_,rfl,none,0,rfl,V8,V6,hF0⟩
 refine Gz 8 ?_;refine cL (TC pM kW rfl rfl) ?_;refine S5 kW rfl ?_;intro w1 hg1 hs1 hf1;refine sA rfl qF (by simp[Value.oneCell']) hg1 ?_;intro w1a hg1a hs1a hf1a;have hF1a:aA nob w0 w1a:=hf1.WD hf1a (fun k hk=>.inr (by omega));refine Gz 6 ?_;refine SZ fV rfl (dB (fun k=>w0.heap.size≤k) w0.heap.size 0 [] _ 1 w1a (Wf hg1a (WT _)) (bO hF1a (fun k hk=>hk)) (by simp)) rfl ?_;rintro _ w1b ⟨hP1,hF1⟩;refine Gz 9 ?_;refine S4 (β:=Nat) (fun k=>[(0,.slice xo X.length xc),(5,pT w0.heap.size),(6,iV k)]) (fun k w=>k≤X.length∧WrR (fun k=>w0.heap.size≤k) w.heap w0.heap.size (xSt X k).1 (xSt X k).2∧aA nob w0 w) (fun k=>X.length-k) 0 ⟨rfl,rfl,rfl,trivial⟩ ⟨WU _,hP1,(hF1a.any.trans hF1).fresh (fun k hk=>hk)⟩ ?_;rintro k w2 ⟨hk,hP2,hF2⟩;refine fK 6 ?_ ?_<;>intro h23
 ·refine Gz 11 ?_;obtain⟨xa,xc2,hrow0,hxv,hnl⟩:=hv.at (i:=k) rfl (by omega);obtain⟨_,q2,_,q4⟩:=hm.1 k (by omega);have hFW:=hF0.trans hF2;obtain⟨z1,z2⟩:=hlen k hk;refine cL (S1 gZ rfl rfl hv.non (by omega)) ?_;refine Gz 1 ?_;refine cL (S2 eG rfl (mU (hrow0 0 _ rfl) hFW id)) ?_;refine SZ Dw rfl (qS _ w0.heap.size _ _ _ w2 hP2 (bO hF2 (fun k hk=>hk)) (by omega) (by omega)) rfl ?_;rintro _ w5 ⟨hP5,hF5⟩;have hF05:aA nob w0 w5:=(hF2.any.trans hF5).fresh (fun k hk=>hk);obtain⟨a1,a2⟩:=gJ (s:=xSt X k) (t:=(X.getD k x0).1) z1 (by omega);have a3:(jF (xSt X k).1 (xSt X k).2 (X.getD k x0).1).length=_:=a2;refine Gz 5 ?_;refine cL (S1 gZ rfl rfl hv.non (by omega)) ?_;refine Gz 1 ?_;refine cL (S2 aL rfl (mU (hrow0 1 _ rfl) (hF0.trans hF05) id)) ?_;refine cL (TM aH ty5 ty9 rfl (hxv.WG (hF0.trans hF05))) ?_;refine SZ Dw rfl (qS _ w0.heap.size _ _ _ w5 hP5 (bO hF05 (fun k hk=>hk)) (by omega) (by omega)) rfl ?_;rintro _ w6 ⟨hP6,hF6⟩;refine Gz 8 ?_;refine aG (k+1) ?_ (by show X.length-(k+1)<X.length-k;omega);exact⟨by omega,by rw[qI X k (by omega)];exact hP6,(hF05.any.trans hF6).fresh (fun k hk=>hk)⟩
 refine Gz 10 ?_;refine SZ BX rfl (hO _ w0.heap.size _ _ w2 hP2 (by have:=(hlen k hk).2;have:=hm.2;omega)) rfl ?_;rintro _ w3 ⟨ao3,c3,rfl,ho3,hfr3,hf3⟩;refine Gz 6 ?_;have hk2:k=X.length:=by omega
 subst hk2;have z:=(hlen _ (WT _)).1;have e:eM X=(dJ (xSt X X.length).1 (xSt X X.length).2,0):=by unfold eM dJ;rw[WI (by intro h;rcases h with h|h;omega;exact h hm),WI (by omega)]
 rw[e];exact⟨_,rfl,ao3,c3,rfl,ho3,hfr3.mono (Xf hF0.size hF2.size),(hF0.trans hF2).trans hf3⟩
def IN(F:Nat→Int)(s:Int×By)(x:Fd):Int×By:=cG x.b s (F x.o)
def rSt(F:Nat→Int)(k:Nat):Int×By:=((bF (F 0)).take k).foldl (IN F) (cG 1 (0,[]) (F 0))
def kT(F:Nat→Int)(T:By):Int×By:=if F 0=3 then uP (rSt F (bF (F 0)).length) T else rSt F (bF (F 0)).length
def iO(F:Nat→Int)(T:By):By×Int:=if jS F T then ((kT F T).2,0) else ([],1)
theorem CW(F:Nat→Int)(k:Nat)(h:k<(bF (F 0)).length):rSt F (k+1)=IN F (rSt F k) ((bF (F 0)).getD k fd0):=by
 unfold rSt;rw[B0 h,XY];rfl
theorem uF{s:Int×By}{z n:Int}(h:s.1=0)(hb:¬ eX z n):(cG n s z).1=0∧(cG n s z).2=s.2++le z n.toNat:=by
 have h1:dU s.1 z n=0:=by rw[bC hb,h]
 exact⟨h1,iQ h1⟩
theorem fX{z n m:Int}(h1:1≤n)(h4:n≤4)(h0:0≤z)(hm:z≤m)(hb:m<2 ^ (8*n).toNat):¬ eX z n:=by
 unfold eX;have h2:z/2 ^ (8*n).toNat=0:=Int.ediv_eq_zero_of_lt h0 (by omega);rw[h2];omega
theorem xN{F:Nat→Int}{T:By}(h:jS F T):F 0=1∨F 0=2∨F 0=3:=by
 have:=h.1;unfold bH at this;omega
theorem qW{F:Nat→Int}{T:By}(h:jS F T):∀ k,k≤(bF (F 0)).length→(rSt F k).1=0∧(rSt F k).2.length=1+(((bF (F 0)).take k).map (fun x=>x.b.toNat)).sum
|0,_=>by
   have hk:=xN h;obtain⟨a,b⟩:=uF (s:=(0,[])) (z:=F 0) (n:=1) rfl (fX (m:=3) (by decide) (by decide) (by omega) (by omega) (by decide));exact⟨a,by show (cG 1 (0,[]) (F 0)).2.length=_;rw[b,WM,bB];rfl⟩
|k+1,hk=>by
   obtain⟨h1,h2⟩:=qW h k (by omega);have hm:=BA (k:=F 0) (i:=k) (by omega);obtain⟨_,b1,b4,m0,mb⟩:=qV hm;have ho:=Bz h _ hm;obtain⟨a,b⟩:=uF (s:=rSt F k) (z:=F ((bF (F 0)).getD k fd0).o) (n:=((bF (F 0)).getD k fd0).b) h1 (fX b1 b4 ho.1 ho.2 mb);rw[CW F k (by omega)];refine⟨a,?_⟩;show (cG _ _ _).2.length=_;rw[b,WM,bB,B0 (by omega),YR,List.sum_append,h2];simp;omega
theorem H5(F:Nat→Int)(k:Nat):(((bF (F 0)).take k).map (fun x=>x.b.toNat)).sum≤36:=by
 have h1:∀ (L:List Fd),(∀ x∈L,x.b.toNat≤4)→(L.map (fun x=>x.b.toNat)).sum≤4*L.length:=by
  intro L
  induction L with
 |nil=>intro _;simp
 |cons x r ih=>intro h;have:=ih (fun y hy=>h y (by simp[hy]));have:=h x (by simp);simp only[XQ,List.sum_cons,W7];omega
 have h2:=h1 ((bF (F 0)).take k) (fun x hx=>by have:=qV (List.mem_of_mem_take hx);omega);have h3:=kI (F 0);rw[WR] at h2;omega
theorem GR{F:Nat→Int}{T:By}(h:jS F T):(kT F T).1=0:=by
 obtain⟨h1,h2⟩:=qW h _ (WT _);unfold kT
 split
 · rename_i h3
   have:=h.1;unfold bH at this;exact(gJ h1 (by omega)).1
 ·exact h1
theorem Nv(F:Nat→Int)(T:By)(W:World)(hT:T.length≤maxLen) :
 CA 74 [.agg (bN F T).toArray] W (sP W (iO F T)):=by
 refine cS 41 [(0,_)] Tryz.func74 ?_;refine Gz 2 ?_;refine To rfl rfl ?_;intro w1 hg1 hs1 hf1;have hg1:w1.heap[W.heap.size]?=some (.cells (bN F T).toArray 88 (0,0)):=hg1;refine Gz 7 ?_;refine cL (Tf (cs:=bN F T) lD rfl (fun j v hj=>aD hg1 hj)) ?_;refine cA 0 PR (NP F T w1 hT) ?_;rintro _ w2 ⟨rfl,hf2⟩;refine TE (T9 rfl) rfl (fun h9=>?_) (fun h9=>?_)
 ·have hm:¬ jS F T:=of_decide_eq_false h9;refine Gz 12 ?_;have e:iO F T=([],1):=by unfold iO;rw[WI hm]
  rw[e];exact⟨_,rfl,none,0,rfl,V8,V6,hf1.trans hf2⟩
 have hm:jS F T:=WV fun h=>h9 (WL h);have hlen:=qW hm;have hp2:=hf2.obj hg1 id;have hF2:=hf1.trans hf2;have hlt2:W.heap.size<w2.heap.size:=by have:=hf2.size;omega
 refine Gz 7 ?_;refine S5 zV rfl ?_;intro w3 hg3 hs3 hf3;have hp3:=hf3.obj hp2 id;refine Gz 6 ?_;refine SZ yC rfl (pQ (fun k=>w2.heap.size≤k) w2.heap.size 0 [] (F 0) 1 w3 (We hg3 (WT _)) (bO hf3 (fun k hk=>hk)) (by simp)) rfl ?_;rintro _ w4 ⟨hP4,hf4⟩;have hp4:=hf4.obj hp3 (by omega);have hF4:aA nob w2 w4:=(hf3.any.trans hf4).fresh (fun k hk=>hk);have hP4:WrL (fun k=>w2.heap.size≤k) w4.heap w2.heap.size (rSt F 0).1 (rSt F 0).2:=hP4;refine Gz 4 ?_;refine Tc 7 (fun H=>H[W.heap.size]?=some (.cells (bN F T).toArray 88 (0,0))) [0,3,4] [1,2,6,0,3,4,5] aI (by kernel_rfl) (hp4) ?_;refine Gz 3 ?_;refine S7 rfl rfl (SZ M9 rfl (Bd _) rfl ?_);rintro _ w5 ⟨ao2,c2,rfl,ho2,hfr2,hf5⟩;refine Tg (by exact hf5.obj hp4 id) ?_;refine S7 rfl rfl (SZ M8 rfl (AW (F 0) w5) rfl ?_);rintro _ w6 ⟨ao3,c3,rfl,ho3,hfr3,hf6⟩;refine Tg (by exact hf6.obj (hf5.obj hp4 id) id) ?_;refine S7 rfl rfl (Th fG rfl uB rfl rfl (ho2.WG hf6) (ho3.vw fG) (by have:=kI (F 0);unfold bF at this;rw[WM] at this;omega) (by have:=kI (F 0);unfold bF at this;rw[WM] at this;unfold maxLen;omega) rfl ?_);intro ao4 c4 w7 ho4 hf7 hr4 hn4;have hfr2:Fr w4.heap.size ao2:=hfr2;have hlt4:=hF4.size;have hp7:=hf7.obj (hf6.obj (hf5.obj hp4 id) id) (fun⟨a,ha,hb⟩=>by have:=hfr2 a ha;omega);have hF47:aA nob w4 w7:=(hf5.WE.trans hf6).WD hf7 hfr2.step;have hP7:=hP4.shrink hF47;have hne4:∀ a,ao4=some a→w4.heap.size≤a.block∧a.block<w7.heap.size:=fun a ha=>⟨by rcases hr4 a ha with h|h;exact hfr2 a h;have:=hf5.WE.size;have:=hf6.size;omega,ho4.lt a ha⟩
 have hL7:VwM 3 fdV w7.heap ao4 c4 (bF (F 0)):=ho4.vw fG;have hLlen:=kI (F 0);refine Tg (by exact hp7) ?_;refine Gz 4 ?_;refine S4 (β:=Nat) (fun k=>[(1,pT W.heap.size),(4,pT w2.heap.size),(17,.slice ao4 (bF (F 0)).length c4),(18,iV (bF (F 0)).length),(19,iV k)]) (fun k w=>k≤(bF (F 0)).length∧WrL (fun k=>w2.heap.size≤k∧(k<w4.heap.size∨w7.heap.size≤k)) w.heap w2.heap.size (rSt F k).1 (rSt F k).2∧VwM 3 fdV w.heap ao4 c4 (bF (F 0))∧w.heap[W.heap.size]?=some (.cells (bN F T).toArray 88 (0,0))∧w7.heap.size≤w.heap.size∧w2.heap.size≤w.heap.size∧aA nob W w) (fun k=>(bF (F 0)).length-k) 0 ⟨rfl,rfl,rfl,rfl,rfl,trivial⟩ ⟨WU _,hP7,hL7,hp7,WT _,by have:=hF47.size;omega,(hF2.trans hF4).trans hF47⟩ ?_;rintro k w8 ⟨hk,hP8,hL,hp8,hlt8,hlt82,hF8⟩;refine fK 2 ?_ ?_<;>intro h20
 ·refine Gz 10 ?_;have hkL:k<(bF (F 0)).length:=by omega
  have hrow:=J1 hL (k:=k) rfl hkL;have hmem:=BA hkL;obtain⟨⟨hfn,ho10,ho0,hcall⟩,hb1,hb4,hm0,hmb⟩:=qV hmem;obtain⟨x,hx⟩:∃ x,x=(bF (F 0)).getD k fd0:=⟨_,rfl⟩
  rw[←hx] at hrow hmem hfn ho10 ho0 hcall hb1 hb4 hm0;refine cL (S1 uB rfl rfl hL.non (by omega)) ?_;refine cL (Tf (cs:=fdV x) Ch rfl hrow) ?_;refine S5 jK rfl ?_;intro w9 hg9 hs9 hf9;refine sA rfl Ch (by simp[fdV,Value.oneCell']) hg9 ?_;intro w10 hg10 hs10 hf10;have hF10:aA nob w8 w10:=hf9.WD hf10 (fun k hk=>.inr (by omega));have hp10:=hF10.obj hp8 id;have hP10:=hP8.shrink hF10;have hF10s:=hF10.size;obtain⟨z1,z2⟩:=hlen k hk;have z3:=H5 F k;refine Gz 2 ?_;refine Tc 7 (fun H=>H[W.heap.size]?=some (.cells (bN F T).toArray 88 (0,0))∧H[w8.heap.size]?=some (.cells (fdV x).toArray 196 (0,0))) [2,7] [0,1,5,6,2,3,4,7] aI (by kernel_rfl) (⟨hp10,hg10⟩) ?_;refine Gz 4 ?_;refine S7 rfl rfl (Uh hfn rfl rfl (hcall W.heap.size _) rfl ?_);rintro _ w9b ⟨rfl,hw9⟩;subst w9b;refine Tg (by exact⟨hp10,hg10⟩) ?_;refine Gz 1 ?_;refine xC rfl (S9 aF rfl (fun H hH=>aT hH.1 (rQ F T ho10))) ?_;refine S7 rfl rfl (SZ yC rfl (pQ _ w2.heap.size _ _ (F x.o) x.b _ hP10 (fun k hk=>⟨⟨by have:w10.heap.size≤k:=hk;omega,.inr (by have:w10.heap.size≤k:=hk;omega)⟩,.inr hk⟩) (by omega)) rfl ?_);rintro _ w11 ⟨hP11,hf11⟩;refine Tx rfl ?_;refine Gz 7 ?_;refine aG (k+1) ?_ (by show (bF (F 0)).length-(k+1)<(bF (F 0)).length-k;omega);have hf11:=hf11.WE;have hs11:=hf11.size;exact⟨by omega,by rw[CW F k hkL,←hx];exact hP11.mono (fun q hq=>hq.1),(hL.WG hF10).WH hf11 (fun a ha h=>by have:=hne4 a ha;have:=h.1.2;omega),hf11.obj hp10 (fun h=>by have:=h.1.1;omega),by omega,by omega,((hF8.trans hF10).any.trans hf11).fresh (fun k hk=>by have:=hk.1.1;omega)⟩
 refine Gz 13 ?_;have hkk:k=(bF (F 0)).length:=by omega
 subst hkk;have z:=hlen _ (WT _);have z3:=H5 F (bF (F 0)).length;refine fK 1 ?_ ?_<;>intro h34
 ·refine Gz 6 ?_;refine SZ Gi rfl (qJ _ w2.heap.size _ _ T w8 hP8 (fun k hk=>⟨by omega,.inr (by omega)⟩) (by omega)) rfl ?_;rintro _ w12 ⟨hP12,hf12⟩;have hm3:=hm.1;unfold bH at hm3;have hz:=gJ (s:=rSt F (bF (F 0)).length) (t:=T) z.1 (by omega);have hz2:(jF (rSt F (bF (F 0)).length).1 (rSt F (bF (F 0)).length).2 T).length=_:=hz.2;have hF12:aA nob W w12:=(hF8.any.trans hf12).fresh (fun k hk=>by have:=hk.1;omega);refine Gz 4 ?_;refine SZ BY rfl (gW _ w2.heap.size _ _ w12 hP12 (by omega)) rfl ?_;rintro _ w13 ⟨ao13,c13,rfl,ho13,hfr13,hf13⟩;refine Gz 1 ?_;refine SZ Dv rfl (qB _ w2.heap.size _ _ w13 (hP12.WG hf13)) rfl ?_;rintro _ w14 ⟨rfl,hw14⟩;subst w14;refine Gz 6 ?_;have eE:kT F T=uP (rSt F (bF (F 0)).length) T:=by unfold kT;rw[WJ h34]
  have e:iO F T=(dJ (gX (rSt F (bF (F 0)).length).1 T) (jF (rSt F (bF (F 0)).length).1 (rSt F (bF (F 0)).length).2 T),gX (rSt F (bF (F 0)).length).1 T):=by
   have e0:gX (rSt F (bF (F 0)).length).1 T=0:=hz.1;unfold iO dJ;rw[WJ hm,eE,e0,WI (by omega)];rfl
  rw[e];exact⟨_,rfl,ao13,c13,rfl,ho13,hfr13.mono hF12.size,hF12.trans hf13⟩
 refine Gz 7 ?_;refine SZ BY rfl (gW _ w2.heap.size _ _ w8 hP8 (by omega)) rfl ?_;rintro _ w13 ⟨ao13,c13,rfl,ho13,hfr13,hf13⟩;refine Gz 1 ?_;refine SZ Dv rfl (qB _ w2.heap.size _ _ w13 (hP8.WG hf13)) rfl ?_;rintro _ w14 ⟨rfl,hw14⟩;subst w14;refine Gz 6 ?_;have eE:kT F T=rSt F (bF (F 0)).length:=by unfold kT;rw[WI h34]
 have e:iO F T=(dJ (rSt F (bF (F 0)).length).1 (rSt F (bF (F 0)).length).2,(rSt F (bF (F 0)).length).1):=by
  unfold iO dJ;rw[WJ hm,eE,z.1,WI (by omega)]
 rw[e];exact⟨_,rfl,ao13,c13,rfl,ho13,hfr13.mono hF8.size,hF8.trans hf13⟩
theorem Lk(F:Nat→Int)(T:By)(W:World)(hT:T.length≤maxLen) :
 CA 91 [.agg (bN F T).toArray] W (sP W (iO F T)):=by
 refine cS 59 [(0,_)] Tryz.func91 ?_;refine Gz 2 ?_;refine To rfl rfl ?_;intro w1 hg1 hs1 hf1;have hg1:w1.heap[W.heap.size]?=some (.cells (bN F T).toArray 88 (0,0)):=hg1;refine Gz 6 ?_;refine cL (Tf (cs:=bN F T) lD rfl (fun j v hj=>aD hg1 hj)) ?_;refine cA 0 PJ (Iw F T w1 hT) ?_;rintro _ w2 ⟨rfl,hf2⟩;refine Gz 7 ?_;refine TE (T9 rfl) rfl (fun h9=>?_) (fun h9=>?_)
 ·have hm:¬ jS F T:=of_decide_eq_false h9;refine Gz 12 ?_;have e:iO F T=([],1):=by unfold iO;rw[WI hm]
  rw[e];exact⟨_,rfl,none,0,rfl,V8,V6,hf1.trans hf2⟩
 have hm:jS F T:=WV fun h=>h9 (WL h);have hpw2:=hf2.obj hg1 id;have hF2:=hf1.trans hf2;have hE:=GR hm;have hkind:=xN hm;refine Gz 7 ?_;refine cL (TC pM kW rfl rfl) ?_;refine S5 kW rfl ?_;intro w3 hg3 hs3 hf3;refine sA rfl qF (by simp[Value.oneCell']) hg3 ?_;intro v0 hgv hsv hfv;have hV0:aA nob w2 v0:=hf3.tw hfv;have hp0:=hV0.obj hpw2 id;obtain⟨s0,hs0⟩:∃ s:Int×By,s=(0,[]):=⟨_,rfl⟩
 have hQ0:WrR (fun k=>w2.heap.size≤k) v0.heap w2.heap.size s0.1 s0.2:=by rw[hs0];exact Wf hgv (WT _)
 have hl0:s0.2.length=0:=by rw[hs0];rfl
 refine Gz 6 ?_;refine SZ fV rfl (dB _ w2.heap.size _ _ (F 0) 1 v0 hQ0 (bO hV0 (fun k hk=>hk)) (by omega)) rfl ?_;rintro _ v1 ⟨hQ,hv1⟩;obtain⟨s1,hs1⟩:∃ s,s=cG 1 s0 (F 0):=⟨_,rfl⟩
 have hQ1:WrR (fun k=>w2.heap.size≤k) v1.heap w2.heap.size s1.1 s1.2:=by rw[hs1];exact hQ
 have hl1:s1.2.length≤s0.2.length+4:=by rw[hs1];exact fF _ _ _ _
 have hV1:aA nob w2 v1:=(hV0.any.trans hv1).fresh (fun k hk=>hk);have hp1:=hV1.obj hpw2 id;refine Gz 6 ?_;refine SZ fV rfl (dB _ w2.heap.size _ _ (F 1) 2 v1 hQ1 (bO hV1 (fun k hk=>hk)) (by omega)) rfl ?_;rintro _ v2 ⟨hQ,hv2⟩;obtain⟨s2,hs2⟩:∃ s,s=cG 2 s1 (F 1):=⟨_,rfl⟩
 have hQ2:WrR (fun k=>w2.heap.size≤k) v2.heap w2.heap.size s2.1 s2.2:=by rw[hs2];exact hQ
 have hl2:s2.2.length≤s1.2.length+4:=by rw[hs2];exact fF _ _ _ _
 have hV2:aA nob w2 v2:=(hV1.any.trans hv2).fresh (fun k hk=>hk);have hp2:=hV2.obj hpw2 id;refine Gz 6 ?_;refine SZ fV rfl (dB _ w2.heap.size _ _ (F 2) 2 v2 hQ2 (bO hV2 (fun k hk=>hk)) (by omega)) rfl ?_;rintro _ v3 ⟨hQ,hv3⟩;obtain⟨s3,hs3⟩:∃ s,s=cG 2 s2 (F 2):=⟨_,rfl⟩
 have hQ3:WrR (fun k=>w2.heap.size≤k) v3.heap w2.heap.size s3.1 s3.2:=by rw[hs3];exact hQ
 have hl3:s3.2.length≤s2.2.length+4:=by rw[hs3];exact fF _ _ _ _
 have hV3:aA nob w2 v3:=(hV2.any.trans hv3).fresh (fun k hk=>hk);have hp3:=hV3.obj hpw2 id;refine Gz 6 ?_;refine SZ fV rfl (dB _ w2.heap.size _ _ (F 3) 2 v3 hQ3 (bO hV3 (fun k hk=>hk)) (by omega)) rfl ?_;rintro _ v4 ⟨hQ,hv4⟩;obtain⟨s4,hs4⟩:∃ s,s=cG 2 s3 (F 3):=⟨_,rfl⟩
 have hQ4:WrR (fun k=>w2.heap.size≤k) v4.heap w2.heap.size s4.1 s4.2:=by rw[hs4];exact hQ
 have hl4:s4.2.length≤s3.2.length+4:=by rw[hs4];exact fF _ _ _ _
 have hV4:aA nob w2 v4:=(hV3.any.trans hv4).fresh (fun k hk=>hk);have hp4:=hV4.obj hpw2 id;refine Gz 6 ?_;refine SZ fV rfl (dB _ w2.heap.size _ _ (F 4) 2 v4 hQ4 (bO hV4 (fun k hk=>hk)) (by omega)) rfl ?_;rintro _ v5 ⟨hQ,hv5⟩;obtain⟨s5,hs5⟩:∃ s,s=cG 2 s4 (F 4):=⟨_,rfl⟩
 have hQ5:WrR (fun k=>w2.heap.size≤k) v5.heap w2.heap.size s5.1 s5.2:=by rw[hs5];exact hQ
 have hl5:s5.2.length≤s4.2.length+4:=by rw[hs5];exact fF _ _ _ _
 have hV5:aA nob w2 v5:=(hV4.any.trans hv5).fresh (fun k hk=>hk);have hp5:=hV5.obj hpw2 id;refine Gz 6 ?_;refine SZ fV rfl (dB _ w2.heap.size _ _ (F 5) 4 v5 hQ5 (bO hV5 (fun k hk=>hk)) (by omega)) rfl ?_;rintro _ v6 ⟨hQ,hv6⟩;obtain⟨s6,hs6⟩:∃ s,s=cG 4 s5 (F 5):=⟨_,rfl⟩
 have hQ6:WrR (fun k=>w2.heap.size≤k) v6.heap w2.heap.size s6.1 s6.2:=by rw[hs6];exact hQ
 have hl6:s6.2.length≤s5.2.length+4:=by rw[hs6];exact fF _ _ _ _
 have hV6:aA nob w2 v6:=(hV5.any.trans hv6).fresh (fun k hk=>hk);have hp6:=hV6.obj hpw2 id;refine fK 12 ?_ ?_<;>intro h32
 ·refine Gz 8 ?_;refine SZ fV rfl (dB _ w2.heap.size _ _ (F 6) 4 v6 hQ6 (bO hV6 (fun k hk=>hk)) (by omega)) rfl ?_;rintro _ v7 ⟨hQ,hv7⟩;obtain⟨s7,hs7⟩:∃ s,s=cG 4 s6 (F 6):=⟨_,rfl⟩
  have hQ7:WrR (fun k=>w2.heap.size≤k) v7.heap w2.heap.size s7.1 s7.2:=by rw[hs7];exact hQ
  have hl7:s7.2.length≤s6.2.length+4:=by rw[hs7];exact fF _ _ _ _
  have hV7:aA nob w2 v7:=(hV6.any.trans hv7).fresh (fun k hk=>hk);have hp7:=hV7.obj hpw2 id;refine Gz 6 ?_;refine SZ fV rfl (dB _ w2.heap.size _ _ (F 7) 2 v7 hQ7 (bO hV7 (fun k hk=>hk)) (by omega)) rfl ?_;rintro _ v8 ⟨hQ,hv8⟩;obtain⟨s8,hs8⟩:∃ s,s=cG 2 s7 (F 7):=⟨_,rfl⟩
  have hQ8:WrR (fun k=>w2.heap.size≤k) v8.heap w2.heap.size s8.1 s8.2:=by rw[hs8];exact hQ
  have hl8:s8.2.length≤s7.2.length+4:=by rw[hs8];exact fF _ _ _ _
  have hV8:aA nob w2 v8:=(hV7.any.trans hv8).fresh (fun k hk=>hk);have hp8:=hV8.obj hpw2 id;refine Gz 6 ?_;refine SZ fV rfl (dB _ w2.heap.size _ _ (F 8) 2 v8 hQ8 (bO hV8 (fun k hk=>hk)) (by omega)) rfl ?_;rintro _ v9 ⟨hQ,hv9⟩;obtain⟨s9,hs9⟩:∃ s,s=cG 2 s8 (F 8):=⟨_,rfl⟩
  have hQ9:WrR (fun k=>w2.heap.size≤k) v9.heap w2.heap.size s9.1 s9.2:=by rw[hs9];exact hQ
  have hl9:s9.2.length≤s8.2.length+4:=by rw[hs9];exact fF _ _ _ _
  have hV9:aA nob w2 v9:=(hV8.any.trans hv9).fresh (fun k hk=>hk);have hp9:=hV9.obj hpw2 id;refine Gz 5 ?_;refine SZ fV rfl (dB _ w2.heap.size _ _ (F 9) 1 v9 hQ9 (bO hV9 (fun k hk=>hk)) (by omega)) rfl ?_;rintro _ v10 ⟨hQ,hv10⟩;obtain⟨s10,hs10⟩:∃ s,s=cG 1 s9 (F 9):=⟨_,rfl⟩
  have hQ10:WrR (fun k=>w2.heap.size≤k) v10.heap w2.heap.size s10.1 s10.2:=by rw[hs10];exact hQ
  have hl10:s10.2.length≤s9.2.length+4:=by rw[hs10];exact fF _ _ _ _
  have hV10:aA nob w2 v10:=(hV9.any.trans hv10).fresh (fun k hk=>hk);have hp10:=hV10.obj hpw2 id;refine Gz 5 ?_;refine SZ BX rfl (hO _ w2.heap.size _ _ v10 hQ10 (by omega)) rfl ?_;rintro _ w13 ⟨ao13,c13,rfl,ho13,hfr13,hf13⟩;refine Gz 6 ?_;have eE:kT F T=s10:=by
   unfold kT rSt bF iE;rw[WI (by omega),WJ (by omega)];simp only[oZ,uV,XA,Xi,W7,WZ,List.take,List.foldl,IN,hs10,hs9,hs8,hs7,hs6,hs5,hs4,hs3,hs2,hs1,hs0]
  have e:iO F T=(dJ (kT F T).1 (kT F T).2,0):=by unfold iO dJ;rw[WJ hm,hE,WI (by omega)]
  rw[e,eE];exact⟨_,rfl,ao13,c13,rfl,ho13,hfr13.mono (hF2.trans hV10).size,(hF2.trans hV10).trans hf13⟩
 refine fK 6 ?_ ?_<;>intro h46
 ·refine Gz 8 ?_;refine SZ fV rfl (dB _ w2.heap.size _ _ (F 6) 4 v6 hQ6 (bO hV6 (fun k hk=>hk)) (by omega)) rfl ?_;rintro _ v7 ⟨hQ,hv7⟩;obtain⟨s7,hs7⟩:∃ s,s=cG 4 s6 (F 6):=⟨_,rfl⟩
  have hQ7:WrR (fun k=>w2.heap.size≤k) v7.heap w2.heap.size s7.1 s7.2:=by rw[hs7];exact hQ
  have hl7:s7.2.length≤s6.2.length+4:=by rw[hs7];exact fF _ _ _ _
  have hV7:aA nob w2 v7:=(hV6.any.trans hv7).fresh (fun k hk=>hk);have hp7:=hV7.obj hpw2 id;refine Gz 5 ?_;refine SZ fV rfl (dB _ w2.heap.size _ _ (F 7) 4 v7 hQ7 (bO hV7 (fun k hk=>hk)) (by omega)) rfl ?_;rintro _ v8 ⟨hQ,hv8⟩;obtain⟨s8,hs8⟩:∃ s,s=cG 4 s7 (F 7):=⟨_,rfl⟩
  have hQ8:WrR (fun k=>w2.heap.size≤k) v8.heap w2.heap.size s8.1 s8.2:=by rw[hs8];exact hQ
  have hl8:s8.2.length≤s7.2.length+4:=by rw[hs8];exact fF _ _ _ _
  have hV8:aA nob w2 v8:=(hV7.any.trans hv8).fresh (fun k hk=>hk);have hp8:=hV8.obj hpw2 id;refine Gz 5 ?_;refine SZ BX rfl (hO _ w2.heap.size _ _ v8 hQ8 (by omega)) rfl ?_;rintro _ w13 ⟨ao13,c13,rfl,ho13,hfr13,hf13⟩;refine Gz 6 ?_;have eE:kT F T=s8:=by
   unfold kT rSt bF iE;rw[WI (by omega),WI (by omega),WJ (by omega)];simp only[oZ,sF,XA,Xi,W7,WZ,List.take,List.foldl,IN,hs8,hs7,hs6,hs5,hs4,hs3,hs2,hs1,hs0]
  have e:iO F T=(dJ (kT F T).1 (kT F T).2,0):=by unfold iO dJ;rw[WJ hm,hE,WI (by omega)]
  rw[e,eE];exact⟨_,rfl,ao13,c13,rfl,ho13,hfr13.mono (hF2.trans hV8).size,(hF2.trans hV8).trans hf13⟩
 refine fK 6 ?_ ?_<;>intro h54
 ·refine Gz 7 ?_;refine SZ Dw rfl (qS _ w2.heap.size _ _ T v6 hQ6 (bO hV6 (fun k hk=>hk)) (by omega) (by have h9:=hm.1;unfold bH at h9;omega)) rfl ?_;rintro _ v7 ⟨hQ7,hv7⟩;have hV7:aA nob w2 v7:=(hV6.any.trans hv7).fresh (fun k hk=>hk);have hl7:(jF s6.1 s6.2 T).length≤s6.2.length+1+T.length:=by
   unfold jF;split
   ·omega
   ·simp only[WM,W7];omega
  have hTl:T.length≤200:=by have h9:=hm.1;unfold bH at h9;omega
  refine Gz 5 ?_;refine SZ BX rfl (hO _ w2.heap.size _ _ v7 hQ7 (by omega)) rfl ?_;rintro _ w13 ⟨ao13,c13,rfl,ho13,hfr13,hf13⟩;refine Gz 6 ?_;have eE:kT F T=(gX s6.1 T,jF s6.1 s6.2 T):=by
   unfold kT rSt bF iE;rw[WJ (by omega),WI (by omega),WI (by omega)];simp only[oZ,XP,W7,WZ,List.take,List.foldl,IN,uP,hs6,hs5,hs4,hs3,hs2,hs1,hs0]
  have e:iO F T=(dJ (kT F T).1 (kT F T).2,0):=by unfold iO dJ;rw[WJ hm,hE,WI (by omega)]
  rw[e,eE];exact⟨_,rfl,ao13,c13,rfl,ho13,hfr13.mono (hF2.trans hV7).size,(hF2.trans hV7).trans hf13⟩
 exact absurd h54 (by omega)
theorem Lx{F:Nat→Int}{T:By}(h:jS F T):(kT F T).2.length=(if F 0=2 then 22 else if F 0=1 then 21 else 14+T.length):=by
 obtain⟨h1,h2⟩:=qW h _ (WT _);rw[Xl] at h2;have hk:=xN h;have h9:=h.1;unfold bH at h9;unfold kT;by_cases h3:F 0=3
 · rw[WJ h3,WI (by omega),WI (by omega)]
   have h4:=(gJ (s:=rSt F (bF (F 0)).length) (t:=T) h1 (by omega)).2;rw[h4,h2];unfold bF iE;rw[WI (by omega),WI (by omega)];simp[oZ]<;>omega
 · rw[WI h3,h2]
   by_cases h4:F 0=2
   · rw[WJ h4]
     unfold bF iE;rw[WJ h4];simp[oZ,uV]
   · rw[WI h4,WJ (by omega)]
     unfold bF iE;rw[WI h4,WJ (by omega)];simp[oZ,sF]
abbrev Rd:=Int×By
def gS(n:Int)(s:Rd):Rd:=(eJ (dH s.1 n) s.2 n,sH (dH s.1 n) s.2 n)
def gV(n:Int)(s:Rd):Int:=dC (jE (dH s.1 n) s.2 n)
def gF(q:Rd×(Nat→Int))(x:Fd):Rd×(Nat→Int):=(gS x.b q.1,upd q.2 x.o (gV x.b q.1))
def kV(s:Rd):Rd:=(eJ (tE s.1 s.2) (tR s.1 s.2) (tN s.1 s.2),sH (tE s.1 s.2) (tR s.1 s.2) (tN s.1 s.2))
def gTx(s:Rd):By:=jE (tE s.1 s.2) (tR s.1 s.2) (tN s.1 s.2)
theorem yA{n:Int}{s:Rd}(h1:1≤n)(h4:n≤4)(h0:s.1=0)(hl:n≤s.2.length):gS n s=(0,s.2.drop n.toNat)∧gV n s=dC (s.2.take n.toNat):=by
 have e:eJ 0 s.2 n=0:=by rw[kB (by omega) (by omega)]
 unfold gS gV;rw[xJ h1 h4,h0,e];obtain⟨a,b⟩:=gQ e;rw[a,b];exact⟨rfl,rfl⟩
theorem Gb{n:Int}{s:Rd}(h1:1≤n)(h4:n≤4)(h0:s.1=0)(hl:(s.2.length:Int)<n):(gS n s).1≠0:=by
 unfold gS;rw[xJ h1 h4,h0,yK (by omega) hl,WJ rfl];exact(by decide:(2:Int)≠0)
theorem Gc{n:Int}{s:Rd}(h:s.1≠0):(gS n s).1≠0:=by
 have:dH s.1 n=s.1:=by unfold dH;rw[WJ h]
 unfold gS;rw[this,tP h];exact h
def jC(F:Nat→Int)(L:List Fd):By:=L.flatMap (fun x=>le (F x.o) x.b.toNat)
def Ef(L:List Fd):Nat:=(L.map (fun x=>x.b.toNat)).sum
theorem nY(F:Nat→Int):∀ L:List Fd,(jC F L).length=Ef L
|[]=>rfl
|x::r=>by have:=nY F r;simp only[jC,Ef] at this ⊢;simp[bB,this]
theorem F4{ys:By}{n:Nat}(h:n≤ys.length):le (dC (ys.take n)) n=ys.take n:=by
 have:=BP (ys.take n);rwa[WR,XT h] at this
theorem Ge:∀ (L:List Fd) (q:Rd×(Nat→Int)),(∀ x∈L,1≤x.b∧x.b≤4)→(L.map (·.o)).Nodup →
 (∀ o,o∉L.map (·.o)→(L.foldl gF q).2 o=q.2 o)∧(q.1.1≠0→(L.foldl gF q).1.1≠0) ∧
 ((L.foldl gF q).1.1=0→q.1.2=jC (L.foldl gF q).2 L++(L.foldl gF q).1.2)∧(q.1.1=0→(L.foldl gF q).1.1≠0→q.1.2.length<Ef L)
|[],q,_,_=>⟨fun _ _=>rfl,id,fun _=>rfl,fun h0 h=>absurd h0 h⟩
|x::r,q,hb,hn=>by
   rw[XQ,List.nodup_cons] at hn;obtain⟨i1,i2,i3,i4⟩:=Ge r (gF q x) (fun y hy=>hb y (by simp[hy])) hn.2;obtain⟨b1,b4⟩:=hb x (by simp);have eo:((x::r).foldl gF q)=r.foldl gF (gF q x):=rfl;rw[eo];obtain⟨R,hR⟩:∃ R,R=r.foldl gF (gF q x):=⟨_,rfl⟩
   rw[←hR] at i1 i2 i3 i4 ⊢;have hx:R.2 x.o=gV x.b q.1:=by rw[i1 x.o hn.1];show upd _ _ _ _=_;simp[upd]
   have he:jC R.2 (x::r)=le (R.2 x.o) x.b.toNat++jC R.2 r:=by simp[jC]
   have hs:Ef (x::r)=x.b.toNat+Ef r:=by simp[Ef]
   refine⟨fun o ho=>?_,fun h=>i2 (Gc h),fun h=>?_,fun h0 h=>?_⟩
   · rw[XQ,Xo,not_or] at ho
     rw[i1 o ho.2];show upd _ _ _ _=_;simp[upd,ho.1]
   · have hq0:q.1.1=0:=WV fun h'=>i2 (Gc h') h
     have hl:x.b≤q.1.2.length:=WV fun h'=>i2 (Gb b1 b4 hq0 (by omega)) h;obtain⟨g1,g2⟩:=yA b1 b4 hq0 hl;have h3:=i3 h;have h4:(gF q x).1.2=q.1.2.drop x.b.toNat:=by show (gS x.b q.1).2=_;rw[g1]
     rw[h4] at h3;rw[he,hx,g2,F4 (by omega),W9,←h3,Xn]
   · rw[hs]
     by_cases hl:x.b≤q.1.2.length
     · obtain⟨g1,g2⟩:=yA b1 b4 h0 hl
       have h5:(gF q x).1=(0,q.1.2.drop x.b.toNat):=g1;have:=i4 (by rw[h5]) h;rw[h5] at this;simp only[WX] at this;omega
     ·omega
section
variable {P:Program}{N:Nt}{Q:Exit→Act→World→Prop}{l:SF}{w:World}{ops:Array Oper}{rest:List Oper}
variable {op:Op}{ty:TypeId}{pos:String}{aft:Array Edge}{d:Nat}{v:Value}{CH:Array Obj→Prop}
variable {x y:Operand}{t t' tn:TypeId}{g:Option (Nat×Bool)}{dd:Option Nat}
theorem Vt{e:TypeId}{size bytes:Nat}(ht:aX P t e size bytes){ao:Option Addr}{c n:Nat}(hx:evL l x=some (.slice ao n c)) :
 Cm P N CH l ⟨dd,.call ⟨.builtin .cap,#[x],#[t]⟩,ty,pos,aft,g⟩ (iV c):=fun a w ha _=>by
 simp[execOp,ha.ev hx,resolve,invoke,builtin,Builtin.cap_,run_underlying ht.und,goInt]
theorem Va{α:Type}{enc:α→Value}{e:TypeId}{bytes:Nat}{k kn:IntKind}{n:Int}(ht:aX P t e 1 bytes)(htn:P.underlying tn=some (.int kn))
 (hx:evL l x=some sN)(hy:evL l y=some (.int k n))(h0:0<n)(hb:n.toNat*bytes≤140737488355328)(hm:n.toNat≤maxLen)(hd:Xs d N.n=true)
 (h:∀ c w',Own enc e w'.heap (some ⟨w.heap.size,0,none⟩) c []→w'.heap.size=w.heap.size+1→aA nob w w'→Sl P N ops Q rest ((d,.slice (some ⟨w.heap.size,0,none⟩) n.toNat c)::l) w') :
 Sl P N ops Q (⟨some d,.call ⟨.builtin .append,#[x,y],#[t,tn]⟩,ty,pos,aft,none⟩::rest) l w:=by
 obtain⟨i,z,hi,h1,hz,h2,h3⟩:=ht.parts;obtain⟨m,rfl⟩:∃ m:Nat,n=m:=⟨n.toNat,by omega⟩
 rw[Xm] at hb hm h;have hr:=Lib.run_append_nil_zeros (P:=P) w t tn ty e i z k kn ht.und htn hi h1 m (by omega) (by omega) (by unfold maxLen at hm;omega) (by rw[h3];omega);refine TJ (w':=w.drew.alloc (.cells (Builtin.zeroCells z.cells m++Builtin.zeroCells z.cells (grownCap w m 0 e-m)) e)) (fun a ha=>?_) hd (h _ _ (.inr ⟨w.heap.size,_,rfl,heap_alloc_new w.drew _,WU _,grownCap_le_maxLen w _ 0 e hm,?_,by simp⟩) (by simp) (V3 _ _ _))
 ·simp[execOp,ha.ev hx,ha.ev hy,resolve,invoke,builtin,hr]
 · have:=grownCap_ge w m 0 e
   simp only[Array.size_append,size_zeroCells,hz];omega
end
theorem Ii(n:Int)(W:World)(hn:0≤n∧n≤1099511627776) :
 CA 132 [sN,iV n] W fun v w'=>∃ ao c,v=.slice ao 0 c∧Own b8 5 w'.heap ao c []∧Fr W.heap.size ao∧aA nob W w':=by
 refine cS 27 [(0,_),(1,_)] Tryz.func132 ?_;refine Gz 9 ?_;refine cL (UU (T1 rfl rfl) (by omega)) ?_;refine Gz 10 ?_;refine cL (Vt aH rfl) ?_;refine fK 10 ?_ ?_<;>intro h16
 ·refine Gz 6 ?_;refine cL (Vt aH rfl) ?_;refine cL (S3 (u:=sN) (Tl aH rfl rfl (by omega)) (by rw[aV];rfl)) ?_;refine Gz 1 ?_;refine Va (enc:=b8) (k:=.i64) (n:=n) aH ty3 rfl (by show some (Value.int .i64 _)=_;congr 2;omega) (by omega) (by omega) (by unfold maxLen;omega) rfl ?_;intro c1 w1 ho1 hs1 hf1;refine Gz 2 ?_;refine cL (S3 (u:=.slice (some ⟨W.heap.size,0,none⟩) 0 c1) (Tl aH rfl rfl (by have:=ho1.vw.le;omega)) (by rw[aV];rfl)) ?_;refine Gz 11 ?_
  first
  |exact⟨_,rfl,none,0,rfl,V8,V6,VZ _ _⟩
  |exact⟨_,rfl,_,c1,rfl,ho1,fJ _,hf1⟩
 refine Gz 13 ?_
 first
 |exact⟨_,rfl,none,0,rfl,V8,V6,VZ _ _⟩
 |exact⟨_,rfl,_,c1,rfl,ho1,fJ _,hf1⟩
theorem AS{L:List By}{i:Nat}(h:i<L.length):(L.take (i+1)).flatten=(L.take i).flatten++L.getD i []:=by
 rw[Xb h,Y9,WW,WK h];simp
theorem Gk(L:List By)(i:Nat):(L.take i).flatten.length≤L.flatten.length:=by
 conv=>rhs;rw[←Xn i L,Y9,WM]
 omega
theorem El(D0:Nat→Prop)(ao:Option Addr)(cap:Nat)(hs:List Hd)(L:List By)(W:World)(hv:Vw hd W.heap ao cap hs)(hr:cP D0 W.heap hs L)(hb:L.flatten.length≤1099511627776) :
 CA 80 [.slice ao hs.length cap] W (iR W L.flatten):=by
 have hl:=hv.WF;have hln:=hr.1;refine cS 36 [(0,_)] Tryz.func80 ?_;refine Gz 10 ?_;refine Tw (β:=Unit) (fun _u=>[(0,.slice ao hs.length cap),(3,iV (L.flatten.length:Nat))]) (fun _u w=>w=W) ?_ ?_
 ·refine Gz 8 ?_;refine S4 (β:=Nat) (fun i=>[(0,.slice ao hs.length cap),(3,iV ((L.take i).flatten.length:Nat)),(9,.slice ao hs.length cap),(10,iV hs.length),(11,iV i)]) (fun i w=>i≤L.length∧w=W) (fun i=>L.length-i) 0 ⟨rfl,rfl,rfl,rfl,rfl,trivial⟩ ⟨WU _,rfl⟩ ?_;rintro i wq ⟨hi,hwq⟩;subst wq;refine fK 2 ?_ ?_<;>intro h12
  ·have hiL:i<L.length:=by omega
   obtain⟨x,hx,hxn,hxv,hxD⟩:=hr.at hiL;have hcell:bD W.heap (adr ao (i:Int).toNat)=some (hd x):=by rw[Xm];exact hv.get i x hx
   have hhd:hd x=.slice x.a (L.getD i []).length x.c:=by unfold hd;rw[hxn]
   rw[hhd] at hcell;have hfl:=AS hiL;have hfb:=Gk L (i+1);have hfll:(L.take (i+1)).flatten.length=(L.take i).flatten.length+(L.getD i []).length:=by rw[hfl,WM]
   refine Gz 10 ?_;refine cL (SY lL rfl rfl hv.non (by omega)) ?_;refine cL (S2 aL rfl hcell) ?_;refine Gz 15 ?_;refine cL (UU (T1 rfl rfl) (by omega)) ?_;refine Gz 10 ?_;rw[show ((L.take i).flatten.length:Int)+((L.getD i []).length:Nat)=((L.take (i+1)).flatten.length:Nat) by omega];exact aG (i+1) ⟨by omega,rfl⟩ (by show L.length-(i+1)<L.length-i;omega)
  refine Gz 8 ?_;have hiL:i=L.length:=by omega
  subst hiL;rw[Xl];exact aC () rfl
 rintro _ wq hwq;subst wq;refine Gz 3 ?_;refine SZ PN rfl (Ii _ W (by omega)) rfl ?_;rintro _ w1 ⟨o1,c1,rfl,ho1,hfr1,hf1⟩;refine Gz 12 ?_;refine S4 (β:=Nat×(Option Addr×Nat)) (fun⟨i,⟨o2,c2⟩⟩=>[(6,.slice o2 (L.take i).flatten.length c2),(25,.slice ao hs.length cap),(26,iV hs.length),(27,iV i)]) (fun⟨i,⟨o2,c2⟩⟩ w=>i≤L.length∧Own b8 5 w.heap o2 c2 (L.take i).flatten∧Fr W.heap.size o2∧aA nob W w) (fun⟨i,⟨o2,c2⟩⟩=>L.length-i) ⟨0,⟨o1,c1⟩⟩ ⟨rfl,rfl,rfl,rfl,trivial⟩ ⟨WU _,by simpa using ho1,hfr1,hf1⟩ ?_;rintro⟨i,⟨o2,c2⟩⟩ w2 ⟨hi,ho2,hfr2,hF2⟩;refine fK 2 ?_ ?_<;>intro h28
 ·have hiL:i<L.length:=by omega
  obtain⟨x,hx,hxn,hxv,hxD⟩:=hr.at hiL;have hcell:bD w2.heap (adr ao (i:Int).toNat)=some (hd x):=by rw[Xm];exact(hv.WG hF2).get i x hx
  have hhd:hd x=.slice x.a (L.getD i []).length x.c:=by unfold hd;rw[hxn]
  rw[hhd] at hcell;have hfl:=AS hiL;have hfb:=Gk L (i+1);have hfll:(L.take (i+1)).flatten.length=(L.take i).flatten.length+(L.getD i []).length:=by rw[hfl,WM]
  refine Gz 10 ?_;refine cL (SY lL rfl rfl hv.non (by omega)) ?_;refine cL (S2 aL rfl hcell) ?_;refine Gz 2 ?_;refine aW [(6,_),(8,_),(25,_),(26,_),(27,_),(28,_)] ?_;refine Gz 4 ?_;refine S8 aN aH rfl rfl ho2 (hxv.WG hF2) (by omega) (by unfold maxLen;omega) rfl ?_;intro o3 c3 w3 ho3 hf3 hr3 hn3;rw[←hfl] at ho3 ⊢;refine Gz 8 ?_;exact aG ⟨i+1,⟨o3,c3⟩⟩ ⟨by omega,ho3,cH hfr2 hr3 hF2.size,hF2.WD hf3 hfr2.step⟩ (by show L.length-(i+1)<L.length-i;omega)
 refine Gz 14 ?_;refine aW [(2,_),(6,_),(25,_),(26,_),(27,_),(28,_)] ?_;refine Gz 3 ?_;have hiL:i=L.length:=by omega
 subst hiL;rw[Xl] at ho2 ⊢;exact⟨_,rfl,o2,c2,rfl,ho2,hfr2,hF2⟩
def mwC(p:Nat)(fo:Option Addr)(fn fc:Nat)(to:Option Addr)(tn tc:Nat):List Value:=[pT p,.slice fo fn fc,.slice to tn tc]
def MwO(D:Nat→Prop)(H:Array Obj)(g p:Nat)(f t:By):Prop:=
 ∃ fo fc to tc,H[g]?=some (.cells (mwC p fo f.length fc to t.length tc).toArray 125 (0,0))∧Own b8 5 H fo fc f∧Own b8 5 H to tc t∧¬ blk fo g∧¬ blk to g∧Ap fo to∧D g∧(∀ k,blk fo k→D k)∧(∀ k,blk to k→D k)∧TbV H p∧¬ D p
section
variable {D:Nat→Prop}{g p:Nat}{f t:List UInt8}
theorem MwO.lt{H:Array Obj}(h:MwO D H g p f t):g<H.size:=by obtain⟨fo,fc,to,tc,hg,_⟩:=h;exact(WS.1 hg).1
theorem MwO.WH{S:Nat→Prop}{w w':World}(h:MwO D w.heap g p f t)(hf:aA S w w')(hs:∀ k,D k→¬ S k)(hp:¬ S p):MwO D w'.heap g p f t:=by
 obtain⟨fo,fc,to,tc,hg,h1,h2,h3,h4,h5,h6,h7,h8,h9,h10⟩:=h;exact⟨fo,fc,to,tc,hf.obj hg (hs g h6),h1.WH hf (fun a ha=>hs _ (h7 _ ⟨a,ha,rfl⟩)),h2.WH hf (fun a ha=>hs _ (h8 _ ⟨a,ha,rfl⟩)),h3,h4,h5,h6,h7,h8,hf.obj h9 hp,h10⟩
theorem MwO.mono{D':Nat→Prop}{H:Array Obj}(h:MwO D H g p f t)(hd:∀ k,D k→D' k)(hp:¬ D' p):MwO D' H g p f t:=by
 obtain⟨fo,fc,to,tc,hg,h1,h2,h3,h4,h5,h6,h7,h8,h9,h10⟩:=h;exact⟨fo,fc,to,tc,hg,h1,h2,h3,h4,h5,hd _ h6,fun k hk=>hd _ (h7 k hk),fun k hk=>hd _ (h8 k hk),h9,hp⟩
end
theorem LN(p:Nat)(W:World)(ht:TbV W.heap p) :
 CA 19 [pT p] W fun v w'=>v=pT W.heap.size∧MwO (fun k=>W.heap.size≤k) w'.heap W.heap.size p [] []∧aA nob W w':=by
 refine cS 6 [(0,_)] Tryz.func19 ?_;refine Gz 8 ?_;refine cL (TC (cs:=#[pT p,sN,sN]) NA Ot rfl (by kernel_rfl)) ?_;refine To rfl rfl ?_;intro w1 hg1 hs1 hf1;refine Gz 5 ?_;have hpl:=(WS.1 ht).1;exact⟨_,rfl,rfl,⟨none,0,none,0,hg1,V8,V8,(fun⟨a,ha,_⟩=>by cases ha),(fun⟨a,ha,_⟩=>by cases ha),V4,WT _,(fun k ⟨a,ha,_⟩=>by cases ha),(fun k ⟨a,ha,_⟩=>by cases ha),hf1.obj ht id,(by omega)⟩,hf1⟩
theorem LI{D:Nat→Prop}{W w1 w2:World}{g p:Nat}{f t t':By}{fo to to':Option Addr}{fc tc tc':Nat}(hD:∀ k,W.heap.size≤k→D k)
 (hg:W.heap[g]?=some (.cells (mwC p fo f.length fc to t.length tc).toArray 125 (0,0)))(h1:Own b8 5 W.heap fo fc f)(h3:¬ blk fo g)(h4:¬ blk to g)(h5:Ap fo to)(h6:D g)(h7:∀ k,blk fo k→D k)(h8:∀ k,blk to k→D k)(h9:TbV W.heap p)(h10:¬ D p)
 (ho:Own b8 5 w1.heap to' tc' t')(hf1:aA (blk to) W w1)(hr:∀ a,to'=some a→to=some a∨W.heap.size≤a.block)
 (hg2:w2.heap[g]?=some (.cells (mwC p fo f.length fc to' t'.length tc').toArray 125 (0,0)))(hf2:aA (· = g) w1 w2) :
 MwO D w2.heap g p f t'∧aA D W w2:=by
 have hgl:=(WS.1 hg).1;have hpl:=(WS.1 h9).1;have hD1:aA D W w1:=hf1.mono h8;have hD2:aA D W w2:=hD1.trans (hf2.mono (fun k h=>by have h:k=g:=h;subst h;exact h6));have hn:¬ blk to' g:=fun⟨a,ha,hb⟩=>by
  rcases hr a ha with h|h
  ·exact h4 ⟨a,h,hb⟩
  ·omega
 refine⟨⟨fo,fc,to',tc',hg2,(h1.WH hf1 (fun a ha ⟨b,hb,h⟩=>h5 a b ha hb h.symm)).WH hf2 (fun a ha h=>h3 ⟨a,ha,h⟩),ho.WH hf2 (fun a ha h=>hn ⟨a,ha,h⟩),h3,hn,fun a b ha hb e=>?_,h6,h7,fun k ⟨a,ha,hb⟩=>?_,hD2.obj h9 h10,h10⟩,hD2⟩
 · rcases hr b hb with h|h
   ·exact h5 a b ha h e
   ·have:=h1.lt a ha;omega
 · rcases hr a ha with h|h
   ·exact h8 k ⟨a,h,hb⟩
   ·exact hD k (by omega)
theorem LJ{D:Nat→Prop}{W w1 w2:World}{g p:Nat}{f t f':By}{fo to fo':Option Addr}{fc tc fc':Nat}(hD:∀ k,W.heap.size≤k→D k)
 (hg:W.heap[g]?=some (.cells (mwC p fo f.length fc to t.length tc).toArray 125 (0,0)))(h2:Own b8 5 W.heap to tc t)(h3:¬ blk fo g)(h4:¬ blk to g)(h5:Ap fo to)(h6:D g)(h7:∀ k,blk fo k→D k)(h8:∀ k,blk to k→D k)(h9:TbV W.heap p)(h10:¬ D p)
 (ho:Own b8 5 w1.heap fo' fc' f')(hf1:aA (blk fo) W w1)(hr:∀ a,fo'=some a→fo=some a∨W.heap.size≤a.block)
 (hg2:w2.heap[g]?=some (.cells (mwC p fo' f'.length fc' to t.length tc).toArray 125 (0,0)))(hf2:aA (· = g) w1 w2) :
 MwO D w2.heap g p f' t∧aA D W w2:=by
 have hgl:=(WS.1 hg).1;have hpl:=(WS.1 h9).1;have hD1:aA D W w1:=hf1.mono h7;have hD2:aA D W w2:=hD1.trans (hf2.mono (fun k h=>by have h:k=g:=h;subst h;exact h6));have hn:¬ blk fo' g:=fun⟨a,ha,hb⟩=>by
  rcases hr a ha with h|h
  ·exact h3 ⟨a,h,hb⟩
  ·omega
 refine⟨⟨fo',fc',to,tc,hg2,ho.WH hf2 (fun a ha h=>hn ⟨a,ha,h⟩),(h2.WH hf1 (fun a ha ⟨b,hb,h⟩=>h5 b a hb ha h)).WH hf2 (fun a ha h=>h4 ⟨a,ha,h⟩),hn,h4,fun a b ha hb e=>?_,h6,fun k ⟨a,ha,hb⟩=>?_,h8,hD2.obj h9 h10,h10⟩,hD2⟩
 · rcases hr a ha with h|h
   ·exact h5 a b h hb e
   ·have:=h2.lt b hb;omega
 · rcases hr a ha with h|h
   ·exact h7 k ⟨a,h,hb⟩
   ·exact hD k (by omega)
theorem NM{D:Nat→Prop}{W w1 w2:World}{g p:Nat}{f t t':By}{fo to to':Option Addr}{fc tc tc':Nat}(hD:∀ k,W.heap.size≤k→D k)
 (hg:W.heap[g]?=some (.cells (mwC p fo f.length fc to t.length tc).toArray 125 (0,0)))(h1:Own b8 5 W.heap fo fc f)(h3:¬ blk fo g)(h6:D g)(h7:∀ k,blk fo k→D k)(h9:TbV W.heap p)(h10:¬ D p)
 (ho:Own b8 5 w1.heap to' tc' t')(hf1:aA nob W w1)(hr:Fr W.heap.size to')
 (hg2:w2.heap[g]?=some (.cells (mwC p fo f.length fc to' t'.length tc').toArray 125 (0,0)))(hf2:aA (· = g) w1 w2) :
 MwO D w2.heap g p f t'∧aA D W w2:=by
 have hgl:=(WS.1 hg).1;have hpl:=(WS.1 h9).1;have hD2:aA D W w2:=(hf1.any).trans (hf2.mono (fun k h=>by have h:k=g:=h;subst h;exact h6));have hn:¬ blk to' g:=fun⟨a,ha,hb⟩=>by have:=hr a ha;omega
 exact⟨⟨fo,fc,to',tc',hg2,(h1.WG hf1).WH hf2 (fun a ha h=>h3 ⟨a,ha,h⟩),ho.WH hf2 (fun a ha h=>hn ⟨a,ha,h⟩),h3,hn,fun a b ha hb e=>(by have:=h1.lt a ha;have:=hr b hb;omega),h6,h7,fun k ⟨a,ha,hb⟩=>hD k (by have:=hr a ha;omega),hD2.obj h9 h10,h10⟩,hD2⟩
theorem LQ(D:Nat→Prop)(g p:Nat)(f t:By)(bo:Option Addr)(bc:Nat)(b:By)(W:World)(hM:MwO D W.heap g p f t)(hD:∀ k,W.heap.size≤k→D k)(hv:Vw b8 W.heap bo bc b)(hb:f.length+2*(t.length+b.length)≤1099511627776) :
 CA 26 [pT g,.slice bo b.length bc] W fun v w'=>v=iV (256*f.length+t.length:Nat)∧MwO D w'.heap g p (aP f (t++b)).1 (aP f (t++b)).2∧aA D W w':=by
 have hM0:=hM;obtain⟨fo,fc,to,tc,hg,h1,h2,h3,h4,h5,h6,h7,h8,h9,h10⟩:=hM;refine cS 67 [(0,_),(1,_)] Tryz.func26 ?_;refine Gz 6 ?_;refine Tk 13 [0,1,2,3,4,5,6,7,8,9,10,11,12] aI (by kernel_rfl) ?_;refine Gz 3 ?_;refine xC rfl (S2 aL rfl (aD hg rfl)) ?_;refine Gz 1 ?_;refine xC rfl (TL rfl rfl (by omega)) ?_;refine Gz 3 ?_;refine xC rfl (S2 aL rfl (aD hg rfl)) ?_;refine Gz 13 ?_;refine S8 aN aH rfl rfl h2 hv (by omega) (by unfold maxLen;omega) rfl ?_;intro to1 tc1 w1 ho1 hf1 hr1 hn1;have hf1:=hf1.WE;have hg1:=hf1.obj hg h4;refine Gz 2 ?_;refine S6 aL rfl rfl rfl hg1 rfl ?_;intro w2 hg2 hs2 hf2;obtain⟨hM2,hF2⟩:=LI hD hg h1 h3 h4 h5 h6 h7 h8 h9 h10 ho1 hf1 hr1 hg2 hf2;have hW2:=hF2.size;refine Gz 4 ?_;refine S4 (β:=By×By) (fun⟨f9,t9⟩=>[(0,pT g),(5,iV (256*f.length+t.length:Nat))]) (fun⟨f9,t9⟩ w=>aP f9 t9=aP f (t++b)∧MwO D w.heap g p f9 t9∧aA D W w∧f9.length+2*t9.length≤1099511627776) (fun⟨f9,t9⟩=>t9.length) ⟨f,t++b⟩ ⟨rfl,rfl,trivial⟩ ⟨rfl,hM2,hF2,by rw[WM];omega⟩ ?_;rintro⟨f9,t9⟩ w3 ⟨hcw,hM3,hF3,hb3⟩;obtain⟨ho,hcap,ko,kc,kg,k1,k2,k3,k4,k5,k6,k7,k8,k9,k10⟩:=hM3;have hM3:MwO D w3.heap g p f9 t9:=⟨ho,hcap,ko,kc,kg,k1,k2,k3,k4,k5,k6,k7,k8,k9,k10⟩
 refine fK 8 ?_ ?_<;>intro h34
 ·have hbig:128≤t9.length:=by omega
  have htk:=nJ hbig;have hle3:=k2.vw.le;have hps:=dR (b:=t9.take 128) (by omega);refine Gz 7 ?_;refine Tc 15 (fun H=>H[g]?=some (.cells (mwC p ho f9.length hcap ko t9.length kc).toArray 125 (0,0))) [9] [0,1,2,3,4,5,6,7,8,9,10,11,12,13,14] aI (by kernel_rfl) (kg) ?_;refine Gz 8 ?_;refine xC rfl (S3 (u:=.slice ko (t9.take 128).length kc) (Tl aH rfl rfl (by omega)) (by rw[aV,htk];rfl)) ?_;refine S7 rfl rfl (SZ L6 rfl (vP p ko kc (t9.take 128) _ k9 (k2.vw.take 128)) rfl ?_);rintro _ w4 ⟨o4,c4,rfl,ho4,hfr4,hf4⟩;refine Tg (by exact hf4.WE.obj kg id) ?_;have hf4:=hf4.WE;have hz4:=hf4.size;have hg4:=hf4.obj kg id;refine Gz 15 ?_;refine S8 aN aH rfl rfl (k1.WG hf4) ho4.vw (by omega) (by unfold maxLen;omega) rfl ?_;intro fo5 fc5 w5 ho5 hf5 hr5 hn5;have hg5:=hf5.obj hg4 k3;refine Gz 2 ?_;refine S6 aL rfl rfl rfl hg5 rfl ?_;intro w6 hg6 hs6 hf6;obtain⟨hM6,hF6⟩:=LJ (bO hf4 (bO hF3 hD)) hg4 (k2.WG hf4) k3 k4 k5 k6 k7 k8 (hf4.obj k9 id) k10 ho5 hf5 hr5 hg6 hf6;obtain⟨jo,jc,lo,lc,jg,j1,j2,j3,j4,j5,j6,j7,j8,j9,j10⟩:=hM6;have hz6:=hF6.size;have hlej:=j2.vw.le;have hcl:(t9.drop 128).length=t9.length-128:=WX;refine Gz 8 ?_;refine cL (S3 (u:=.slice (bA lo lc 128 1) (t9.drop 128).length (lc-128)) (TK aH rfl rfl (by omega)) (by rw[hcl];rfl)) ?_;refine SZ JJ rfl (lN (bA lo lc 128 1) (lc-128) (t9.drop 128) w6 (by have:=j2.vw.cut (l:=128) (h:=t9.length) (m:=lc) (by omega) (by omega) (by omega) (WT _);rwa[WY (by omega)] at this) (by rw[hcl];omega)) rfl ?_;rintro _ w7 ⟨o7,c7,rfl,ho7,hfr7,hf7⟩;have hg7:=hf7.obj jg id;refine Gz 2 ?_;refine S6 aL rfl rfl rfl hg7 rfl ?_;intro w8 hg8 hs8 hf8;obtain⟨hM8,hF8⟩:=NM (bO hF6 (bO hf4 (bO hF3 hD))) jg j1 j3 j6 j7 j9 j10 ho7 hf7 hfr7 hg8 hf8;refine Gz 2 ?_;exact aG ⟨f9++(bV (t9.take 128)).1,t9.drop 128⟩ ⟨by rw[←kQ hbig];exact hcw,hM8,((hF3.trans hf4.any).trans hF6).trans hF8,by rw[WM,hcl];omega⟩ (by show (t9.drop 128).length<t9.length;omega)
 have hsm:t9.length<128:=by omega
 refine Gz 16 ?_;rw[cJ hsm] at hcw;rw[←hcw];exact⟨_,rfl,rfl,hM3,hF3⟩
theorem Jc(D:Nat→Prop)(g p:Nat)(f t:By)(W:World)(hM:MwO D W.heap g p f t)(hb:f.length≤1099511627000)(htl:t.length<128) :
 CA 27 [pT g] W (iR W (jD f t)):=by
 obtain⟨fo,fc,to,tc,hg,h1,h2,h3,h4,h5,h6,h7,h8,h9,h10⟩:=hM;refine cS 35 [(0,_)] Tryz.func27 ?_;refine fK 13 ?_ ?_<;>intro h10
 ·have e:jD f t=f:=by unfold jD;rw[WJ (by omega)]
  refine Gz 9 ?_;refine SZ JJ rfl (lN fo fc f W h1.vw (by omega)) rfl ?_;intro _ w1 hP1;refine Gz 6 ?_;rw[e]
  first
  |exact⟨_,rfl,hP1⟩
  |(have e3:[f,(bV t).1].flatten=f++(bV t).1:=by simp
    rw[e3] at ho3 ⊢;exact⟨_,rfl,o3,c3,rfl,ho3,hfr3.mono ((hf1.trans hf2).size),(hf1.trans hf2).trans hf3⟩)
 have e:jD f t=f++(bV t).1:=by unfold jD;rw[WI (by omega)]
 have hps:=dR (b:=t) (by omega);refine Gz 6 ?_;refine Tc 14 (fun H=>H[g]?=some (.cells (mwC p fo f.length fc to t.length tc).toArray 125 (0,0))) [8] [0,1,2,3,4,5,6,7,8,9,10,11,12,13] aI (by kernel_rfl) (hg) ?_;refine Gz 8 ?_;refine S7 rfl rfl (SZ L6 rfl (vP p to tc t _ h9 h2.vw) rfl ?_);rintro _ w1 ⟨o1,c1,rfl,ho1,hfr1,hf1⟩;refine Tg (by exact hf1.WE.obj hg id) ?_;have hf1:=hf1.WE;have hg1:=hf1.obj hg id;refine Gz 14 ?_;refine UQ (enc:=hd) (u:=⟨fo,f.length,fc⟩) (u':=⟨o1,(bV t).1.length,c1⟩) lL pZ rfl rfl rfl ?_;intro w2 ho2 hs2 hf2;refine SZ R6 rfl (El (fun _=>True) _ _ [⟨fo,f.length,fc⟩,⟨o1,(bV t).1.length,c1⟩] [f,(bV t).1] w2 ho2.vw ((Wd.snoc (x:=⟨fo,f.length,fc⟩) rfl ((h1.WG hf1).WG hf2).vw (fun _ _ _=>trivial)).snoc (x:=⟨o1,(bV t).1.length,c1⟩) rfl (ho1.WG hf2).vw (fun _ _ _=>trivial)) (by simp;omega)) rfl ?_;rintro _ w3 ⟨o3,c3,rfl,ho3,hfr3,hf3⟩;refine Gz 5 ?_;rw[e]
 first
 |exact⟨_,rfl,hP1⟩
 |(have e3:[f,(bV t).1].flatten=f++(bV t).1:=by simp
   rw[e3] at ho3 ⊢;exact⟨_,rfl,o3,c3,rfl,ho3,hfr3.mono ((hf1.trans hf2).size),(hf1.trans hf2).trans hf3⟩)
def rwC(fo:Option Addr)(fn fc:Nat)(to:Option Addr)(tn tc:Nat):List Value:=[.slice fo fn fc,.slice to tn tc]
def RwO(D:Nat→Prop)(H:Array Obj)(g:Nat)(f t:By):Prop:=
 ∃ fo fc to tc,H[g]?=some (.cells (rwC fo f.length fc to t.length tc).toArray 78 (0,0))∧Own b8 5 H fo fc f∧Own b8 5 H to tc t∧¬ blk fo g∧¬ blk to g∧Ap fo to∧D g∧(∀ k,blk fo k→D k)∧(∀ k,blk to k→D k)
section
variable {D:Nat→Prop}{g:Nat}{f t:List UInt8}
theorem RwO.lt{H:Array Obj}(h:RwO D H g f t):g<H.size:=by obtain⟨fo,fc,to,tc,hg,_⟩:=h;exact(WS.1 hg).1
theorem RwO.WH{S:Nat→Prop}{w w':World}(h:RwO D w.heap g f t)(hf:aA S w w')(hs:∀ k,D k→¬ S k):RwO D w'.heap g f t:=by
 obtain⟨fo,fc,to,tc,hg,h1,h2,h3,h4,h5,h6,h7,h8⟩:=h;exact⟨fo,fc,to,tc,hf.obj hg (hs g h6),h1.WH hf (fun a ha=>hs _ (h7 _ ⟨a,ha,rfl⟩)),h2.WH hf (fun a ha=>hs _ (h8 _ ⟨a,ha,rfl⟩)),h3,h4,h5,h6,h7,h8⟩
end
theorem Vw.keepN{α:Type}{enc:α→Value}{ao:Option Addr}{cap:Nat}{xs:List α}{w w':World}{S:Nat→Prop}(h:Vw enc w.heap ao cap xs)(f:aA S w w')(hs:xs≠[]→∀ a,ao=some a→¬ S a.block):Vw enc w'.heap ao cap xs:=h.keep' f hs
theorem Li{D:Nat→Prop}{W w1 w2:World}{g:Nat}{f t t':By}{fo to to':Option Addr}{fc tc tc':Nat}(hD:∀ k,W.heap.size≤k→D k)
 (hg:W.heap[g]?=some (.cells (rwC fo f.length fc to t.length tc).toArray 78 (0,0)))(h1:Own b8 5 W.heap fo fc f)(h3:¬ blk fo g)(h4:¬ blk to g)(h5:Ap fo to)(h6:D g)(h7:∀ k,blk fo k→D k)(h8:∀ k,blk to k→D k)
 (ho:Own b8 5 w1.heap to' tc' t')(hf1:aA (blk to) W w1)(hr:∀ a,to'=some a→to=some a∨W.heap.size≤a.block)
 (hg2:w2.heap[g]?=some (.cells (rwC fo f.length fc to' t'.length tc').toArray 78 (0,0)))(hf2:aA (· = g) w1 w2) :
 RwO D w2.heap g f t'∧aA D W w2:=by
 have hgl:=(WS.1 hg).1;have hD1:aA D W w1:=hf1.mono h8;have hD2:aA D W w2:=hD1.trans (hf2.mono (fun k h=>by have h:k=g:=h;subst h;exact h6));have hn:¬ blk to' g:=fun⟨a,ha,hb⟩=>by
  rcases hr a ha with h|h
  ·exact h4 ⟨a,h,hb⟩
  ·omega
 refine⟨⟨fo,fc,to',tc',hg2,(h1.WH hf1 (fun a ha ⟨b,hb,h⟩=>h5 a b ha hb h.symm)).WH hf2 (fun a ha h=>h3 ⟨a,ha,h⟩),ho.WH hf2 (fun a ha h=>hn ⟨a,ha,h⟩),h3,hn,fun a b ha hb e=>?_,h6,h7,fun k ⟨a,ha,hb⟩=>?_⟩,hD2⟩
 · rcases hr b hb with h|h
   ·exact h5 a b ha h e
   ·have:=h1.lt a ha;omega
 · rcases hr a ha with h|h
   ·exact h8 k ⟨a,h,hb⟩
   ·exact hD k (by omega)
theorem Lj{D:Nat→Prop}{W w1 w2:World}{g:Nat}{f t f':By}{fo to fo':Option Addr}{fc tc fc':Nat}(hD:∀ k,W.heap.size≤k→D k)
 (hg:W.heap[g]?=some (.cells (rwC fo f.length fc to t.length tc).toArray 78 (0,0)))(h2:Own b8 5 W.heap to tc t)(h3:¬ blk fo g)(h4:¬ blk to g)(h5:Ap fo to)(h6:D g)(h7:∀ k,blk fo k→D k)(h8:∀ k,blk to k→D k)
 (ho:Own b8 5 w1.heap fo' fc' f')(hf1:aA (blk fo) W w1)(hr:∀ a,fo'=some a→fo=some a∨W.heap.size≤a.block)
 (hg2:w2.heap[g]?=some (.cells (rwC fo' f'.length fc' to t.length tc).toArray 78 (0,0)))(hf2:aA (· = g) w1 w2) :
 RwO D w2.heap g f' t∧aA D W w2:=by
 have hgl:=(WS.1 hg).1;have hD1:aA D W w1:=hf1.mono h7;have hD2:aA D W w2:=hD1.trans (hf2.mono (fun k h=>by have h:k=g:=h;subst h;exact h6));have hn:¬ blk fo' g:=fun⟨a,ha,hb⟩=>by
  rcases hr a ha with h|h
  ·exact h3 ⟨a,h,hb⟩
  ·omega
 refine⟨⟨fo',fc',to,tc,hg2,ho.WH hf2 (fun a ha h=>hn ⟨a,ha,h⟩),(h2.WH hf1 (fun a ha ⟨b,hb,h⟩=>h5 b a hb ha h)).WH hf2 (fun a ha h=>h4 ⟨a,ha,h⟩),hn,h4,fun a b ha hb e=>?_,h6,fun k ⟨a,ha,hb⟩=>?_,h8⟩,hD2⟩
 · rcases hr a ha with h|h
   ·exact h5 a b h hb e
   ·have:=h2.lt b hb;omega
 · rcases hr a ha with h|h
   ·exact h7 k ⟨a,h,hb⟩
   ·exact hD k (by omega)
theorem Ns{D:Nat→Prop}{W w2:World}{g:Nat}{f t:By}{fo to:Option Addr}{fc tc:Nat}
 (hg:W.heap[g]?=some (.cells (rwC fo f.length fc to t.length tc).toArray 78 (0,0)))(h1:Own b8 5 W.heap fo fc f)(h3:¬ blk fo g)(h6:D g)(h7:∀ k,blk fo k→D k)
 (hg2:w2.heap[g]?=some (.cells (rwC fo f.length fc none 0 0).toArray 78 (0,0)))(hf2:aA (· = g) W w2) :
 RwO D w2.heap g f []∧aA D W w2:=
 ⟨⟨fo,fc,none,0,hg2,h1.WH hf2 (fun a ha h=>h3 ⟨a,ha,h⟩),V8,h3,(fun⟨a,ha,_⟩=>by cases ha),V5,h6,h7,(fun k ⟨a,ha,_⟩=>by cases ha)⟩,hf2.mono (fun k h=>by have h:k=g:=h;subst h;exact h6)⟩
theorem Ba(f t:By)(x:UInt8):aP f (t++[x])=if ((aP f t).2++[x]).length=128 then ((aP f t).1++(bV ((aP f t).2++[x])).1,[]) else ((aP f t).1,(aP f t).2++[x]):=by
 have h:=fH f t;rw[nZ]
 split
 ·rename_i h1;rw[Hy h1]
 ·rename_i h1;rw[cJ (by rw[WM] at h1 ⊢;simp at h1 ⊢;omega)]
theorem Fl{b:By}{i:Nat}(h:i<b.length):b.take (i+1)=b.take i++[b.getD i 0]:=by
 rw[Xb h,WW,WK h];rfl
theorem Iy(D:Nat→Prop)(g:Nat)(f t:By)(bo:Option Addr)(bc:Nat)(b:By)(W:World)(hM:RwO D W.heap g f t)(hD:∀ k,W.heap.size≤k→D k)(hv:Vw b8 W.heap bo bc b)(hbD:b≠[]→∀ k,blk bo k→¬ D k)(htl:t.length<128)(hb:f.length+2*(t.length+b.length)≤1099511627776) :
 CA 36 [pT g,.slice bo b.length bc] W fun v w'=>v=iV (256*f.length+t.length:Nat)∧RwO D w'.heap g (aP f (t++b)).1 (aP f (t++b)).2∧aA D W w':=by
 have hM0:=hM;obtain⟨fo,fc,to,tc,hg,h1,h2,h3,h4,h5,h6,h7,h8⟩:=hM;have hvl:=hv.WF;refine cS 67 [(0,_),(1,_)] Tryz.func36 ?_;refine Gz 6 ?_;refine Tk 13 [0,1,2,3,4,5,6,7,8,9,10,11,12] aI (by kernel_rfl) ?_;refine Gz 3 ?_;refine xC rfl (S2 aL rfl (aD hg rfl)) ?_;refine Gz 1 ?_;refine xC rfl (TL rfl rfl (by omega)) ?_;refine Gz 3 ?_;refine xC rfl (S2 aL rfl (aD hg rfl)) ?_;refine Gz 12 ?_;refine S4 (β:=Nat×(By×By)) (fun⟨i,⟨f9,t9⟩⟩=>[(0,pT g),(1,.slice bo b.length bc),(5,iV (256*f.length+t.length:Nat)),(6,iV i)]) (fun⟨i,⟨f9,t9⟩⟩ w=>i≤b.length∧aP f (t++b.take i)=(f9,t9)∧RwO D w.heap g f9 t9∧aA D W w) (fun⟨i,⟨f9,t9⟩⟩=>b.length-i) ⟨0,⟨f,t⟩⟩ ⟨rfl,rfl,rfl,rfl,trivial⟩ ⟨WU _,by rw[Yr,XP,cJ htl],hM0,(VZ _ _).draws 1⟩ ?_;rintro⟨i,⟨f9,t9⟩⟩ w3 ⟨hi,hcw,hM3,hF3⟩;obtain⟨hoA,hcap,ko,kc,kg,k1,k2,k3,k4,k5,k6,k7,k8⟩:=hM3;have hM3:RwO D w3.heap g f9 t9:=⟨hoA,hcap,ko,kc,kg,k1,k2,k3,k4,k5,k6,k7,k8⟩
 have hv9:Vw b8 w3.heap bo bc b:=hv.keepN hF3 (fun hne a ha h=>hbD hne _ ⟨a,ha,rfl⟩ h);refine fK 6 ?_ ?_<;>intro h24
 ·have hib:i<b.length:=by omega
  have hsn:=Ba f (t++b.take i) (b.getD i 0);rw[W9,←Fl hib,hcw] at hsn;have hsn:aP f (t++b.take (i+1))=if (t9++[b.getD i 0]).length=128 then (f9++(bV (t9++[b.getD i 0])).1,[]) else (f9,t9++[b.getD i 0]):=hsn
  have hln:=sG f (t++b.take i);rw[hcw,WM,WR] at hln;have hrl:=fH f (t++b.take i);rw[hcw] at hrl;have hln:f9.length+2*t9.length≤f.length+2*(t.length+min i b.length):=hln;have hrl:t9.length<128:=hrl;refine Gz 5 ?_;refine Tw (β:=By×By) (fun⟨f8,t8⟩=>[(0,pT g),(1,.slice bo b.length bc),(5,iV (256*f.length+t.length:Nat)),(6,iV i)]) (fun⟨f8,t8⟩ w=>aP f (t++b.take (i+1))=(f8,t8)∧RwO D w.heap g f8 t8∧aA D W w) ?_ ?_
  ·refine Gz 2 ?_;refine Tc 13 (fun H=>Vw b8 H bo bc b∧H[g]?=some (.cells (rwC hoA f9.length hcap ko t9.length kc).toArray 78 (0,0))) [9,10,13] [0,1,2,3,4,5,6,7,8,9,10,11,12,13] aI (by kernel_rfl) (⟨hv9,kg⟩) ?_;refine Gz 7 ?_;refine xC rfl (SY aH rfl rfl hv.non (by omega)) ?_;refine xC rfl (S9 nM rfl (fun H hH=>hH.1.gd 0 hib)) ?_;refine S7 rfl rfl (TB (enc:=b8) (u:=b.getD i 0) aH (aN _) rfl rfl ?_);intro w4 ho4 hs4 hf4;have hf4:=hf4.WE;refine Tg (by exact⟨(hv9).WG hf4,hf4.obj kg id⟩) ?_;refine S7 rfl rfl (S8 aN aH rfl rfl (k2.WG hf4) ho4.vw (by simp only[WP];omega) (by simp only[WP];unfold maxLen;omega) rfl ?_);intro to5 tc5 w5 ho5 hf5 hr5 hn5;have hg5:=hf5.obj (hf4.obj kg id) k4;have hv5:Vw b8 w5.heap bo bc b:=(hv9.WG hf4).keepN hf5 (fun hne a ha h=>hbD hne _ ⟨a,ha,rfl⟩ (k8 _ h));refine Tg (by exact⟨hv5,hg5⟩) ?_;refine Gz 2 ?_;refine S7 rfl rfl (S6 aL rfl rfl rfl hg5 rfl ?_);intro w6 hg6 hs6 hf6;refine Tx rfl ?_;obtain⟨hM6,hF6⟩:=Li (bO hf4 (bO hF3 hD)) (hf4.obj kg id) (k1.WG hf4) k3 k4 k5 k6 k7 k8 ho5 hf5 hr5 hg6 hf6;have hF6:=hf4.any.trans hF6;obtain⟨jo,jc,lo,lc,jg,j1,j2,j3,j4,j5,j6,j7,j8⟩:=hM6;have hz6:=hF6.size;refine fK 9 ?_ ?_<;>intro h45
   ·rw[WJ (by omega)] at hsn;have hps:=dR (b:=t9++[b.getD i 0]) (by omega);refine cA 9 Ho (lP lo lc (t9++[b.getD i 0]) w6 j2.vw) ?_;rintro _ w7 ⟨o7,c7,rfl,ho7,hfr7,hf7⟩;have hg7:=hf7.obj jg id;refine Gz 15 ?_;refine S8 aN aH rfl rfl (j1.WG hf7) ho7.vw (by omega) (by unfold maxLen;omega) rfl ?_;intro fo8 fc8 w8 ho8 hf8 hr8 hn8;have hg8:=hf8.obj hg7 j3;refine Gz 2 ?_;refine S6 aL rfl rfl rfl hg8 rfl ?_;intro w9 hg9 hs9 hf9;obtain⟨hM9,hF9⟩:=Lj (bO hf7 (bO hF6 (bO hF3 hD))) hg7 (j2.WG hf7) j3 j4 j5 j6 j7 j8 ho8 hf8 hr8 hg9 hf9;obtain⟨io,ic,mo,mc,ig,i1,i2,i3,i4,i5,i6,i7,i8⟩:=hM9;refine Gz 6 ?_;refine S6 aL rfl rfl rfl ig rfl ?_;intro w10 hg10 hs10 hf10;obtain⟨hM10,hF10⟩:=Ns ig i1 i3 i6 i7 hg10 hf10;refine Gz 2 ?_;exact aC ⟨f9++(bV (t9++[b.getD i 0])).1,[]⟩ ⟨hsn,hM10,(((hF3.trans hF6).trans hf7.any).trans hF9).trans hF10⟩
   rw[WI (by omega)] at hsn;refine Gz 5 ?_;exact aC ⟨f9,t9++[b.getD i 0]⟩ ⟨hsn,⟨jo,jc,lo,lc,jg,j1,j2,j3,j4,j5,j6,j7,j8⟩,hF3.trans hF6⟩
  rintro⟨f8,t8⟩ w12 ⟨hcw12,hM12,hF12⟩;refine Gz 5 ?_;exact aG ⟨i+1,⟨f8,t8⟩⟩ ⟨by omega,hcw12,hM12,hF12⟩ (by show b.length-(i+1)<b.length-i;omega)
 have hib:i=b.length:=by omega
 subst hib;rw[Xl] at hcw;refine Gz 16 ?_;rw[hcw];exact⟨_,rfl,rfl,hM3,hF3⟩
theorem GJ(D:Nat→Prop)(g:Nat)(f t:By)(W:World)(hM:RwO D W.heap g f t)(hb:f.length≤1099511627000)(htl:t.length<128) :
 CA 37 [pT g] W (iR W (jD f t)):=by
 obtain⟨fo,fc,to,tc,hg,h1,h2,h3,h4,h5,h6,h7,h8⟩:=hM;refine cS 30 [(0,_)] Tryz.func37 ?_;refine Gz 7 ?_;refine TF b8 aH rfl ?_;intro w1 ho1 hs1 hf1;have hg1:=hf1.obj hg id;refine Gz 4 ?_;refine S8 aN aH rfl rfl ho1 (h1.WG hf1).vw (by simp only[WZ];omega) (by simp only[WZ];unfold maxLen;omega) rfl ?_;intro o2 c2 w2 ho2 hf2 hr2 hn2;rw[Xi] at ho2 ⊢;have hF2:aA nob W w2:=hf1.WD hf2 (fJ _).step;have hfr2:Fr W.heap.size o2:=cH (fJ _) hr2 hf1.size;have hg2:=hF2.obj hg id;refine fK 11 ?_ ?_<;>intro h17
 ·have e:jD f t=f++(bV t).1:=by unfold jD;rw[WI (by omega)]
  have hps:=dR (b:=t) (by omega);refine cA 9 Ho (lP to tc t w2 (h2.WG hF2).vw) ?_;rintro _ w3 ⟨o3,c3,rfl,ho3,hfr3,hf3⟩;refine Gz 10 ?_;refine S8 aN aH rfl rfl (ho2.WG hf3) ho3.vw (by omega) (by unfold maxLen;omega) rfl ?_;intro o4 c4 w4 ho4 hf4 hr4 hn4;refine Gz 11 ?_;rw[e];exact⟨_,rfl,o4,c4,rfl,ho4,cH hfr2 hr4 (hF2.trans hf3).size,(hF2.trans hf3).WD hf4 hfr2.step⟩
 have e:jD f t=f:=by unfold jD;rw[WJ (by omega)]
 refine Gz 13 ?_;rw[e];exact⟨_,rfl,o2,c2,rfl,ho2,hfr2,hF2⟩
abbrev I6:={ z:Int // -9223372036854775808≤z∧z≤9223372036854775807 }
def enI(z:I6):Value:=.int .i64 z.1
theorem uU:lJ Tryz.prog 3 enI:=by
 refine⟨Go.Maps.int_keyed ty3,fun a=>⟨.int .i64 a.1,?_⟩,fun a b h=>by unfold enI at h;exact Subtype.ext (by simpa using h)⟩;have h1:IntKind.i64.min = -9223372036854775808:=rfl;have h2:IntKind.i64.max=9223372036854775807:=rfl;have:=a.2;simp[keyOf,mapKey,enI,Lit.wf,h1,h2,this]
abbrev SK:={s:By // s.length≤maxLen}
def enS(s:SK):Value:=.string (bs s.1)
theorem Dk:lJ Tryz.prog 9 enS:=
 ⟨Maps.string_keyed (by kernel_rfl),fun a=>⟨.string a.1,by
  unfold keyOf;rw[show Tryz.prog.underlying 9=some .string by kernel_rfl];have h:a.1.length≤maxLen:=a.2;simp[mapKey,show Tryz.prog.underlying 9=some .string by kernel_rfl,enS,bs,ByteArray.size,h]⟩,fun a b h=>Subtype.ext (Kx (by simpa[enS] using h))⟩
def iW(r:By):SK:=if h:r.length≤maxLen then ⟨r,h⟩ else ⟨[],by decide⟩
theorem qR{r:By}(h:r.length≤maxLen):(iW r).1=r:=by unfold iW;rw[dif_pos h]
def Nx(A:Nat→Prop)(W w':World):Nat→Prop:=fun k=>A k∨(W.heap.size≤k∧k<w'.heap.size)
theorem aA.nx{A:Nat→Prop}{W w':World}(h:aA (fun k=>A k∨W.heap.size≤k) W w'):aA A W w':=
 ⟨h.os,h.tape,h.output,h.size,fun k hk hn=>h.same k hk (fun h'=>h'.elim hn (fun h2=>by omega))⟩
theorem MwO.tight{D:Nat→Prop}{H:Array Obj}{g p:Nat}{f t:By}(h:MwO D H g p f t):MwO (fun k=>D k∧k<H.size) H g p f t:=by
 have hl:=h.lt;obtain⟨fo,fc,to,tc,hg,h1,h2,h3,h4,h5,h6,h7,h8,h9,h10⟩:=h;exact⟨fo,fc,to,tc,hg,h1,h2,h3,h4,h5,⟨h6,hl⟩,fun k ⟨a,ha,hb⟩=>⟨h7 k ⟨a,ha,hb⟩,by have:=h1.lt a ha;omega⟩,fun k ⟨a,ha,hb⟩=>⟨h8 k ⟨a,ha,hb⟩,by have:=h2.lt a ha;omega⟩,h9,fun h=>h10 h.1⟩
theorem MwO.nx{A:Nat→Prop}{W w':World}{g p:Nat}{f t:By}(h:MwO (fun k=>A k∨W.heap.size≤k) w'.heap g p f t):MwO (Nx A W w') w'.heap g p f t:=
 h.tight.mono (fun k hk=>hk.1.elim .inl (fun h2=>.inr ⟨h2,hk.2⟩)) (fun hp=>by
  obtain⟨_,_,_,_,_,_,_,_,_,_,_,_,_,_,h10⟩:=h;exact h10 (hp.elim .inl (fun h2=>.inr h2.1)))
theorem MwO.tab{D:Nat→Prop}{H:Array Obj}{g p:Nat}{f t:By}(h:MwO D H g p f t):TbV H p∧¬ D p:=by obtain⟨_,_,_,_,_,_,_,_,_,_,_,_,_,h9,h10⟩:=h;exact⟨h9,h10⟩
theorem RwO.tight{D:Nat→Prop}{H:Array Obj}{g:Nat}{f t:By}(h:RwO D H g f t):RwO (fun k=>D k∧k<H.size) H g f t:=by
 have hl:=h.lt;obtain⟨fo,fc,to,tc,hg,h1,h2,h3,h4,h5,h6,h7,h8⟩:=h;exact⟨fo,fc,to,tc,hg,h1,h2,h3,h4,h5,⟨h6,hl⟩,fun k ⟨a,ha,hb⟩=>⟨h7 k ⟨a,ha,hb⟩,by have:=h1.lt a ha;omega⟩,fun k ⟨a,ha,hb⟩=>⟨h8 k ⟨a,ha,hb⟩,by have:=h2.lt a ha;omega⟩⟩
theorem RwO.mono{D D':Nat→Prop}{H:Array Obj}{g:Nat}{f t:By}(h:RwO D H g f t)(hd:∀ k,D k→D' k):RwO D' H g f t:=by
 obtain⟨fo,fc,to,tc,hg,h1,h2,h3,h4,h5,h6,h7,h8⟩:=h;exact⟨fo,fc,to,tc,hg,h1,h2,h3,h4,h5,hd _ h6,fun k hk=>hd _ (h7 k hk),fun k hk=>hd _ (h8 k hk)⟩
theorem RwO.nx{A:Nat→Prop}{W w':World}{g:Nat}{f t:By}(h:RwO (fun k=>A k∨W.heap.size≤k) w'.heap g f t):RwO (Nx A W w') w'.heap g f t:=
 h.tight.mono (fun k hk=>hk.1.elim .inl (fun h2=>.inr ⟨h2,hk.2⟩))
theorem oH(T b:By):(aP [] T).1.length+2*((aP [] T).2.length+b.length)≤2*(T.length+b.length):=by
 have h:=sG [] T;rw[WZ,XJ] at h;omega
theorem rJ(A:Nat→Prop)(g p:Nat)(T:By)(bo:Option Addr)(bc:Nat)(b:By)(W:World)(hM:MwO A W.heap g p (aP [] T).1 (aP [] T).2)(hv:Vw b8 W.heap bo bc b)(hb:T.length+b.length≤274877906944) :
 CA 26 [pT g,.slice bo b.length bc] W fun v w'=>v=iV (bJ T T.length:Nat)∧MwO (Nx A W w') w'.heap g p (aP [] (T++b)).1 (aP [] (T++b)).2∧aA A W w':=by
 obtain⟨ht,hp⟩:=hM.tab;have hpl:=(WS.1 ht).1;have hs:=oH T b;refine(LQ (fun k=>A k∨W.heap.size≤k) g p _ _ bo bc b W (hM.mono (fun k h=>.inl h) (fun h=>h.elim hp (fun h=>by omega))) (fun k h=>.inr h) hv (by omega)).mono ?_;rintro e w' ⟨v,rfl,rfl,h1,h2⟩;rw[←wW,←nZ] at *;exact⟨_,rfl,rfl,h1.nx,h2.nx⟩
theorem oJ(A:Nat→Prop)(g p:Nat)(T:By)(W:World)(hM:MwO A W.heap g p (aP [] T).1 (aP [] T).2)(hb:T.length≤274877906944) :
 CA 27 [pT g] W (iR W (frW T (nF T))):=by
 have hs:=oH T [];have hr:=fH [] T;have:=Jc A g p _ _ W hM (by rw[WZ] at hs;omega) hr;rwa[tO] at this
theorem As(A:Nat→Prop)(g:Nat)(T:By)(bo:Option Addr)(bc:Nat)(b:By)(W:World)(hM:RwO A W.heap g (aP [] T).1 (aP [] T).2)(hv:Vw b8 W.heap bo bc b)(hbA:b≠[]→∀ k,blk bo k→¬ A k)(hb:T.length+b.length≤274877906944) :
 CA 36 [pT g,.slice bo b.length bc] W fun v w'=>v=iV (bJ T T.length:Nat)∧RwO (Nx A W w') w'.heap g (aP [] (T++b)).1 (aP [] (T++b)).2∧aA A W w':=by
 have hs:=oH T b;have hr:=fH [] T;refine(Iy (fun k=>A k∨W.heap.size≤k) g _ _ bo bc b W (hM.mono (fun k h=>.inl h)) (fun k h=>.inr h) hv (fun hne k hk h=>h.elim (hbA hne k hk) (fun h=>by obtain⟨a,ha,rfl⟩:=hk;have:=hv.lt hne a ha;omega)) hr (by omega)).mono ?_;rintro e w' ⟨v,rfl,rfl,h1,h2⟩;rw[←wW,←nZ] at *;exact⟨_,rfl,rfl,h1.nx,h2.nx⟩
theorem wR(A:Nat→Prop)(g:Nat)(T:By)(W:World)(hM:RwO A W.heap g (aP [] T).1 (aP [] T).2)(hb:T.length≤274877906944) :
 CA 37 [pT g] W (iR W (frW T (nF T))):=by
 have hs:=oH T [];have hr:=fH [] T;have:=GJ A g _ _ W hM (by rw[WZ] at hs;omega) hr;rwa[tO] at this
theorem rH(p:Nat)(W:World)(ht:TbV W.heap p) :
 CA 19 [pT p] W fun v w'=>v=pT W.heap.size∧MwO (fun k=>W.heap.size≤k∧k<w'.heap.size) w'.heap W.heap.size p (aP [] []).1 (aP [] []).2∧aA nob W w':=by
 refine(LN p W ht).mono ?_;rintro e w' ⟨v,rfl,rfl,h1,h2⟩;exact⟨_,rfl,rfl,by rw[cJ (show ([]:By).length<128 by decide)];exact h1.tight,h2⟩
theorem RwO.zero{H:Array Obj}{g:Nat}(h:H[g]?=some (.cells #[sN,sN] 78 (0,0))):RwO (· = g) H g (aP [] []).1 (aP [] []).2:=by
 rw[cJ (show ([]:By).length<128 by decide)];exact⟨none,0,none,0,h,V8,V8,(fun⟨a,ha,_⟩=>by cases ha),(fun⟨a,ha,_⟩=>by cases ha),V4,rfl,(fun k ⟨a,ha,_⟩=>by cases ha),(fun k ⟨a,ha,_⟩=>by cases ha)⟩
section
variable {P:Program}{N:Nt}{Q:Exit→Act→World→Prop}{l:SF}{w:World}{ops:Array Oper}{rest:List Oper}{d:Nat}{ty t:TypeId}{pos:String}{aft:Array Edge}
theorem TT{α:Type}{k:Nat}{enc:α→List Value}(hk:iF k enc){e:TypeId}{bytes:Nat}(ht:aX P t e k bytes)(hd:Xs d N.n=true)
 (h:∀ w',bL k enc e w'.heap (some ⟨w.heap.size,0,none⟩) 0 ([]:List α)→w'.heap.size=w.heap.size+1→aA nob w w'→Sl P N ops Q rest ((d,.slice (some ⟨w.heap.size,0,none⟩) 0 0)::l) w') :
 Sl P N ops Q (⟨some d,.buildSlice t 0 #[],ty,pos,aft,none⟩::rest) l w:=by
 refine TJ (w':=w.alloc (.cells #[] e)) (fun a ha=>?_) hd (h _ (bS (xs:=[]) hk (heap_alloc_new w _) (WU _)) (by simp) (aA.alloc _ _ _));simp[execOp,Instr.buildSlice,run_underlying ht.und,ht.size,Instr.fill,newRow];rw[wX]
end
def gG(L:List By)(t:By):List By:=
 match L.getLast? with
|none=>L++[[]]
|some b=>if 128<b.length+t.length then L++[[]] else L
def fS(L:List By)(t:By):List By:=L.dropLast++[(L.getLast?.getD [])++t]
def mW(t:By):Bool:=t.length<1 || 128≤t.length
theorem oC{t:By}(h:t.length<1∨128≤t.length):mW t=true:=by unfold mW;simpa only[Yf,decide_eq_true_eq] using h
theorem mV{t:By}(h:1≤t.length∧t.length<128):mW t=false:=by
 unfold mW;rw[Bool.or_eq_false_iff];simp only[decide_eq_false_iff_not];omega
theorem KC{t:By}(h:mW t=false):1≤t.length∧t.length<128:=by
 unfold mW at h;rw[Bool.or_eq_false_iff] at h;simp only[decide_eq_false_iff_not] at h;omega
def tV(L:List By)(t:By):List By×Nat×Nat:=
 if mW t then (L,0,0) else (fS (gG L t) t,(gG L t).length,((gG L t).getLast?.getD []).length)
def offs:Nat→List By→List Nat
|_,[]=>[]
|k,b::r=>k::offs (k+b.length) r
theorem iZ:∀ (k:Nat) (L:List By),(offs k L).length=L.length
|_,[]=>rfl
|k,b::r=>by simp[offs,iZ _ r]
theorem kZ:∀ (k:Nat) (A B:List By),offs k (A++B)=offs k A++offs (k+A.flatten.length) B
|k,[],B=>by simp[offs]
|k,a::A,B=>by simp[offs,kZ _ A B,Yz]
theorem mA(L:List By)(h:L≠[]):L.dropLast.flatten++L.getLast h=L.flatten:=by
 conv=>rhs;rw[←Yy h]
 simp
theorem Dr(L:List By)(h:L≠[]):L.getLast?.getD []=L.getLast h:=by rw[List.getLast?_eq_some_getLast h];rfl
theorem G7(L:List By)(h:L≠[]):(offs 0 L).getD (L.length-1) 0=L.dropLast.flatten.length:=by
 have e:L=L.dropLast++[L.getLast h]:=(Yy h).symm;have hl:L.length-1=(offs 0 L.dropLast).length:=by rw[iZ];simp
 rw[hl]
 conv=>lhs;rw[e,kZ]
 simp[offs,WW]
theorem pC(L:List By)(h:L≠[]):(offs 0 L).getD (L.length-1) 0+(L.getLast?.getD []).length=L.flatten.length:=by
 rw[G7 L h,Dr L h,←mA L h,WM]
theorem AD(L:List By)(t:By)(h:L≠[]):offs 0 (fS L t)=offs 0 L:=by
 conv=>rhs;rw[←Yy h]
 simp[fS,kZ,offs]
theorem rV(L:List By)(t:By)(h:L≠[]):(fS L t).flatten=L.flatten++t:=by
 rw[fS,Dr L h,←mA L h];simp
theorem C2(L:List By):offs 0 (L++[[]])=offs 0 L++[L.flatten.length]:=by simp[kZ,offs]
theorem LG(L:List By)(t:By):gG L t≠[]:=by
 unfold gG;split
 ·simp
 · rename_i b hb;split
   ·simp
   ·intro h;simp[h] at hb
theorem rF(L:List By)(t:By)(h:L=[]∨128<(L.getLast?.getD []).length+t.length):gG L t=L++[[]]:=by
 unfold gG
 split
 ·rfl
 · rename_i b hb
   rcases h with h|h
   ·simp[h] at hb
   ·rw[hb] at h;exact WJ h
theorem rE(L:List By)(t:By)(h1:L≠[])(h2:¬ 128<(L.getLast?.getD []).length+t.length):gG L t=L:=by
 unfold gG
 split
 ·rename_i hb;simp at hb;exact absurd hb h1
 ·rename_i b hb;rw[hb] at h2;exact WI h2
theorem BK(L:List By)(t:By):(gG L t).flatten=L.flatten:=by
 unfold gG;split
 ·simp
 ·split<;>simp
theorem I9(L:List By)(t:By):L.length≤(gG L t).length∧(gG L t).length≤L.length+1:=by
 unfold gG;split
 ·simp
 ·split<;>simp
def jL(D:Nat→Prop)(H:Array Obj)(p:Nat)(L:List By):Prop:=
 ∃ ao c bo c',H[p]?=some (.cells [.slice ao L.flatten.length c,.slice bo (offs 0 L).length c'].toArray 184 (0,0))∧Own b8 5 H ao c L.flatten∧Own inN 3 H bo c' (offs 0 L) ∧
  Ap ao bo∧(¬ blk ao p)∧(¬ blk bo p)∧D p∧(∀ k,blk ao k→D k)∧(∀ k,blk bo k→D k)
theorem jL.WH{D S:Nat→Prop}{w w':World}{p:Nat}{L:List By}(h:jL D w.heap p L)(f:aA S w w')(hs:∀ k,D k→¬ S k):jL D w'.heap p L:=by
 obtain⟨ao,c,bo,c',h1,h2,h3,h4,h5,h6,h7,h8,h9⟩:=h;exact⟨ao,c,bo,c',f.obj h1 (hs p h7),h2.WH f (fun a ha=>hs _ (h8 _ ⟨a,ha,rfl⟩)),h3.WH f (fun a ha=>hs _ (h9 _ ⟨a,ha,rfl⟩)),h4,h5,h6,h7,h8,h9⟩
def eP(D:Nat→Prop)(W:World)(p:Nat)(L:List By)(w':World):Prop:=
 ∃ D',jL D' w'.heap p L∧(∀ k,D' k→D k∨W.heap.size≤k)∧(∀ k,D' k→k<w'.heap.size)∧aA D W w'
theorem eP.draws{D:Nat→Prop}{W w:World}{p:Nat}{L:List By}(h:eP D W p L w)(n:Nat):eP D W p L (w.drewN n):=by
 obtain⟨D',h1,h2,h3,h4⟩:=h;exact⟨D',h1,h2,h3,h4.draws n⟩
theorem eP.same{D:Nat→Prop}{W:World}{p:Nat}{L:List By}(h:jL D W.heap p L)(hD:∀ k,D k→k<W.heap.size):eP D W p L W:=
 ⟨D,h,fun _ hk=>.inl hk,hD,VZ _ _⟩
theorem Ci{D:Nat→Prop}{W w1 w2 w3:World}{p:Nat}{L:List By}{ao bo bo2:Option Addr}{c c2:Nat}(hD:∀ k,D k→k<W.heap.size)
 (hrow:Own b8 5 W.heap ao c L.flatten)(hap:Ap ao bo)(hap1:¬ blk ao p)(hbp:¬ blk bo p)(hDp:D p)(hDa:∀ k,blk ao k→D k)(hDb:∀ k,blk bo k→D k)
 (hf1:aA nob W w1)(ho2:Own inN 3 w2.heap bo2 c2 (offs 0 L++[L.flatten.length]))(hf2:aA (blk bo) w1 w2)(hr2:∀ a,bo2=some a→bo=some a∨w1.heap.size≤a.block)
 (hg3:w3.heap[p]?=some (.cells [.slice ao L.flatten.length c,.slice bo2 (offs 0 L++[L.flatten.length]).length c2].toArray 184 (0,0)))(hf3:aA (· = p) w2 w3):eP D W p (L++[[]]) w3:=by
 have hWp:=hD p hDp;have s1:=hf1.size;have s2:=hf2.size;have hbo2p:¬ blk bo2 p:=fun⟨a,ha,hb⟩=>by
  rcases hr2 a ha with h|h
  ·exact hbp ⟨a,h,hb⟩
  ·omega
 have hab:Ap ao bo2:=fun a b ha hb e=>by
  rcases hr2 b hb with h|h
  ·exact hap a b ha h e
  ·have:=hD _ (hDa _ ⟨a,ha,rfl⟩);omega
 have e1:(L++[[]]).flatten=L.flatten:=by simp
 have F2:aA (blk bo) W w2:=(hf1.mono (fun _ h=>h.elim)).trans hf2;refine⟨fun k=>D k∨(W.heap.size≤k∧k<w3.heap.size),⟨ao,c,bo2,c2,?_,?_,?_,hab,hap1,hbo2p,.inl hDp,fun k hk=>.inl (hDa k hk),?_⟩,?_,?_,?_⟩
 ·rw[e1,C2];exact hg3
 · rw[e1]
   exact(hrow.WH F2 (fun a ha h=>by obtain⟨b,hb,e⟩:=h;exact hap a b ha hb e.symm)).WH hf3 (fun a ha h=>hap1 ⟨a,ha,h⟩)
 ·rw[C2];exact ho2.WH hf3 (fun a ha h=>hbo2p ⟨a,ha,h⟩)
 · rintro k ⟨a,ha,rfl⟩
   rcases hr2 a ha with h|h
   ·exact .inl (hDb _ ⟨a,h,rfl⟩)
   · have h5:=ho2.lt a ha
     have:=hf3.size;exact .inr ⟨by omega,by omega⟩
 · intro k hk;rcases hk with hk|hk
   ·exact .inl hk
   ·exact .inr hk.1
 · intro k hk;rcases hk with hk|hk
   ·have:=hD k hk;have:=hf3.size;omega
   ·exact hk.2
 ·exact(F2.mono (fun k h=>hDb k h)).trans (hf3.mono (fun k h=>by subst h;exact hDp))
theorem Mz{D D1:Nat→Prop}{W w1 w3 w4:World}{p:Nat}{L:List By}{t:By}{ao bo ao3:Option Addr}{c3 c':Nat}(hne:L≠[])(hD1:∀ k,D1 k→D k∨W.heap.size≤k)(hD2:∀ k,D1 k→k<w1.heap.size)(hF:aA D W w1)
 (hbeg:Own inN 3 w1.heap bo c' (offs 0 L))(hap:Ap ao bo)(hap1:¬ blk ao p)(hbp:¬ blk bo p)(hDp:D1 p)(hDa:∀ k,blk ao k→D1 k)(hDb:∀ k,blk bo k→D1 k)
 (ho3:Own b8 5 w3.heap ao3 c3 (L.flatten++t))(hf3:aA (blk ao) w1 w3)(hr3:∀ a,ao3=some a→ao=some a∨w1.heap.size≤a.block)
 (hg4:w4.heap[p]?=some (.cells [.slice ao3 (L.flatten++t).length c3,.slice bo (offs 0 L).length c'].toArray 184 (0,0)))(hf4:aA (· = p) w3 w4):eP D W p (fS L t) w4:=by
 have hWp:=hD2 p hDp;have s0:=hF.size;have s3:=hf3.size;have s4:=hf4.size;have ha3p:¬ blk ao3 p:=fun⟨a,ha,hb⟩=>by
  rcases hr3 a ha with h|h
  ·exact hap1 ⟨a,h,hb⟩
  ·omega
 have hab:Ap ao3 bo:=fun a b ha hb e=>by
  rcases hr3 a ha with h|h
  ·exact hap a b h hb e
  ·have:=hD2 _ (hDb _ ⟨b,hb,rfl⟩);omega
 refine⟨fun k=>D1 k∨(w1.heap.size≤k∧k<w4.heap.size),⟨ao3,c3,bo,c',?_,?_,?_,hab,ha3p,hbp,.inl hDp,?_,fun k hk=>.inl (hDb k hk)⟩,?_,?_,?_⟩
 ·rw[rV L t hne,AD L t hne];exact hg4
 ·rw[rV L t hne];exact ho3.WH hf4 (fun a ha h=>ha3p ⟨a,ha,h⟩)
 · rw[AD L t hne]
   exact(hbeg.WH hf3 (fun a ha h=>by obtain⟨b,hb,e⟩:=h;exact hap b a hb ha e)).WH hf4 (fun a ha h=>hbp ⟨a,ha,h⟩)
 · rintro k ⟨a,ha,rfl⟩
   rcases hr3 a ha with h|h
   ·exact .inl (hDa _ ⟨a,h,rfl⟩)
   · have h5:=ho3.lt a ha
     exact .inr ⟨h,by omega⟩
 · intro k hk;rcases hk with hk|hk
   ·exact hD1 k hk
   ·exact .inr (by omega)
 · intro k hk;rcases hk with hk|hk
   ·have:=hD2 k hk;omega
   ·exact hk.2
 ·refine hF.WD ((hf3.mono (fun k h=>hDa k h)).trans (hf4.mono (fun k h=>by subst h;exact hDp))) hD1
theorem Oh(D:Nat→Prop)(p:Nat)(L:List By)(to:Option Addr)(tc:Nat)(t:By)(W:World)(hP:jL D W.heap p L)(hD:∀ k,D k→k<W.heap.size)
 (hv:Vw b8 W.heap to tc t)(hvD:t≠[]→∀ a,to=some a→¬ D a.block)(hb1:L.flatten.length≤1099511627776)(hb2:L.length≤1099511627776) :
 CA 67 [pT p,.slice to t.length tc] W fun v w'=>v=.tuple #[inN (tV L t).2.1,inN (tV L t).2.2]∧eP D W p (tV L t).1 w':=by
 have hl:=hv.WF;have hPP:=hP;obtain⟨ao,c,bo,c',hobj,hrow,hbeg,hap,hap1,hbp,hDp,hDa,hDb⟩:=hP;have hol:=iZ 0 L;refine cS 83 [(0,_),(1,_)] Tryz.func67 ?_;refine fK 11 ?_ ?_<;>intro h9
 ·refine Gz 17 ?_;have hbad:mW t=true:=oC (by omega);exact⟨_,rfl,by simp[tV,hbad,inN],by rw[show tV L t=(L,0,0) from by simp[tV,hbad]];exact eP.same hPP hD⟩
 refine fW 3 ?_ ?_<;>intro h13
 ·refine Gz 13 ?_;have hbad:mW t=true:=oC (by omega);exact⟨_,rfl,by simp[tV,hbad,inN],by rw[show tV L t=(L,0,0) from by simp[tV,hbad]];exact eP.same hPP hD⟩
 refine Gz 16 ?_;refine Tw (β:=Unit) (fun _u=>[(0,pT p),(1,.slice to t.length tc),(6,iV (gG L t).length)]) (fun _u w=>mW t=false∧eP D W p (gG L t) w) ?_ ?_
 ·refine Gz 1 ?_;refine Tk 22 [0,1,2,3,4,5,6,7,8,9,10,11,12,13,14,15,16,17,18,19,20,21] aI (by kernel_rfl) ?_;refine xK 1 ?_ ?_<;>intro h21
  ·refine Gz 24 ?_;refine Tc 14 (fun H=>H[p]?=some (.cells [.slice ao L.flatten.length c,.slice bo (offs 0 L).length c'].toArray 184 (0,0))) [10,11,14] [0,1,2,3,4,5,6,7,8,9,10,11,12,13,14] aI (by kernel_rfl) (hobj) ?_;refine Gz 10 ?_;refine S7 rfl rfl (TB (enc:=inN) (u:=L.flatten.length) aY rfl rfl rfl ?_);intro w1 ho1 hs1 hf1;refine Tg (by exact hf1.obj hobj (fun h=>h)) ?_;refine S7 rfl rfl (S8 F9 aY rfl rfl (hbeg.WG hf1.WE.WE) ho1.vw (by simp only[WP];omega) (by simp only[WP];unfold maxLen;omega) rfl ?_);intro bo2 c2 w2 ho2 hf2 hr2 hn2;refine Tg (by exact hf2.obj (hf1.obj hobj (fun h=>h)) hbp) ?_;refine Gz 2 ?_;refine S7 rfl rfl (S6 kY rfl rfl rfl (hf2.obj (hf1.obj hobj (fun h=>h)) hbp) rfl ?_);intro w3 hg3 hs3 hf3;refine Tx rfl ?_;refine Gz 7 ?_;have hg:mW t=false:=mV (by omega)
   first
   |(have hnew:gG L t=L++[[]]:=rF L t (by first|(left;exact W6 (by omega))|(right;omega))
     refine TG () ⟨rfl,rfl,congrArg (fun z:Int=>some (Value.int .i64 z)) (by rw[hnew,WM];simp[hol]),trivial⟩ ?_;exact⟨hg,by rw[hnew];exact Ci hD hrow hap hap1 hbp hDp hDa hDb hf1.WE.WE ho2 hf2 hr2 hg3 hf3⟩)
   |(have hold:gG L t=L:=rE L t hne (by omega)
     refine TG () ⟨rfl,rfl,congrArg (fun z:Int=>some (Value.int .i64 z)) (by rw[hold,hol]),trivial⟩ ?_;exact⟨hg,by rw[hold];exact(eP.same hPP hD).draws 1⟩)
  refine Gz 4 ?_;refine xV rfl (S2 aL rfl (aD hobj rfl)) ?_;refine Gz 4 ?_;refine xV rfl (S2 kY rfl (aD hobj rfl)) ?_;refine Gz 2 ?_;refine xV rfl (SY aY rfl rfl hbeg.vw.non (by omega)) ?_;have hne:L≠[]:=by intro e;subst e;simp[offs] at h21
  have hlast:=pC L hne;refine xV rfl (S2 aF rfl (hbeg.vw.gz 0 (L.length-1) (by omega) (by omega))) ?_;refine xW 4 ?_ ?_<;>intro h40
  ·refine Gz 5 ?_;refine Tc 14 (fun H=>H[p]?=some (.cells [.slice ao L.flatten.length c,.slice bo (offs 0 L).length c'].toArray 184 (0,0))) [10,11,14] [0,1,2,3,4,5,6,7,8,9,10,11,12,13,14] aI (by kernel_rfl) (hobj) ?_;refine Gz 10 ?_;refine S7 rfl rfl (TB (enc:=inN) (u:=L.flatten.length) aY rfl rfl rfl ?_);intro w1 ho1 hs1 hf1;refine Tg (by exact hf1.obj hobj (fun h=>h)) ?_;refine S7 rfl rfl (S8 F9 aY rfl rfl (hbeg.WG hf1.WE.WE) ho1.vw (by simp only[WP];omega) (by simp only[WP];unfold maxLen;omega) rfl ?_);intro bo2 c2 w2 ho2 hf2 hr2 hn2;refine Tg (by exact hf2.obj (hf1.obj hobj (fun h=>h)) hbp) ?_;refine Gz 2 ?_;refine S7 rfl rfl (S6 kY rfl rfl rfl (hf2.obj (hf1.obj hobj (fun h=>h)) hbp) rfl ?_);intro w3 hg3 hs3 hf3;refine Tx rfl ?_;refine Gz 7 ?_;have hg:mW t=false:=mV (by omega)
   first
   |(have hnew:gG L t=L++[[]]:=rF L t (by first|(left;exact W6 (by omega))|(right;omega))
     refine TG () ⟨rfl,rfl,congrArg (fun z:Int=>some (Value.int .i64 z)) (by rw[hnew,WM];simp[hol]),trivial⟩ ?_;exact⟨hg,by rw[hnew];exact Ci hD hrow hap hap1 hbp hDp hDa hDb hf1.WE.WE ho2 hf2 hr2 hg3 hf3⟩)
   |(have hold:gG L t=L:=rE L t hne (by omega)
     refine TG () ⟨rfl,rfl,congrArg (fun z:Int=>some (Value.int .i64 z)) (by rw[hold,hol]),trivial⟩ ?_;exact⟨hg,by rw[hold];exact(eP.same hPP hD).draws 1⟩)
  refine Gz 5 ?_;have hg:mW t=false:=mV (by omega)
  first
  |(have hnew:gG L t=L++[[]]:=rF L t (by first|(left;exact W6 (by omega))|(right;omega))
    refine TG () ⟨rfl,rfl,congrArg (fun z:Int=>some (Value.int .i64 z)) (by rw[hnew,WM];simp[hol]),trivial⟩ ?_;exact⟨hg,by rw[hnew];exact Ci hD hrow hap hap1 hbp hDp hDa hDb hf1.WE.WE ho2 hf2 hr2 hg3 hf3⟩)
  |(have hold:gG L t=L:=rE L t hne (by omega)
    refine TG () ⟨rfl,rfl,congrArg (fun z:Int=>some (Value.int .i64 z)) (by rw[hold,hol]),trivial⟩ ?_;exact⟨hg,by rw[hold];exact(eP.same hPP hD).draws 1⟩)
 rintro _ w1 ⟨hgood,D1,hP1,hD1,hD2,hF⟩;obtain⟨ao,c,bo,c',hobj,hrow,hbeg,hap,hap1,hbp,hDp,hDa,hDb⟩:=hP1;have hol:=iZ 0 (gG L t);have hne:=LG L t;have hpos:0<(gG L t).length:=W5.2 hne;have hlast:=pC (gG L t) hne;have hnl:=I9 L t;have hnf:=BK L t;have hnfl:(gG L t).flatten.length=L.flatten.length:=by rw[hnf]
 have hgood':1≤t.length∧t.length<128:=KC hgood;refine Gz 1 ?_;refine Tk 15 [0,1,2,3,4,5,6,7,8,9,10,11,12,13,14] aI (by kernel_rfl) ?_;refine Gz 3 ?_;refine xC rfl (S2 aL rfl (aD hobj rfl)) ?_;refine Gz 4 ?_;refine xC rfl (S2 kY rfl (aD hobj rfl)) ?_;refine Gz 2 ?_;refine xC rfl (SY aY rfl rfl hbeg.vw.non (by omega)) ?_;refine xC rfl (S2 aF rfl (hbeg.vw.gz 0 ((gG L t).length-1) (by omega) (by omega))) ?_;refine Gz 12 ?_;refine S8 aN aH rfl rfl hrow (hv.WH (hF.draws 1) (hvD (by intro e;rw[e] at hgood';simp at hgood'))) (by omega) (by unfold maxLen;omega) rfl ?_;intro ao3 c3 w3 ho3 hf3 hr3 hn3;refine Gz 2 ?_;refine S6 aL rfl rfl rfl (hf3.obj hobj hap1) rfl ?_;intro w4 hg4 hs4 hf4;refine Gz 12 ?_;have e:tV L t=(fS (gG L t) t,(gG L t).length,((gG L t).getLast?.getD []).length):=by simp[tV,hgood]
 refine⟨_,rfl,?_,?_⟩
 ·rw[e];exact K1 rfl (by show _=((((gG L t).getLast?.getD []).length:Nat):Int);omega)
 ·rw[e];exact Mz hne hD1 hD2 hF hbeg hap hap1 hbp hDp hDa hDb ho3 hf3.WE hr3 hg4 hf4
theorem NK(W:World):CA 65 [] W fun v w'=>v=pT W.heap.size∧jL (fun k=>k=W.heap.size) w'.heap W.heap.size []∧aA nob W w'∧w'.heap.size=W.heap.size+1:=by
 refine cS 3 [] Tryz.func65 ?_;refine Gz 7 ?_;refine cL (TC Nw Oo rfl rfl) ?_;refine To rfl rfl ?_;intro w1 hg1 hs1 hf1;refine Gz 5 ?_;exact⟨_,rfl,rfl,⟨none,0,none,0,hg1,V8,V8,V4,(fun⟨a,h,_⟩=>by cases h),(fun⟨a,h,_⟩=>by cases h),rfl,(fun k ⟨a,h,_⟩=>by cases h),(fun k ⟨a,h,_⟩=>by cases h)⟩,hf1,hs1⟩
def Cj(W:World)(xs:By):Value→World→Prop:=fun v w'=>∃ ao' cap',v=.slice ao' xs.length cap'∧Own b8 5 w'.heap ao' cap' xs∧Fr W.heap.size ao'∧aA nob W w'
theorem EU(cap:Nat)(xs:By)(W:World)(hv:Vw b8 W.heap none cap xs):CA 61 [.slice none xs.length cap] W (Cj W xs):=by
 have hx:xs=[]:=W6 (by
  rcases Nat.eq_zero_or_pos xs.length with h|h
  ·exact h
  ·exact absurd rfl (hv.non (by omega)))
 subst hx;refine cS 8 [(0,_)] Tryz.func61 ?_;refine Gz 9 ?_;refine cL (TI aH rfl rfl) ?_;refine Gz 11 ?_;exact⟨_,rfl,none,0,rfl,V8,V6,VZ _ _⟩
theorem DB(a:Addr)(cap:Nat)(xs:By)(W:World)(hv:Vw b8 W.heap (some a) cap xs)(hb:xs.length≤140737488355328):CA 61 [.slice (some a) xs.length cap] W (Cj W xs):=by
 have hl:=hv.WF;refine cS 8 [(0,_)] Tryz.func61 ?_;refine Gz 9 ?_;refine cL (TI aH rfl rfl) ?_;refine Gz 7 ?_;refine TF b8 aH rfl ?_;intro w1 ho1 hs1 hf1;refine Gz 1 ?_;refine S8 aN aH rfl rfl ho1 (hv.WG hf1) (by simp only[WZ];omega) (by simp only[WZ];unfold maxLen;omega) rfl ?_;intro ao2 c2 w2 ho2 hf2 hr2 hn2;refine Gz 5 ?_;have hfr:Fr W.heap.size (some (⟨W.heap.size,0,none⟩:Addr)):=fun a ha=>by cases ha;exact WT _
 refine⟨_,rfl,ao2,c2,rfl,ho2,fun a ha=>?_,hf1.WD hf2 hfr.step⟩;rcases hr2 a ha with h|h
 ·exact hfr a h
 ·have:=hf1.size;omega
theorem Ht(ao:Option Addr)(cap:Nat)(xs:By)(W:World)(hv:Vw b8 W.heap ao cap xs)(hb:xs.length≤140737488355328):CA 61 [.slice ao xs.length cap] W (Cj W xs):=by
 cases ao with
|none=>exact EU cap xs W hv
|some a=>exact DB a cap xs W hv hb
theorem FM(L:List By):∀ (b k:Nat),k<L.length→(offs b L).getD k 0=b+(L.take k).flatten.length:=by
 induction L with
|nil=>intro b k h;simp at h
|cons x r ih=>
   intro b k h;cases k with
  |zero=>simp[offs]
  |succ k=>
     have:=ih (b+x.length) k (by simpa using h);simp only[offs,List.getD_cons_succ,this,List.take_succ_cons,List.flatten_cons,WM];omega
theorem rU(L:List By)(k:Nat)(h:k<L.length):(L.take (k+1)).flatten.length=(L.take k).flatten.length+(L.getD k []).length:=by
 rw[Xb h,Y9,WM];simp[WW,h]
theorem uJ(L:List By)(k:Nat)(h:k<L.length):(L.flatten.drop (L.take k).flatten.length).take (L.getD k []).length=L.getD k []:=by
 have e:L=L.take k++(L.getD k []::L.drop (k+1)):=by
  conv=>lhs;rw[←Xn k L]
  rw[List.drop_eq_getElem_cons h];simp[WW,h]
 have e2:L.flatten=(L.take k).flatten++(L.getD k []++(L.drop (k+1)).flatten):=by
  conv=>lhs;rw[e]
  simp
 rw[e2,List.drop_left,List.take_left]
theorem nC(L:List By)(k:Nat):(L.take k).flatten.length≤L.flatten.length:=by
 conv=>rhs;rw[←Xn k L]
 rw[Y9,WM];omega
theorem HG(D:Nat→Prop)(p:Nat)(L:List By)(W:World)(hP:jL D W.heap p L)(hb1:L.flatten.length≤1099511627776)(hb2:L.length≤1099511627776) :
 CA 68 [pT p] W fun v w'=>∃ ao' cap' hs',v=.slice ao' hs'.length cap'∧Own hd 25 w'.heap ao' cap' hs'∧cP (fun k=>W.heap.size≤k) w'.heap hs' L∧Fr W.heap.size ao'∧aA nob W w':=by
 obtain⟨ao,c,bo,c',hobj,hrow,hbeg,hap,hap1,hbp,hDp,hDa,hDb⟩:=hP;have hol:=iZ 0 L;refine cS 51 [(0,_)] Tryz.func68 ?_;refine Gz 16 ?_;refine SZ EP rfl (Ht ao c L.flatten W hrow.vw (by omega)) rfl ?_;rintro _ w1 ⟨ro,rc,rfl,hro,hfro,hf1⟩;refine Gz 9 ?_;refine cL (S2 kY rfl (aD (hf1.obj hobj (fun h=>h)) rfl)) ?_;refine Gz 5 ?_;refine S4 (β:=Nat×Option Addr×Nat×List Hd) (fun⟨k,go,gc,gs⟩=>[(0,pT p),(3,.slice go gs.length gc),(4,.slice ro L.flatten.length rc),(16,.slice bo (offs 0 L).length c'),(17,iV (offs 0 L).length),(18,iV k)]) (fun⟨k,go,gc,gs⟩ w=>k≤L.length∧Own hd 25 w.heap go gc gs∧cP (blk ro) w.heap gs (L.take k)∧Own b8 5 w.heap ro rc L.flatten∧Ap ro go∧Fr W.heap.size go∧aA nob W w) (fun⟨k,go,gc,gs⟩=>L.length-k) (0,none,0,[]) ⟨rfl,rfl,rfl,rfl,rfl,rfl,trivial⟩ ⟨by omega,V8,Wd,hro,V5,V6,hf1⟩ ?_;rintro⟨k,go,gc,gs⟩ w2 ⟨hk1,hog,hrg,hro2,hapg,hfg,hF⟩;have hgl:=hrg.1;simp only[WR] at hgl;refine fK 2 ?_ ?_<;>intro h19
 ·refine Gz 11 ?_;have hkl:k<L.length:=by omega
  have hat:bD w2.heap (adr bo (k:Int).toNat)=some (inN (L.take k).flatten.length):=by have:=(hbeg.WG hF).vw.gz 0 k (z:=k) rfl (by omega);rwa[FM L 0 k hkl,XJ] at this
  have hst:=rU L k hkl;have hle1:=nC L (k+1);refine cL (SY aY rfl rfl hbeg.vw.non (by omega)) ?_;refine cL (S2 aF rfl hat) ?_;refine Gz 19 ?_;refine cL (S2 kY rfl (aD (hF.obj hobj (fun h=>h)) rfl)) ?_;refine fK 1 ?_ ?_<;>intro h32
  ·refine Gz 7 ?_;refine cL (S2 kY rfl (aD (hF.obj hobj (fun h=>h)) rfl)) ?_;refine Gz 2 ?_;have hend:bD w2.heap (adr bo ((k:Int)+1).toNat)=some (inN (L.take (k+1)).flatten.length):=by have:=(hbeg.WG hF).vw.gz 0 (k+1) (z:=(k:Int)+1) rfl (by omega);rwa[FM L 0 (k+1) (by omega),XJ] at this
   refine cL (SY aY rfl rfl hbeg.vw.non (by omega)) ?_;refine cL (S2 aF rfl hend) ?_;refine Gz 9 ?_;obtain⟨E,hE,hE2⟩:∃ E,E=(L.take (k+1)).flatten.length∧E=(L.take (k+1)).flatten.length:=⟨_,rfl,rfl⟩
   have hrc:=hro2.vw.le;refine cL (Ug aH rfl rfl rfl rfl (by omega) (by omega) (by omega)) ?_;refine TB (enc:=hd) (u:=⟨bA ro (L.take (k+1)).flatten.length (L.take k).flatten.length 1,(L.take (k+1)).flatten.length-(L.take k).flatten.length,(L.take (k+1)).flatten.length-(L.take k).flatten.length⟩) lL rfl rfl rfl ?_;intro w3 ho3 hs3 hf3;refine S8 pZ lL rfl rfl (hog.WG hf3) ho3.vw (by simp only[WP];omega) (by simp only[WP];unfold maxLen;omega) rfl ?_;intro ao4 c4 w4 ho4 hf4 hr4 hn4;refine Gz 8 ?_;refine aG (k+1,ao4,c4,gs++[⟨bA ro (L.take (k+1)).flatten.length (L.take k).flatten.length 1,(L.take (k+1)).flatten.length-(L.take k).flatten.length,(L.take (k+1)).flatten.length-(L.take k).flatten.length⟩]) ?_ (by show L.length-(k+1)<L.length-k;omega);have hF4:aA nob W w4:=(hF.trans hf3).WD hf4 hfg.step;have hnr:∀ a,ro=some a→¬ blk go a.block:=fun a ha h=>hapg.not a ha h;refine⟨by omega,ho4,?_,(hro2.WG hf3).WH hf4 hnr,fun a b ha hb e=>?_,fun a ha=>?_,hF4⟩
   · have hrg4:cP (blk ro) w4.heap gs (L.take k):=(hrg.WH hf3 (fun _ _ h=>h)).WH hf4 (fun k' hk'=>by obtain⟨a,ha,rfl⟩:=hk';exact hnr a ha)
     have hcut:=((hro2.WG hf3).WH hf4 hnr).vw.cut (l:=(L.take k).flatten.length) (h:=E) (m:=E) (by omega) (by omega) (by omega) (by omega);have hEd:E-(L.take k).flatten.length=(L.getD k []).length:=by omega
     have e:L.take (k+1)=L.take k++[L.getD k []]:=by rw[Xb hkl];simp[WW,hkl]
     rw[hEd,uJ L k hkl,hE] at hcut;have hsn:=hrg4.snoc (x:=⟨bA ro (L.take (k+1)).flatten.length (L.take k).flatten.length 1,(L.take (k+1)).flatten.length-(L.take k).flatten.length,(L.take (k+1)).flatten.length-(L.take k).flatten.length⟩) (xs:=L.getD k []) (by show (L.take (k+1)).flatten.length - _=_;omega) (by show Vw b8 _ (bA ro (L.take (k+1)).flatten.length _ 1) ((L.take (k+1)).flatten.length - _) _;rw[←hE,hEd,hE];exact hcut) (fun _ k' hk'=>lC hk');exact(congrArg (cP (blk ro) w4.heap _) e).mpr hsn
   · rcases hr4 b hb with h|h
     ·exact hapg a b ha h e
     ·have:=hro2.lt a ha;have:=hf3.size;omega
   · rcases hr4 a ha with h|h
     ·exact hfg a h
     ·have:=hF.size;have:=hf3.size;omega
  refine Gz 11 ?_;obtain⟨E,hE,hE2⟩:∃ E,E=L.flatten.length∧E=(L.take (k+1)).flatten.length:=⟨_,rfl,by rw[WY (by omega)]⟩
  have hrc:=hro2.vw.le;refine cL (Ug aH rfl rfl rfl rfl (by omega) (by omega) (by omega)) ?_;refine TB (enc:=hd) (u:=⟨bA ro L.flatten.length (L.take k).flatten.length 1,L.flatten.length-(L.take k).flatten.length,L.flatten.length-(L.take k).flatten.length⟩) lL rfl rfl rfl ?_;intro w3 ho3 hs3 hf3;refine S8 pZ lL rfl rfl (hog.WG hf3) ho3.vw (by simp only[WP];omega) (by simp only[WP];unfold maxLen;omega) rfl ?_;intro ao4 c4 w4 ho4 hf4 hr4 hn4;refine Gz 8 ?_;refine aG (k+1,ao4,c4,gs++[⟨bA ro L.flatten.length (L.take k).flatten.length 1,L.flatten.length-(L.take k).flatten.length,L.flatten.length-(L.take k).flatten.length⟩]) ?_ (by show L.length-(k+1)<L.length-k;omega);have hF4:aA nob W w4:=(hF.trans hf3).WD hf4 hfg.step;have hnr:∀ a,ro=some a→¬ blk go a.block:=fun a ha h=>hapg.not a ha h;refine⟨by omega,ho4,?_,(hro2.WG hf3).WH hf4 hnr,fun a b ha hb e=>?_,fun a ha=>?_,hF4⟩
  · have hrg4:cP (blk ro) w4.heap gs (L.take k):=(hrg.WH hf3 (fun _ _ h=>h)).WH hf4 (fun k' hk'=>by obtain⟨a,ha,rfl⟩:=hk';exact hnr a ha)
    have hcut:=((hro2.WG hf3).WH hf4 hnr).vw.cut (l:=(L.take k).flatten.length) (h:=E) (m:=E) (by omega) (by omega) (by omega) (by omega);have hEd:E-(L.take k).flatten.length=(L.getD k []).length:=by omega
    have e:L.take (k+1)=L.take k++[L.getD k []]:=by rw[Xb hkl];simp[WW,hkl]
    rw[hEd,uJ L k hkl,hE] at hcut;have hsn:=hrg4.snoc (x:=⟨bA ro L.flatten.length (L.take k).flatten.length 1,L.flatten.length-(L.take k).flatten.length,L.flatten.length-(L.take k).flatten.length⟩) (xs:=L.getD k []) (by show L.flatten.length - _=_;omega) (by show Vw b8 _ (bA ro L.flatten.length _ 1) (L.flatten.length - _) _;rw[←hE,hEd,hE];exact hcut) (fun _ k' hk'=>lC hk');exact(congrArg (cP (blk ro) w4.heap _) e).mpr hsn
  · rcases hr4 b hb with h|h
    ·exact hapg a b ha h e
    ·have:=hro2.lt a ha;have:=hf3.size;omega
  · rcases hr4 a ha with h|h
    ·exact hfg a h
    ·have:=hF.size;have:=hf3.size;omega
 refine Gz 17 ?_;have hkk:L.take k=L:=WY (by omega);rw[hkk] at hrg;exact⟨_,rfl,go,gc,gs,rfl,hog,hrg.mono (fun k h=>by obtain⟨a,ha,rfl⟩:=h;exact hfro a ha),hfg,hF⟩
def uY(D:Nat→Prop)(H:Array Obj)(p:Nat)(L:List By):Prop:=
 ∃ Din ao c hs,H[p]?=some (.cells [.slice ao hs.length c].toArray 86 (0,0))∧Own hd 25 H ao c hs∧cP Din H hs L∧(¬ blk ao p)∧D p∧(∀ k,blk ao k→D k)∧(∀ k,Din k→D k∧k≠p∧¬ blk ao k)
theorem uY.WH{D S:Nat→Prop}{w w':World}{p:Nat}{L:List By}(h:uY D w.heap p L)(f:aA S w w')(hs:∀ k,D k→¬ S k):uY D w'.heap p L:=by
 obtain⟨Din,ao,c,gs,h1,h2,h3,h4,h5,h6,h7⟩:=h;exact⟨Din,ao,c,gs,f.obj h1 (hs p h5),h2.WH f (fun a ha=>hs _ (h6 _ ⟨a,ha,rfl⟩)),h3.WH f (fun k hk=>hs k (h7 k hk).1),h4,h5,h6,h7⟩
def zB(D:Nat→Prop)(W:World)(p:Nat)(L:List By)(w':World):Prop:=
 ∃ D',uY D' w'.heap p L∧(∀ k,D' k→D k∨W.heap.size≤k)∧(∀ k,D' k→k<w'.heap.size)∧aA D W w'
def dK(L:List By)(t:By):List By×Nat×Nat:=
 if mW t then (L,0,0) else
 if L=[]∨128<(L.getD (L.length-1) []).length+t.length then (L++[t],L.length+1,0) else (L.set (L.length-1) (L.getD (L.length-1) []++t),L.length,(L.getD (L.length-1) []).length)
theorem Hm(L:List By):L.getD (L.length-1) []=L.getLast?.getD []:=by
 rw[List.getLast?_eq_getElem?];simp[WW]
theorem MB(L:List By)(t:By):dK L t=tV L t:=by
 unfold dK tV
 split
 ·rfl
 · rw[Hm]
   split
   · rename_i h
     rw[rF L t h];simp[fS]
   · rename_i h
     have hne:L≠[]:=fun e=>h (.inl e);rw[rE L t hne (fun e=>h (.inr e))];refine YU ?_ rfl;show L.set (L.length-1) _=fS L t;unfold fS
     conv=>lhs;rw[←Yy hne]
     have hl:(L.dropLast++[L.getLast hne]).length-1=L.dropLast.length:=by simp
     rw[hl,List.set_append_right _ _ (WT _),List.getLast?_eq_some_getLast hne];simp
theorem cP.set{D:Nat→Prop}{H:Array Obj}{hs:List Hd}{L:List By}(h:cP D H hs L){k:Nat}{x:Hd}{xs:By}(h1:x.n=xs.length)(h2:Vw b8 H x.a x.c xs)(h3:xs≠[]→∀ k,blk x.a k→D k):cP D H (hs.set k x) (L.set k xs):=by
 refine⟨by simp[h.1],fun i y ys hy hys=>?_⟩;by_cases hik:k=i
 · subst hik
   have hk1:k<hs.length:=by have:=(WN.1 hy).1;simpa using this
   have hk2:k<L.length:=by rw[←h.1];exact hk1
   rw[Xx hk1] at hy;rw[Xx hk2] at hys;cases hy;cases hys;exact⟨h1,h2,h3⟩
 · rw[List.getElem?_set_ne hik] at hy hys
   exact h.2 i y ys hy hys
theorem CV{D Din:Nat→Prop}{W w3 w4 w5:World}{p:Nat}{L:List By}{t:By}{gs:List Hd}{ao to2 ao4:Option Addr}{c2 c4:Nat}(hD:∀ k,D k→k<W.heap.size)
 (hrg:cP Din W.heap gs L)(hap:¬ blk ao p)(hDp:D p)(hDa:∀ k,blk ao k→D k)(hDin:∀ k,Din k→D k∧k≠p∧¬ blk ao k)(hF3:aA nob W w3)
 (ho2:Own b8 5 w3.heap to2 c2 t)(hfr2:Fr W.heap.size to2)(ho4:Own hd 25 w4.heap ao4 c4 (gs++[⟨to2,t.length,c2⟩]))(hf4:aA (blk ao) w3 w4)(hr4:∀ a,ao4=some a→ao=some a∨w3.heap.size≤a.block)
 (hg5:w5.heap[p]?=some (.cells [.slice ao4 (gs++[(⟨to2,t.length,c2⟩:Hd)]).length c4].toArray 86 (0,0)))(hf5:aA (· = p) w4 w5):zB D W p (L++[t]) w5:=by
 have hWp:=hD p hDp;have s3:=hF3.size;have s4:=hf4.size;have s5:=hf5.size;have hap4:¬ blk ao4 p:=fun⟨a,ha,hb⟩=>by
  rcases hr4 a ha with h|h
  ·exact hap ⟨a,h,hb⟩
  ·omega
 have hto:∀ a,to2=some a→¬ blk ao a.block∧a.block≠p∧a.block<w3.heap.size∧W.heap.size≤a.block:=fun a ha=>by
  have h1:=hfr2 a ha;refine⟨fun⟨b,hb,e⟩=>by have:=hD _ (hDa _ ⟨b,hb,e⟩);omega,by omega,ho2.lt a ha,h1⟩
 refine⟨fun k=>D k∨(W.heap.size≤k∧k<w5.heap.size),⟨fun k=>Din k∨blk to2 k,ao4,c4,_,hg5,ho4.WH hf5 (fun a ha h=>hap4 ⟨a,ha,h⟩),?_,hap4,.inl hDp,?_,?_⟩,?_,?_,?_⟩
 · have h1:=((hrg.WH hF3 (fun _ _ h=>h)).WH hf4 (fun k hk=>(hDin k hk).2.2)).WH hf5 (fun k hk=>(hDin k hk).2.1)
   exact(h1.mono (D':=fun k=>Din k∨blk to2 k) (fun k h=>.inl h)).snoc rfl ((ho2.WH hf4 (fun a ha=>(hto a ha).1)).WH hf5 (fun a ha=>(hto a ha).2.1)).vw (fun _ k hk=>.inr hk)
 · rintro k ⟨a,ha,rfl⟩
   rcases hr4 a ha with h|h
   ·exact .inl (hDa _ ⟨a,h,rfl⟩)
   ·have:=ho4.lt a ha;exact .inr ⟨by omega,by omega⟩
 · intro k hk
   rcases hk with hk|⟨a,ha,rfl⟩
   · refine⟨.inl (hDin k hk).1,(hDin k hk).2.1,fun⟨b,hb,e⟩=>?_⟩
     rcases hr4 b hb with h|h
     ·exact(hDin k hk).2.2 ⟨b,h,e⟩
     ·have:=hD k (hDin k hk).1;omega
   · have h1:=hto a ha
     refine⟨.inr ⟨h1.2.2.2,by omega⟩,h1.2.1,fun⟨b,hb,e⟩=>?_⟩;rcases hr4 b hb with h|h
     ·exact h1.1 ⟨b,h,e⟩
     ·omega
 · intro k hk;rcases hk with hk|hk
   ·exact .inl hk
   ·exact .inr hk.1
 · intro k hk;rcases hk with hk|hk
   ·have:=hD k hk;omega
   ·exact hk.2
 ·exact((hF3.mono (fun _ h=>h.elim)).trans (hf4.mono (fun k h=>hDa k h))).trans (hf5.mono (fun k h=>by subst h;exact hDp))
theorem IL{D Din:Nat→Prop}{W w3 w4:World}{p:Nat}{L:List By}{xs:By}{gs:List Hd}{ao to3:Option Addr}{c c3 i:Nat}(hD:∀ k,D k→k<W.heap.size)
 (hobj:W.heap[p]?=some (.cells [.slice ao gs.length c].toArray 86 (0,0)))(hrg:cP Din W.heap gs L)(hap:¬ blk ao p)(hDp:D p)(hDa:∀ k,blk ao k→D k)(hDin:∀ k,Din k→D k∧k≠p∧¬ blk ao k)(hF3:aA nob W w3)
 (ho3:Own b8 5 w3.heap to3 c3 xs)(hfr3:Fr W.heap.size to3)(ho4:Own hd 25 w4.heap ao c (gs.set i ⟨to3,xs.length,c3⟩))(hf4:aA (blk ao) w3 w4):zB D W p (L.set i xs) w4:=by
 have hWp:=hD p hDp;have s3:=hF3.size;have s4:=hf4.size;have hto:∀ a,to3=some a→¬ blk ao a.block∧a.block≠p∧a.block<w3.heap.size∧W.heap.size≤a.block:=fun a ha=>by
  have h1:=hfr3 a ha;refine⟨fun⟨b,hb,e⟩=>by have:=hD _ (hDa _ ⟨b,hb,e⟩);omega,by omega,ho3.lt a ha,h1⟩
 refine⟨fun k=>D k∨(W.heap.size≤k∧k<w4.heap.size),⟨fun k=>Din k∨blk to3 k,ao,c,_,?_,ho4,?_,hap,.inl hDp,fun k hk=>.inl (hDa k hk),?_⟩,?_,?_,?_⟩
 ·rw[List.length_set];exact hf4.obj (hF3.obj hobj (fun h=>h)) hap
 · have h1:=(hrg.WH hF3 (fun _ _ h=>h)).WH hf4 (fun k hk=>(hDin k hk).2.2)
   exact(h1.mono (D':=fun k=>Din k∨blk to3 k) (fun k h=>.inl h)).set rfl (ho3.WH hf4 (fun a ha=>(hto a ha).1)).vw (fun _ k hk=>.inr hk)
 · intro k hk
   rcases hk with hk|⟨a,ha,rfl⟩
   ·exact⟨.inl (hDin k hk).1,(hDin k hk).2⟩
   · have h1:=hto a ha
     exact⟨.inr ⟨h1.2.2.2,by omega⟩,h1.2.1,h1.1⟩
 · intro k hk;rcases hk with hk|hk
   ·exact .inl hk
   ·exact .inr hk.1
 · intro k hk;rcases hk with hk|hk
   ·have:=hD k hk;omega
   ·exact hk.2
 ·exact(hF3.mono (fun _ h=>h.elim)).trans (hf4.mono (fun k h=>hDa k h))
theorem Lw(D:Nat→Prop)(p:Nat)(L:List By)(to:Option Addr)(tc:Nat)(t:By)(W:World)(hP:uY D W.heap p L)(hD:∀ k,D k→k<W.heap.size)
 (hv:Vw b8 W.heap to tc t)(hb2:L.length≤1099511627776)(hb3:∀ x∈L,x.length≤1099511627776) :
 CA 32 [pT p,.slice to t.length tc] W fun v w'=>v=.tuple #[inN (dK L t).2.1,inN (dK L t).2.2]∧zB D W p (dK L t).1 w':=by
 have hl:=hv.WF;have hPP:=hP;obtain⟨Din,ao,c,gs,hobj,hout,hrg,hap,hDp,hDa,hDin⟩:=hP;have hgl:=hrg.1;refine cS 80 [(0,_),(1,_)] Tryz.func32 ?_;refine fK 11 ?_ ?_<;>intro h10
 ·refine Gz 17 ?_;have hbad:mW t=true:=oC (by omega);exact⟨_,rfl,by simp[dK,hbad,inN],⟨D,by rw[show dK L t=(L,0,0) from by simp[dK,hbad]];exact hPP,fun _ h=>.inl h,hD,VZ _ _⟩⟩
 refine fW 3 ?_ ?_<;>intro h14
 ·refine Gz 13 ?_;have hbad:mW t=true:=oC (by omega);exact⟨_,rfl,by simp[dK,hbad,inN],⟨D,by rw[show dK L t=(L,0,0) from by simp[dK,hbad]];exact hPP,fun _ h=>.inl h,hD,VZ _ _⟩⟩
 refine fK 21 ?_ ?_<;>intro h23
 ·refine Gz 18 ?_;refine Tc 12 (fun H=>H[p]?=some (.cells [.slice ao gs.length c].toArray 86 (0,0))) [5,7,8,9,12] [0,1,2,3,4,6,5,7,8,9,10,11,12] aI (by kernel_rfl) (hobj) ?_;refine Gz 6 ?_;refine S7 rfl rfl (TF b8 aH rfl ?_);intro w1 ho1 hs1 hf1;refine Tg (by exact hf1.obj hobj (fun h=>h)) ?_;refine S7 rfl rfl (S8 aN aH rfl rfl ho1 (hv.WG hf1.WE) (by simp only[WZ];omega) (by simp only[WZ];unfold maxLen;omega) rfl ?_);intro to2 c2 w2 ho2 hf2 hr2 hn2;have hp:p<W.heap.size:=hD p hDp;have hnp1:¬ blk (some (⟨W.heap.size,0,none⟩:Addr)) p:=fun⟨a,ha,hb⟩=>by cases ha;exact absurd hb (by show W.heap.size≠p;omega)
  refine Tg (by exact hf2.obj (hf1.obj hobj (fun h=>h)) (fun h=>hnp1 h)) ?_;refine S7 rfl rfl (TB (enc:=hd) (u:=⟨to2,t.length,c2⟩) lL rfl rfl rfl ?_);intro w3 ho3 hs3 hf3;refine Tg (by exact hf3.obj (hf2.obj (hf1.obj hobj (fun h=>h)) hnp1) (fun h=>h)) ?_;have hao1:∀ a,ao=some a→¬ blk (some (⟨W.heap.size,0,none⟩:Addr)) a.block:=fun a ha ⟨b,hb,e⟩=>by cases hb;have:=hout.lt a ha;have e2:W.heap.size=a.block:=e;omega
  have hout3:=((hout.WG hf1.WE).WH hf2 hao1).WG hf3;refine S7 rfl rfl (S8 pZ lL rfl rfl hout3 ho3.vw (by simp only[WP];omega) (by simp only[WP];unfold maxLen;omega) rfl ?_);intro ao4 c4 w4 ho4 hf4 hr4 hn4;refine Tg (by exact hf4.obj (hf3.obj (hf2.obj (hf1.obj hobj (fun h=>h)) hnp1) (fun h=>h)) hap) ?_;refine Gz 2 ?_;refine S7 rfl rfl (S6 Ik rfl rfl rfl (hf4.obj (hf3.obj (hf2.obj (hf1.obj hobj (fun h=>h)) hnp1) (fun h=>h)) hap) rfl ?_);intro w5 hg5 hs5 hf5;refine Tx rfl ?_;refine Gz 13 ?_;have hgood:mW t=false:=mV (by omega);have hnew:dK L t=(L++[t],L.length+1,0):=by simp only[dK,hgood,Yw,if_false];rw[WJ (.inl (W6 (by omega)))]
  refine⟨_,rfl,by rw[hnew];exact K1 (by show _=((L.length+1:Nat):Int);omega) rfl,?_⟩;rw[hnew];have hfr2:Fr W.heap.size to2:=cH (fJ _) hr2 hf1.WE.size;exact CV hD hrg hap hDp hDa hDin ((hf1.WE.WD hf2 (fJ _).step).trans hf3) (ho2.WG hf3) hfr2 ho4 hf4 hr4 hg5 hf5
 refine Gz 6 ?_;have hne:L≠[]:=by intro e;subst e;simp at hgl;simp[hgl] at h23
 have hpos:0<L.length:=W5.2 hne;obtain⟨⟨xa,xn,xc⟩,hx,hxn,hxv,hxD⟩:=(hrg.at (i:=L.length-1) (by omega))
 obtain rfl:xn=(L.getD (L.length-1) []).length:=hxn;have hcell:bD W.heap (adr ao ((gs.length:Int)-1).toNat)=some (.slice xa (L.getD (L.length-1) []).length xc):=by rw[show ((gs.length:Int)-1).toNat=L.length-1 from by omega];exact hout.vw.get _ _ hx
 have hxm:(L.getD (L.length-1) []).length≤1099511627776:=hb3 _ (by rw[WW,WK (by omega:L.length-1<L.length)];exact XE _);refine cW (SY lL rfl rfl hout.vw.non (by omega)) ?_;refine cW (S2 aL rfl hcell) ?_;refine fW 4 ?_ ?_<;>intro h36
 ·refine Gz 5 ?_;refine Tc 12 (fun H=>H[p]?=some (.cells [.slice ao gs.length c].toArray 86 (0,0))) [5,7,8,9,12] [0,1,2,3,4,6,5,7,8,9,10,11,12] aI (by kernel_rfl) (hobj) ?_;refine Gz 6 ?_;refine S7 rfl rfl (TF b8 aH rfl ?_);intro w1 ho1 hs1 hf1;refine Tg (by exact hf1.obj hobj (fun h=>h)) ?_;refine S7 rfl rfl (S8 aN aH rfl rfl ho1 (hv.WG hf1.WE) (by simp only[WZ];omega) (by simp only[WZ];unfold maxLen;omega) rfl ?_);intro to2 c2 w2 ho2 hf2 hr2 hn2;have hp:p<W.heap.size:=hD p hDp;have hnp1:¬ blk (some (⟨W.heap.size,0,none⟩:Addr)) p:=fun⟨a,ha,hb⟩=>by cases ha;exact absurd hb (by show W.heap.size≠p;omega)
  refine Tg (by exact hf2.obj (hf1.obj hobj (fun h=>h)) (fun h=>hnp1 h)) ?_;refine S7 rfl rfl (TB (enc:=hd) (u:=⟨to2,t.length,c2⟩) lL rfl rfl rfl ?_);intro w3 ho3 hs3 hf3;refine Tg (by exact hf3.obj (hf2.obj (hf1.obj hobj (fun h=>h)) hnp1) (fun h=>h)) ?_;have hao1:∀ a,ao=some a→¬ blk (some (⟨W.heap.size,0,none⟩:Addr)) a.block:=fun a ha ⟨b,hb,e⟩=>by cases hb;have:=hout.lt a ha;have e2:W.heap.size=a.block:=e;omega
  have hout3:=((hout.WG hf1.WE).WH hf2 hao1).WG hf3;refine S7 rfl rfl (S8 pZ lL rfl rfl hout3 ho3.vw (by simp only[WP];omega) (by simp only[WP];unfold maxLen;omega) rfl ?_);intro ao4 c4 w4 ho4 hf4 hr4 hn4;refine Tg (by exact hf4.obj (hf3.obj (hf2.obj (hf1.obj hobj (fun h=>h)) hnp1) (fun h=>h)) hap) ?_;refine Gz 2 ?_;refine S7 rfl rfl (S6 Ik rfl rfl rfl (hf4.obj (hf3.obj (hf2.obj (hf1.obj hobj (fun h=>h)) hnp1) (fun h=>h)) hap) rfl ?_);intro w5 hg5 hs5 hf5;refine Tx rfl ?_;refine Gz 13 ?_;have hgood:mW t=false:=mV (by omega);have hnew:dK L t=(L++[t],L.length+1,0):=by simp only[dK,hgood,Yw,if_false];rw[WJ (.inr (by omega))]
  refine⟨_,rfl,by rw[hnew];exact K1 (by show _=((L.length+1:Nat):Int);omega) rfl,?_⟩;rw[hnew];have hfr2:Fr W.heap.size to2:=cH (fJ _) hr2 hf1.WE.size;exact CV hD hrg hap hDp hDa hDin ((hf1.WE.WD hf2 (fJ _).step).trans hf3) (ho2.WG hf3) hfr2 ho4 hf4 hr4 hg5 hf5
 refine Gz 13 ?_;refine cL (SY lL rfl rfl hout.vw.non (by omega)) ?_;refine cL (S2 aL rfl hcell) ?_;refine Gz 5 ?_;refine Tc 17 (fun H=>H[p]?=some (.cells [.slice ao gs.length c].toArray 86 (0,0))∧bD H (adr ao ((gs.length:Int)-1).toNat)=some (.slice xa (L.getD (L.length-1) []).length xc)) [5,13,15,17] [0,1,2,3,4,6,7,8,9,10,11,12,14,5,13,15,16,17] aI (by kernel_rfl) (⟨hobj,hcell⟩) ?_;refine Gz 10 ?_;refine xC rfl (SY lL rfl rfl hout.vw.non (by omega)) ?_;refine xC rfl (S9 aL rfl (fun H hH=>hH.2)) ?_;refine Gz 1 ?_;refine S7 rfl rfl (TF b8 aH rfl ?_);intro w1 ho1 hs1 hf1;have hcell1:bD w1.heap (adr ao ((gs.length:Int)-1).toNat)=some (.slice xa (L.getD (L.length-1) []).length xc):=by rw[show ((gs.length:Int)-1).toNat=L.length-1 from by omega];exact(hout.WG hf1.WE).vw.get _ _ hx
 refine Tg (by exact⟨hf1.obj hobj (fun h=>h),hcell1⟩) ?_;refine S7 rfl rfl (S8 aN aH rfl rfl ho1 (hxv.WG hf1.WE) (by simp only[WZ];omega) (by simp only[WZ];unfold maxLen;omega) rfl ?_);intro to2 c2 w2 ho2 hf2 hr2 hn2;have hp:p<W.heap.size:=hD p hDp;have hnp1:¬ blk (some (⟨W.heap.size,0,none⟩:Addr)) p:=fun⟨a,ha,hb⟩=>by cases ha;exact absurd hb (by show W.heap.size≠p;omega)
 have hF2:aA nob W w2:=hf1.WE.WD hf2 (fJ _).step;have hcell2:bD w2.heap (adr ao ((gs.length:Int)-1).toNat)=some (.slice xa (L.getD (L.length-1) []).length xc):=by rw[show ((gs.length:Int)-1).toNat=L.length-1 from by omega];exact(hout.WG hF2).vw.get _ _ hx
 refine Tg (by exact⟨hf2.obj (hf1.obj hobj (fun h=>h)) hnp1,hcell2⟩) ?_;refine S7 rfl rfl (S8 aN aH rfl rfl ho2 (hv.WG hF2) (by simp only[Xi];omega) (by simp only[Xi];unfold maxLen;omega) rfl ?_);intro to3 c3 w3 ho3 hf3 hr3 hn3;have hfr2:Fr W.heap.size to2:=cH (fJ _) hr2 hf1.WE.size;have hF3:aA nob W w3:=hF2.WD hf3 hfr2.step;have hcell3:bD w3.heap (adr ao ((gs.length:Int)-1).toNat)=some (.slice xa (L.getD (L.length-1) []).length xc):=by rw[show ((gs.length:Int)-1).toNat=L.length-1 from by omega];exact(hout.WG hF3).vw.get _ _ hx
 refine Tg (by exact⟨hF3.obj hobj (fun h=>h),hcell3⟩) ?_;refine xC rfl (SY lL rfl rfl hout.vw.non (by omega)) ?_;refine S7 rfl rfl (Tr pZ aL (z:=(gs.length:Int)-1) (u:=⟨to3,([]++L.getD (L.length-1) []++t).length,c3⟩) rfl rfl (hout.WG hF3) (by omega) ?_);intro w4 ho4 hs4 hf4;refine Tx rfl ?_;refine Gz 13 ?_;have hgood:mW t=false:=mV (by omega);have hold:dK L t=(L.set (L.length-1) (L.getD (L.length-1) []++t),L.length,(L.getD (L.length-1) []).length):=by simp only[dK,hgood,Yw,if_false];rw[WI (by intro h;rcases h with h|h;exact hne h;omega)]
 refine⟨_,rfl,by rw[hold];exact K1 (by show _=((L.length:Nat):Int);omega) rfl,?_⟩;rw[hold];have hfr3:Fr W.heap.size to3:=cH hfr2 hr3 (by have:=hF2.size;omega);rw[show ((gs.length:Int)-1).toNat=L.length-1 from by omega] at ho4;exact IL hD hobj hrg hap hDp hDa hDin hF3 ho3 hfr3 ho4 hf4
def BH(o:Oper):Bool:=match o.op with|.defer _=>false|_=>true
def fL(Q:Exit→Act→World→Prop):Prop:=¬ LetsOut Q
theorem Wg{Q:Exit→Act→World→Prop}{K:Act→World→Prop}(h:fL Q):fL (Exit.then K Q):=fun⟨a,w,e⟩=>h ⟨a,w,e⟩
theorem fL.block{Q:Exit→Act→World→Prop}{i:Nat}(h:fL Q):fL (Exit.inBlock i Q):=fun⟨a,w,e⟩=>h ⟨a,w,e⟩
theorem fL.post{α:Type}{B:Nat}{Kp:World→World→Prop}{I:List α→World→Prop}{Ix:Code→List α→World→Prop}{xs:List α}{W:World}:fL (ownPostG B Kp I Ix xs W):=fun⟨_,_,e⟩=>e
section
variable {P:Program}{lp n:Nat}
abbrev FR(lp:Nat):Fence:=Fence.wide.inRound lp
theorem Kw{f:FuncId}{args:Array Value}{w:World}{R:Ending→World→Prop}(h:Calls P f args w R):CallsIn (FR lp) n P f args w R:=CallsIn.inRound lp (callsIn_wide.2 h)
theorem Lm{row:String}{args:Array Value}{w:World}{R:Value→World→Prop}(h:Rows P row args w R):RowsIn (FR lp) n P row args w R:=fun c cs _=>by
 obtain⟨v,w',r,s⟩:=h c cs;exact⟨v,w',r,stepsIn_wide.2 s⟩
theorem KU{o:Oper}{a:Act}{next next':Act→World→Prop}{Q:Exit→Act→World→Prop}(hn:∀ a w,next a w→next' a w){r:Result Next}(h:o.upon P a next Q r):o.uponIn (FR lp) n P a next' Q r:=by
 rcases r with⟨x,w'⟩|⟨c,w'⟩
 · cases x with
  |value v=>exact hn _ _ h
  |skip=>exact hn _ _ h
  |defer d=>exact hn _ _ h
  |enter f args=>
     refine⟨fun hd=>absurd hd (by simp[FR,Fence.wide]),Kw (Calls.mono h ?_)⟩;rintro e w'' he;cases e with
    |returned v=>exact hn _ _ he
    |panicked ch=>exact he
    |outgrown=>exact he
  |row row args=>exact⟨fun hd=>absurd hd (by simp[FR,Fence.wide]),Lm (Rows.mono h (fun v w'' he=>hn _ _ he))⟩
  |_=>exact h.elim
 ·cases c<;>first|exact h|exact h.elim
theorem BO{ops:Array Oper}{Q:Exit→Act→World→Prop}(hQ:fL Q):∀ (rest:List Oper),rest.all BH=true→∀ (a:Act) (w:World),wpList P ops Q rest a w→wpListIn (FR lp) n P ops Q rest a w
|[],_,_,_,h=>h
|o::rest,hd,a,w,h=>by
   rw[List.all_cons,Xh] at hd;unfold wpList at h;unfold wpListIn;by_cases hw:Region.wanted o (yielded ops a.tmps)
   · rw[WJ hw] at h ⊢
     rcases h with h|⟨_,h⟩
     · refine⟨fun _ _=>trivial,?_⟩
       rw[Oper.semAt_eq _ _ _ (fun c hc=>by have:=hd.1;simp[BH,hc] at this)];exact KU (BO hQ rest hd.2) h
     ·exact absurd h hQ
   · rw[WI hw] at h ⊢
     exact⟨fun _ _=>trivial,BO hQ rest hd.2 _ _ h⟩
end
def Rc(lp n:Nat)(P:Program)(N:Nt)(c:Code)(Q:Exit→Act→World→Prop)(l:SF)(w:World):Prop:=∀ a,bW N l a→c.wpIn (FR lp) n P Q a w
section
variable {P:Program}{N:Nt}{Q:Exit→Act→World→Prop}{l:SF}{w:World}{lp n:Nat}
theorem Rc.seq{x y:Code}(h:Rc lp n P N x (Exit.then (y.wpIn (FR lp) n P Q) Q) l w):Rc lp n P N (.seq x y) Q l w:=fun a ha=>wpIn_seq (h a ha)
theorem Rc.block{id:Nat}{c:Code}(h:Rc lp n P N c (Exit.inBlock id Q) l w):Rc lp n P N (.block id c) Q l w:=fun a ha=>wpIn_block (h a ha)
theorem Rc.region{id:Nat}{ops:List Oper}(hQ:fL Q)(hd:ops.all BH=true)(h:Sl P N ops.toArray Q ops l w):Rc lp n P N (.region id ops.toArray false) Q l w:=fun a ha=>wpIn_region_lit (BO hQ ops hd a w (h a ha))
theorem Wh{c:Operand}{x y:Code}(hc:evL l c=some (.bool true))(h:Rc lp n P N x Q l w):Rc lp n P N (.cond c x y) Q l w:=fun a ha=>wpIn_cond (ha.ev hc) (h a ha)
theorem Wi{c:Operand}{x y:Code}(hc:evL l c=some (.bool false))(h:Rc lp n P N y Q l w):Rc lp n P N (.cond c x y) Q l w:=fun a ha=>wpIn_cond (ha.ev hc) (h a ha)
theorem Rc.skip(h:At N .normal Q l w):Rc lp n P N .skip Q l w:=fun a ha=>wpIn_skip (h a ha)
theorem Vb{y:Code}(h:Rc lp n P N y Q l w):At N .normal (Exit.then (y.wpIn (FR lp) n P Q) Q) l w:=fun a ha=>h a ha
theorem Rc.cut{x y:Code}{β:Type}(L:β→SF)(J:β→World→Prop)(h1:Rc lp n P N x (Exit.then (fun a w=>∃ b,bW N (L b) a∧J b w) Q) l w)
 (h2:∀ b w,J b w→Rc lp n P N y Q (L b) w):Rc lp n P N (.seq x y) Q l w:=fun a ha=>
 wpIn_seq (wpIn_mono (h1 a ha) fun e a' w' hq=>by
  cases e with
 |normal=>obtain⟨b,hb,hJ⟩:=hq;exact h2 b w' hJ a' hb
 |_=>exact hq)
theorem U4{α:Type}{B:Nat}{Kp:World→World→Prop}{I:List α→World→Prop}{Ix:Code→List α→World→Prop}{xs:List α}{W:World}(h:KeepsFrom B W w∧Kp W w∧I xs w):At N .normal (ownPostG B Kp I Ix xs W) l w:=fun _ _=>h
end
def Si(n:Nat)(P:Program)(N:Nt)(ops:Array Oper)(Q:Exit→Act→World→Prop)(rest:List Oper)(l:SF)(w:World):Prop:=∀ a,bW N l a→wpListIn Fence.wide n P ops Q rest a w
section
variable {P:Program}{N:Nt}{Q:Exit→Act→World→Prop}{l:SF}{w:World}{n:Nat}{ops:Array Oper}{rest:List Oper}
variable {op:Op}{ty:TypeId}{pos:String}{aft:Array Edge}{d:Nat}{v:Value}{x:Operand}
theorem Vc(n:Nat){id:Nat}{ops:List Oper}(h:Si n P N ops.toArray Q ops l w):Sc P N (.region id ops.toArray false) Q l w:=fun a ha=>wpIn_wide.1 (wpIn_region_lit (h a ha))
theorem Si.calm(hv:Cm P N (· = w.heap) l ⟨some d,op,ty,pos,aft,none⟩ v)(hd:Xs d N.n=true)(h:Si n P N ops Q rest ((d,v)::l) w) :
 Si n P N ops Q (⟨some d,op,ty,pos,aft,none⟩::rest) l w:=fun a ha=>by
 unfold wpListIn;rw[WJ (by simp[Region.wanted])];refine⟨fun _ _=>trivial,?_⟩;show Oper.uponIn _ _ _ _ _ _ _ ((execOp a.eval _).run P w);rw[hv a w ha rfl];exact h _ (ha.put hd v)
theorem Wj(h:At N .normal Q l w):Si n P N ops Q [] l w:=fun a ha=>wpListIn_nil (h a ha)
theorem Si.yield{r:Nat}{xs:List Operand}{vs:List Value}{ts:Array TypeId}{A B:World→Prop}(hc:evL l x=some (.func (.yield r) #[] #[]))(hx:tL l xs=some vs)
 (hy:YieldAt Fence.wide (n-1) P r vs.toArray w (fun e W'=>(e=.returned (.bool true)∧A W')∨(e=.returned (.bool false)∧B W')))(hd:Xs d N.n=true)
 (h1:∀ W',A W'→Si n P N ops Q rest ((d,.bool true)::l) W')(h2:∀ W',B W'→Si n P N ops Q rest ((d,.bool false)::l) W') :
 Si n P N ops Q (⟨some d,.call ⟨.value x,xs.toArray,ts⟩,ty,pos,aft,none⟩::rest) l w:=fun a ha=>by
 unfold wpListIn;rw[WJ (by simp[Region.wanted])];refine⟨fun _ _=>trivial,?_⟩;obtain⟨fn,tmps,assign,body,hrun,hR⟩:=hy;have e:(execOp a.eval ⟨some d,.call ⟨.value x,xs.toArray,ts⟩,ty,pos,aft,none⟩).run P w=.ok (.round r fn tmps assign body) w:=by
  have h1:=ha.ev hc;simp[execOp,resolve,h1,Deferred.ofValue,invoke,callFunc];rw[←ha.evs hx] at hrun;exact hrun
 have e2:(Oper.semAt Fence.wide.round a.eval ⟨some d,.call ⟨.value x,xs.toArray,ts⟩,ty,pos,aft,none⟩).run P w=.ok (.round r fn tmps assign body) w:=e;rw[e2];refine⟨fun hd=>absurd hd (by simp[Fence.wide]),hR.mono ?_⟩;rintro e W' (⟨rfl,hA⟩|⟨rfl,hB⟩)
 ·exact h1 W' hA _ (ha.put hd _)
 ·exact h2 W' hB _ (ha.put hd _)
end
def Nt.col(N:Nt)(D:Nat):Nt:=⟨N.n,{ target:=.collected D,args:=#[] } :: N.ds⟩
theorem Cd{P:Program}{f:FuncId}{fn:Func}{c:Code}{args:List Value}{w:World}{R:Ending→World→Prop}(N:Nat)(l:SF)
 (hf:P.funcs[f]?=some fn)(hb:fn.body=some c)(hN:fn.ntmps=N)(hle:Nat.ble args.length N=true)
 (hl:∀ t v,lk l t=some v→args[t]?=some v)
 (h:Sc P ⟨N,[]⟩ c (bodyPostM Fence.wide 4 P fn R) l w):Calls P f args.toArray w R:=by
 refine callsIn_wide.1 (callsIn_of_wp_marks (F:=Fence.wide) (n:=4) hf hb trivial (wpIn_wide.2 (h _ ⟨rfl,?_,?_⟩)))
 · have:args.length≤N:=by simpa[Nat.ble_eq] using hle
   simp[hN];omega
 · intro t v ht
   have:=hl t v ht;have hlt:t<args.length:=(WN.1 this).1;rw[WK hlt] at this;simpa[Array.getElem?_append,hlt] using this
section
variable {P:Program}{N D:Nat}{fn:Func}{R:Ending→World→Prop}{l:SF}{w:World}
theorem EG{tmps:Array Value}{v:Value}(hr:(results fn tmps).run P w=.ok v w)(h:R (.returned v) w):LeavesInM Fence.wide 4 P fn tmps R [] .returning w:=by
 unfold LeavesInM LeavesIn;exact⟨v,hr,h⟩
theorem Dh{tmps:Array Value}{v:Value}(hD:w.heap[D]?=some (.deferred (some [])))(hr:(results fn tmps).run P (w.putObj D (.deferred none))=.ok v (w.putObj D (.deferred none)))(h:R (.returned v) (w.putObj D (.deferred none))) :
 LeavesInM Fence.wide 4 P fn tmps R [{ target:=.collected D,args:=#[] }] .returning w:=
 ⟨by simp,.inl ⟨_,_,rfl,run_takeDeferred hD,EG hr h⟩⟩
theorem Hn(hD:w.heap[D]?=some (.deferred (some []))):aA (· = D) w (w.putObj D (.deferred none)):=
 ⟨rfl,rfl,rfl,by simp,fun k _ hk=>World.putObj_heap_other hk⟩
theorem UD{t u:Nat}{v x:Value}(hr:fn.results=#[.tmp t,.tmp u])(hv:lk l t=some v)(hx:lk l u=some x)(hD:w.heap[D]?=some (.deferred (some [])))
 (h:∀ w',w'=w.putObj D (.deferred none)→aA (· = D) w w'→R (.returned (.tuple #[v,x])) w'):At (Nt.col ⟨N,[]⟩ D) .ret (bodyPostM Fence.wide 4 P fn R) l w:=fun a ha=>by
 show LeavesInM _ _ _ _ _ _ a.defers _ _;rw[ha.dfr];exact Dh hD (by rw[results_tmp2 hr]) (by simpa[ha.has t v hv,ha.has u x hx] using h _ rfl (Hn hD))
end
theorem G2{α:Type}{B:Nat}(c:Code):OwnFrom B ((fun(_:Code) (_:List α) (_:World)=>False) c):=fun _ _ _ _ h _ _=>h.elim
theorem Vu{α:Type}{P:Program}{N:Nt}{l:SF}{w w0:World}{Q:Exit→Act→World→Prop}{f p q:Nat}{rid:Nat}{ty:TypeId}{pos:String}{aft:Array Edge}{body:Code}{gf:Nat}{lb:Array Value}{enc:α→Value}
 {Kp:World→World→Prop}{S Sp:List α→Prop}{M:Nat}
 (hf:lk l f=some (.func (.func gf) #[] lb))(hg:fnB P gf=true)(hseq:SeqStopsK Fence.wide 3 P gf lb (fun x=>#[enc x]) Kp S Sp M w0)
 (hKt:∀ {A B C:World},Kp A B→Kp B C→Kp A C)(hKb:∀ (W:World) (l:Nat) (o o':Obj),w.heap.size≤l→W.heap[l]?=some o→o.isCells=false→o.isWalk=false→Kp W (W.putObj l o'))(hb0:Below w0.heap.size w0 w)
 (hp:Xs p N.n=true)(hq:Xs q N.n=true)
 (I:List α→World→Prop)(hI:OwnFrom w.heap.size I)(h0:I [] w)
 (hbody:∀ (lp:Nat) (pre:List α) (x:α) (W:World),I pre W→pre.length<M→Rc lp 2 P ⟨N.n,[]⟩ body (ownPostG w.heap.size Kp I (fun _ _ _=>False) (pre++[x]) W) ((q,enc x)::(p,enc x)::l) W)
 (hdone:∀ (D:Nat) (xs:List α) (W:World),w.heap.size≤D→S xs→I xs W→W.heap[D]?=some (.deferred (some []))→At (N.col D) .normal Q l W) :
 Sc P N (.rangeFunc (.tmp f) #[p] (.region rid #[⟨some q,.assign (.tmp p),ty,pos,aft,none⟩] false) body) Q l w:=fun a ha=>by
 refine wpIn_wide.1 (wpIn_rangeFunc_ownG (F:=Fence.wide) (n:=4) rfl (by decide) (gf:=gf) (lb:=lb) (ha.ev (x:=.tmp f) hf) trivial (fE hg) hseq hKt hKb hb0 (fun _=>rfl) I (fun _ _ _=>False) hI G2 h0
  (fun x=>{ tmps:=(a.tmps.setIfInBounds p (enc x)).setIfInBounds q (enc x),defers:=[] }) ?_ ?_ ?_ ?_)
 · intro lp x W K hK
   refine wpIn_region_lit (l:=[_]) ?_;unfold wpListIn;rw[WJ (by simp[Region.wanted])];refine⟨fun _ _=>trivial,?_⟩;have hps:p<a.tmps.size:=by rw[ha.siz];simpa[Nat.blt_eq] using hp
   have e:(execOp (Act.eval { tmps:=a.tmps.setIfInBounds p (enc x),defers:=[] }) ⟨some q,.assign (.tmp p),ty,pos,aft,none⟩).run P W=.ok (.value (enc x)) W:=by
    simp[execOp,Act.eval,hps]
   have ez:(#[p].zip #[enc x]).foldl (fun t (x:Nat×Value)=>match x with|(p,v)=>t.setIfInBounds p v) a.tmps=a.tmps.setIfInBounds p (enc x):=by simp
   rw[ez,Oper.semAt_eq _ _ _ (fun c hc=>by cases hc),e];exact hK
 · intro lp pre x W hi hlt
   refine hbody lp pre x W hi hlt _ ⟨rfl,by simp[ha.siz],?_⟩;have h1:bW N ((q,enc x)::(p,enc x)::l) ((a.put (some p) (enc x)).put (some q) (enc x)):=(ha.put hp _).put hq _;exact h1.has
 · intro D xs W hD hS hi hK
   exact hdone D xs W hD hS hi hK _ ⟨by show _::a.defers=_;rw[ha.dfr];rfl,ha.siz,ha.has⟩
 · intro D c pre W _ _ h _
   exact h.elim
theorem EL{W W':World}{row:Option Nat}(h:W.grownBy W' row):aA (fun k=>some k=row) W W':=⟨h.os,h.tape,h.output,h.size,fun k hk hn=>h.block k hk hn⟩
theorem Jp{B:Nat}{S:Nat→Prop}{W w:World}(h:aA S W w)(hs:∀ k,S k→k<W.heap.size→∃ cur T fr,W.heap[k]?=some (.cells cur T fr)):KeepsFrom B W w:=
 ⟨h.size,fun k o _ hk ho=>(h.same k (WS.1 hk).1 (fun hS=>by
  obtain⟨cur,T,fr,e⟩:=hs k hS (WS.1 hk).1;rw[hk] at e;cases e;cases ho)).trans hk⟩
theorem Own.cells{α:Type}{enc:α→Value}{e:TypeId}{H:Array Obj}{ao:Option Addr}{cap:Nat}{xs:List α}(h:Own enc e H ao cap xs){a:Addr}(ha:ao=some a):∃ cur,H[a.block]?=some (.cells cur e (0,0)):=by
 rcases h with⟨rfl,_⟩|⟨g,cur,rfl,hg,_⟩
 ·cases ha
 ·cases ha;exact⟨_,hg⟩
def BbI{α:Type}(e T:TypeId)(bx:Nat)(w0:World)(f:List α→By)(pre:List α)(w:World):Prop:=
 ∃ oo oc,w.heap[bx]?=some (.cells [Value.slice oo (f pre).length oc].toArray T (0,0))∧Own b8 e w.heap oo oc (f pre)∧Fr w0.heap.size oo∧aA (· = bx) w0 w
theorem BbI.own{α:Type}{e T:TypeId}{bx:Nat}{w0:World}{f:List α→By}:OwnFrom w0.heap.size (BbI (α:=α) e T bx w0 f):=fun pre W W' row ⟨oo,oc,h1,h2,h3,h4⟩ hg hr=>by
 have g:=EL hg;refine⟨oo,oc,g.obj h1 (fun e=>?_),h2.WH g (fun a ha e=>?_),h3,h4.WD g (fun k e=>.inr (hr k e.symm).1)⟩
 · obtain⟨_,o,ho,hc⟩:=hr bx e.symm
   rw[h1] at ho;cases ho;cases hc
 · obtain⟨_,o,ho,hc⟩:=hr a.block e.symm
   obtain⟨cur,hcur⟩:=h2.cells ha;rw[hcur] at ho;cases ho;cases hc
theorem XsV.xa{D:Nat→Prop}{H:Array Obj}{o:Option Addr}{n c:Nat}{X:List Xa}(h:XsV D H ⟨o,n,c⟩ X)(h255:∀ x∈X,x.1.length≤255):XaV H o c X:=by
 obtain⟨_,ys,h1,h2,_,h4⟩:=h;refine⟨ys,h1,h2,fun i x y hx hy=>?_⟩;obtain⟨a,b,c,_⟩:=h4 i x y hx hy;exact⟨a,b,c,Xf (h255 _ (WQ hy)) (by unfold maxLen;decide)⟩
section
variable {P:Program}{N:Nt}{Q:Exit→Act→World→Prop}{l:SF}{w:World}{ops:Array Oper}{rest:List Oper}
variable {ty:TypeId}{pos:String}{aft:Array Edge}{d g:Nat}{x:Operand}{s:ByteArray}{p:Nat}
theorem U5{t:TypeId}(ht:P.underlying t=some .string)(hx:evL l x=some (.string s))(hd:Xs d N.n=true)
 (h:∀ w',w'.heap[w.heap.size]?=some (.stringIter s 0)→w'.heap.size=w.heap.size+1→aA nob w w'→Sl P N ops Q rest ((d,pT w.heap.size)::l) w') :
 Sl P N ops Q (⟨some d,.range t x,ty,pos,aft,none⟩::rest) l w:=by
 refine TJ (w':=w.alloc (.stringIter s 0)) (fun a ha=>?_) hd (h _ (heap_alloc_new w _) (by simp) (aA.alloc _ _ _));simp[execOp,ha.ev hx,Instr.range,run_underlying ht,newObj];rfl
theorem Vv(hx:evL l x=some (pT g))(hg:w.heap[g]?=some (.stringIter s p))(hp:p<s.size)(hd:Xs d N.n=true)
 (h:∀ w',w'.heap[g]?=some (.stringIter s (p+(Utf8.decode s p).2))→w'.heap.size=w.heap.size→aA (· = g) w w'→Sl P N ops Q rest ((d,.tuple #[.bool true,iV p,.int .i32 (Utf8.decode s p).1])::l) w') :
 Sl P N ops Q (⟨some d,.next x true,ty,pos,aft,none⟩::rest) l w:=by
 obtain⟨s1,s2,s3⟩:=oI (o':=.stringIter s (p+(Utf8.decode s p).2)) hg;refine TJ (w':=ChangeMaps.setBlock w g (.stringIter s (p+(Utf8.decode s p).2))) (fun b hb=>?_) hd (h _ s1 s2 s3);simp[execOp,hb.ev hx,Instr.next,getObj,setObj,Sem.run,hg,hp,Result.andThen,ChangeMaps.setBlock,goInt]
theorem Vx(hx:evL l x=some (pT g))(hg:w.heap[g]?=some (.stringIter s p))(hp:¬ p<s.size)(hd:Xs d N.n=true)
 (h:Sl P N ops Q rest ((d,.tuple #[.bool false])::l) w) :
 Sl P N ops Q (⟨some d,.next x true,ty,pos,aft,none⟩::rest) l w:=by
 refine TJ (w':=w) (fun b hb=>?_) hd h;simp[execOp,hb.ev hx,Instr.next,getObj,Sem.run,hg,hp,Result.andThen]
end
theorem Ky(s:By){i:Nat}(h:i<s.length):(bs s).get! i=s[i]:=by
 show (s.toArray)[i]! = _;rw[getElem!_pos s.toArray i (by simpa using h)];simp
theorem Bw{s:By}{p:Nat}(hp:p<s.length) :
 1≤(Utf8.decode (bs s) p).2∧p+(Utf8.decode (bs s) p).2≤s.length∧(Utf8.decode (bs s) p).1<1114112 ∧
 ((s.getD p 0).toNat<128→(Utf8.decode (bs s) p).1=(s.getD p 0).toNat)∧(128≤(s.getD p 0).toNat→128≤(Utf8.decode (bs s) p).1) ∧
 ∀ k,p<k→k<p+(Utf8.decode (bs s) p).2→128≤(s.getD k 0).toNat:=by
 have hz:=jV s;have e0:(bs s).get! (p+0)=s.getD p 0:=by rw[YH,Ky s hp];simp[WW,hp]
 have ek:∀ k,p+k<s.length→(bs s).get! (p+k)=s.getD (p+k) 0:=fun k h=>by rw[Ky s h];simp[WW,h]
 have b0:=(s.getD p 0).toNat_lt;unfold Utf8.decode;simp only[e0,hz];by_cases h1:(s.getD p 0).toNat<0x80
 · rw[WJ h1]
   exact⟨by simp,by simp;omega,by show (s.getD p 0).toNat<1114112;omega,fun _=>rfl,fun h=>by omega,fun k h2 h3=>by simp at h3;omega⟩
 · rw[WI h1]
   have bad:∀ r:Nat×Nat,r=(Utf8.runeError,1)→1≤r.2∧p+r.2≤s.length∧r.1<1114112∧((s.getD p 0).toNat<128→r.1=(s.getD p 0).toNat)∧(128≤(s.getD p 0).toNat→128≤r.1)∧∀ k,p<k→k<p+r.2→128≤(s.getD k 0).toNat:=by
    rintro r rfl;exact⟨by simp,by simp;omega,by simp[Utf8.runeError],fun h=>by omega,fun h=>by simp[Utf8.runeError],fun k h2 h3=>by simp at h3;omega⟩
   have cont:∀ k,(decide (p+k<s.length) && ((bs s).get! (p+k)).toNat/64 == 2)=true→p+k<s.length∧128≤(s.getD (p+k) 0).toNat:=fun k h=>by
    simp only[Xh,decide_eq_true_eq,beq_iff_eq] at h;have:=h.2;rw[ek k h.1] at this;exact⟨h.1,by omega⟩
   split
   · rename_i h2
     rw[Xh] at h2;obtain⟨c1,d1⟩:=cont 1 h2.2
     split
     · rename_i h3
       refine⟨by simp,by simp;omega,?_,fun h=>by omega,fun _=>h3,fun k h4 h5=>?_⟩
       ·show _<1114112;omega
       · have h5:k<p+2:=h5
         have:k=p+1:=by omega
         subst this;exact d1
     ·exact bad _ rfl
   · split
     · rename_i h2
       simp only[Xh] at h2;obtain⟨c1,d1⟩:=cont 1 (by simpa using h2.1.2);obtain⟨c2,d2⟩:=cont 2 (by simpa using h2.2)
       split
       · rename_i h3
         simp only[Xh,decide_eq_true_eq] at h3;refine⟨by simp,by simp;omega,?_,fun h=>by omega,fun _=>Xf (by decide) h3.1,fun k h4 h5=>?_⟩
         ·show _<1114112;omega
         · have h5:k<p+3:=h5
           rcases(by omega:k=p+1∨k=p+2) with rfl|rfl
           ·exact d1
           ·exact d2
       ·exact bad _ rfl
     · split
       · rename_i h2
         simp only[Xh] at h2;obtain⟨c1,d1⟩:=cont 1 (by simpa using h2.1.1.2);obtain⟨c2,d2⟩:=cont 2 (by simpa using h2.1.2);obtain⟨c3,d3⟩:=cont 3 (by simpa using h2.2)
         split
         · rename_i h3
           simp only[Xh,decide_eq_true_eq,ge_iff_le] at h3;refine⟨by simp,by simp;omega,?_,fun h=>by omega,fun _=>Xf (by decide) h3.1,fun k h4 h5=>?_⟩
           · have h6:=h3.2
             simp only[Utf8.valid,Yf,Xh,decide_eq_true_eq] at h6;show _<1114112;omega
           · have h5:k<p+4:=h5
             rcases(by omega:k=p+1∨k=p+2∨k=p+3) with rfl|rfl|rfl
             ·exact d1
             ·exact d2
             ·exact d3
         ·exact bad _ rfl
       ·exact bad _ rfl
def sJ(s:By)(p:Nat):Prop:=∀ k,k<p→s.getD k 0≠0∧s.getD k 0≠47
theorem E1{s:By}{p:Nat}(hp:p<s.length)(h:sJ s p)(h0:(Utf8.decode (bs s) p).1≠0)(h47:(Utf8.decode (bs s) p).1≠47):sJ s (p+(Utf8.decode (bs s) p).2):=by
 obtain⟨r1,r2,r3,r4,r5,r6⟩:=Bw hp;intro k hk;by_cases hkp:k<p
 ·exact h k hkp
 by_cases hkp2:k=p
 · subst hkp2
   by_cases hlt:(s.getD k 0).toNat<128
   · have e:=r4 hlt
     exact⟨fun h=>h0 (by rw[e,h];rfl),fun h=>h47 (by rw[e,h];rfl)⟩
   ·exact⟨fun h=>by rw[h] at hlt;exact hlt (by decide),fun h=>by rw[h] at hlt;exact hlt (by decide)⟩
 · have:=r6 k (by omega) hk
   exact⟨fun h=>by rw[h] at this;revert this;decide,fun h=>by rw[h] at this;revert this;decide⟩
theorem Bg{s:By}{p:Nat}(hp:p<s.length){c:UInt8}(hc:c.toNat<128)(h:(Utf8.decode (bs s) p).1=c.toNat):c∈s:=by
 obtain⟨r1,r2,r3,r4,r5,r6⟩:=Bw hp;by_cases hlt:(s.getD p 0).toNat<128
 · have e:=r4 hlt
   have:s.getD p 0=c:=XS.1 (by omega);rw[←this];simp[WW,hp]
 ·have:=r5 (by omega);omega
theorem Bh{s:By}(h:sJ s s.length):(0:UInt8)∉s∧(47:UInt8)∉s:=by
 constructor
 · intro hm
   obtain⟨i,hi,e⟩:=XF hm;exact(h i hi).1 (by simp[WW,hi,e])
 · intro hm
   obtain⟨i,hi,e⟩:=XF hm;exact(h i hi).2 (by simp[WW,hi,e])
def dN(s:By):Int:=if 255<s.length then 23 else if s=[]∨s=[46]∨s=[46,46]∨(0:UInt8)∈s∨(47:UInt8)∈s then 22 else 0
theorem jM{s:By}(h:dN s=0):s.length≤255∧s≠[]∧(0:UInt8)∉s∧(47:UInt8)∉s:=by
 unfold dN at h
 split at h
 ·simp at h
 · split at h
   ·simp at h
   · rename_i h1 h2
     simp only[not_or] at h2;exact⟨by omega,h2.1,h2.2.2.2.1,h2.2.2.2.2⟩
def iJ:List By→Int
|[]=>0
|s::r=>if dN s=0 then iJ r else dN s
theorem pS:∀ {A B:List By},(∀ s∈A,dN s=0)→iJ (A++B)=iJ B
|[],B,_=>rfl
|a::A,B,h=>by
   show (if dN a=0 then iJ (A++B) else dN a)=_;rw[WJ (h a (by simp)),pS (fun s hs=>h s (by simp[hs]))]
theorem G9{A B:List By}{s:By}(h:∀ s∈A,dN s=0)(hs:dN s≠0):iJ (A++s::B)=dN s:=by
 rw[pS h];show (if dN s=0 then _ else _)=_;rw[WI hs]
theorem pR{A:List By}(h:∀ s∈A,dN s=0):iJ A=0:=by
 have:=pS (B:=[]) h;rw[XP] at this;exact this
theorem C8{A:List By}(h:iJ A=0):∀ s∈A,dN s=0:=by
 induction A with
|nil=>simp
|cons a A ih=>
   have h:(if dN a=0 then iJ A else dN a)=0:=h;by_cases ha:dN a=0
   · rw[WJ ha] at h
     intro s hs;rcases Xo.1 hs with rfl|hs
     ·exact ha
     ·exact ih h s hs
   ·rw[WI ha] at h;exact absurd h ha
def eO(l:List Nd):List By:=l.flatMap (·.names)
theorem C9{l:List Nd}{n:Nd}{i k:Nat}{s:By}(hn:l[i]?=some n)(hs:n.names[k]?=some s)(h1:∀ s∈eO (l.take i),dN s=0)(h2:∀ s∈n.names.take k,dN s=0)(h3:dN s≠0):iJ (eO l)=dN s:=by
 have hi:=(WN.1 hn).1;have hk:=(WN.1 hs).1;have e1:l=l.take i++n::l.drop (i+1):=by rw[←(WN.1 hn).2,List.getElem_cons_drop,Xn]
 have e2:n.names=n.names.take k++s::n.names.drop (k+1):=by rw[←(WN.1 hs).2,List.getElem_cons_drop,Xn]
 have e3:eO l=(eO (l.take i)++n.names.take k)++s::(n.names.drop (k+1)++eO (l.drop (i+1))):=by
  conv=>lhs;rw[e1]
  simp only[eO,List.flatMap_append,List.flatMap_cons]
  conv=>lhs;rw[e2]
  simp
 rw[e3];exact G9 (fun s hs=>(Xj.1 hs).elim (h1 s) (h2 s)) h3
theorem tkL{α:Type}{l:List α}{i:Nat}{x:α}(h:l[i]?=some x):l.take (i+1)=l.take i++[x]:=by
 rw[Xb (WN.1 h).1,(WN.1 h).2]
theorem yT(l:List Nd)(n:Nd):eO (l++[n])=eO l++n.names:=by simp[eO]
def eV(l:List By):By:=47::Lib.join l [47]
def kK(l:List By):Prop:=∀ s∈l,s≠[]∧(47:UInt8)∉s
theorem fB(x:By)(r:List By):Lib.joinTail [47] (x::r)=47::(x++Lib.joinTail [47] r):=by simp[Lib.joinTail]
theorem mK(x:By)(r:List By):eV (x::r)=Lib.joinTail [47] (x::r):=by rw[eV,Lib.join_cons,fB]
theorem Nb:∀ {x y A B:By},(47:UInt8)∉x→(47:UInt8)∉y→(A=[]∨∃ A',A=47::A')→(B=[]∨∃ B',B=47::B')→x++A=y++B→x=y∧A=B
|[],[],A,B,_,_,_,_,h=>⟨rfl,h⟩
|[],b::y,A,B,_,h2,h3,_,h=>by
   rcases h3 with rfl|⟨A',rfl⟩
   ·cases h
   · simp only[Xi,XA,YA.injEq] at h
     exact absurd (by rw[h.1];exact List.mem_cons_self) h2
|a::x,[],A,B,h1,_,_,h4,h=>by
   rcases h4 with rfl|⟨B',rfl⟩
   ·cases h
   · simp only[Xi,XA,YA.injEq] at h
     exact absurd (by rw[←h.1];exact List.mem_cons_self) h1
|a::x,b::y,A,B,h1,h2,h3,h4,h=>by
   simp only[XA,YA.injEq] at h;obtain⟨e1,e2⟩:=Nb (fun m=>h1 (X3 _ m)) (fun m=>h2 (X3 _ m)) h3 h4 h.2;exact⟨by rw[h.1,e1],e2⟩
theorem Ab(r:List By):Lib.joinTail [47] r=[]∨∃ A',Lib.joinTail [47] r=47::A':=by
 cases r with
|nil=>exact .inl rfl
|cons x r=>exact .inr ⟨_,fB x r⟩
theorem Cx:∀ {a b:List By},kK a→kK b→Lib.joinTail [47] a=Lib.joinTail [47] b→a=b
|[],[],_,_,_=>rfl
|[],y::b,_,_,h=>by rw[fB] at h;cases h
|x::a,[],_,_,h=>by rw[fB] at h;cases h
|x::a,y::b,ha,hb,h=>by
   rw[fB,fB,YA.injEq] at h;obtain⟨e1,e2⟩:=Nb (ha x (by simp)).2 (hb y (by simp)).2 (Ab a) (Ab b) h.2;rw[e1,Cx (fun s hs=>ha s (by simp[hs])) (fun s hs=>hb s (by simp[hs])) e2]
theorem G0{a b:List By}(ha:kK a)(hb:kK b)(h:eV a=eV b):a=b:=by
 match a,b with
|[],[]=>rfl
|[],y::b=>
   rw[mK,fB,eV,Lib.join_nil,YA.injEq] at h;exact absurd (List.append_eq_nil_iff.1 h.2.symm).1 (hb y (by simp)).1
|x::a,[]=>
   rw[mK,fB,eV,Lib.join_nil,YA.injEq] at h;exact absurd (List.append_eq_nil_iff.1 h.2).1 (ha x (by simp)).1
|x::a,y::b=>
   rw[mK,mK] at h;exact Cx ha hb h
theorem Cw:∀ {r:List By},(∀ s∈r,s.length≤255)→(Lib.joinTail [47] r).length≤256*r.length
|[],_=>by simp[Lib.joinTail]
|x::r,h=>by
   have ih:=Cw (fun s hs=>h s (X3 _ hs));have hx:=h x (by simp);rw[fB];simp only[W7,WM];omega
theorem xU{l:List By}(h:∀ s∈l,s.length≤255):(Lib.join l [47]).length≤256*l.length:=by
 cases l with
|nil=>simp[Lib.join_nil]
|cons x r=>
   have ih:=Cw (fun s hs=>h s (X3 _ hs));have hx:=h x (by simp);rw[Lib.join_cons];simp only[W7,WM];omega
def okT(n:Nd):Prop:=if n.kind=3 then n.tgt≠[]∧n.tgt.length≤200∧(0:UInt8)∉n.tgt else n.tgt=[]
instance (n:Nd):Decidable (okT n):=by unfold okT;exact inferInstance
def dY(n:Nd):Prop:=(1≤n.kind∧n.kind≤3)∧n.opq=false∧(0≤n.md∧n.md≤511)∧(0≤n.ud∧n.ud≤65535)∧(0≤n.gd∧n.gd≤65535)∧(n.kind=2∨n.data=[])∧n.data.length≤4096∧okT n∧dV n.xs
instance (n:Nd):Decidable (dY n):=by unfold dY;exact inferInstance
def Alk(a b:Nd):Prop:=a.kind=b.kind∧(a.md=b.md∧a.ud=b.ud∧a.gd=b.gd)∧a.tgt=b.tgt∧a.opq=b.opq∧a.data=b.data∧a.xs=b.xs
instance (a b:Nd):Decidable (Alk a b):=by unfold Alk;exact inferInstance
theorem Wk(a:Nd):Alk a a:=⟨rfl,⟨rfl,rfl,rfl⟩,rfl,rfl,rfl,rfl⟩
theorem Alk.symm{a b:Nd}(h:Alk a b):Alk b a:=⟨h.1.symm,⟨h.2.1.1.symm,h.2.1.2.1.symm,h.2.1.2.2.symm⟩,h.2.2.1.symm,h.2.2.2.1.symm,h.2.2.2.2.1.symm,h.2.2.2.2.2.symm⟩
theorem Alk.trans{a b c:Nd}(h:Alk a b)(g:Alk b c):Alk a c:=
 ⟨h.1.trans g.1,⟨h.2.1.1.trans g.2.1.1,h.2.1.2.1.trans g.2.1.2.1,h.2.1.2.2.trans g.2.1.2.2⟩,h.2.2.1.trans g.2.2.1,h.2.2.2.1.trans g.2.2.2.1,h.2.2.2.2.1.trans g.2.2.2.2.1,h.2.2.2.2.2.trans g.2.2.2.2.2⟩
def dE(l:List Nd):Prop:=¬ l.Pairwise fun a b=>a.names≠b.names
def fZ(l:List Nd)(s:List By):Prop:=∃ n∈l,n.names=s∧n.kind=1
def iG(b a:Nd):Prop:=a.ino=b.ino→a.kind≠1∧Alk a b
instance (b a:Nd):Decidable (iG b a):=by unfold iG;exact inferInstance
instance (l:List Nd):Decidable (dE l):=by unfold dE;exact inferInstance
instance (l:List Nd)(s:List By):Decidable (fZ l s):=by unfold fZ;exact inferInstance
def chk(l:List Nd):Int:=
 if 1024<l.length then 3 else if iJ (eO l)≠0 then iJ (eO l) else if ∃ n∈l,16<n.names.length then 9 else if dE l then 6
 else if ¬ fZ l [] then 4 else if ∃ n∈l,n.names≠[]∧¬ fZ l n.names.dropLast then 5 else if ∃ n∈l,¬ dY n then 7 else if l.Pairwise iG then 0 else 8
theorem zX{s:By}(h:(255:Int)<s.length):dN s=23:=by unfold dN;rw[WJ (by omega)]
theorem fP{s:By}(h:¬ (255:Int)<s.length)(h2:s=[]∨s=[46]∨s=[46,46]∨(0:UInt8)∈s∨(47:UInt8)∈s):dN s=22:=by unfold dN;rw[WI (by omega),WJ h2]
theorem zY{s:By}(h:¬ (255:Int)<s.length)(h1:¬ s=[])(h2:¬ s=[46])(h3:¬ s=[46,46])(h4:(0:UInt8)∉s∧(47:UInt8)∉s):dN s=0:=by
 unfold dN;rw[WI (by omega),WI (fun e=>e.elim h1 fun e=>e.elim h2 fun e=>e.elim h3 fun e=>e.elim h4.1 h4.2)]
theorem Cq(s:By)(W:World)(hs:s.length≤maxLen):CA 147 [.string (bs s)] W fun v w'=>v=iV (dN s)∧aA nob W w':=by
 have hl:(s.length:Int)≤9223372036854775807:=by unfold maxLen at hs;omega
 refine cS 31 [(0,_)] Tryz.func147 ?_;refine Gz 10 ?_;refine cL (Tv ty9 rfl) ?_;refine fK 0 ?_ ?_<;>intro h8
 ·refine Gz 13 ?_;exact⟨_,rfl,by rw[zX h8],VZ _ _⟩
 refine fK 7 ?_ ?_<;>intro h11
 ·refine Gz 21 ?_;exact⟨_,rfl,by rw[fP h8 (.inl h11)],VZ _ _⟩
 refine fW 2 ?_ ?_<;>intro h14
 ·refine Gz 18 ?_;exact⟨_,rfl,by rw[fP h8 (.inr (.inl h14))],VZ _ _⟩
 refine fW 3 ?_ ?_<;>intro h18
 ·refine Gz 14 ?_;exact⟨_,rfl,by rw[fP h8 (.inr (.inr (.inl h18)))],VZ _ _⟩
 refine Gz 12 ?_;refine U5 ty9 rfl rfl ?_;intro w1 hg1 hs1 hf1;obtain⟨g,hg⟩:∃ g,g=W.heap.size:=⟨_,rfl⟩
 rw[←hg] at hg1 ⊢;refine Gz 3 ?_;refine S4 (β:=Nat) (fun p=>[(0,.string (bs s)),(21,pT g)]) (fun p w=>w.heap[g]?=some (.stringIter (bs s) p)∧p≤s.length∧sJ s p∧aA nob W w) (fun p=>s.length-p) 0 ⟨rfl,rfl,trivial⟩ ⟨hg1,WU _,fun k hk=>by omega,hf1⟩ ?_;rintro p w2 ⟨hg2,hp,hcl,hF2⟩;refine Gz 2 ?_;by_cases h22:p<(bs s).size
 ·refine Vv rfl hg2 h22 rfl ?_;intro w3 hg3 hs3 hf3;have hpl:p<s.length:=by rw[jV] at h22;exact h22
  obtain⟨r1,r2,r3,r4,r5,r6⟩:=Bw hpl;refine fK 17 ?_ ?_<;>intro h26
  ·have hb:dN s=22:=fP h8 (.inr (.inr (.inr (.inl (Bg hpl (c:=0) (by decide) (by show _=0;omega))))));refine Gz 18 ?_;exact⟨_,rfl,by rw[hb],hF2.WD hf3 (fun k e=>.inr (by have e:k=g:=e;omega))⟩
  refine fW 2 ?_ ?_<;>intro h29
  ·have hb:dN s=22:=fP h8 (.inr (.inr (.inr (.inr (Bg hpl (c:=47) (by decide) (by show _=47;omega))))));refine Gz 15 ?_;exact⟨_,rfl,by rw[hb],hF2.WD hf3 (fun k e=>.inr (by have e:k=g:=e;omega))⟩
  refine Gz 6 ?_;have hF3:aA nob W w3:=hF2.WD hf3 (fun k e=>.inr (by have e:k=g:=e;omega));exact aG (p+(Utf8.decode (bs s) p).2) ⟨hg3,r2,E1 hpl hcl (by omega) (by omega),hF3⟩ (by show s.length-(p+(Utf8.decode (bs s) p).2)<s.length-p;omega)
 refine Vx rfl hg2 h22 rfl ?_;have hpe:p=s.length:=by rw[jV] at h22;omega
 subst hpe;refine Gz 17 ?_;exact⟨_,rfl,by rw[zY h8 h11 h14 h18 (Bh hcl)],hF2⟩
theorem An(s:By)(W:World)(hs:s.length≤maxLen):CA 136 [.string (bs s)] W fun v w'=>v=iV (dN s)∧w'=W:=by
 have hl:(s.length:Int)≤9223372036854775807:=by unfold maxLen at hs;omega
 refine cS 33 [(0,_)] Tryz.func136 ?_;refine Gz 9 ?_;refine cL (Tv ty9 rfl) ?_;refine fK 0 ?_ ?_<;>intro h6
 ·refine Gz 11 ?_;exact⟨_,rfl,by rw[zX h6],rfl⟩
 refine Gz 12 ?_;refine S4 (β:=Nat) (fun k=>[(0,.string (bs s)),(3,iV k)]) (fun k w=>k≤s.length∧sJ s k∧w=W) (fun k=>s.length-k) 0 ⟨rfl,rfl,trivial⟩ ⟨WU _,fun k hk=>by omega,rfl⟩ ?_;rintro k w2 ⟨hk,hcl,hw2⟩;subst hw2;refine Gz 5 ?_;refine cL (Tv ty9 rfl) ?_;refine fK 0 ?_ ?_<;>intro h10
 ·refine Gz 11 ?_;refine cL (Uj ty9 rfl rfl (by omega)) ?_;refine fK 0 ?_ ?_<;>intro h16
  ·have hm:(0:UInt8)∈s:=by have e:s.getD k 0=0:=XS.1 (by have h16:((s.getD ((k:Int)).toNat 0).toNat:Int)=0:=h16;have e2:((k:Int)).toNat=k:=rfl;rw[e2] at h16;show _=0;omega);have hk2:k<s.length:=(by omega);rw[WW,WK hk2] at e;rw[←e];exact XE hk2
   refine Gz 21 ?_;exact⟨_,rfl,by rw[fP h6 (.inr (.inr (.inr (.inl hm))))],rfl⟩
  have g1:s.getD k 0≠0:=by intro e;apply h16;show ((s.getD k 0).toNat:Int)=0;rw[e];rfl
  refine Gz 3 ?_;refine cW (Uj ty9 rfl rfl (by omega)) ?_;refine fW 0 ?_ ?_<;>intro h21
  ·have hm:(47:UInt8)∈s:=by have e:s.getD k 0=47:=XS.1 (by have h21:((s.getD ((k:Int)).toNat 0).toNat:Int)=47:=h21;have e2:((k:Int)).toNat=k:=rfl;rw[e2] at h21;show _=47;omega);have hk2:k<s.length:=(by omega);rw[WW,WK hk2] at e;rw[←e];exact XE hk2
   refine Gz 16 ?_;exact⟨_,rfl,by rw[fP h6 (.inr (.inr (.inr (.inr hm))))],rfl⟩
  have g2:s.getD k 0≠47:=by intro e;apply h21;show ((s.getD k 0).toNat:Int)=47;rw[e];rfl
  refine Gz 12 ?_;refine aG (k+1) ⟨by omega,fun i hi=>?_,rfl⟩ (by show s.length-(k+1)<s.length-k;omega);by_cases hik:i=k
  ·subst hik;exact⟨g1,g2⟩
  ·exact hcl i (by omega)
 refine fK 12 ?_ ?_<;>intro h24
 ·refine Gz 19 ?_;exact⟨_,rfl,by rw[fP h6 (.inl h24)],rfl⟩
 refine fW 2 ?_ ?_<;>intro h27
 ·refine Gz 16 ?_;exact⟨_,rfl,by rw[fP h6 (.inr (.inl h27))],rfl⟩
 refine fW 3 ?_ ?_<;>intro h31
 ·refine Gz 12 ?_;exact⟨_,rfl,by rw[fP h6 (.inr (.inr (.inl h31)))],rfl⟩
 refine Gz 13 ?_;have hke:k=s.length:=by omega
 subst hke;exact⟨_,rfl,by rw[zY h6 h24 h27 h31 (Bh hcl)],rfl⟩
section
theorem SU(a:Addr)(i j:Nat):(a.add i).add j=a.add (i+j):=Addr.add_add a i j
theorem Dg{α:Type}{a b:List α}(hl:a.length=b.length){k:Nat}(hk:a.length≤k)(d:α)(h:∀ i,i<k→i<a.length→a.getD i d=b.getD i d):a=b:=by
 apply List.ext_getElem hl;intro i h1 h2;have:=h i (by omega) h1;simpa[WW,h1,h2] using this
theorem wQ(ao bo:Option Addr)(ac bc:Nat)(a b:List By)(W:World)(ha:Vw gY W.heap ao ac a)(hb:Vw gY W.heap bo bc b) :
 CA 39 [.slice ao a.length ac,.slice bo b.length bc] W fun v w'=>v=.bool (decide (a=b))∧aA nob W w':=by
 have h63:=ha.WF;refine cS 26 [(0,_),(1,_)] Tryz.func39 ?_;refine fK 12 ?_ ?_<;>intro h10
 ·refine Gz 11 ?_;exact⟨_,rfl,by rw[WL (fun e=>by subst e;exact h10 rfl)],VZ _ _⟩
 refine Gz 12 ?_;refine S4 (β:=Nat) (fun k=>[(0,.slice ao a.length ac),(1,.slice bo b.length bc),(5,iV k)]) (fun k w=>k≤a.length∧(∀ i,i<k→i<a.length→a.getD i []=b.getD i [])∧aA nob W w) (fun k=>a.length-k) 0 ⟨rfl,rfl,rfl,trivial⟩ ⟨WU _,fun i hi=>by omega,VZ _ _⟩ ?_;rintro k w2 ⟨hk,hsm,hF2⟩;refine fK 6 ?_ ?_<;>intro h14
 ·have hka:k<a.length:=by omega
  have hkb:k<b.length:=by omega
  have ha2:=ha.WG hF2;have hb2:=hb.WG hF2;refine Gz 8 ?_;refine Tk 9 [0,1,2,3,4,5,6,7,8] aI (by kernel_rfl) ?_;refine Gz 2 ?_;refine xC rfl (SY jH rfl rfl ha2.non (by omega)) ?_;refine xC rfl (S2 eG rfl (ha2.get k (a.getD k []) (by simp[WW,hka]))) ?_;refine Gz 2 ?_;refine xC rfl (SY jH rfl rfl hb2.non (by omega)) ?_;refine xC rfl (S2 eG rfl (hb2.get k (b.getD k []) (by simp[WW,hkb]))) ?_;refine xK 0 ?_ ?_<;>intro h25
  ·refine Gz 15 ?_;exact⟨_,rfl,by rw[WL (fun e=>h25 (by rw[e]))],hF2.draws 1⟩
  refine Gz 11 ?_;refine aG (k+1) ⟨by omega,fun i hi hia=>?_,hF2.draws 1⟩ (by show a.length-(k+1)<a.length-k;omega);by_cases hik:i=k
  ·subst hik;exact Xk.1 h25
  ·exact hsm i (by omega) hia
 refine Gz 15 ?_;exact⟨_,rfl,by rw[WO (Dg (by omega) (k:=k) (by omega) [] hsm)],hF2⟩
def gP(ps:List (NdH×Nd))(s:List By):Int:=match ps.findIdx? (fun p=>decide (p.2.names=s)) with|some i=>i|none=>-1
theorem Hr{ps:List (NdH×Nd)}{s:List By}{i:Nat}{p:NdH×Nd}(hp:ps[i]?=some p)(h1:p.2.names=s)(h2:∀ j q,j<i→ps[j]?=some q→q.2.names≠s):gP ps s=i:=by
 have hi:=(WN.1 hp).1;have:ps.findIdx? (fun p=>decide (p.2.names=s))=some i:=by
  rw[XN];refine⟨hi,by rw[(WN.1 hp).2];exact WO h1,fun j hj=>?_⟩;have:=h2 j _ hj (WK (by omega));simpa using this
 unfold gP;rw[this]
theorem yE{ps:List (NdH×Nd)}{s:List By}(h:∀ p∈ps,p.2.names≠s):gP ps s = -1:=by
 have:ps.findIdx? (fun p=>decide (p.2.names=s))=none:=by
  rw[X8];intro p hp;exact WL (h p hp)
 unfold gP;rw[this]
theorem gI(ps:List (NdH×Nd))(s:List By):(gP ps s = -1∧∀ p∈ps,p.2.names≠s)∨∃ (i:Nat) (p:NdH×Nd),gP ps s=i∧ps[i]?=some p∧p.2.names=s∧∀ j q,j<i→ps[j]?=some q→q.2.names≠s:=by
 by_cases h:∃ p∈ps,p.2.names=s
 · right
   obtain⟨i,hi⟩:∃ i,ps.findIdx? (fun p=>decide (p.2.names=s))=some i:=by
    cases hf:ps.findIdx? (fun p=>decide (p.2.names=s)) with
   |some i=>exact⟨i,rfl⟩
   |none=>
      rw[X8] at hf;obtain⟨p,hp,e⟩:=h;have:=hf p hp;simp[e] at this
   obtain⟨h1,h2,h3⟩:=XN.1 hi;refine⟨i,ps[i],by unfold gP;rw[hi],WK h1,by simpa using h2,fun j q hj hq=>?_⟩;have:=h3 j hj;rw[(WN.1 hq).2] at this;simpa using this
 · left
   have h':∀ p∈ps,p.2.names≠s:=fun p hp e=>h ⟨p,hp,e⟩;exact⟨yE h',h'⟩
variable {D:Nat→Prop}
theorem CS(lo:Option Addr)(lc:Nat)(ps:List (NdH×Nd))(so:Option Addr)(sc:Nat)(s:List By)(W:World)(hv:aO D W.heap lo lc ps)(hs:Vw gY W.heap so sc s) :
 CA 190 [.slice lo ps.length lc,.slice so s.length sc] W fun v w'=>v=iV (gP ps s)∧aA nob W w':=by
 have h63:=hv.1.WF;refine cS 22 [(0,_),(1,_)] Tryz.func190 ?_;refine Gz 12 ?_;refine S4 (β:=Nat) (fun k=>[(0,.slice lo ps.length lc),(1,.slice so s.length sc),(5,iV k)]) (fun k w=>k≤ps.length∧(∀ j q,j<k→ps[j]?=some q→q.2.names≠s)∧aA nob W w) (fun k=>ps.length-k) 0 ⟨rfl,rfl,rfl,trivial⟩ ⟨WU _,fun i q hi=>by omega,VZ _ _⟩ ?_;rintro k w2 ⟨hk,hno,hF2⟩;refine fK 6 ?_ ?_<;>intro h10
 ·obtain⟨p,hp⟩:∃ p,ps[k]?=some p:=⟨_,WK (by omega)⟩
  have hv2:=hv.WG hF2;have hn2:=(hv2.2 p (WQ hp)).1;obtain⟨p1,p2⟩:=p;refine Gz 11 ?_;refine cL (S1 aQ rfl rfl hv2.1.non (by omega)) ?_;refine Gz 1 ?_;refine cL (S2 dW rfl (hv2.1.rowZ k rfl hp 0 _ rfl)) ?_;refine Gz 1 ?_;refine SZ N4 rfl ((by show Calls _ _ [Value.slice p1.names.a p1.names.n p1.names.c,_].toArray _ _;rw[hn2.1];exact wQ p1.names.a so p1.names.c sc p2.names s w2 hn2.2.1 (hs.WG hF2))) rfl ?_;rintro _ w3 ⟨rfl,hf3⟩;by_cases h19:p2.names=s
  ·rw[WO h19];refine Gz 22 ?_;exact⟨_,rfl,by rw[Hr hp h19 hno],hF2.trans hf3⟩
  rw[WL h19];refine Gz 17 ?_;refine aG (k+1) ⟨by omega,fun j q hj hq=>?_,hF2.trans hf3⟩ (by show ps.length-(k+1)<ps.length-k;omega);by_cases hjk:j=k
  ·subst hjk;rw[hp] at hq;cases hq;exact h19
  ·exact hno j q (by omega) hq
 have hke:k=ps.length:=by omega
 subst hke;refine Gz 15 ?_;refine⟨_,rfl,?_,hF2⟩;rw[yE (fun q hq=>by obtain⟨j,hj⟩:=W8 hq;exact hno j q (WN.1 hj).1 hj)]
def lF(ps:List (NdH×Nd))(s:List By):Prop:=0≤gP ps s∧(ps.getD (gP ps s).toNat (tD,nd0)).2.kind=1
instance (ps:List (NdH×Nd))(s:List By):Decidable (lF ps s):=by unfold lF;exact inferInstance
theorem pX(ps:List (NdH×Nd))(s:List By):lF ps s↔∃ (i:Nat) (p:NdH×Nd),gP ps s=i∧ps[i]?=some p∧p.2.kind=1:=by
 rcases gI ps s with⟨h1,h2⟩|⟨i,p,h1,h2,h3,h4⟩
 · constructor
   ·intro h;have:=h.1;omega
   ·rintro⟨i,p,e,_⟩;omega
 · have e:ps.getD (gP ps s).toNat (tD,nd0)=p:=by rw[h1,WW,Xm,h2];rfl
   constructor
   ·intro h;exact⟨i,p,h1,h2,by rw[←e];exact h.2⟩
   · rintro⟨j,q,e1,hq,hk⟩
     have:j=i:=by omega
     subst this;rw[h2] at hq;cases hq;exact⟨by omega,by rw[e];exact hk⟩
theorem Au(lo:Option Addr)(lc:Nat)(ps:List (NdH×Nd))(so:Option Addr)(sc:Nat)(s:List By)(W:World)(hv:aO D W.heap lo lc ps)(hs:Vw gY W.heap so sc s) :
 CA 144 [.slice lo ps.length lc,.slice so s.length sc] W fun v w'=>v=.bool (decide (lF ps s))∧aA nob W w':=by
 have hsp:=gI ps s;obtain⟨F,hF⟩:∃ F,F=gP ps s:=⟨_,rfl⟩
 refine cS 19 [(0,_),(1,_)] Tryz.func144 ?_;refine cA 9 MX (CS lo lc ps so sc s W hv hs) ?_;rintro _ w2 ⟨rfl,hf2⟩;rw[←hF] at hsp ⊢;refine fK 6 ?_ ?_<;>intro h10
 ·obtain⟨i,p,h1,hp,h3,h4⟩:∃ (i:Nat) (p:NdH×Nd),F=i∧ps[i]?=some p∧p.2.names=s∧∀ j q,j<i→ps[j]?=some q→q.2.names≠s:=hsp.resolve_left (fun h=>by have:=h.1;omega);have hil:=(WN.1 hp).1;refine Gz 3 ?_;refine cW (S1 aQ rfl rfl hv.1.non (by omega)) ?_;refine Gz 1 ?_;refine cW (S2 aF rfl ((hv.1.WG hf2).rowZ i h1 hp 2 _ rfl)) ?_;refine fW 0 ?_ ?_<;>intro h17
  ·have hyes:lF ps s:=(pX ps s).2 ⟨i,p,by rw[←hF];exact h1,hp,h17⟩;refine Gz 6 ?_;exact⟨_,rfl,by rw[WO hyes],hf2⟩
  have hno:¬ lF ps s:=fun h=>by
   obtain⟨j,q,e,hq,hk⟩:=(pX ps s).1 h;rw[←hF,h1] at e;have e:i=j:=by omega
   subst e;rw[hp] at hq;cases hq;exact h17 hk
  refine Gz 6 ?_;exact⟨_,rfl,by rw[WL hno],hf2⟩
 have hno:¬ lF ps s:=fun h=>by have:=h.1;rw[←hF] at this;omega
 refine Gz 13 ?_;exact⟨_,rfl,by rw[WL hno],hf2⟩
end
section
def nmd(l:List Nd):Int:=if iJ (eO l)≠0 then iJ (eO l) else if ∃ n∈l,16<n.names.length then 9 else if dE l then 6 else 0
def plc(l:List Nd):Int:=if 1024<l.length then 3 else if nmd l≠0 then nmd l else if ¬ fZ l [] then 4 else if ∃ n∈l,n.names≠[]∧¬ fZ l n.names.dropLast then 5 else 0
theorem aM(l:List Nd):chk l=if plc l≠0 then plc l else if ∃ n∈l,¬ dY n then 7 else if l.Pairwise iG then 0 else 8:=by
 unfold chk plc nmd;by_cases h1:1024<l.length
 ·simp[h1]
 · by_cases h2:iJ (eO l)=0
   · by_cases h3:∃ n∈l,16<n.names.length
     ·simp[h1,h2,h3]
     · by_cases h4:dE l
       ·simp[h1,h2,h3,h4]
       · by_cases h5:fZ l []
         · by_cases h6:∃ n∈l,n.names≠[]∧¬ fZ l n.names.dropLast
           ·simp[h1,h2,h3,h4,h5,h6]
           ·simp only[h1,h2,h3,h4,h5,h6,if_false,ne_eq,not_true_eq_false]
         ·simp[h1,h2,h3,h4,h5]
   ·simp[h1,h2]
abbrev nds(ps:List (NdH×Nd)):List Nd:=ps.map (·.2)
theorem bE{ps:List (NdH×Nd)}{i:Nat}{p:NdH×Nd}(h:ps[i]?=some p):(nds ps)[i]?=some p.2:=by simp[nds,h]
theorem Da(ps:List (NdH×Nd))(i:Nat):nds (ps.take i)=(nds ps).take i:=by simp[nds,List.map_take]
theorem eZ(ps:List (NdH×Nd)):dE (nds ps)↔∃ (i j:Nat) (p q:NdH×Nd),i<j∧ps[i]?=some p∧ps[j]?=some q∧p.2.names=q.2.names:=by
 unfold dE;rw[Xu];constructor
 · intro h
   simp only[Classical.not_forall] at h;obtain⟨i,j,h1,h2,h3,h4⟩:=h;rw[List.length_map] at h1 h2;exact⟨i,j,ps[i],ps[j],h3,WK h1,WK h2,by simpa using h4⟩
 · rintro⟨i,j,p,q,h1,h2,h3,h4⟩ h
   have e2:=(WN.1 h2)
   have e3:=(WN.1 h3)
   refine h i j (by simpa using e2.1) (by simpa using e3.1) h1 ?_;simp only[List.getElem_map,e2.2,e3.2];exact h4
theorem Me{ps:List (NdH×Nd)}{i:Nat}{p:NdH×Nd}(h:ps[i]?=some p):0≤gP ps p.2.names∧gP ps p.2.names≤i:=by
 rcases gI ps p.2.names with⟨h1,h2⟩|⟨j,q,h1,h2,h3,h4⟩
 ·exact absurd rfl (h2 p (WQ h))
 · refine⟨by omega,?_⟩
   by_cases hj:j≤i
   ·omega
   ·exact absurd rfl (h4 i p (by omega) h)
theorem HX{ps:List (NdH×Nd)}{i:Nat}{p:NdH×Nd}(h:ps[i]?=some p)(hf:gP ps p.2.names<i):dE (nds ps):=by
 rcases gI ps p.2.names with⟨h1,h2⟩|⟨j,q,h1,h2,h3,h4⟩
 ·exact absurd rfl (h2 p (WQ h))
 ·exact(eZ ps).2 ⟨j,i,q,p,by omega,h2,h,h3⟩
theorem zZ{ps:List (NdH×Nd)}(h:∀ (i:Nat) (p:NdH×Nd),ps[i]?=some p→¬ gP ps p.2.names<i):¬ dE (nds ps):=by
 intro ht;obtain⟨i,j,p,q,h1,h2,h3,h4⟩:=(eZ ps).1 ht;have:=(Me h2).2;have g:=h j q h3;rw[←h4] at g;omega
theorem sE{ps:List (NdH×Nd)}(ht:¬ dE (nds ps))(s:List By):lF ps s↔fZ (nds ps) s:=by
 rw[pX];constructor
 · rintro⟨i,p,h1,h2,h3⟩
   refine⟨p.2,WQ (bE h2),?_,h3⟩;rcases gI ps s with⟨g1,_⟩|⟨j,q,g1,g2,g3,_⟩
   ·omega
   · have:j=i:=by omega
     subst this;rw[h2] at g2;cases g2;exact g3
 · rintro⟨n,hn,h1,h2⟩
   obtain⟨i,hi⟩:=W8 hn;obtain⟨p,hp,rfl⟩:∃ p,ps[i]?=some p∧p.2=n:=by
    simp only[nds,Xv,Option.map_eq_some_iff] at hi;exact hi
   rcases gI ps s with⟨g1,g2⟩|⟨j,q,g1,g2,g3,g4⟩
   ·exact absurd h1 (g2 p (WQ hp))
   · have:j=i:=by
      apply WV;intro hne;rcases Nat.lt_or_gt_of_ne hne with hlt|hgt
      ·exact ht ((eZ ps).2 ⟨j,i,q,p,hlt,g2,hp,g3.trans h1.symm⟩)
      ·exact g4 i p hgt hp h1
     subst this;rw[hp] at g2;cases g2;exact⟨j,p,g1,hp,h2⟩
theorem tkN{ps:List (NdH×Nd)}{i:Nat}{p:NdH×Nd}(h:ps[i]?=some p):(nds ps).take (i+1)=(nds ps).take i++[p.2]:=tkL (bE h)
theorem HK{ps:List (NdH×Nd)}{i:Nat}{p:NdH×Nd}{R:Nd→Prop}(hp:ps[i]?=some p)(h:∀ n∈(nds ps).take i,R n)(hn:R p.2):∀ n∈(nds ps).take (i+1),R n:=by
 intro n hm;rw[tkN hp,Xj,Xg] at hm;rcases hm with hm|rfl
 ·exact h n hm
 ·exact hn
variable {D:Nat→Prop}
theorem GI(lo:Option Addr)(lc:Nat)(ps:List (NdH×Nd))(W:World)(hv:aO D W.heap lo lc ps)(hsm:∀ p∈ps,smN p.2) :
 CA 143 [.slice lo ps.length lc] W fun v w'=>v=iV (nmd (nds ps))∧aA nob W w':=by
 have h63:=hv.1.WF;refine cS 64 [(0,_)] Tryz.func143 ?_;refine Gz 12 ?_;refine S4 (β:=Nat) (fun i=>[(0,.slice lo ps.length lc),(3,iV i)]) (fun i w=>i≤ps.length∧(∀ s∈eO ((nds ps).take i),dN s=0)∧aA nob W w) (fun i=>ps.length-i) 0 ⟨rfl,rfl,trivial⟩ ⟨WU _,by simp[eO],VZ _ _⟩ ?_;rintro i w2 ⟨hi,hok,hF2⟩;refine fK 6 ?_ ?_<;>intro h11
 ·have hil:i<ps.length:=by omega
  obtain⟨p,hp⟩:∃ p,ps[i]?=some p:=⟨_,WK hil⟩
  have hpm:=WQ hp;refine Gz 13 ?_;refine S4 (β:=Nat) (fun k=>[(0,.slice lo ps.length lc),(3,iV i),(4,iV k)]) (fun k w=>k≤p.2.names.length∧(∀ s∈p.2.names.take k,dN s=0)∧aA nob W w) (fun k=>p.2.names.length-k) 0 ⟨rfl,rfl,rfl,trivial⟩ ⟨WU _,by simp,hF2⟩ ?_;rintro k w3 ⟨hk,hok2,hF3⟩;refine Gz 6 ?_;have hv3:=hv.WG hF3;have hn3:=(hv3.2 p hpm).1;refine cL (S1 aQ rfl rfl hv3.1.non (by omega)) ?_;refine Gz 1 ?_;refine cL (S2 dW rfl (hv3.1.rowZ i rfl hp 0 _ rfl)) ?_;refine Gz 1 ?_;rw[hn3.1];refine fK 0 ?_ ?_<;>intro h21
  ·have hkl:k<p.2.names.length:=by omega
   have hl63:=hn3.2.1.WF;obtain⟨s,hs⟩:∃ s,p.2.names[k]?=some s:=⟨_,WK hkl⟩
   refine Gz 11 ?_;refine cL (S1 aQ rfl rfl hv3.1.non (by omega)) ?_;refine Gz 1 ?_;refine cL (S2 dW rfl (hv3.1.rowZ i rfl hp 0 _ rfl)) ?_;refine Gz 1 ?_;refine cL (SY jH rfl rfl (by rw[hn3.1];exact hn3.2.1.non) (by have:=hn3.1;omega)) ?_;refine cL (S2 eG rfl (hn3.2.1.get k s hs)) ?_;refine cA 0 M6 (An s w3 ((hsm p hpm).2.1 s (WQ hs))) ?_;rintro _ w4 ⟨rfl,rfl⟩;refine fK 6 ?_ ?_<;>intro h34
   ·refine Gz 20 ?_;have e:=C9 (bE hp) hs hok hok2 h34;refine⟨_,rfl,?_,hF3⟩;unfold nmd;rw[e,WJ h34]
   refine Gz 11 ?_;refine aG (k+1) ⟨by omega,fun t ht=>?_,hF3⟩ (by show p.2.names.length-(k+1)<p.2.names.length-k;omega);rw[tkL hs,Xj,Xg] at ht;rcases ht with ht|rfl
   ·exact hok2 t ht
   ·exact Xk.1 h34
  have hke:k=p.2.names.length:=by omega
  subst hke;rw[Xl] at hok2;refine Gz 14 ?_;refine aG (i+1) ⟨by omega,fun s hs=>?_,hF3⟩ (by show ps.length-(i+1)<ps.length-i;omega);rw[tkN hp,yT,Xj] at hs;exact hs.elim (hok s) (hok2 s)
 have hie:i=ps.length:=by omega
 subst hie;rw[WY (by simp)] at hok;refine Gz 15 ?_;have hz:iJ (eO (nds ps))=0:=pR hok;refine S4 (β:=Nat) (fun j=>[(0,.slice lo ps.length lc),(6,iV j)]) (fun j w=>j≤ps.length∧(∀ n∈(nds ps).take j,¬ 16<n.names.length)∧aA nob W w) (fun j=>ps.length-j) 0 ⟨rfl,rfl,trivial⟩ ⟨WU _,by simp,hF2⟩ ?_;rintro j w3 ⟨hj,hdp,hF3⟩;refine fK 6 ?_ ?_<;>intro h39
 ·have hjl:j<ps.length:=by omega
  obtain⟨p,hp⟩:∃ p,ps[j]?=some p:=⟨_,WK hjl⟩
  have hpm:=WQ hp;have hv3:=hv.WG hF3;have hn3:=(hv3.2 p hpm).1;refine Gz 11 ?_;refine cL (S1 aQ rfl rfl hv3.1.non (by omega)) ?_;refine Gz 1 ?_;refine cL (S2 dW rfl (hv3.1.rowZ j rfl hp 0 _ rfl)) ?_;refine Gz 1 ?_;rw[hn3.1];refine fK 0 ?_ ?_<;>intro h48
  ·refine Gz 15 ?_;refine⟨_,rfl,?_,hF3⟩;unfold nmd;rw[WI (fun h=>h hz),WJ ⟨p.2,WQ (bE hp),by omega⟩]
  refine Gz 11 ?_;refine aG (j+1) ⟨by omega,fun n hn=>?_,hF3⟩ (by show ps.length-(j+1)<ps.length-j;omega);rw[tkN hp,Xj,Xg] at hn;rcases hn with hn|rfl
  ·exact hdp n hn
  ·omega
 have hje:j=ps.length:=by omega
 subst hje;rw[WY (by simp)] at hdp;refine Gz 15 ?_;have hd:¬ ∃ n∈nds ps,16<n.names.length:=fun⟨n,hn,h⟩=>hdp n hn h;refine S4 (β:=Nat) (fun j=>[(0,.slice lo ps.length lc),(7,iV j)]) (fun j w=>j≤ps.length∧(∀ (i:Nat) (p:NdH×Nd),i<j→ps[i]?=some p→¬ gP ps p.2.names<i)∧aA nob W w) (fun j=>ps.length-j) 0 ⟨rfl,rfl,trivial⟩ ⟨WU _,fun i p hi=>by omega,hF3⟩ ?_;rintro j w3 ⟨hj,hno,hF3⟩;refine fK 6 ?_ ?_<;>intro h52
 ·have hjl:j<ps.length:=by omega
  obtain⟨p,hp⟩:∃ p,ps[j]?=some p:=⟨_,WK hjl⟩
  have hpm:=WQ hp;have hv3:=hv.WG hF3;have hn3:=(hv3.2 p hpm).1;refine Gz 12 ?_;refine cL (S1 aQ rfl rfl hv3.1.non (by omega)) ?_;refine Gz 1 ?_;refine cL (S2 dW rfl (hv3.1.rowZ j rfl hp 0 _ rfl)) ?_;refine SZ MX rfl ((by show Calls _ _ [_,Value.slice p.1.names.a p.1.names.n p.1.names.c].toArray _ _;rw[hn3.1];exact CS lo lc ps p.1.names.a p.1.names.c p.2.names w3 hv3 hn3.2.1)) rfl ?_;rintro _ w4 ⟨rfl,hf4⟩;refine fK 1 ?_ ?_<;>intro h63
  ·refine Gz 15 ?_;refine⟨_,rfl,?_,hF3.trans hf4⟩;unfold nmd;rw[WI (fun h=>h hz),WI hd,WJ (HX hp h63)]
  refine Gz 11 ?_;refine aG (j+1) ⟨by omega,fun i q hi hq=>?_,hF3.trans hf4⟩ (by show ps.length-(j+1)<ps.length-j;omega);by_cases e:i=j
  ·subst e;rw[hp] at hq;cases hq;exact h63
  ·exact hno i q (by omega) hq
 have hje:j=ps.length:=by omega
 subst hje;refine Gz 15 ?_;refine⟨_,rfl,?_,hF3⟩;unfold nmd;rw[WI (fun h=>h hz),WI hd,WI (zZ fun i p h=>hno i p (WN.1 h).1 h)]
theorem jA{l:List Nd}(h:nmd l=0):(∀ s∈eO l,dN s=0)∧(∀ n∈l,n.names.length≤16)∧¬ dE l:=by
 unfold nmd at h;by_cases h1:iJ (eO l)=0
 · rw[WI (fun g=>g h1)] at h
   by_cases h2:∃ n∈l,16<n.names.length
   ·rw[WJ h2] at h;simp at h
   · rw[WI h2] at h
     by_cases h3:dE l
     ·rw[WJ h3] at h;simp at h
     ·exact⟨C8 h1,fun n hn=>by have:¬ 16<n.names.length:=fun g=>h2 ⟨n,hn,g⟩;omega,h3⟩
 ·rw[WJ h1] at h;exact absurd h h1
theorem drop_take{α:Type}(l:List α):l.dropLast=l.take (l.length-1):=by rw[List.dropLast_eq_take]
theorem Es(lo:Option Addr)(lc:Nat)(ps:List (NdH×Nd))(W:World)(hv:aO D W.heap lo lc ps)(hsm:∀ p∈ps,smN p.2) :
 CA 103 [.slice lo ps.length lc] W fun v w'=>v=iV (plc (nds ps))∧aA nob W w':=by
 have h63:=hv.1.WF;have hll:(nds ps).length=ps.length:=by simp
 refine cS 43 [(0,_)] Tryz.func103 ?_;refine fK 10 ?_ ?_<;>intro h9
 ·refine Gz 11 ?_;refine⟨_,rfl,?_,VZ _ _⟩;unfold plc;rw[WJ (by omega)]
 refine cA 8 PG (GI lo lc ps W hv hsm) ?_;rintro _ w2 ⟨rfl,hf2⟩;refine fK 7 ?_ ?_<;>intro h13
 ·refine Gz 12 ?_;refine⟨_,rfl,?_,hf2⟩;unfold plc;rw[WI (by omega),WJ h13]
 have hz:nmd (nds ps)=0:=Xk.1 h13;have hz3:=jA hz;refine Gz 8 ?_;refine SZ M5 rfl (Au lo lc ps none 0 [] w2 (hv.WG hf2) (V7 0 (WU _))) rfl ?_;rintro _ w3 ⟨rfl,hf3⟩;by_cases h16:lF ps []
 ·rw[WO h16];refine Gz 7 ?_;refine cL (Tj rfl) ?_;refine Gz 12 ?_;refine S4 (β:=Nat) (fun i=>[(0,.slice lo ps.length lc),(5,iV i)]) (fun i w=>i≤ps.length∧(∀ n∈(nds ps).take i,¬ (n.names≠[]∧¬ fZ (nds ps) n.names.dropLast))∧aA nob W w) (fun i=>ps.length-i) 0 ⟨rfl,rfl,trivial⟩ ⟨WU _,by simp,hf2.trans hf3⟩ ?_;rintro i w4 ⟨hi,hok,hF4⟩;refine fK 6 ?_ ?_<;>intro h22
  ·have hil:i<ps.length:=by omega
   obtain⟨p,hp⟩:∃ p,ps[i]?=some p:=⟨_,WK hil⟩
   have hpm:=WQ hp;have hv4:=hv.WG hF4;have hn4:=(hv4.2 p hpm).1;have hl63:=hn4.2.1.WF;refine Gz 11 ?_;refine cL (S1 aQ rfl rfl hv4.1.non (by omega)) ?_;refine Gz 1 ?_;refine cL (S2 dW rfl (hv4.1.rowZ i rfl hp 0 _ rfl)) ?_;refine Gz 7 ?_;rw[hn4.1];refine fK 0 ?_ ?_<;>intro h32
   ·refine Gz 5 ?_;rw[hn4.1];refine Gz 1 ?_;refine cW (S3 (u:=.slice p.1.names.a p.2.names.dropLast.length p.1.names.c) (Tl jH rfl rfl (by have:=hn4.2.1.le;omega)) (by rw[aV,List.length_dropLast];congr 1;omega)) ?_;refine Tb rfl rfl M5 rfl (Au lo lc ps p.1.names.a p.1.names.c p.2.names.dropLast w4 hv4 (by rw[drop_take];exact hn4.2.1.take _)) rfl ?_;rintro _ w5 ⟨rfl,hf5⟩;by_cases h40:lF ps p.2.names.dropLast
    ·rw[WO h40];refine cW (Tj rfl) ?_;refine Gz 12 ?_;exact aG (i+1) ⟨by omega,HK hp hok (fun⟨_,h⟩=>h ((sE hz3.2.2 _).1 h40)),hF4.trans hf5⟩ (by show ps.length-(i+1)<ps.length-i;omega)
    rw[WL h40];refine cW (Tj rfl) ?_;refine Gz 16 ?_;refine⟨_,rfl,?_,hF4.trans hf5⟩;unfold plc;rw[WI (by omega),WI (fun h=>h hz),WI (fun h=>h ((sE hz3.2.2 _).1 h16)),WJ ⟨p.2,WQ (bE hp),fun e=>by rw[e] at h32;simp at h32,fun h=>h40 ((sE hz3.2.2 _).2 h)⟩]
   refine Gz 21 ?_;exact aG (i+1) ⟨by omega,HK hp hok (fun⟨h,_⟩=>h (W3.1 (by omega))),hF4⟩ (by show ps.length-(i+1)<ps.length-i;omega)
  have hie:i=ps.length:=by omega
  subst hie;rw[WY (by simp)] at hok;refine Gz 15 ?_;refine⟨_,rfl,?_,hF4⟩;unfold plc;rw[WI (by omega),WI (fun h=>h hz),WI (fun h=>h ((sE hz3.2.2 _).1 h16)),WI (fun⟨n,hn,h⟩=>hok n hn h)]
 rw[WL h16];refine Gz 7 ?_;refine cL (Tj rfl) ?_;refine Gz 11 ?_;refine⟨_,rfl,?_,hf2.trans hf3⟩;unfold plc;rw[WI (by omega),WI (fun h=>h hz),WJ (fun h=>h16 ((sE hz3.2.2 _).2 h))]
end
section
def Ic (P:Program) (t e:TypeId):Bool:=match P.underlying t with
 | some (.struct fs)=>(match fs.toList with
   | [f0, f1, f2] => decide (f0.type = e ∧ f0.offset = 0 ∧ f0.name ≠ "_") && decide (f1.type = e ∧ f1.offset = 1 ∧ f1.name ≠ "_") && decide (f2.type = e ∧ f2.offset = 2 ∧ f2.name ≠ "_")
   | _=>false)
 | _=>false
theorem FC{P:Program}{t e:TypeId}(h:Ic P t e=true)(he:P.underlying e=some (.int .i64))(hs:P.stoodInHeld t=false)(w:World)(a b c a' b' c':Int) :
 (Op.equalIn 10000 t (.agg [iV a,iV b,iV c].toArray) (.agg [iV a',iV b',iV c'].toArray)).run P w=.ok (decide (a=a'∧b=b'∧c=c')) w:=by
 unfold Ic at h
 split at h
 · rename_i fs hu
   split at h
   · rename_i f0 f1 f2 hl
     simp only[Xh,decide_eq_true_eq] at h;obtain⟨⟨⟨t0,o0,n0⟩,⟨t1,o1,n1⟩⟩,⟨t2,o2,n2⟩⟩:=h;have hf:P.fieldsOf t=fs:=by unfold Program.fieldsOf;rw[hu]
     rw[run_equalIn_struct w 9999 t _ _ (by rw[hf];exact hu) hs,hf,hl];have hp:∀ (cs:Array Value) (o:Nat) (v:Value),cs[o]?=some v→(part e cs o).run P w=.ok v w:=fun cs o v hv=>by
      simp[part,isAgg,run_underlying he,hv]
     have hq:∀ (x y:Int),(Op.equalIn 9999 e (iV x) (iV y)).run P w=.ok (x == y) w:=fun x y=>run_equalIn_int w 9998 e .i64 .i64 x y he;simp only[Op.eqFields,n0,n1,n2,ne_eq,not_false_eq_true,if_true,t0,o0,t1,o1,t2,o2,Sem.run_bind];rw[hp _ 0 (iV a) rfl,Result.andThen_ok,hp _ 0 (iV a') rfl,Result.andThen_ok,hq,Result.andThen_ok];by_cases h1:a=a'
     · subst h1
       simp only[beq_self_eq_true,Bool.not_true,Yw,if_false,Sem.run_bind,true_and];rw[hp _ 1 (iV b) rfl,Result.andThen_ok,hp _ 1 (iV b') rfl,Result.andThen_ok,hq,Result.andThen_ok];by_cases h2:b=b'
       · subst h2
         simp only[beq_self_eq_true,Bool.not_true,Yw,if_false,Sem.run_bind,true_and];rw[hp _ 2 (iV c) rfl,Result.andThen_ok,hp _ 2 (iV c') rfl,Result.andThen_ok,hq,Result.andThen_ok];by_cases h3:c=c'
         ·subst h3;simp
         ·simp[h3]
       ·simp[h2]
     ·simp[h1]
   ·cases h
 ·cases h
section
variable {P:Program}{N:Nt}{l:SF}{ty t':TypeId}{pos:String}{aft:Array Edge}{dd:Option Nat}{g:Option (Nat×Bool)}{CH:Array Obj→Prop}{x y:Operand}{t e:TypeId}
theorem Vy(h:Ic P t e=true)(he:P.underlying e=some (.int .i64))(hs:P.stoodInHeld t=false)(hg:P.eqGuardType P.depth t=false){a b c a' b' c':Int}(hx:evL l x=some (.agg [iV a,iV b,iV c].toArray))(hy:evL l y=some (.agg [iV a',iV b',iV c'].toArray)) :
 Cm P N CH l ⟨dd,.binOp .neq t x y t',ty,pos,aft,g⟩ (.bool (decide (¬ (a=a'∧b=b'∧c=c')))):=fun k w ha _=>by
 simp only[execOp,ha.ev hx,ha.ev hy,Sem.run_bind,run_eqGuard_agg w .neq t x y _ _ hg,Result.andThen_ok,run_neq_struct,FC h he hs];simp
theorem Vz(h:Ic P t e=true)(he:P.underlying e=some (.int .i64))(hs:P.stoodInHeld t=false)(hg:P.eqGuardType P.depth t=false){a b c a' b' c':Int}(hx:evL l x=some (.agg [iV a,iV b,iV c].toArray))(hy:evL l y=some (.agg [iV a',iV b',iV c'].toArray)) :
 Cm P N CH l ⟨dd,.binOp .eql t x y t',ty,pos,aft,g⟩ (.bool (decide (a=a'∧b=b'∧c=c'))):=fun k w ha _=>by
 simp only[execOp,ha.ev hx,ha.ev hy,Sem.run_bind,run_eqGuard_agg w .eql t x y _ _ hg,Result.andThen_ok,run_eql_struct,FC h he hs];simp
end
theorem stA:Ic Tryz.prog 34 3=true:=by kernel_rfl
theorem Ox:Tryz.prog.underlying 3=some (.int .i64):=by kernel_rfl
theorem Oy:Tryz.prog.stoodInHeld 34=false:=by kernel_rfl
theorem Oz:Tryz.prog.eqGuardType Tryz.prog.depth 34=false:=by kernel_rfl
theorem bI{H:Array Obj}{q:Nat}{cs ds:List Value}{T:TypeId}{fr:Nat×Nat}(h:H[q]?=some (.cells cs.toArray T fr))(o:Nat)(hd:(cs.drop o).take ds.length=ds):∀ (j:Nat) (v:Value),ds[j]?=some v→bD H (((⟨q,0,none⟩:Addr).add o).add j)=some v:=by
 intro j v hj;rw[SU];refine aD h ?_;rw[←hd,List.getElem?_take] at hj
 split at hj
 ·rw[List.getElem?_drop] at hj;exact hj
 ·cases hj
def DK(n:Nd):List Value:=[iV n.md,iV n.ud,iV n.gd]
variable {D:Nat→Prop}
theorem Lq(p:NdH×Nd)(W:World)(hn:NdV D W.heap p)(hsm:smN p.2) :
 CA 104 [.agg (aE p).toArray] W fun v w'=>v=.bool (decide (dY p.2))∧aA nob W w':=by
 have no:∀ w',¬ dY p.2→aA nob W w'→Ret (fun v w'=>v=.bool (decide (dY p.2))∧aA nob W w') (.returned (.bool false)) w':=fun w' h f=>⟨_,rfl,by rw[WL h],f⟩
 have yes:∀ w',(dY p.2↔dV p.2.xs)→aA nob W w'→Ret (fun v w'=>v=.bool (decide (dY p.2))∧aA nob W w') (.returned (.bool (decide (dV p.2.xs)))) w':=fun w' h f=>⟨_,rfl,congrArg _ (decide_eq_decide.2 h.symm),f⟩
 refine cS 95 [(0,_)] Tryz.func104 ?_;refine Gz 2 ?_;refine To rfl rfl ?_;intro w1 hg1 hs1 hf1;obtain⟨g,hg⟩:∃ g,g=W.heap.size:=⟨_,rfl⟩
 rw[←hg] at hg1 hs1 ⊢
 replace hg1:w1.heap[g]?=some (.cells (aE p).toArray 37 (0,0)):=hg1
 refine fK 8 ?_ ?_<;>intro h7
 ·refine Gz 20 ?_;exact no _ (fun hm=>by have:=hm.1;omega) hf1
 refine fW 3 ?_ ?_<;>intro h11
 ·refine Gz 16 ?_;exact no _ (fun hm=>by have:=hm.1;omega) hf1
 refine Gz 3 ?_;refine Tz rfl rfl (Tm (S2 Bv rfl (aD hg1 rfl))) rfl (fun h15=>?_) (fun h15=>?_)
 ·refine Gz 12 ?_;exact no _ (fun hm=>by rw[hm.2.1] at h15;cases h15) hf1
 refine Gz 9 ?_;refine cL (Tf (cs:=DK p.2) uN rfl (bI hg1 3 rfl)) ?_;refine S5 Ol rfl ?_;intro w2 hg2 hs2 hf2;obtain⟨q,hq⟩:∃ q,q=w1.heap.size:=⟨_,rfl⟩
 rw[←hq] at hg2 ⊢;refine sA rfl uN (by simp[DK,Value.oneCell']) hg2 ?_;intro w3 hg3 hs3 hf3;have hf13:aA nob w1 w3:=hf2.WD hf3 (fun k e=>.inr (by have e:k=q:=e;omega));have hg4:=hf13.obj hg1 id;have hF3:=hf1.trans hf13;have hn3:=hn.WG hF3;refine fK 7 ?_ ?_<;>intro h21
 ·refine Gz 36 ?_;exact no _ (fun hm=>by have h3:=hm.2.2.1;have h4:=hm.2.2.2.1;have h5:=hm.2.2.2.2.1;omega) hF3
 refine fW 3 ?_ ?_<;>intro h25
 ·refine Gz 32 ?_;exact no _ (fun hm=>by have h3:=hm.2.2.1;have h4:=hm.2.2.2.1;have h5:=hm.2.2.2.2.1;omega) hF3
 refine fW 4 ?_ ?_<;>intro h30
 ·refine Gz 27 ?_;exact no _ (fun hm=>by have h3:=hm.2.2.1;have h4:=hm.2.2.2.1;have h5:=hm.2.2.2.2.1;omega) hF3
 refine fW 4 ?_ ?_<;>intro h35
 ·refine Gz 22 ?_;exact no _ (fun hm=>by have h3:=hm.2.2.1;have h4:=hm.2.2.2.1;have h5:=hm.2.2.2.2.1;omega) hF3
 refine fW 4 ?_ ?_<;>intro h40
 ·refine Gz 17 ?_;exact no _ (fun hm=>by have h3:=hm.2.2.1;have h4:=hm.2.2.2.1;have h5:=hm.2.2.2.2.1;omega) hF3
 refine fW 4 ?_ ?_<;>intro h45
 ·refine Gz 12 ?_;exact no _ (fun hm=>by have h3:=hm.2.2.1;have h4:=hm.2.2.2.1;have h5:=hm.2.2.2.2.1;omega) hF3
 refine Gz 6 ?_;refine Tw (β:=Unit) (fun _u=>[(1,pT g)]) (fun _u w=>(p.2.kind=2∨p.2.data=[])∧p.2.data.length≤4096∧w=w3) ?_ ?_
 ·refine fK 4 ?_ ?_<;>intro h49
  ·refine Gz 4 ?_;rw[hn3.2.1.1];refine fW 0 ?_ ?_<;>intro h54
   ·refine Gz 18 ?_;exact no _ (fun hm=>hm.2.2.2.2.2.1.elim (fun e=>h49 e) (fun e=>by have:=congrArg Xp e;have e0:([]:By).length=0:=rfl;omega)) hF3
   refine Gz 5 ?_;rw[hn3.2.1.1];refine fW 0 ?_ ?_<;>intro h60
   ·refine Gz 12 ?_;exact no _ (fun hm=>by have h3:=hm.2.2.1;have h4:=hm.2.2.2.1;have h5:=hm.2.2.2.2.1;omega) hF3
   refine Gz 5 ?_;refine aC () ⟨?_,by omega,rfl⟩;exact .inr (W3.1 (by omega))
  refine Gz 10 ?_;rw[hn3.2.1.1];refine fW 0 ?_ ?_<;>intro h60
  ·refine Gz 12 ?_;exact no _ (fun hm=>by have:=hm.2.2.2.2.2.2.1;omega) hF3
  refine Gz 5 ?_;refine aC () ⟨?_,by omega,rfl⟩;exact .inl (Xk.1 h49)
 rintro _ w4 ⟨k1,k1l,hw4⟩;subst w4;refine cA 4 M4 (I7 p.2.tgt w3 hsm.1) ?_;rintro _ w5 ⟨rfl,hw5⟩;subst w5;by_cases h64:(0:UInt8)∈p.2.tgt
 ·rw[WO h64];refine Gz 3 ?_;refine Tw (β:=Unit) (fun _u=>[(1,pT g)]) (fun _u w=>okT p.2∧w=w3) ?_ ?_
  ·refine fK 4 ?_ ?_<;>intro h67
   ·refine fW 3 ?_ ?_<;>intro h71
    ·refine Gz 31 ?_;exact no _ (fun hm=>by have m:=hm.2.2.2.2.2.2.2.1;unfold okT at m;rw[WI h67] at m;exact h71 m) hF3
    refine fW 4 ?_ ?_<;>intro h76
    ·refine fW 3 ?_ ?_<;>intro h80
     ·refine Gz 22 ?_;exact no _ (fun hm=>by have h3:=hm.2.2.1;have h4:=hm.2.2.2.1;have h5:=hm.2.2.2.2.1;omega) hF3
     refine Gz 3 ?_;refine cW (Tv ty9 rfl) ?_;refine fW 0 ?_ ?_<;>intro h85
     ·refine Gz 17 ?_;exact no _ (fun hm=>by have h3:=hm.2.2.1;have h4:=hm.2.2.2.1;have h5:=hm.2.2.2.2.1;omega) hF3
     refine Gz 17 ?_;exact no _ (fun hm=>by have h3:=hm.2.2.1;have h4:=hm.2.2.2.1;have h5:=hm.2.2.2.2.1;omega) hF3
    refine Gz 19 ?_;exact aC () ⟨by unfold okT;rw[WI h67];exact Xk.1 h71,rfl⟩
   refine fW 8 ?_ ?_<;>intro h76
   ·refine fW 3 ?_ ?_<;>intro h80
    ·refine Gz 22 ?_;exact no _ (fun hm=>by have m:=hm.2.2.2.2.2.2.2.1;unfold okT at m;rw[WJ h76] at m;exact m.1 h80) hF3
    refine Gz 3 ?_;refine cW (Tv ty9 rfl) ?_;refine fW 0 ?_ ?_<;>intro h85
    ·refine Gz 17 ?_;exact no _ (fun hm=>by have m:=hm.2.2.2.2.2.2.2.1;unfold okT at m;rw[WJ h76] at m;have:=m.2.1;omega) hF3
    refine Gz 17 ?_;exact no _ (fun hm=>by have m:=hm.2.2.2.2.2.2.2.1;unfold okT at m;rw[WJ h76] at m;exact m.2.2 h64) hF3
   refine Gz 19 ?_;exact absurd h76 h67
  rintro _ w5 ⟨k2,hw5⟩;subst w5;refine Gz 4 ?_;refine SZ JQ rfl ((by show Calls _ _ [Value.slice p.1.xs.a p.1.xs.n p.1.xs.c].toArray _ _;rw[hn3.2.2.1];exact wS _ _ _ w3 (hn3.2.2.xav hsm.2.2))) rfl ?_;rintro _ w6 ⟨rfl,hf6⟩;refine Gz 5 ?_;exact yes _ ⟨fun hm=>hm.2.2.2.2.2.2.2.2,fun hx=>⟨by omega,by simpa using h15,by omega,by omega,by omega,k1,k1l,k2,hx⟩⟩ (hF3.trans hf6)
 rw[WL h64];refine Gz 3 ?_;refine Tw (β:=Unit) (fun _u=>[(1,pT g)]) (fun _u w=>okT p.2∧w=w3) ?_ ?_
 ·refine fK 4 ?_ ?_<;>intro h67
  ·refine fW 3 ?_ ?_<;>intro h71
   ·refine Gz 31 ?_;exact no _ (fun hm=>by have m:=hm.2.2.2.2.2.2.2.1;unfold okT at m;rw[WI h67] at m;exact h71 m) hF3
   refine fW 4 ?_ ?_<;>intro h76
   ·refine fW 3 ?_ ?_<;>intro h80
    ·refine Gz 22 ?_;exact no _ (fun hm=>by have h3:=hm.2.2.1;have h4:=hm.2.2.2.1;have h5:=hm.2.2.2.2.1;omega) hF3
    refine Gz 3 ?_;refine cW (Tv ty9 rfl) ?_;refine fW 0 ?_ ?_<;>intro h85
    ·refine Gz 17 ?_;exact no _ (fun hm=>by have h3:=hm.2.2.1;have h4:=hm.2.2.2.1;have h5:=hm.2.2.2.2.1;omega) hF3
    refine Gz 10 ?_;exact absurd h76 h67
   refine Gz 19 ?_;exact aC () ⟨by unfold okT;rw[WI h67];exact Xk.1 h71,rfl⟩
  refine fW 8 ?_ ?_<;>intro h76
  ·refine fW 3 ?_ ?_<;>intro h80
   ·refine Gz 22 ?_;exact no _ (fun hm=>by have m:=hm.2.2.2.2.2.2.2.1;unfold okT at m;rw[WJ h76] at m;exact m.1 h80) hF3
   refine Gz 3 ?_;refine cW (Tv ty9 rfl) ?_;refine fW 0 ?_ ?_<;>intro h85
   ·refine Gz 17 ?_;exact no _ (fun hm=>by have m:=hm.2.2.2.2.2.2.2.1;unfold okT at m;rw[WJ h76] at m;have:=m.2.1;omega) hF3
   refine Gz 10 ?_;exact aC () ⟨by unfold okT;rw[WJ h76];exact⟨h80,by omega,h64⟩,rfl⟩
  refine Gz 19 ?_;exact absurd h76 h67
 rintro _ w5 ⟨k2,hw5⟩;subst w5;refine Gz 4 ?_;refine SZ JQ rfl ((by show Calls _ _ [Value.slice p.1.xs.a p.1.xs.n p.1.xs.c].toArray _ _;rw[hn3.2.2.1];exact wS _ _ _ w3 (hn3.2.2.xav hsm.2.2))) rfl ?_;rintro _ w6 ⟨rfl,hf6⟩;refine Gz 5 ?_;exact yes _ ⟨fun hm=>hm.2.2.2.2.2.2.2.2,fun hx=>⟨by omega,by simpa using h15,by omega,by omega,by omega,k1,k1l,k2,hx⟩⟩ (hF3.trans hf6)
end
section
theorem jQ{α:Type}{a b:List α}{k:Nat}(hl:a.length=b.length)(hk:a.length≤k)(h:∀ j:Nat,j<k→a[j]?=b[j]?):a=b:=by
 apply XR;intro j;by_cases hj:j<k
 ·exact h j hj
 ·rw[Xy (by omega),Xy (by omega)]
theorem XsV.at{D:Nat→Prop}{H:Array Obj}{h:Hd}{X:List Xa}{ys:List (By×Hd)}(hl:ys.length=X.length)(hx:∀ (i:Nat) (x:By×Hd) (y:Xa),ys[i]?=some x→X[i]?=some y→x.1=y.1∧ByV D H x.2 y.2){k:Nat}(hk:k<X.length) :
 ∃ (a:Xa) (b:Hd),X[k]?=some a∧ys[k]?=some (a.1,b)∧ByV D H b a.2:=by
 have h1:=WK hk;have h2:ys[k]?=some ys[k]:=WK (by omega);obtain⟨e,hb⟩:=hx k _ _ h2 h1;refine⟨X[k],(ys[k]).2,h1,?_,hb⟩;rw[h2,←e]
variable {D:Nat→Prop}
theorem Aw(p q:NdH×Nd)(W:World)(hp:NdV D W.heap p)(hq:NdV D W.heap q) :
 CA 40 [.agg (aE p).toArray,.agg (aE q).toArray] W fun v w'=>v=.bool (decide (Alk p.2 q.2))∧aA nob W w':=by
 have no:∀ w',¬ Alk p.2 q.2→aA nob W w'→Ret (fun v w'=>v=.bool (decide (Alk p.2 q.2))∧aA nob W w') (.returned (.bool false)) w':=fun w' h f=>⟨_,rfl,by rw[WL h],f⟩
 refine cS 87 [(0,_),(1,_)] Tryz.func40 ?_;refine Gz 2 ?_;refine To rfl rfl ?_;intro w1 hg1 hs1 hf1;obtain⟨g,hg⟩:∃ g,g=W.heap.size:=⟨_,rfl⟩
 rw[←hg] at hg1 hs1 ⊢
 replace hg1:w1.heap[g]?=some (.cells (aE p).toArray 37 (0,0)):=hg1
 refine To rfl rfl ?_;intro w2 hg2 hs2 hf2;obtain⟨r,hr⟩:∃ r,r=w1.heap.size:=⟨_,rfl⟩
 rw[←hr] at hg2 hs2 ⊢;have hgq:w2.heap[r]?=some (.cells (aE q).toArray 37 (0,0)):=hg2;have hgp:=hf2.obj hg1 id;have hF2:=hf1.trans hf2;have hp2:=hp.WG hF2;have hq2:=hq.WG hF2;refine Gz 7 ?_;refine cL (S2 aF rfl (by first|exact aD hgp rfl|exact aD hgq rfl)) ?_;refine Gz 1 ?_;refine cL (S2 aF rfl (by first|exact aD hgp rfl|exact aD hgq rfl)) ?_;refine fK 0 ?_ ?_<;>intro h10
 ·refine Gz 50 ?_;exact no _ (fun A=>h10 A.1) hF2
 refine Gz 2 ?_;refine cW (Tf (cs:=DK p.2) uN rfl (bI hgp 3 rfl)) ?_;refine Gz 1 ?_;refine cW (Tf (cs:=DK q.2) uN rfl (bI hgq 3 rfl)) ?_;refine Tz rfl rfl (Vy stA Ox Oy Oz (a:=p.2.md) (b:=p.2.ud) (c:=p.2.gd) (a':=q.2.md) (b':=q.2.ud) (c':=q.2.gd) rfl rfl) rfl (fun h16=>?_) (fun h16=>?_)
 ·refine Gz 44 ?_;exact no _ (fun A=>h16 A.2.1) hF2
 refine Gz 3 ?_;refine cW (S3 (u:=.slice p.1.data.a p.2.data.length p.1.data.c) (S2 aL rfl (aD hgp rfl)) (by rw[←hp2.2.1.1];rfl)) ?_;refine cW (TM aH ty5 ty9 rfl hp2.2.1.2.1) ?_;refine Gz 1 ?_;refine cW (S3 (u:=.slice q.1.data.a q.2.data.length q.1.data.c) (S2 aL rfl (aD hgq rfl)) (by rw[←hq2.2.1.1];rfl)) ?_;refine cW (TM aH ty5 ty9 rfl hq2.2.1.2.1) ?_;refine fW 0 ?_ ?_<;>intro h25
 ·refine Gz 35 ?_;exact no _ (fun A=>h25 A.2.2.2.2.1) hF2
 refine Gz 3 ?_;refine cW (S2 eG rfl (by first|exact aD hgp rfl|exact aD hgq rfl)) ?_;refine Gz 1 ?_;refine cW (S2 eG rfl (by first|exact aD hgp rfl|exact aD hgq rfl)) ?_;refine fW 0 ?_ ?_<;>intro h32
 ·refine Gz 28 ?_;exact no _ (fun A=>h32 A.2.2.1) hF2
 refine Gz 3 ?_;refine cW (S2 Bv rfl (by first|exact aD hgp rfl|exact aD hgq rfl)) ?_;refine Gz 1 ?_;refine cW (S2 Bv rfl (by first|exact aD hgp rfl|exact aD hgq rfl)) ?_;refine Tz rfl rfl (Tm (T7 ty4 rfl rfl)) rfl (fun h39=>?_) (fun h39=>?_)
 ·refine Gz 21 ?_;exact no _ (fun A=>(bne_iff_ne.1 h39) A.2.2.2.1) hF2
 refine Gz 3 ?_;refine cW (S2 cK rfl (by first|exact aD hgp rfl|exact aD hgq rfl)) ?_;refine Gz 1 ?_;rw[hp2.2.2.1];refine Gz 1 ?_;refine cW (S2 cK rfl (by first|exact aD hgp rfl|exact aD hgq rfl)) ?_;refine Gz 1 ?_;rw[hq2.2.2.1];refine fW 0 ?_ ?_<;>intro h48
 ·refine Gz 12 ?_;exact no _ (fun A=>h48 (by rw[A.2.2.2.2.2])) hF2
 refine Gz 13 ?_;have hxe:p.2.xs.length=q.2.xs.length:=by omega
 obtain⟨hxl,ys,hyv,hyl,hyd,hyx⟩:=hp2.2.2;obtain⟨hwl,zs,hzv,hzl,hzd,hzx⟩:=hq2.2.2;have hx63:=hyv.WF;refine S4 (β:=Nat) (fun k=>[(2,pT g),(3,pT r),(5,iV k)]) (fun k w=>k≤p.2.xs.length∧(∀ j:Nat,j<k→p.2.xs[j]?=q.2.xs[j]?)∧aA nob w2 w) (fun k=>p.2.xs.length-k) 0 ⟨rfl,rfl,rfl,trivial⟩ ⟨WU _,fun j hj=>by omega,VZ _ _⟩ ?_;rintro k w3 ⟨hk,hsame,hF3⟩;have hgp3:=hF3.obj hgp id;have hgq3:=hF3.obj hgq id;refine Gz 5 ?_;refine cL (S2 cK rfl (by first|exact aD hgp3 rfl|exact aD hgq3 rfl)) ?_;refine Gz 1 ?_;rw[hp2.2.2.1];refine fK 0 ?_ ?_<;>intro h54
 ·have hkx:k<p.2.xs.length:=by omega
  obtain⟨a,ah,hak,hyk,hva⟩:=XsV.at (D:=D) (H:=w3.heap) (h:=p.1.xs) hyl (fun i x y h1 h2=>⟨(hyx i x y h1 h2).1,(hyx i x y h1 h2).2.WH hF3 (fun _ _=>id)⟩) hkx;obtain⟨b,bh,hbk,hzk,hvb⟩:=XsV.at (D:=D) (H:=w3.heap) (h:=q.1.xs) hzl (fun i x y h1 h2=>⟨(hzx i x y h1 h2).1,(hzx i x y h1 h2).2.WH hF3 (fun _ _=>id)⟩) (by omega:k<q.2.xs.length);have hyv3:=hyv.keep' hF3 (fun _ _ _=>id);have hzv3:=hzv.keep' hF3 (fun _ _ _=>id);refine Gz 8 ?_;refine Tk 30 [0,1,2,3,4,5,6,7,8,9,10,11,12,13,14,15,16,17,18,19,20,21,22,23,24,25,26,27,28,29] aI (by kernel_rfl) ?_;refine Gz 1 ?_;refine xC rfl (S2 cK rfl (by first|exact aD hgp3 rfl|exact aD hgq3 rfl)) ?_;refine Gz 1 ?_;refine xC rfl (S1 gZ rfl rfl (by rw[hp2.2.2.1,←hyl];exact hyv3.non) (by have:=hp2.2.2.1;omega)) ?_;refine Gz 1 ?_;refine xC rfl (S2 eG rfl (hyv3.rowZ k rfl hyk 0 _ rfl)) ?_;refine Gz 1 ?_;refine xC rfl (S2 cK rfl (by first|exact aD hgp3 rfl|exact aD hgq3 rfl)) ?_;refine Gz 1 ?_;refine xC rfl (S1 gZ rfl rfl (by rw[hq2.2.2.1,←hzl];exact hzv3.non) (by have:=hq2.2.2.1;omega)) ?_;refine Gz 1 ?_;refine xC rfl (S2 eG rfl (hzv3.rowZ k rfl hzk 0 _ rfl)) ?_;refine xK 0 ?_ ?_<;>intro h69
  ·refine Gz 32 ?_;exact no _ (fun A=>h69 (by rw[A.2.2.2.2.2,hbk] at hak;cases hak;rfl)) ((hF2.trans hF3).draws 1)
  refine Gz 2 ?_;refine xV rfl (S2 cK rfl (by first|exact aD hgp3 rfl|exact aD hgq3 rfl)) ?_;refine Gz 1 ?_;refine xV rfl (S1 gZ rfl rfl (by rw[hp2.2.2.1,←hyl];exact hyv3.non) (by have:=hp2.2.2.1;omega)) ?_;refine Gz 1 ?_;refine xV rfl (S3 (u:=.slice ah.a a.2.length ah.c) (S2 aL rfl (hyv3.rowZ k rfl hyk 1 _ rfl)) (by rw[←hva.1];rfl)) ?_;refine xV rfl (TM aH ty5 ty9 rfl hva.2.1) ?_;refine Gz 1 ?_;refine xV rfl (S2 cK rfl (by first|exact aD hgp3 rfl|exact aD hgq3 rfl)) ?_;refine Gz 1 ?_;refine xV rfl (S1 gZ rfl rfl (by rw[hq2.2.2.1,←hzl];exact hzv3.non) (by have:=hq2.2.2.1;omega)) ?_;refine Gz 1 ?_;refine xV rfl (S3 (u:=.slice bh.a b.2.length bh.c) (S2 aL rfl (hzv3.rowZ k rfl hzk 1 _ rfl)) (by rw[←hvb.1];rfl)) ?_;refine xV rfl (TM aH ty5 ty9 rfl hvb.2.1) ?_;refine xW 0 ?_ ?_<;>intro h85
  ·refine Gz 16 ?_;exact no _ (fun A=>h85 (by rw[A.2.2.2.2.2,hbk] at hak;cases hak;rfl)) ((hF2.trans hF3).draws 1)
  refine Gz 12 ?_;refine aG (k+1) ⟨by omega,fun j hj=>?_,hF3.draws 1⟩ (by show p.2.xs.length-(k+1)<p.2.xs.length-k;omega);by_cases e:j=k
  ·subst e;rw[hak,hbk];exact congrArg _ (YU (Xk.1 h69) (Xk.1 h85))
  ·exact hsame j (by omega)
 refine Gz 15 ?_;exact⟨_,rfl,by rw[WO (show Alk p.2 q.2 from ⟨Xk.1 h10,Xk.1 h16,Xk.1 h32,by simpa using h39,Xk.1 h25,jQ hxe (by omega) hsame⟩)],hF2.trans hF3⟩
end
section
theorem EF{ps:List (NdH×Nd)}{i k:Nat}{p q:NdH×Nd}(h:(nds ps).Pairwise iG)(hk:k<i)(hq:ps[k]?=some q)(hp:ps[i]?=some p):iG q.2 p.2:=by
 have e1:=WN.1 (bE hq);have e2:=WN.1 (bE hp);have:=Xu.1 h k i e1.1 e2.1 hk;rw[e1.2,e2.2] at this;exact this
variable {D:Nat→Prop}
theorem GO(lo:Option Addr)(lc:Nat)(ps:List (NdH×Nd))(W:World)(hv:aO D W.heap lo lc ps)(hsm:∀ p∈ps,smN p.2) :
 CA 52 [.slice lo ps.length lc] W fun v w'=>v=iV (chk (nds ps))∧aA nob W w':=by
 have h63:=hv.1.WF;refine cS 68 [(0,_)] Tryz.func52 ?_;refine cA 8 P7 (Es lo lc ps W hv hsm) ?_;rintro _ w2 ⟨rfl,hf2⟩;refine fK 7 ?_ ?_<;>intro h11
 ·refine Gz 12 ?_;exact⟨_,rfl,by rw[aM,WJ h11],hf2⟩
 have hz:plc (nds ps)=0:=Xk.1 h11;refine Gz 12 ?_;refine S4 (β:=Nat) (fun i=>[(0,.slice lo ps.length lc),(4,iV i)]) (fun i w=>i≤ps.length∧(∀ n∈(nds ps).take i,dY n)∧aA nob W w) (fun i=>ps.length-i) 0 ⟨rfl,rfl,trivial⟩ ⟨WU _,by simp,hf2⟩ ?_;rintro i w3 ⟨hi,hmy,hF3⟩;refine fK 6 ?_ ?_<;>intro h16
 ·have hil:i<ps.length:=by omega
  obtain⟨p,hp⟩:∃ p,ps[i]?=some p:=⟨_,WK hil⟩
  have hpm:=WQ hp;have hv3:=hv.WG hF3;refine Gz 11 ?_;refine cL (S1 aQ rfl rfl hv3.1.non (by omega)) ?_;refine cL (Tf (cs:=aE p) aZ rfl (fun j v hj=>hv3.1.rowZ i rfl hp j v hj)) ?_;refine cA 0 P6 (Lq p w3 (hv3.2 p hpm) (hsm p hpm)) ?_;rintro _ w4 ⟨rfl,hf4⟩;by_cases h23:dY p.2
  ·rw[WO h23];refine Gz 6 ?_;refine cL (Tj rfl) ?_;refine Gz 11 ?_;exact aG (i+1) ⟨by omega,HK hp hmy h23,hF3.trans hf4⟩ (by show ps.length-(i+1)<ps.length-i;omega)
  rw[WL h23];refine Gz 6 ?_;refine cL (Tj rfl) ?_;refine Gz 15 ?_;exact⟨_,rfl,by rw[aM,WI (fun h=>h hz),WJ ⟨p.2,WQ (bE hp),h23⟩],hF3.trans hf4⟩
 have hie:i=ps.length:=by omega
 subst hie;rw[WY (by simp)] at hmy;have hmy2:¬ ∃ n∈nds ps,¬ dY n:=fun⟨n,hn,h⟩=>h (hmy n hn);refine Gz 15 ?_;refine S4 (β:=Nat) (fun i=>[(0,.slice lo ps.length lc),(6,iV i)]) (fun i w=>i≤ps.length∧((nds ps).take i).Pairwise iG∧aA nob W w) (fun i=>ps.length-i) 0 ⟨rfl,rfl,trivial⟩ ⟨WU _,by simp,hF3⟩ ?_;rintro i w3 ⟨hi,hlk,hF3⟩;refine fK 6 ?_ ?_<;>intro h29
 ·have hil:i<ps.length:=by omega
  obtain⟨p,hp⟩:∃ p,ps[i]?=some p:=⟨_,WK hil⟩
  have hpm:=WQ hp;refine Gz 13 ?_;refine S4 (β:=Nat) (fun k=>[(0,.slice lo ps.length lc),(6,iV i),(7,iV k)]) (fun k w=>k≤i∧(∀ n∈(nds ps).take k,iG n p.2)∧aA nob W w) (fun k=>i-k) 0 ⟨rfl,rfl,rfl,trivial⟩ ⟨WU _,by simp,hF3⟩ ?_;rintro k w4 ⟨hk,hbl,hF4⟩;refine fK 5 ?_ ?_<;>intro h34
  ·have hkl:k<i:=by omega
   obtain⟨q,hq⟩:∃ q,ps[k]?=some q:=⟨_,WK (by omega)⟩
   have hqm:=WQ hq;have hv4:=hv.WG hF4;refine Gz 8 ?_;refine Tc 31 (fun H=>VwM 10 aE H lo lc ps) [27] [0,1,2,3,4,5,6,7,8,9,10,11,12,13,14,15,16,17,18,19,20,21,22,23,24,25,26,27,28,29,30] aI (by kernel_rfl) (hv4.1) ?_;refine Gz 2 ?_;refine xC rfl (S1 aQ rfl rfl hv4.1.non (by omega)) ?_;refine Gz 1 ?_;refine xC rfl (S9 aF rfl (fun H hH=>hH.rowZ i rfl hp 1 _ rfl)) ?_;refine Gz 2 ?_;refine xC rfl (S1 aQ rfl rfl hv4.1.non (by omega)) ?_;refine Gz 1 ?_;refine xC rfl (S9 aF rfl (fun H hH=>hH.rowZ k rfl hq 1 _ rfl)) ?_;refine xK 0 ?_ ?_<;>intro h47
   ·refine Gz 3 ?_;refine xV rfl (S1 aQ rfl rfl hv4.1.non (by omega)) ?_;refine Gz 1 ?_;refine xV rfl (S9 aF rfl (fun H hH=>hH.rowZ i rfl hp 2 _ rfl)) ?_;refine xW 0 ?_ ?_<;>intro h54
    ·refine Gz 9 ?_;refine S7 rfl rfl (Um rfl rfl rfl rfl ?_);refine Tg (by exact hv4.1) ?_;refine Gz 1 ?_;refine xV rfl (T2 rfl rfl) ?_;refine Gz 20 ?_;exact⟨_,rfl,by rw[aM,WI (fun h=>h hz),WI hmy2,WI (fun h=>(EF h hkl hq hp h47).1 h54)],hF4.draws _⟩
    refine Gz 3 ?_;refine xV rfl (S1 aQ rfl rfl hv4.1.non (by omega)) ?_;refine xV rfl (TX (cs:=aE p) aZ rfl (fun H hH j v hj=>hH.rowZ i rfl hp j v hj)) ?_;refine Gz 2 ?_;refine xV rfl (S1 aQ rfl rfl hv4.1.non (by omega)) ?_;refine xV rfl (TX (cs:=aE q) aZ rfl (fun H hH j v hj=>hH.rowZ k rfl hq j v hj)) ?_;refine S7 rfl rfl (Tb rfl rfl O3 rfl (Aw p q _ (hv4.2 p hpm) (hv4.2 q hqm)) rfl ?_);rintro _ w5 ⟨rfl,hf5⟩;have hF5:=(hF4.draws 1).trans hf5;refine Tg (by exact(hv.WG hF5).1) ?_;by_cases h64:Alk p.2 q.2
    ·rw[WO h64];refine xV rfl (Tj rfl) ?_;refine xV rfl (Ub rfl rfl) ?_;refine Gz 12 ?_;exact aG (k+1) ⟨by omega,HK (R:=fun n=>iG n p.2) hq hbl (fun _=>⟨h54,h64⟩),hF5⟩ (by show i-(k+1)<i-k;omega)
    rw[WL h64];refine xV rfl (Tj rfl) ?_;refine xV rfl (Ub rfl rfl) ?_;refine Gz 20 ?_;exact⟨_,rfl,by rw[aM,WI (fun h=>h hz),WI hmy2,WI (fun h=>h64 (EF h hkl hq hp h47).2)],hF5⟩
   refine Gz 16 ?_;refine S7 rfl rfl (Um rfl rfl rfl rfl ?_);refine Tg (by exact hv4.1) ?_;refine Gz 14 ?_;exact aG (k+1) ⟨by omega,HK (R:=fun n=>iG n p.2) hq hbl (fun e=>absurd e h47),hF4.draws _⟩ (by show i-(k+1)<i-k;omega)
  rw[show k=i by omega] at hbl;refine Gz 14 ?_;refine aG (i+1) ⟨by omega,?_,hF4⟩ (by show ps.length-(i+1)<ps.length-i;omega);rw[tkN hp];exact List.pairwise_append.2 ⟨hlk,by simp,fun b hb a ha=>by rw[Xg] at ha;subst ha;exact hbl b hb⟩
 have hie:i=ps.length:=by omega
 subst hie;rw[WY (by simp)] at hlk;refine Gz 15 ?_;exact⟨_,rfl,by rw[aM,WI (fun h=>h hz),WI hmy2,WJ hlk],hF3⟩
end
section
theorem eC(x a b:Int)(W:World):CA 151 [iV x,iV a,iV b] W fun v w'=>v=.bool (decide (a≤x∧x≤b))∧w'=W:=by
 refine cS 15 [(0,_),(1,_),(2,_)] Tryz.func151 ?_;refine fK 9 ?_ ?_<;>intro h9
 ·refine fW 3 ?_ ?_<;>intro h13
  ·refine Gz 6 ?_
   first
   |exact⟨_,rfl,by rw[WO (show a≤x∧x≤b from ⟨h9,h13⟩)],rfl⟩
   |exact⟨_,rfl,by rw[WL (show ¬ (a≤x∧x≤b) from fun h=>h13 h.2)],rfl⟩
   |exact⟨_,rfl,by rw[WL (show ¬ (a≤x∧x≤b) from fun h=>h9 h.1)],rfl⟩
  refine Gz 6 ?_
  first
  |exact⟨_,rfl,by rw[WO (show a≤x∧x≤b from ⟨h9,h13⟩)],rfl⟩
  |exact⟨_,rfl,by rw[WL (show ¬ (a≤x∧x≤b) from fun h=>h13 h.2)],rfl⟩
  |exact⟨_,rfl,by rw[WL (show ¬ (a≤x∧x≤b) from fun h=>h9 h.1)],rfl⟩
 refine Gz 10 ?_
 first
 |exact⟨_,rfl,by rw[WO (show a≤x∧x≤b from ⟨h9,h13⟩)],rfl⟩
 |exact⟨_,rfl,by rw[WL (show ¬ (a≤x∧x≤b) from fun h=>h13 h.2)],rfl⟩
 |exact⟨_,rfl,by rw[WL (show ¬ (a≤x∧x≤b) from fun h=>h9 h.1)],rfl⟩
def iA(s:By)(m:Int):Prop:=(1≤(s.length:Int)∧(s.length:Int)≤m)∧(0:UInt8)∉s
instance (s:By)(m:Int):Decidable (iA s m):=by unfold iA;exact inferInstance
theorem C0(s:By)(m:Int)(W:World):CA 150 [.string (bs s),iV m] W fun v w'=>v=.bool (decide (iA s m))∧w'=W:=by
 refine cS 14 [(0,_),(1,_)] Tryz.func150 ?_;refine Gz 8 ?_;refine cL (Tv ty9 rfl) ?_;refine Gz 1 ?_;refine SZ pF rfl (eC _ 1 m W) rfl ?_;rintro _ w1 ⟨rfl,hw1⟩;subst w1;by_cases h8:1≤(s.length:Int)∧(s.length:Int)≤m
 ·rw[WO h8];refine Gz 2 ?_;refine Tb rfl rfl JO rfl (EJ s 0 W) rfl ?_;rintro _ w1 ⟨rfl,hw1⟩;subst w1;refine fW 0 ?_ ?_<;>intro h12
  ·refine Gz 6 ?_
   first
   |exact⟨_,rfl,by rw[WO (show iA s m from ⟨h8,rD h12⟩)],rfl⟩
   |exact⟨_,rfl,by rw[WL (show ¬ iA s m from fun h=>h.2 (rB (Int.not_lt.1 h12)))],rfl⟩
   |exact⟨_,rfl,by rw[WL (show ¬ iA s m from fun h=>h8 h.1)],rfl⟩
  refine Gz 6 ?_
  first
  |exact⟨_,rfl,by rw[WO (show iA s m from ⟨h8,rD h12⟩)],rfl⟩
  |exact⟨_,rfl,by rw[WL (show ¬ iA s m from fun h=>h.2 (rB (Int.not_lt.1 h12)))],rfl⟩
  |exact⟨_,rfl,by rw[WL (show ¬ iA s m from fun h=>h8 h.1)],rfl⟩
 rw[WL h8];refine Gz 10 ?_
 first
 |exact⟨_,rfl,by rw[WO (show iA s m from ⟨h8,rD h12⟩)],rfl⟩
 |exact⟨_,rfl,by rw[WL (show ¬ iA s m from fun h=>h.2 (rB (Int.not_lt.1 h12)))],rfl⟩
 |exact⟨_,rfl,by rw[WL (show ¬ iA s m from fun h=>h8 h.1)],rfl⟩
theorem wE(xo:Option Addr)(xc:Nat)(X:List Xa)(W:World)(hv:XaV W.heap xo xc X) :
 CA 152 [.slice xo X.length xc] W fun v w'=>v=.bool (decide (dV X))∧aA nob W w':=by
 have hl:=hv.WF;refine cS 34 [(0,_)] Tryz.func152 ?_;refine Gz 19 ?_;refine S4 (β:=Nat) (fun k=>[(0,.slice xo X.length xc),(3,.string (bs (uG X k))),(6,.slice xo X.length xc),(7,iV X.length),(8,iV k)]) (fun k w=>k≤X.length∧(∀ i,i<k→AN X i)∧aA nob W w) (fun k=>X.length-k) 0 ⟨rfl,rfl,rfl,rfl,rfl,trivial⟩ ⟨WU _,by intro i hi;omega,VZ _ _⟩ ?_;rintro k w2 ⟨hk,hgood,hF2⟩;refine fK 2 ?_ ?_<;>intro h9
 ·refine Gz 10 ?_;obtain⟨xa,xc2,hrow,hxv,hnl⟩:=(hv.WG hF2).at (i:=k) rfl (by omega);refine cL (S1 gZ rfl rfl hv.non (by omega)) ?_;refine cL (Tf (cs:=[.string (bs (X.getD k x0).1),.slice xa (X.getD k x0).2.length xc2]) eK rfl hrow) ?_;refine S5 tY rfl ?_;intro w3 hg3 hs3 hf3;refine sA rfl eK (by simp[Value.oneCell']) hg3 ?_;intro w4 hg4 hs4 hf4;have hF4:aA nob W w4:=hF2.trans (hf3.WD hf4 (fun k hk=>.inr (by omega)));refine Gz 7 ?_;refine SZ M2 rfl (C0 _ 40 w4) rfl ?_;rintro _ w5 ⟨rfl,hw5⟩;subst w5;by_cases h14:iA (X.getD k x0).1 40
  ·rw[WO h14];refine cL (Tj rfl) ?_;refine Gz 4 ?_;refine Tz rfl rfl (Tm (UW (a:=(X.getD k x0).1) (b:=uG X k) rfl rfl)) rfl (fun h20=>?_) (fun h20=>?_)
   ·rw[fT] at h20;have hbad:¬ dV X:=fun h=>by rw[(h.1 k (by omega)).1] at h20;cases h20
    refine Gz 23 ?_;exact⟨_,rfl,by rw[WL hbad],hF4⟩
   rw[fT] at h20;have g1:Xd (uG X k) (X.getD k x0).1=true:=by revert h20;cases Xd (uG X k) (X.getD k x0).1<;>simp
   refine fW 5 ?_ ?_<;>intro h26
   ·have hbad:¬ dV X:=fun h=>by have:=(h.1 k (by omega)).2.2.2;omega
    refine Gz 17 ?_;exact⟨_,rfl,by rw[WL hbad],hF4⟩
   refine Gz 17 ?_;refine aG (k+1) ⟨by omega,fun i hi=>?_,hF4⟩ (by show X.length-(k+1)<X.length-k;omega);by_cases hik:i=k
   ·subst hik;exact⟨g1,by have:=h14.1.2;omega,h14.2,by omega⟩
   ·exact hgood i (by omega)
  rw[WL h14];have hbad:¬ dV X:=fun h=>h14 (by have g:=h.1 k (by omega);have:=W5.2 (FY g.1);exact⟨⟨by omega,by have:=g.2.1;omega⟩,g.2.2.1⟩);refine cL (Tj rfl) ?_;refine Gz 28 ?_;exact⟨_,rfl,by rw[WL hbad],hF4⟩
 refine Gz 13 ?_;refine cL (Uf rfl rfl) ?_;refine Gz 5 ?_;refine⟨_,rfl,?_,hF2⟩;have hk2:k=X.length:=by omega
 subst hk2;congr 1;exact decide_eq_decide.2 ⟨fun h=>⟨hgood,by omega⟩,fun h=>by have:=h.2;omega⟩
variable {D:Nat→Prop}
theorem K2(p:NdH×Nd)(W:World)(hn:NdV D W.heap p)(hsm:smN p.2) :
 CA 110 [.agg (aE p).toArray] W fun v w'=>v=.bool (decide (dY p.2))∧aA nob W w':=by
 have no:∀ w',¬ dY p.2→aA nob W w'→Ret (fun v w'=>v=.bool (decide (dY p.2))∧aA nob W w') (.returned (.bool false)) w':=fun w' h f=>⟨_,rfl,by rw[WL h],f⟩
 have yes:∀ w',(dY p.2↔dV p.2.xs)→aA nob W w'→Ret (fun v w'=>v=.bool (decide (dY p.2))∧aA nob W w') (.returned (.bool (decide (dV p.2.xs)))) w':=fun w' h f=>⟨_,rfl,congrArg _ (decide_eq_decide.2 h.symm),f⟩
 refine cS 59 [(0,_)] Tryz.func110 ?_;refine Gz 2 ?_;refine To rfl rfl ?_;intro w1 hg1 hs1 hf1;obtain⟨g,hg⟩:∃ g,g=W.heap.size:=⟨_,rfl⟩
 rw[←hg] at hg1 hs1 ⊢
 replace hg1:w1.heap[g]?=some (.cells (aE p).toArray 37 (0,0)):=hg1
 refine Gz 6 ?_;refine cL (Tf (cs:=DK p.2) uN rfl (bI hg1 3 rfl)) ?_;refine S5 Ol rfl ?_;intro w2 hg2 hs2 hf2;obtain⟨q,hq⟩:∃ q,q=w1.heap.size:=⟨_,rfl⟩
 rw[←hq] at hg2 ⊢;refine sA rfl uN (by simp[DK,Value.oneCell']) hg2 ?_;intro w3 hg3 hs3 hf3;have hf13:aA nob w1 w3:=hf2.WD hf3 (fun k e=>.inr (by have e:k=q:=e;omega));have hg4:=hf13.obj hg1 id;have hF3:=(hf1.trans hf13).draws 1;have hn3:=hn.WG hF3;refine Gz 3 ?_;refine Tk 9 [0,1,2,3,4,5,6,7,8] aI (by kernel_rfl) ?_;refine Gz 1 ?_;refine xC rfl (S2 aL rfl (by first|exact aD hg4 rfl|exact aD hg3 rfl)) ?_;refine Gz 1 ?_;rw[hn3.2.1.1];refine xC rfl (TU rfl rfl) ?_;refine Gz 1 ?_;refine xC rfl (S2 eG rfl (by first|exact aD hg4 rfl|exact aD hg3 rfl)) ?_;refine xC rfl (TW rfl rfl) ?_;refine Gz 8 ?_;refine cL (S2 aF rfl (by first|exact aD hg4 rfl|exact aD hg3 rfl)) ?_;refine fK 5 ?_ ?_<;>intro h18
 ·refine Gz 10 ?_;by_cases h30:(p.2.data.length:Int)=0
  ·rw[WO h30];refine Gz 2 ?_;by_cases h32:p.2.tgt=[]
   ·rw[WO h32];refine Gz 3 ?_;refine Tz rfl rfl (Tm (S2 Bv rfl (by first|exact aD hg4 rfl|exact aD hg3 rfl))) rfl (fun h36=>?_) (fun h36=>?_)
    ·refine cW (Tj rfl) ?_;refine Gz 26 ?_
     first
     |exact no _ (fun hm=>by have:=hm.1;omega) hF3
     |exact no _ (fun hm=>by have:=hm.2.2.2.2.2.2.1;omega) hF3
     |exact no _ (fun hm=>hm.2.2.2.2.2.1.elim (fun e=>by omega) (fun e=>h30 (by rw[e];rfl))) hF3
     |exact no _ (fun hm=>by have m:=hm.2.2.2.2.2.2.2.1;unfold okT at m;rw[WI (by omega)] at m;exact h32 m) hF3
     |exact no _ (fun hm=>by have m:=hm.2.2.2.2.2.2.2.1;unfold okT at m;rw[WJ h26] at m;exact h32 ⟨⟨by have:=W5.2 m.1;omega,by have:=m.2.1;omega⟩,m.2.2⟩) hF3
     |exact no _ (fun hm=>by rw[hm.2.1] at h36;cases h36) hF3
     |exact no _ (fun hm=>h42 hm.2.2.1) hF3
     |exact no _ (fun hm=>h47 hm.2.2.2.1) hF3
     |exact no _ (fun hm=>h52 hm.2.2.2.2.1) hF3
     |refine yes _ ?_ (hF3.trans hf6)
      have k2:okT p.2:=by
       unfold okT
       first
       |(rw[WI (by omega)];exact h32)
       |(rw[WJ h26];exact⟨fun e=>by have:=h32.1.1;have e0:=congrArg Xp e;have e1:([]:By).length=0:=rfl;omega,by have:=h32.1.2;omega,h32.2⟩)
      have k1:p.2.kind=2∨p.2.data=[]:=by
       first
       |exact .inl h20
       |exact .inr (W3.1 (by omega))
      exact⟨fun hm=>hm.2.2.2.2.2.2.2.2,fun hx=>⟨by omega,by simpa using h36,h42,h47,h52,k1,by omega,k2,hx⟩⟩
    refine cW (Tj rfl) ?_;refine Gz 3 ?_;refine cW (S2 aF rfl (by first|exact aD hg4 rfl|exact aD hg3 rfl)) ?_;refine Tb rfl rfl pF rfl (eC _ _ _ _) rfl ?_;rintro _ w4 ⟨rfl,hw4⟩;subst w4;by_cases h42:0≤p.2.md∧p.2.md≤511
    ·rw[WO h42];refine Gz 3 ?_;refine cW (S2 aF rfl (by first|exact aD hg4 rfl|exact aD hg3 rfl)) ?_;refine Tb rfl rfl pF rfl (eC _ _ _ _) rfl ?_;rintro _ w4 ⟨rfl,hw4⟩;subst w4;by_cases h47:0≤p.2.ud∧p.2.ud≤65535
     ·rw[WO h47];refine Gz 3 ?_;refine cW (S2 aF rfl (by first|exact aD hg4 rfl|exact aD hg3 rfl)) ?_;refine Tb rfl rfl pF rfl (eC _ _ _ _) rfl ?_;rintro _ w4 ⟨rfl,hw4⟩;subst w4;by_cases h52:0≤p.2.gd∧p.2.gd≤65535
      ·rw[WO h52];refine Gz 3 ?_;refine cW (S2 cK rfl (by first|exact aD hg4 rfl|exact aD hg3 rfl)) ?_;refine Tb rfl rfl JP rfl ((by show Calls _ _ [Value.slice p.1.xs.a p.1.xs.n p.1.xs.c].toArray _ _;rw[hn3.2.2.1];exact wE _ _ _ _ (hn3.2.2.xav hsm.2.2))) rfl ?_;rintro _ w6 ⟨rfl,hf6⟩;refine Gz 6 ?_
       first
       |exact no _ (fun hm=>by have:=hm.1;omega) hF3
       |exact no _ (fun hm=>by have:=hm.2.2.2.2.2.2.1;omega) hF3
       |exact no _ (fun hm=>hm.2.2.2.2.2.1.elim (fun e=>by omega) (fun e=>h30 (by rw[e];rfl))) hF3
       |exact no _ (fun hm=>by have m:=hm.2.2.2.2.2.2.2.1;unfold okT at m;rw[WI (by omega)] at m;exact h32 m) hF3
       |exact no _ (fun hm=>by have m:=hm.2.2.2.2.2.2.2.1;unfold okT at m;rw[WJ h26] at m;exact h32 ⟨⟨by have:=W5.2 m.1;omega,by have:=m.2.1;omega⟩,m.2.2⟩) hF3
       |exact no _ (fun hm=>by rw[hm.2.1] at h36;cases h36) hF3
       |exact no _ (fun hm=>h42 hm.2.2.1) hF3
       |exact no _ (fun hm=>h47 hm.2.2.2.1) hF3
       |exact no _ (fun hm=>h52 hm.2.2.2.2.1) hF3
       |refine yes _ ?_ (hF3.trans hf6)
        have k2:okT p.2:=by
         unfold okT
         first
         |(rw[WI (by omega)];exact h32)
         |(rw[WJ h26];exact⟨fun e=>by have:=h32.1.1;have e0:=congrArg Xp e;have e1:([]:By).length=0:=rfl;omega,by have:=h32.1.2;omega,h32.2⟩)
        have k1:p.2.kind=2∨p.2.data=[]:=by
         first
         |exact .inl h20
         |exact .inr (W3.1 (by omega))
        exact⟨fun hm=>hm.2.2.2.2.2.2.2.2,fun hx=>⟨by omega,by simpa using h36,h42,h47,h52,k1,by omega,k2,hx⟩⟩
      rw[WL h52];refine Gz 11 ?_
      first
      |exact no _ (fun hm=>by have:=hm.1;omega) hF3
      |exact no _ (fun hm=>by have:=hm.2.2.2.2.2.2.1;omega) hF3
      |exact no _ (fun hm=>hm.2.2.2.2.2.1.elim (fun e=>by omega) (fun e=>h30 (by rw[e];rfl))) hF3
      |exact no _ (fun hm=>by have m:=hm.2.2.2.2.2.2.2.1;unfold okT at m;rw[WI (by omega)] at m;exact h32 m) hF3
      |exact no _ (fun hm=>by have m:=hm.2.2.2.2.2.2.2.1;unfold okT at m;rw[WJ h26] at m;exact h32 ⟨⟨by have:=W5.2 m.1;omega,by have:=m.2.1;omega⟩,m.2.2⟩) hF3
      |exact no _ (fun hm=>by rw[hm.2.1] at h36;cases h36) hF3
      |exact no _ (fun hm=>h42 hm.2.2.1) hF3
      |exact no _ (fun hm=>h47 hm.2.2.2.1) hF3
      |exact no _ (fun hm=>h52 hm.2.2.2.2.1) hF3
      |refine yes _ ?_ (hF3.trans hf6)
       have k2:okT p.2:=by
        unfold okT
        first
        |(rw[WI (by omega)];exact h32)
        |(rw[WJ h26];exact⟨fun e=>by have:=h32.1.1;have e0:=congrArg Xp e;have e1:([]:By).length=0:=rfl;omega,by have:=h32.1.2;omega,h32.2⟩)
       have k1:p.2.kind=2∨p.2.data=[]:=by
        first
        |exact .inl h20
        |exact .inr (W3.1 (by omega))
       exact⟨fun hm=>hm.2.2.2.2.2.2.2.2,fun hx=>⟨by omega,by simpa using h36,h42,h47,h52,k1,by omega,k2,hx⟩⟩
     rw[WL h47];refine Gz 16 ?_
     first
     |exact no _ (fun hm=>by have:=hm.1;omega) hF3
     |exact no _ (fun hm=>by have:=hm.2.2.2.2.2.2.1;omega) hF3
     |exact no _ (fun hm=>hm.2.2.2.2.2.1.elim (fun e=>by omega) (fun e=>h30 (by rw[e];rfl))) hF3
     |exact no _ (fun hm=>by have m:=hm.2.2.2.2.2.2.2.1;unfold okT at m;rw[WI (by omega)] at m;exact h32 m) hF3
     |exact no _ (fun hm=>by have m:=hm.2.2.2.2.2.2.2.1;unfold okT at m;rw[WJ h26] at m;exact h32 ⟨⟨by have:=W5.2 m.1;omega,by have:=m.2.1;omega⟩,m.2.2⟩) hF3
     |exact no _ (fun hm=>by rw[hm.2.1] at h36;cases h36) hF3
     |exact no _ (fun hm=>h42 hm.2.2.1) hF3
     |exact no _ (fun hm=>h47 hm.2.2.2.1) hF3
     |exact no _ (fun hm=>h52 hm.2.2.2.2.1) hF3
     |refine yes _ ?_ (hF3.trans hf6)
      have k2:okT p.2:=by
       unfold okT
       first
       |(rw[WI (by omega)];exact h32)
       |(rw[WJ h26];exact⟨fun e=>by have:=h32.1.1;have e0:=congrArg Xp e;have e1:([]:By).length=0:=rfl;omega,by have:=h32.1.2;omega,h32.2⟩)
      have k1:p.2.kind=2∨p.2.data=[]:=by
       first
       |exact .inl h20
       |exact .inr (W3.1 (by omega))
      exact⟨fun hm=>hm.2.2.2.2.2.2.2.2,fun hx=>⟨by omega,by simpa using h36,h42,h47,h52,k1,by omega,k2,hx⟩⟩
    rw[WL h42];refine Gz 21 ?_
    first
    |exact no _ (fun hm=>by have:=hm.1;omega) hF3
    |exact no _ (fun hm=>by have:=hm.2.2.2.2.2.2.1;omega) hF3
    |exact no _ (fun hm=>hm.2.2.2.2.2.1.elim (fun e=>by omega) (fun e=>h30 (by rw[e];rfl))) hF3
    |exact no _ (fun hm=>by have m:=hm.2.2.2.2.2.2.2.1;unfold okT at m;rw[WI (by omega)] at m;exact h32 m) hF3
    |exact no _ (fun hm=>by have m:=hm.2.2.2.2.2.2.2.1;unfold okT at m;rw[WJ h26] at m;exact h32 ⟨⟨by have:=W5.2 m.1;omega,by have:=m.2.1;omega⟩,m.2.2⟩) hF3
    |exact no _ (fun hm=>by rw[hm.2.1] at h36;cases h36) hF3
    |exact no _ (fun hm=>h42 hm.2.2.1) hF3
    |exact no _ (fun hm=>h47 hm.2.2.2.1) hF3
    |exact no _ (fun hm=>h52 hm.2.2.2.2.1) hF3
    |refine yes _ ?_ (hF3.trans hf6)
     have k2:okT p.2:=by
      unfold okT
      first
      |(rw[WI (by omega)];exact h32)
      |(rw[WJ h26];exact⟨fun e=>by have:=h32.1.1;have e0:=congrArg Xp e;have e1:([]:By).length=0:=rfl;omega,by have:=h32.1.2;omega,h32.2⟩)
     have k1:p.2.kind=2∨p.2.data=[]:=by
      first
      |exact .inl h20
      |exact .inr (W3.1 (by omega))
     exact⟨fun hm=>hm.2.2.2.2.2.2.2.2,fun hx=>⟨by omega,by simpa using h36,h42,h47,h52,k1,by omega,k2,hx⟩⟩
   rw[WL h32];refine Gz 31 ?_
   first
   |exact no _ (fun hm=>by have:=hm.1;omega) hF3
   |exact no _ (fun hm=>by have:=hm.2.2.2.2.2.2.1;omega) hF3
   |exact no _ (fun hm=>hm.2.2.2.2.2.1.elim (fun e=>by omega) (fun e=>h30 (by rw[e];rfl))) hF3
   |exact no _ (fun hm=>by have m:=hm.2.2.2.2.2.2.2.1;unfold okT at m;rw[WI (by omega)] at m;exact h32 m) hF3
   |exact no _ (fun hm=>by have m:=hm.2.2.2.2.2.2.2.1;unfold okT at m;rw[WJ h26] at m;exact h32 ⟨⟨by have:=W5.2 m.1;omega,by have:=m.2.1;omega⟩,m.2.2⟩) hF3
   |exact no _ (fun hm=>by rw[hm.2.1] at h36;cases h36) hF3
   |exact no _ (fun hm=>h42 hm.2.2.1) hF3
   |exact no _ (fun hm=>h47 hm.2.2.2.1) hF3
   |exact no _ (fun hm=>h52 hm.2.2.2.2.1) hF3
   |refine yes _ ?_ (hF3.trans hf6)
    have k2:okT p.2:=by
     unfold okT
     first
     |(rw[WI (by omega)];exact h32)
     |(rw[WJ h26];exact⟨fun e=>by have:=h32.1.1;have e0:=congrArg Xp e;have e1:([]:By).length=0:=rfl;omega,by have:=h32.1.2;omega,h32.2⟩)
    have k1:p.2.kind=2∨p.2.data=[]:=by
     first
     |exact .inl h20
     |exact .inr (W3.1 (by omega))
    exact⟨fun hm=>hm.2.2.2.2.2.2.2.2,fun hx=>⟨by omega,by simpa using h36,h42,h47,h52,k1,by omega,k2,hx⟩⟩
  rw[WL h30];refine Gz 33 ?_
  first
  |exact no _ (fun hm=>by have:=hm.1;omega) hF3
  |exact no _ (fun hm=>by have:=hm.2.2.2.2.2.2.1;omega) hF3
  |exact no _ (fun hm=>hm.2.2.2.2.2.1.elim (fun e=>by omega) (fun e=>h30 (by rw[e];rfl))) hF3
  |exact no _ (fun hm=>by have m:=hm.2.2.2.2.2.2.2.1;unfold okT at m;rw[WI (by omega)] at m;exact h32 m) hF3
  |exact no _ (fun hm=>by have m:=hm.2.2.2.2.2.2.2.1;unfold okT at m;rw[WJ h26] at m;exact h32 ⟨⟨by have:=W5.2 m.1;omega,by have:=m.2.1;omega⟩,m.2.2⟩) hF3
  |exact no _ (fun hm=>by rw[hm.2.1] at h36;cases h36) hF3
  |exact no _ (fun hm=>h42 hm.2.2.1) hF3
  |exact no _ (fun hm=>h47 hm.2.2.2.1) hF3
  |exact no _ (fun hm=>h52 hm.2.2.2.2.1) hF3
  |refine yes _ ?_ (hF3.trans hf6)
   have k2:okT p.2:=by
    unfold okT
    first
    |(rw[WI (by omega)];exact h32)
    |(rw[WJ h26];exact⟨fun e=>by have:=h32.1.1;have e0:=congrArg Xp e;have e1:([]:By).length=0:=rfl;omega,by have:=h32.1.2;omega,h32.2⟩)
   have k1:p.2.kind=2∨p.2.data=[]:=by
    first
    |exact .inl h20
    |exact .inr (W3.1 (by omega))
   exact⟨fun hm=>hm.2.2.2.2.2.2.2.2,fun hx=>⟨by omega,by simpa using h36,h42,h47,h52,k1,by omega,k2,hx⟩⟩
 refine fK 6 ?_ ?_<;>intro h20
 ·refine Gz 6 ?_;refine cL (S2 aL rfl (by first|exact aD hg4 rfl|exact aD hg3 rfl)) ?_;refine Gz 1 ?_;rw[hn3.2.1.1];refine cL (Uf rfl rfl) ?_;refine Gz 7 ?_;by_cases h30:(p.2.data.length:Int)≤4096
  ·rw[WO h30];refine Gz 2 ?_;by_cases h32:p.2.tgt=[]
   ·rw[WO h32];refine Gz 3 ?_;refine Tz rfl rfl (Tm (S2 Bv rfl (by first|exact aD hg4 rfl|exact aD hg3 rfl))) rfl (fun h36=>?_) (fun h36=>?_)
    ·refine cW (Tj rfl) ?_;refine Gz 26 ?_
     first
     |exact no _ (fun hm=>by have:=hm.1;omega) hF3
     |exact no _ (fun hm=>by have:=hm.2.2.2.2.2.2.1;omega) hF3
     |exact no _ (fun hm=>hm.2.2.2.2.2.1.elim (fun e=>by omega) (fun e=>h30 (by rw[e];rfl))) hF3
     |exact no _ (fun hm=>by have m:=hm.2.2.2.2.2.2.2.1;unfold okT at m;rw[WI (by omega)] at m;exact h32 m) hF3
     |exact no _ (fun hm=>by have m:=hm.2.2.2.2.2.2.2.1;unfold okT at m;rw[WJ h26] at m;exact h32 ⟨⟨by have:=W5.2 m.1;omega,by have:=m.2.1;omega⟩,m.2.2⟩) hF3
     |exact no _ (fun hm=>by rw[hm.2.1] at h36;cases h36) hF3
     |exact no _ (fun hm=>h42 hm.2.2.1) hF3
     |exact no _ (fun hm=>h47 hm.2.2.2.1) hF3
     |exact no _ (fun hm=>h52 hm.2.2.2.2.1) hF3
     |refine yes _ ?_ (hF3.trans hf6)
      have k2:okT p.2:=by
       unfold okT
       first
       |(rw[WI (by omega)];exact h32)
       |(rw[WJ h26];exact⟨fun e=>by have:=h32.1.1;have e0:=congrArg Xp e;have e1:([]:By).length=0:=rfl;omega,by have:=h32.1.2;omega,h32.2⟩)
      have k1:p.2.kind=2∨p.2.data=[]:=by
       first
       |exact .inl h20
       |exact .inr (W3.1 (by omega))
      exact⟨fun hm=>hm.2.2.2.2.2.2.2.2,fun hx=>⟨by omega,by simpa using h36,h42,h47,h52,k1,by omega,k2,hx⟩⟩
    refine cW (Tj rfl) ?_;refine Gz 3 ?_;refine cW (S2 aF rfl (by first|exact aD hg4 rfl|exact aD hg3 rfl)) ?_;refine Tb rfl rfl pF rfl (eC _ _ _ _) rfl ?_;rintro _ w4 ⟨rfl,hw4⟩;subst w4;by_cases h42:0≤p.2.md∧p.2.md≤511
    ·rw[WO h42];refine Gz 3 ?_;refine cW (S2 aF rfl (by first|exact aD hg4 rfl|exact aD hg3 rfl)) ?_;refine Tb rfl rfl pF rfl (eC _ _ _ _) rfl ?_;rintro _ w4 ⟨rfl,hw4⟩;subst w4;by_cases h47:0≤p.2.ud∧p.2.ud≤65535
     ·rw[WO h47];refine Gz 3 ?_;refine cW (S2 aF rfl (by first|exact aD hg4 rfl|exact aD hg3 rfl)) ?_;refine Tb rfl rfl pF rfl (eC _ _ _ _) rfl ?_;rintro _ w4 ⟨rfl,hw4⟩;subst w4;by_cases h52:0≤p.2.gd∧p.2.gd≤65535
      ·rw[WO h52];refine Gz 3 ?_;refine cW (S2 cK rfl (by first|exact aD hg4 rfl|exact aD hg3 rfl)) ?_;refine Tb rfl rfl JP rfl ((by show Calls _ _ [Value.slice p.1.xs.a p.1.xs.n p.1.xs.c].toArray _ _;rw[hn3.2.2.1];exact wE _ _ _ _ (hn3.2.2.xav hsm.2.2))) rfl ?_;rintro _ w6 ⟨rfl,hf6⟩;refine Gz 6 ?_
       first
       |exact no _ (fun hm=>by have:=hm.1;omega) hF3
       |exact no _ (fun hm=>by have:=hm.2.2.2.2.2.2.1;omega) hF3
       |exact no _ (fun hm=>hm.2.2.2.2.2.1.elim (fun e=>by omega) (fun e=>h30 (by rw[e];rfl))) hF3
       |exact no _ (fun hm=>by have m:=hm.2.2.2.2.2.2.2.1;unfold okT at m;rw[WI (by omega)] at m;exact h32 m) hF3
       |exact no _ (fun hm=>by have m:=hm.2.2.2.2.2.2.2.1;unfold okT at m;rw[WJ h26] at m;exact h32 ⟨⟨by have:=W5.2 m.1;omega,by have:=m.2.1;omega⟩,m.2.2⟩) hF3
       |exact no _ (fun hm=>by rw[hm.2.1] at h36;cases h36) hF3
       |exact no _ (fun hm=>h42 hm.2.2.1) hF3
       |exact no _ (fun hm=>h47 hm.2.2.2.1) hF3
       |exact no _ (fun hm=>h52 hm.2.2.2.2.1) hF3
       |refine yes _ ?_ (hF3.trans hf6)
        have k2:okT p.2:=by
         unfold okT
         first
         |(rw[WI (by omega)];exact h32)
         |(rw[WJ h26];exact⟨fun e=>by have:=h32.1.1;have e0:=congrArg Xp e;have e1:([]:By).length=0:=rfl;omega,by have:=h32.1.2;omega,h32.2⟩)
        have k1:p.2.kind=2∨p.2.data=[]:=by
         first
         |exact .inl h20
         |exact .inr (W3.1 (by omega))
        exact⟨fun hm=>hm.2.2.2.2.2.2.2.2,fun hx=>⟨by omega,by simpa using h36,h42,h47,h52,k1,by omega,k2,hx⟩⟩
      rw[WL h52];refine Gz 11 ?_
      first
      |exact no _ (fun hm=>by have:=hm.1;omega) hF3
      |exact no _ (fun hm=>by have:=hm.2.2.2.2.2.2.1;omega) hF3
      |exact no _ (fun hm=>hm.2.2.2.2.2.1.elim (fun e=>by omega) (fun e=>h30 (by rw[e];rfl))) hF3
      |exact no _ (fun hm=>by have m:=hm.2.2.2.2.2.2.2.1;unfold okT at m;rw[WI (by omega)] at m;exact h32 m) hF3
      |exact no _ (fun hm=>by have m:=hm.2.2.2.2.2.2.2.1;unfold okT at m;rw[WJ h26] at m;exact h32 ⟨⟨by have:=W5.2 m.1;omega,by have:=m.2.1;omega⟩,m.2.2⟩) hF3
      |exact no _ (fun hm=>by rw[hm.2.1] at h36;cases h36) hF3
      |exact no _ (fun hm=>h42 hm.2.2.1) hF3
      |exact no _ (fun hm=>h47 hm.2.2.2.1) hF3
      |exact no _ (fun hm=>h52 hm.2.2.2.2.1) hF3
      |refine yes _ ?_ (hF3.trans hf6)
       have k2:okT p.2:=by
        unfold okT
        first
        |(rw[WI (by omega)];exact h32)
        |(rw[WJ h26];exact⟨fun e=>by have:=h32.1.1;have e0:=congrArg Xp e;have e1:([]:By).length=0:=rfl;omega,by have:=h32.1.2;omega,h32.2⟩)
       have k1:p.2.kind=2∨p.2.data=[]:=by
        first
        |exact .inl h20
        |exact .inr (W3.1 (by omega))
       exact⟨fun hm=>hm.2.2.2.2.2.2.2.2,fun hx=>⟨by omega,by simpa using h36,h42,h47,h52,k1,by omega,k2,hx⟩⟩
     rw[WL h47];refine Gz 16 ?_
     first
     |exact no _ (fun hm=>by have:=hm.1;omega) hF3
     |exact no _ (fun hm=>by have:=hm.2.2.2.2.2.2.1;omega) hF3
     |exact no _ (fun hm=>hm.2.2.2.2.2.1.elim (fun e=>by omega) (fun e=>h30 (by rw[e];rfl))) hF3
     |exact no _ (fun hm=>by have m:=hm.2.2.2.2.2.2.2.1;unfold okT at m;rw[WI (by omega)] at m;exact h32 m) hF3
     |exact no _ (fun hm=>by have m:=hm.2.2.2.2.2.2.2.1;unfold okT at m;rw[WJ h26] at m;exact h32 ⟨⟨by have:=W5.2 m.1;omega,by have:=m.2.1;omega⟩,m.2.2⟩) hF3
     |exact no _ (fun hm=>by rw[hm.2.1] at h36;cases h36) hF3
     |exact no _ (fun hm=>h42 hm.2.2.1) hF3
     |exact no _ (fun hm=>h47 hm.2.2.2.1) hF3
     |exact no _ (fun hm=>h52 hm.2.2.2.2.1) hF3
     |refine yes _ ?_ (hF3.trans hf6)
      have k2:okT p.2:=by
       unfold okT
       first
       |(rw[WI (by omega)];exact h32)
       |(rw[WJ h26];exact⟨fun e=>by have:=h32.1.1;have e0:=congrArg Xp e;have e1:([]:By).length=0:=rfl;omega,by have:=h32.1.2;omega,h32.2⟩)
      have k1:p.2.kind=2∨p.2.data=[]:=by
       first
       |exact .inl h20
       |exact .inr (W3.1 (by omega))
      exact⟨fun hm=>hm.2.2.2.2.2.2.2.2,fun hx=>⟨by omega,by simpa using h36,h42,h47,h52,k1,by omega,k2,hx⟩⟩
    rw[WL h42];refine Gz 21 ?_
    first
    |exact no _ (fun hm=>by have:=hm.1;omega) hF3
    |exact no _ (fun hm=>by have:=hm.2.2.2.2.2.2.1;omega) hF3
    |exact no _ (fun hm=>hm.2.2.2.2.2.1.elim (fun e=>by omega) (fun e=>h30 (by rw[e];rfl))) hF3
    |exact no _ (fun hm=>by have m:=hm.2.2.2.2.2.2.2.1;unfold okT at m;rw[WI (by omega)] at m;exact h32 m) hF3
    |exact no _ (fun hm=>by have m:=hm.2.2.2.2.2.2.2.1;unfold okT at m;rw[WJ h26] at m;exact h32 ⟨⟨by have:=W5.2 m.1;omega,by have:=m.2.1;omega⟩,m.2.2⟩) hF3
    |exact no _ (fun hm=>by rw[hm.2.1] at h36;cases h36) hF3
    |exact no _ (fun hm=>h42 hm.2.2.1) hF3
    |exact no _ (fun hm=>h47 hm.2.2.2.1) hF3
    |exact no _ (fun hm=>h52 hm.2.2.2.2.1) hF3
    |refine yes _ ?_ (hF3.trans hf6)
     have k2:okT p.2:=by
      unfold okT
      first
      |(rw[WI (by omega)];exact h32)
      |(rw[WJ h26];exact⟨fun e=>by have:=h32.1.1;have e0:=congrArg Xp e;have e1:([]:By).length=0:=rfl;omega,by have:=h32.1.2;omega,h32.2⟩)
     have k1:p.2.kind=2∨p.2.data=[]:=by
      first
      |exact .inl h20
      |exact .inr (W3.1 (by omega))
     exact⟨fun hm=>hm.2.2.2.2.2.2.2.2,fun hx=>⟨by omega,by simpa using h36,h42,h47,h52,k1,by omega,k2,hx⟩⟩
   rw[WL h32];refine Gz 31 ?_
   first
   |exact no _ (fun hm=>by have:=hm.1;omega) hF3
   |exact no _ (fun hm=>by have:=hm.2.2.2.2.2.2.1;omega) hF3
   |exact no _ (fun hm=>hm.2.2.2.2.2.1.elim (fun e=>by omega) (fun e=>h30 (by rw[e];rfl))) hF3
   |exact no _ (fun hm=>by have m:=hm.2.2.2.2.2.2.2.1;unfold okT at m;rw[WI (by omega)] at m;exact h32 m) hF3
   |exact no _ (fun hm=>by have m:=hm.2.2.2.2.2.2.2.1;unfold okT at m;rw[WJ h26] at m;exact h32 ⟨⟨by have:=W5.2 m.1;omega,by have:=m.2.1;omega⟩,m.2.2⟩) hF3
   |exact no _ (fun hm=>by rw[hm.2.1] at h36;cases h36) hF3
   |exact no _ (fun hm=>h42 hm.2.2.1) hF3
   |exact no _ (fun hm=>h47 hm.2.2.2.1) hF3
   |exact no _ (fun hm=>h52 hm.2.2.2.2.1) hF3
   |refine yes _ ?_ (hF3.trans hf6)
    have k2:okT p.2:=by
     unfold okT
     first
     |(rw[WI (by omega)];exact h32)
     |(rw[WJ h26];exact⟨fun e=>by have:=h32.1.1;have e0:=congrArg Xp e;have e1:([]:By).length=0:=rfl;omega,by have:=h32.1.2;omega,h32.2⟩)
    have k1:p.2.kind=2∨p.2.data=[]:=by
     first
     |exact .inl h20
     |exact .inr (W3.1 (by omega))
    exact⟨fun hm=>hm.2.2.2.2.2.2.2.2,fun hx=>⟨by omega,by simpa using h36,h42,h47,h52,k1,by omega,k2,hx⟩⟩
  rw[WL h30];refine Gz 33 ?_
  first
  |exact no _ (fun hm=>by have:=hm.1;omega) hF3
  |exact no _ (fun hm=>by have:=hm.2.2.2.2.2.2.1;omega) hF3
  |exact no _ (fun hm=>hm.2.2.2.2.2.1.elim (fun e=>by omega) (fun e=>h30 (by rw[e];rfl))) hF3
  |exact no _ (fun hm=>by have m:=hm.2.2.2.2.2.2.2.1;unfold okT at m;rw[WI (by omega)] at m;exact h32 m) hF3
  |exact no _ (fun hm=>by have m:=hm.2.2.2.2.2.2.2.1;unfold okT at m;rw[WJ h26] at m;exact h32 ⟨⟨by have:=W5.2 m.1;omega,by have:=m.2.1;omega⟩,m.2.2⟩) hF3
  |exact no _ (fun hm=>by rw[hm.2.1] at h36;cases h36) hF3
  |exact no _ (fun hm=>h42 hm.2.2.1) hF3
  |exact no _ (fun hm=>h47 hm.2.2.2.1) hF3
  |exact no _ (fun hm=>h52 hm.2.2.2.2.1) hF3
  |refine yes _ ?_ (hF3.trans hf6)
   have k2:okT p.2:=by
    unfold okT
    first
    |(rw[WI (by omega)];exact h32)
    |(rw[WJ h26];exact⟨fun e=>by have:=h32.1.1;have e0:=congrArg Xp e;have e1:([]:By).length=0:=rfl;omega,by have:=h32.1.2;omega,h32.2⟩)
   have k1:p.2.kind=2∨p.2.data=[]:=by
    first
    |exact .inl h20
    |exact .inr (W3.1 (by omega))
   exact⟨fun hm=>hm.2.2.2.2.2.2.2.2,fun hx=>⟨by omega,by simpa using h36,h42,h47,h52,k1,by omega,k2,hx⟩⟩
 refine fK 6 ?_ ?_<;>intro h26
 ·refine Gz 6 ?_;refine cL (S2 eG rfl (by first|exact aD hg4 rfl|exact aD hg3 rfl)) ?_;refine SZ M2 rfl (C0 p.2.tgt 200 _) rfl ?_;rintro _ w4 ⟨rfl,hw4⟩;subst w4;refine Gz 7 ?_;by_cases h30:(p.2.data.length:Int)=0
  ·rw[WO h30];refine Gz 2 ?_;by_cases h32:iA p.2.tgt 200
   ·rw[WO h32];refine Gz 3 ?_;refine Tz rfl rfl (Tm (S2 Bv rfl (by first|exact aD hg4 rfl|exact aD hg3 rfl))) rfl (fun h36=>?_) (fun h36=>?_)
    ·refine cW (Tj rfl) ?_;refine Gz 26 ?_
     first
     |exact no _ (fun hm=>by have:=hm.1;omega) hF3
     |exact no _ (fun hm=>by have:=hm.2.2.2.2.2.2.1;omega) hF3
     |exact no _ (fun hm=>hm.2.2.2.2.2.1.elim (fun e=>by omega) (fun e=>h30 (by rw[e];rfl))) hF3
     |exact no _ (fun hm=>by have m:=hm.2.2.2.2.2.2.2.1;unfold okT at m;rw[WI (by omega)] at m;exact h32 m) hF3
     |exact no _ (fun hm=>by have m:=hm.2.2.2.2.2.2.2.1;unfold okT at m;rw[WJ h26] at m;exact h32 ⟨⟨by have:=W5.2 m.1;omega,by have:=m.2.1;omega⟩,m.2.2⟩) hF3
     |exact no _ (fun hm=>by rw[hm.2.1] at h36;cases h36) hF3
     |exact no _ (fun hm=>h42 hm.2.2.1) hF3
     |exact no _ (fun hm=>h47 hm.2.2.2.1) hF3
     |exact no _ (fun hm=>h52 hm.2.2.2.2.1) hF3
     |refine yes _ ?_ (hF3.trans hf6)
      have k2:okT p.2:=by
       unfold okT
       first
       |(rw[WI (by omega)];exact h32)
       |(rw[WJ h26];exact⟨fun e=>by have:=h32.1.1;have e0:=congrArg Xp e;have e1:([]:By).length=0:=rfl;omega,by have:=h32.1.2;omega,h32.2⟩)
      have k1:p.2.kind=2∨p.2.data=[]:=by
       first
       |exact .inl h20
       |exact .inr (W3.1 (by omega))
      exact⟨fun hm=>hm.2.2.2.2.2.2.2.2,fun hx=>⟨by omega,by simpa using h36,h42,h47,h52,k1,by omega,k2,hx⟩⟩
    refine cW (Tj rfl) ?_;refine Gz 3 ?_;refine cW (S2 aF rfl (by first|exact aD hg4 rfl|exact aD hg3 rfl)) ?_;refine Tb rfl rfl pF rfl (eC _ _ _ _) rfl ?_;rintro _ w4 ⟨rfl,hw4⟩;subst w4;by_cases h42:0≤p.2.md∧p.2.md≤511
    ·rw[WO h42];refine Gz 3 ?_;refine cW (S2 aF rfl (by first|exact aD hg4 rfl|exact aD hg3 rfl)) ?_;refine Tb rfl rfl pF rfl (eC _ _ _ _) rfl ?_;rintro _ w4 ⟨rfl,hw4⟩;subst w4;by_cases h47:0≤p.2.ud∧p.2.ud≤65535
     ·rw[WO h47];refine Gz 3 ?_;refine cW (S2 aF rfl (by first|exact aD hg4 rfl|exact aD hg3 rfl)) ?_;refine Tb rfl rfl pF rfl (eC _ _ _ _) rfl ?_;rintro _ w4 ⟨rfl,hw4⟩;subst w4;by_cases h52:0≤p.2.gd∧p.2.gd≤65535
      ·rw[WO h52];refine Gz 3 ?_;refine cW (S2 cK rfl (by first|exact aD hg4 rfl|exact aD hg3 rfl)) ?_;refine Tb rfl rfl JP rfl ((by show Calls _ _ [Value.slice p.1.xs.a p.1.xs.n p.1.xs.c].toArray _ _;rw[hn3.2.2.1];exact wE _ _ _ _ (hn3.2.2.xav hsm.2.2))) rfl ?_;rintro _ w6 ⟨rfl,hf6⟩;refine Gz 6 ?_
       first
       |exact no _ (fun hm=>by have:=hm.1;omega) hF3
       |exact no _ (fun hm=>by have:=hm.2.2.2.2.2.2.1;omega) hF3
       |exact no _ (fun hm=>hm.2.2.2.2.2.1.elim (fun e=>by omega) (fun e=>h30 (by rw[e];rfl))) hF3
       |exact no _ (fun hm=>by have m:=hm.2.2.2.2.2.2.2.1;unfold okT at m;rw[WI (by omega)] at m;exact h32 m) hF3
       |exact no _ (fun hm=>by have m:=hm.2.2.2.2.2.2.2.1;unfold okT at m;rw[WJ h26] at m;exact h32 ⟨⟨by have:=W5.2 m.1;omega,by have:=m.2.1;omega⟩,m.2.2⟩) hF3
       |exact no _ (fun hm=>by rw[hm.2.1] at h36;cases h36) hF3
       |exact no _ (fun hm=>h42 hm.2.2.1) hF3
       |exact no _ (fun hm=>h47 hm.2.2.2.1) hF3
       |exact no _ (fun hm=>h52 hm.2.2.2.2.1) hF3
       |refine yes _ ?_ (hF3.trans hf6)
        have k2:okT p.2:=by
         unfold okT
         first
         |(rw[WI (by omega)];exact h32)
         |(rw[WJ h26];exact⟨fun e=>by have:=h32.1.1;have e0:=congrArg Xp e;have e1:([]:By).length=0:=rfl;omega,by have:=h32.1.2;omega,h32.2⟩)
        have k1:p.2.kind=2∨p.2.data=[]:=by
         first
         |exact .inl h20
         |exact .inr (W3.1 (by omega))
        exact⟨fun hm=>hm.2.2.2.2.2.2.2.2,fun hx=>⟨by omega,by simpa using h36,h42,h47,h52,k1,by omega,k2,hx⟩⟩
      rw[WL h52];refine Gz 11 ?_
      first
      |exact no _ (fun hm=>by have:=hm.1;omega) hF3
      |exact no _ (fun hm=>by have:=hm.2.2.2.2.2.2.1;omega) hF3
      |exact no _ (fun hm=>hm.2.2.2.2.2.1.elim (fun e=>by omega) (fun e=>h30 (by rw[e];rfl))) hF3
      |exact no _ (fun hm=>by have m:=hm.2.2.2.2.2.2.2.1;unfold okT at m;rw[WI (by omega)] at m;exact h32 m) hF3
      |exact no _ (fun hm=>by have m:=hm.2.2.2.2.2.2.2.1;unfold okT at m;rw[WJ h26] at m;exact h32 ⟨⟨by have:=W5.2 m.1;omega,by have:=m.2.1;omega⟩,m.2.2⟩) hF3
      |exact no _ (fun hm=>by rw[hm.2.1] at h36;cases h36) hF3
      |exact no _ (fun hm=>h42 hm.2.2.1) hF3
      |exact no _ (fun hm=>h47 hm.2.2.2.1) hF3
      |exact no _ (fun hm=>h52 hm.2.2.2.2.1) hF3
      |refine yes _ ?_ (hF3.trans hf6)
       have k2:okT p.2:=by
        unfold okT
        first
        |(rw[WI (by omega)];exact h32)
        |(rw[WJ h26];exact⟨fun e=>by have:=h32.1.1;have e0:=congrArg Xp e;have e1:([]:By).length=0:=rfl;omega,by have:=h32.1.2;omega,h32.2⟩)
       have k1:p.2.kind=2∨p.2.data=[]:=by
        first
        |exact .inl h20
        |exact .inr (W3.1 (by omega))
       exact⟨fun hm=>hm.2.2.2.2.2.2.2.2,fun hx=>⟨by omega,by simpa using h36,h42,h47,h52,k1,by omega,k2,hx⟩⟩
     rw[WL h47];refine Gz 16 ?_
     first
     |exact no _ (fun hm=>by have:=hm.1;omega) hF3
     |exact no _ (fun hm=>by have:=hm.2.2.2.2.2.2.1;omega) hF3
     |exact no _ (fun hm=>hm.2.2.2.2.2.1.elim (fun e=>by omega) (fun e=>h30 (by rw[e];rfl))) hF3
     |exact no _ (fun hm=>by have m:=hm.2.2.2.2.2.2.2.1;unfold okT at m;rw[WI (by omega)] at m;exact h32 m) hF3
     |exact no _ (fun hm=>by have m:=hm.2.2.2.2.2.2.2.1;unfold okT at m;rw[WJ h26] at m;exact h32 ⟨⟨by have:=W5.2 m.1;omega,by have:=m.2.1;omega⟩,m.2.2⟩) hF3
     |exact no _ (fun hm=>by rw[hm.2.1] at h36;cases h36) hF3
     |exact no _ (fun hm=>h42 hm.2.2.1) hF3
     |exact no _ (fun hm=>h47 hm.2.2.2.1) hF3
     |exact no _ (fun hm=>h52 hm.2.2.2.2.1) hF3
     |refine yes _ ?_ (hF3.trans hf6)
      have k2:okT p.2:=by
       unfold okT
       first
       |(rw[WI (by omega)];exact h32)
       |(rw[WJ h26];exact⟨fun e=>by have:=h32.1.1;have e0:=congrArg Xp e;have e1:([]:By).length=0:=rfl;omega,by have:=h32.1.2;omega,h32.2⟩)
      have k1:p.2.kind=2∨p.2.data=[]:=by
       first
       |exact .inl h20
       |exact .inr (W3.1 (by omega))
      exact⟨fun hm=>hm.2.2.2.2.2.2.2.2,fun hx=>⟨by omega,by simpa using h36,h42,h47,h52,k1,by omega,k2,hx⟩⟩
    rw[WL h42];refine Gz 21 ?_
    first
    |exact no _ (fun hm=>by have:=hm.1;omega) hF3
    |exact no _ (fun hm=>by have:=hm.2.2.2.2.2.2.1;omega) hF3
    |exact no _ (fun hm=>hm.2.2.2.2.2.1.elim (fun e=>by omega) (fun e=>h30 (by rw[e];rfl))) hF3
    |exact no _ (fun hm=>by have m:=hm.2.2.2.2.2.2.2.1;unfold okT at m;rw[WI (by omega)] at m;exact h32 m) hF3
    |exact no _ (fun hm=>by have m:=hm.2.2.2.2.2.2.2.1;unfold okT at m;rw[WJ h26] at m;exact h32 ⟨⟨by have:=W5.2 m.1;omega,by have:=m.2.1;omega⟩,m.2.2⟩) hF3
    |exact no _ (fun hm=>by rw[hm.2.1] at h36;cases h36) hF3
    |exact no _ (fun hm=>h42 hm.2.2.1) hF3
    |exact no _ (fun hm=>h47 hm.2.2.2.1) hF3
    |exact no _ (fun hm=>h52 hm.2.2.2.2.1) hF3
    |refine yes _ ?_ (hF3.trans hf6)
     have k2:okT p.2:=by
      unfold okT
      first
      |(rw[WI (by omega)];exact h32)
      |(rw[WJ h26];exact⟨fun e=>by have:=h32.1.1;have e0:=congrArg Xp e;have e1:([]:By).length=0:=rfl;omega,by have:=h32.1.2;omega,h32.2⟩)
     have k1:p.2.kind=2∨p.2.data=[]:=by
      first
      |exact .inl h20
      |exact .inr (W3.1 (by omega))
     exact⟨fun hm=>hm.2.2.2.2.2.2.2.2,fun hx=>⟨by omega,by simpa using h36,h42,h47,h52,k1,by omega,k2,hx⟩⟩
   rw[WL h32];refine Gz 31 ?_
   first
   |exact no _ (fun hm=>by have:=hm.1;omega) hF3
   |exact no _ (fun hm=>by have:=hm.2.2.2.2.2.2.1;omega) hF3
   |exact no _ (fun hm=>hm.2.2.2.2.2.1.elim (fun e=>by omega) (fun e=>h30 (by rw[e];rfl))) hF3
   |exact no _ (fun hm=>by have m:=hm.2.2.2.2.2.2.2.1;unfold okT at m;rw[WI (by omega)] at m;exact h32 m) hF3
   |exact no _ (fun hm=>by have m:=hm.2.2.2.2.2.2.2.1;unfold okT at m;rw[WJ h26] at m;exact h32 ⟨⟨by have:=W5.2 m.1;omega,by have:=m.2.1;omega⟩,m.2.2⟩) hF3
   |exact no _ (fun hm=>by rw[hm.2.1] at h36;cases h36) hF3
   |exact no _ (fun hm=>h42 hm.2.2.1) hF3
   |exact no _ (fun hm=>h47 hm.2.2.2.1) hF3
   |exact no _ (fun hm=>h52 hm.2.2.2.2.1) hF3
   |refine yes _ ?_ (hF3.trans hf6)
    have k2:okT p.2:=by
     unfold okT
     first
     |(rw[WI (by omega)];exact h32)
     |(rw[WJ h26];exact⟨fun e=>by have:=h32.1.1;have e0:=congrArg Xp e;have e1:([]:By).length=0:=rfl;omega,by have:=h32.1.2;omega,h32.2⟩)
    have k1:p.2.kind=2∨p.2.data=[]:=by
     first
     |exact .inl h20
     |exact .inr (W3.1 (by omega))
    exact⟨fun hm=>hm.2.2.2.2.2.2.2.2,fun hx=>⟨by omega,by simpa using h36,h42,h47,h52,k1,by omega,k2,hx⟩⟩
  rw[WL h30];refine Gz 33 ?_
  first
  |exact no _ (fun hm=>by have:=hm.1;omega) hF3
  |exact no _ (fun hm=>by have:=hm.2.2.2.2.2.2.1;omega) hF3
  |exact no _ (fun hm=>hm.2.2.2.2.2.1.elim (fun e=>by omega) (fun e=>h30 (by rw[e];rfl))) hF3
  |exact no _ (fun hm=>by have m:=hm.2.2.2.2.2.2.2.1;unfold okT at m;rw[WI (by omega)] at m;exact h32 m) hF3
  |exact no _ (fun hm=>by have m:=hm.2.2.2.2.2.2.2.1;unfold okT at m;rw[WJ h26] at m;exact h32 ⟨⟨by have:=W5.2 m.1;omega,by have:=m.2.1;omega⟩,m.2.2⟩) hF3
  |exact no _ (fun hm=>by rw[hm.2.1] at h36;cases h36) hF3
  |exact no _ (fun hm=>h42 hm.2.2.1) hF3
  |exact no _ (fun hm=>h47 hm.2.2.2.1) hF3
  |exact no _ (fun hm=>h52 hm.2.2.2.2.1) hF3
  |refine yes _ ?_ (hF3.trans hf6)
   have k2:okT p.2:=by
    unfold okT
    first
    |(rw[WI (by omega)];exact h32)
    |(rw[WJ h26];exact⟨fun e=>by have:=h32.1.1;have e0:=congrArg Xp e;have e1:([]:By).length=0:=rfl;omega,by have:=h32.1.2;omega,h32.2⟩)
   have k1:p.2.kind=2∨p.2.data=[]:=by
    first
    |exact .inl h20
    |exact .inr (W3.1 (by omega))
   exact⟨fun hm=>hm.2.2.2.2.2.2.2.2,fun hx=>⟨by omega,by simpa using h36,h42,h47,h52,k1,by omega,k2,hx⟩⟩
 refine Gz 13 ?_
 first
 |exact no _ (fun hm=>by have:=hm.1;omega) hF3
 |exact no _ (fun hm=>by have:=hm.2.2.2.2.2.2.1;omega) hF3
 |exact no _ (fun hm=>hm.2.2.2.2.2.1.elim (fun e=>by omega) (fun e=>h30 (by rw[e];rfl))) hF3
 |exact no _ (fun hm=>by have m:=hm.2.2.2.2.2.2.2.1;unfold okT at m;rw[WI (by omega)] at m;exact h32 m) hF3
 |exact no _ (fun hm=>by have m:=hm.2.2.2.2.2.2.2.1;unfold okT at m;rw[WJ h26] at m;exact h32 ⟨⟨by have:=W5.2 m.1;omega,by have:=m.2.1;omega⟩,m.2.2⟩) hF3
 |exact no _ (fun hm=>by rw[hm.2.1] at h36;cases h36) hF3
 |exact no _ (fun hm=>h42 hm.2.2.1) hF3
 |exact no _ (fun hm=>h47 hm.2.2.2.1) hF3
 |exact no _ (fun hm=>h52 hm.2.2.2.2.1) hF3
 |refine yes _ ?_ (hF3.trans hf6)
  have k2:okT p.2:=by
   unfold okT
   first
   |(rw[WI (by omega)];exact h32)
   |(rw[WJ h26];exact⟨fun e=>by have:=h32.1.1;have e0:=congrArg Xp e;have e1:([]:By).length=0:=rfl;omega,by have:=h32.1.2;omega,h32.2⟩)
  have k1:p.2.kind=2∨p.2.data=[]:=by
   first
   |exact .inl h20
   |exact .inr (W3.1 (by omega))
  exact⟨fun hm=>hm.2.2.2.2.2.2.2.2,fun hx=>⟨by omega,by simpa using h36,h42,h47,h52,k1,by omega,k2,hx⟩⟩
def ET(ps:List (NdH×Nd))(R:NdH×Nd→Prop)[DecidablePred R]:Int:=match ps.findIdx? (fun p=>decide (R p)) with|some i=>i|none=>-1
section
variable {R:NdH×Nd→Prop}[DecidablePred R]
theorem J0{ps:List (NdH×Nd)}{i:Nat}{p:NdH×Nd}(hp:ps[i]?=some p)(h1:R p)(h2:∀ (j:Nat) (q:NdH×Nd),j<i→ps[j]?=some q→¬ R q):ET ps R=i:=by
 have hi:=(WN.1 hp).1;have:ps.findIdx? (fun p=>decide (R p))=some i:=by
  rw[XN];refine⟨hi,by rw[(WN.1 hp).2];exact WO h1,fun j hj=>?_⟩;have:=h2 j _ hj (WK (by omega));simpa using this
 unfold ET;rw[this]
theorem AX{ps:List (NdH×Nd)}(h:∀ p∈ps,¬ R p):ET ps R = -1:=by
 have:ps.findIdx? (fun p=>decide (R p))=none:=by
  rw[X8];intro p hp;exact WL (h p hp)
 unfold ET;rw[this]
theorem JZ{ps:List (NdH×Nd)}:0≤ET ps R↔∃ p∈ps,R p:=by
 constructor
 · intro h
   apply WV;intro hn;rw[AX (fun p hp hr=>hn ⟨p,hp,hr⟩)] at h;omega
 · rintro⟨p,hp,hr⟩
   unfold ET;cases hf:ps.findIdx? (fun p=>decide (R p)) with
  |some i=>exact Int.natCast_nonneg i
  |none=>
     rw[X8] at hf;have:=hf p hp;simp[hr] at this
theorem BU(f:FuncId)(cs:List Value)(hf:fnB Tryz.prog f=true)(lo:Option Addr)(lc:Nat)(ps:List (NdH×Nd))(W:World)(hv:aO D W.heap lo lc ps)
 (hc:∀ w p,p∈ps→aA nob W w→Calls Tryz.prog f ([Value.agg (aE p).toArray]++cs).toArray w (Ret fun v w'=>v=.bool (decide (R p))∧aA nob w w')) :
 CA 149 [.slice lo ps.length lc,.func (.func f) #[] cs.toArray] W fun v w'=>v=iV (ET ps R)∧aA nob W w':=by
 have h63:=hv.1.WF;refine cS 19 [(0,_),(1,_)] Tryz.func149 ?_;refine Gz 14 ?_;refine S4 (β:=Nat) (fun i=>[(0,.slice lo ps.length lc),(1,.func (.func f) #[] cs.toArray),(7,iV ps.length),(8,iV i)]) (fun i w=>i≤ps.length∧(∀ (j:Nat) (q:NdH×Nd),j<i→ps[j]?=some q→¬ R q)∧aA nob W w) (fun i=>ps.length-i) 0 ⟨rfl,rfl,rfl,rfl,trivial⟩ ⟨WU _,fun j q hj=>by omega,VZ _ _⟩ ?_;rintro i w2 ⟨hi,hno,hF2⟩;refine fK 2 ?_ ?_<;>intro h9
 ·have hil:i<ps.length:=by omega
  obtain⟨p,hp⟩:∃ p,ps[i]?=some p:=⟨_,WK hil⟩
  have hpm:=WQ hp;have hv2:=hv.WG hF2;refine Gz 19 ?_;refine cL (S1 aQ rfl rfl hv2.1.non (by omega)) ?_;refine cL (Tf (cs:=aE p) aZ rfl (fun j v hj=>hv2.1.rowZ i rfl hp j v hj)) ?_;refine TS hf rfl rfl (hc w2 p hpm hF2) rfl ?_;intro v3 w3 hr3;obtain⟨rfl,hf3⟩:=hr3;by_cases h16:R p
  ·rw[WO h16];refine Gz 16 ?_;exact⟨_,rfl,by rw[J0 hp h16 hno],hF2.trans hf3⟩
  rw[WL h16];refine Gz 10 ?_;refine aG (i+1) ⟨by omega,fun j q hj hq=>?_,hF2.trans hf3⟩ (by show ps.length-(i+1)<ps.length-i;omega);by_cases e:j=i
  ·subst e;rw[hp] at hq;cases hq;exact h16
  ·exact hno j q (by omega) hq
 have hie:i=ps.length:=by omega
 subst hie;refine Gz 16 ?_;refine⟨_,rfl,?_,hF2⟩;rw[AX (fun q hq=>by obtain⟨j,hj⟩:=W8 hq;exact hno j q (WN.1 hj).1 hj)]
theorem uW(f:FuncId)(cs:List Value)(hf:fnB Tryz.prog f=true)(lo:Option Addr)(lc:Nat)(ps:List (NdH×Nd))(W:World)(hv:aO D W.heap lo lc ps)
 (hc:∀ w p,p∈ps→aA nob W w→Calls Tryz.prog f ([Value.agg (aE p).toArray]++cs).toArray w (Ret fun v w'=>v=.bool (decide (R p))∧aA nob w w')) :
 CA 108 [.slice lo ps.length lc,.func (.func f) #[] cs.toArray] W fun v w'=>v=.bool (decide (∃ p∈ps,R p))∧aA nob W w':=by
 refine cS 9 [(0,_),(1,_)] Tryz.func108 ?_;refine cA 9 PE (BU (R:=R) f cs hf lo lc ps W hv hc) ?_;rintro _ w2 ⟨rfl,hf2⟩;refine cL (Up rfl rfl) ?_;refine Gz 5 ?_;exact⟨_,rfl,congrArg _ (decide_eq_decide.2 JZ),hf2⟩
end
theorem HC(p:NdH×Nd)(W:World)(hn:NdV D W.heap p)(hsm:smN p.2) :
 CA 109 [.agg (aE p).toArray] W fun v w'=>v=.bool (decide (¬ dY p.2))∧aA nob W w':=by
 refine cS 6 [(0,_)] Tryz.func109 ?_;refine Gz 2 ?_;refine To rfl rfl ?_;intro w1 hg1 hs1 hf1;obtain⟨g,hg⟩:∃ g,g=W.heap.size:=⟨_,rfl⟩
 rw[←hg] at hg1 hs1 ⊢
 replace hg1:w1.heap[g]?=some (.cells (aE p).toArray 37 (0,0)):=hg1
 refine Gz 5 ?_;refine cL (Tf (cs:=aE p) aZ rfl (bI hg1 0 rfl)) ?_;refine cA 0 PZ (K2 p w1 (hn.WG hf1) hsm) ?_;rintro _ w2 ⟨rfl,hf2⟩;by_cases h4:dY p.2
 ·rw[WO h4];refine cL (Tj rfl) ?_;refine Gz 5 ?_
  first
  |exact⟨_,rfl,(congrArg Value.bool (WL (p:=¬ dY p.2) (fun h=>h h4))).symm,hf1.trans hf2⟩
  |exact⟨_,rfl,(congrArg Value.bool (WO (p:=¬ dY p.2) h4)).symm,hf1.trans hf2⟩
 rw[WL h4];refine cL (Tj rfl) ?_;refine Gz 5 ?_
 first
 |exact⟨_,rfl,(congrArg Value.bool (WL (p:=¬ dY p.2) (fun h=>h h4))).symm,hf1.trans hf2⟩
 |exact⟨_,rfl,(congrArg Value.bool (WO (p:=¬ dY p.2) h4)).symm,hf1.trans hf2⟩
end
end Go.Proofs.YthmmmagklhiiiaaGreatDoor
