/- lamella: what the law needs. No condition beyond the bounds that each states. -/
import Derived.Test.YthmmmagklhiiiaaGreatDoorBuildImagesQ3
namespace Go.Proofs.YthmmmagklhiiiaaGreatDoor
open Go Go.RowKit
set_option linter.unusedVariables false
set_option linter.unusedSectionVars false
set_option maxHeartbeats 64000000
open List renaming getElem?_eq_getElem → WK, length_append → WM, getElem?_eq_some_iff → WN, length_singleton → WP, mem_of_getElem? → WQ, length_take → WR, getD → WW, length_drop → WX, take_of_length_le → WY, length_nil → WZ, length_map → W2, length_eq_zero_iff → W3, length_pos_iff → W5, length_cons → W7, getElem?_of_mem → W8, append_assoc → W9, take_succ_eq_append_getElem → Xb, replicate → Xe, mem_singleton → Xg, nil_append → Xi, mem_append → Xj, take_length → Xl, take_append_drop → Xn, mem_cons → Xo, length → Xp, mem_map → Xq, pairwise_iff_getElem → Xu, getElem?_map → Xv, getElem?_set_self → Xx, cons_append → XA, getElem?_append_left → XC, not_mem_nil → XD, getElem_mem → XE, getElem_of_mem → XF, length_set → XH, drop_eq_getElem_cons → XI, flatMap_cons → XM, findIdx?_eq_some_iff_getElem → XN, append_nil → XP, map_cons → XQ, drop_of_length_le → XU, range → XV, foldl_cons → XZ, getElem?_drop → X1, filter_append → X2, findIdx?_eq_none_iff → X8, length_dropLast → Yd, take_take → Yk, getElem?_set → Yo, take_zero → Yr, filter_cons_of_pos → Yt, cons → YA, drop_drop → YG, mem_of_find?_eq_some → YK, take_left' → YP, range_succ → YQ, map_append → YR, length_filter_le → YY, mem_flatMap → Y3, take_drop → Zd, drop_zero → Zh, mem_or_eq_of_mem_set → Zk, idxOf_lt_length_iff → Zo
open _root_.Array renaming getElem?_eq_some_iff → WS
open _root_.Nat renaming le_refl → WT, zero_le → WU, le_trans → Xf, lt_of_lt_of_le → Xz, blt_eq → X0, add_sub_cancel_left → Yq, add_zero → YH, le_add_right → Y1, le_succ → Y6, zero_mul → Za
open Classical renaming byContradiction → WV, not_not → Xk
open UInt8 renaming ofNat → W4, toNat_ofNat' → XG, toNat_inj → XS
open Go.Op renaming bytesLess → Xd
open _root_.Int renaming toNat_natCast → Xm, eq_ofNat_of_zero_le → XB, natCast_nonneg → Yv
open Decidable renaming not_not → X4
open Prod renaming ext → YU
def suT(q:Rd)(k:Nat):Rd×(Nat→Int):=(suL.take k).foldl gF (q,zF)
theorem qM{q:Rd}{j:Nat}(h:j<10):suT q (j+1)=(gS (suL.getD j fdZ).b (suT q j).1,upd (suT q j).2 (suL.getD j fdZ).o (gV (suL.getD j fdZ).b (suT q j).1)):=by
 have hl:j<suL.length:=h;unfold suT;rw[Xb hl,List.foldl_append];simp only[XZ,List.foldl_nil,WW,WK hl,Option.getD_some];rfl
theorem Fp{q:Rd}{j:Nat}(h:j<10):(suT q (j+1)).2 (suL.getD j fdZ).o=gV (suL.getD j fdZ).b (suT q j).1:=by
 rw[qM h];simp[upd]
theorem Af{q:Rd}{j:Nat}(h:j<10):(cM (suT q j).2).set (suL.getD j fdZ).o (iV ((suT q (j+1)).2 (suL.getD j fdZ).o))=cM (suT q (j+1)).2:=by
 rw[Cz _ (CF h),Fp h,qM h]
theorem Fq(q:Rd):∀ k,k≤10→(suT q k).1.2.length≤q.2.length:=by
 intro k
 induction k with
|zero=>intro _;exact WT _
|succ n ih=>intro hn;rw[qM (by omega)];exact Xf (yJ _ _ _) (ih (by omega))
theorem Fs(q:Rd)(hl:q.2.length≤64)(j:Nat)(hj:j<10)(D:Nat→Prop)(p:Nat)(W:World)(hP:RdL D W.heap p (suT q j).1.1 (suT q j).1.2) :
 CA 44 [pT p,iV (suL.getD j fdZ).b] W fun v w'=>v=iV ((suT q (j+1)).2 (suL.getD j fdZ).o)∧RdL D w'.heap p (suT q (j+1)).1.1 (suT q (j+1)).1.2∧aA (· = p) W w':=by
 rw[Fp hj,qM hj];exact CT p _ _ _ W hP (by have:=Fq q j (by omega);omega)
def spQ(im:By):Rd:=(eJ 0 (im.take 64) 4,sH 0 (im.take 64) 4)
def spS(im:By):Rd×(Nat→Int):=suT (spQ im) 10
def spR(s:Rd):Rd:=gS 4 s
def spL(s:Rd):Int:=pD s.1 s.2
def spE(s:Rd):Int:=eJ s.1 s.2 (spL s)
def spB(s:Rd):By:=jE s.1 s.2 (spL s)
theorem vC{im:By}(h:64≤im.length):jE 0 (im.take 64) 4=im.take 4∧(spS im).2=suF im∧spL (spS im).1=26∧gV 4 (spS im).1=(dC ((im.drop 38).take 4):Nat)∧spE (spR (spS im).1)=0∧spB (spR (spS im).1)=(im.take 64).drop 42:=by
 have hl:(im.take 64).length=64:=by rw[WR];omega
 have e1:eJ 0 (im.take 64) 4=0:=kB (by decide) (by omega);obtain⟨c1,c2⟩:=gQ e1;have eq:spQ im=(0,(im.take 64).drop 4):=by unfold spQ;rw[e1,c2];rfl
 have es:spS im=suQ ((im.take 64).drop 4):=by unfold spS;rw[eq];rfl
 have hl2:((im.take 64).drop 4).length=60:=by rw[WX];omega
 obtain⟨h0,h1,h2⟩:=Fu (ys:=(im.take 64).drop 4) (by omega);have es1:(spS im).1=(0,(im.take 64).drop 38):=by rw[es];exact YU h0 (by rw[h2,YG])
 have hl3:((im.take 64).drop 38).length=26:=by rw[WX];omega
 have hg:=yA (n:=4) (s:=(0,(im.take 64).drop 38)) (by decide) (by decide) rfl (by show (4:Int)≤(((im.take 64).drop 38).length:Nat);omega);have e4:spR (spS im).1=(0,(im.take 64).drop 42):=by rw[es1];unfold spR;rw[hg.1,show ((4:Int).toNat)=4 from rfl];simp only[YG]
 have hl4:((im.take 64).drop 42).length=22:=by rw[WX];omega
 have e5:spL (spR (spS im).1)=22:=by rw[e4];show pD 0 _=22;unfold pD;rw[WI (by omega),hl4];rfl
 have e6:eJ 0 ((im.take 64).drop 42) 22=0:=kB (by decide) (by omega);obtain⟨c3,c4⟩:=gQ e6;refine⟨by rw[c1,show ((4:Int).toNat)=4 from rfl,Yk];rfl,by rw[es];rfl,?_,?_,?_,?_⟩
 ·rw[es1];show pD 0 _=26;unfold pD;rw[WI (by omega),hl3];rfl
 · rw[es1,hg.2,show ((4:Int).toNat)=4 from rfl,Zd,Yk,Zd]
   simp only[show min (38+4) 64=42 by rfl,show (38+4:Nat)=42 by rfl]
 ·unfold spE;rw[e5,e4];exact e6
 · unfold spB;rw[e5,e4]
   show jE 0 ((im.take 64).drop 42) 22=_;rw[c3,WY (by rw[hl4];decide)]
theorem OA{im:By}(h:64≤im.length)(h1:jE 0 (im.take 64) 4=suM)(h2:((dC ((im.drop 38).take 4):Nat):Int)=(gD (im.take 38):Nat))(h3:(suF im) 0=im.length)(h4:gH (suF im))(h5:¬ ∃ c∈spB (spR (spS im).1),c≠0):kS im:=by
 obtain⟨g1,g2,g3,g4,g5,g6⟩:=vC h;rw[g6] at h5;refine⟨h,h4,(Cy h).2 ⟨by rw[←g1];exact h1,by omega,(D2 (by rw[WX,WR];omega)).2 (fun c hc=>WV fun hn=>h5 ⟨c,hc,hn⟩)⟩,h3⟩
theorem Ie{im:By}(hok:kS im):jE 0 (im.take 64) 4=suM∧((dC ((im.drop 38).take 4):Nat):Int)=(gD (im.take 38):Nat)∧¬ ∃ c∈spB (spR (spS im).1),c≠0:=by
 obtain⟨h,h4,h5,h3⟩:=hok;obtain⟨g1,g2,g3,g4,g5,g6⟩:=vC h;obtain⟨a,b,c⟩:=(Cy h).1 h5;refine⟨by rw[g1];exact a,by omega,?_⟩;rw[g6];rintro⟨x,hx,hn⟩;exact hn ((D2 (by rw[WX,WR];omega)).1 c x hx)
theorem GA(tp:Nat)(io:Option Addr)(ic:Nat)(im:By)(W:World)(ht:TbV W.heap tp)(hv:Vw b8 W.heap io ic im)(hb:im.length≤1099511627776) :
 CA 14 [pT tp,.slice io im.length ic] W fun v w'=>v=.tuple #[.agg (cM (fA im).1).toArray,iV (fA im).2]∧aA nob W w':=by
 have hl63:=hv.WF;have hle:=hv.le;obtain⟨r,er⟩:∃ r,r=W.heap.size:=⟨_,rfl⟩
 have hml:(im.take 64).length=min 64 im.length:=WR;obtain⟨ys,hys⟩:∃ ys,ys=im.take 64:=⟨_,rfl⟩
 obtain⟨q0,hq0⟩:∃ q0,q0=spQ im:=⟨_,rfl⟩
 have hql:q0.2.length≤64:=by rw[hq0];have:(spQ im).2.length≤(im.take 64).length:=yJ _ _ _;omega
 refine cS 99 [(0,_),(1,_)] Tryz.func14 ?_;refine Gz 2 ?_;refine S5 qH rfl ?_;intro w1 hg1 hs1 hf1;have hg1:w1.heap[W.heap.size]?=some (.cells (cM zF).toArray 44 (0,0)):=hg1;rw[←er] at hg1 ⊢;refine Gz 8 ?_;refine cL (S3 (u:=iV (ys.length:Nat)) (Uv rfl rfl) (by rw[hys,hml];congr 1;omega)) ?_;refine cL (S3 (u:=.slice io ys.length ic) (Tl aH rfl rfl (by rw[hys,hml];omega)) (by rw[aV];rfl)) ?_;refine SZ Sv rfl (IG io ic ys w1 (by rw[hys];exact(hv.take 64).WG hf1) (by rw[hys,hml];omega)) rfl ?_;rintro _ w2 ⟨p,rfl,hp,hP,hf2⟩;have hlp:=RdO.lt hP;have hz1:=hf1.size;have hz2:=hf2.size;have hsw1:w1.heap.size=W.heap.size+1:=hs1;refine Gz 5 ?_;refine S5 qH rfl ?_;intro w3 hg3 hs3 hf3;have hg3:w3.heap[w2.heap.size]?=some (.cells (cM (suT q0 0).2).toArray 44 (0,0)):=hg3;obtain⟨q,eq⟩:∃ q,q=w2.heap.size:=⟨_,rfl⟩
 rw[←eq] at hg3 ⊢;refine Gz 5 ?_;refine SZ N3 rfl (BC p 0 ys 4 w3 (hP.WG hf3) (by rw[hys,hml];omega)) rfl ?_;rintro _ w4 ⟨o4,c4,rfl,ho4,hfr4,hP4,hF4⟩;have hz3:=hf3.size;have hz4:=hF4.size;have hg4:=hF4.obj hg3 (fun h=>by have h:q=p:=h;omega);have hP4:RdL (fun k=>w1.heap.size≤k∧k<w2.heap.size) w4.heap p (suT q0 0).1.1 (suT q0 0).1.2:=by rw[hq0];rw[hys] at hP4;exact hP4
 have hJ4:aA (fun k=>w1.heap.size≤k) w1 w4:=((hf2.trans hf3).any).trans (hF4.mono (fun k h=>by have h:k=p:=h;omega));refine cL (TM aH ty5 ty9 rfl ho4.vw) ?_;refine cA 6 O2 (Ad q w4) ?_;rintro _ w5 ⟨l,rfl,ho5,hl1,hl2,hf5⟩;have hz5:=hf5.size;have hJ5:=hJ4.trans hf5.any;refine Gz 5 ?_;refine S4 (β:=Nat) (fun i=>[(0,pT tp),(1,.slice io im.length ic),(4,pT r),(6,pT p),(7,pT q),(8,.string (bs (jE 0 ys 4))),(26,.slice (some ⟨l,0,none⟩) oW.length 7),(27,iV (oW.length:Nat)),(28,iV i)]) (fun i w=>i≤7∧RdL (fun k=>w1.heap.size≤k∧k<w2.heap.size) w.heap p (suT q0 i).1.1 (suT q0 i).1.2∧w.heap[q]?=some (.cells (cM (suT q0 i).2).toArray 44 (0,0))∧Own (ptO q) 72 w.heap (some ⟨l,0,none⟩) 7 oW∧aA (fun k=>w1.heap.size≤k) w1 w∧w5.heap.size≤w.heap.size) (fun i=>7-i) 0 ⟨rfl,rfl,rfl,rfl,rfl,rfl,rfl,rfl,rfl,trivial⟩ ⟨by decide,hP4.WG hf5,hf5.obj hg4 id,ho5,hJ5,WT _⟩ ?_;rintro i w6 ⟨hi,hP6,hg6,how,hJ6,hz56⟩;refine fK 2 ?_ ?_<;>intro h29
 ·have hi7:i<7:=by have:(i:Int)<(oW.length:Nat):=h29;have e:oW.length=7:=rfl;omega
  refine Gz 10 ?_;refine cL (SY Bt rfl rfl how.vw.non (by have e:oW.length=7:=rfl;omega)) ?_;refine cL (S2 Al rfl (how.vw.gz 0 i rfl (by show i<7;exact hi7))) ?_;rw[(FN hi7).1];refine Gz 6 ?_;refine SZ N2 rfl (by have h:=Fs q0 hql i (by omega) _ p w6 hP6;rw[(FN hi7).2] at h;exact h) rfl ?_;rintro _ w7 ⟨rfl,hP7,hF7⟩;have hz7:=hF7.size;have hg7:=hF7.obj hg6 (fun h=>by have h:q=p:=h;omega);have hJ7:=hJ6.trans (hF7.mono (fun k h=>by have h:k=p:=h;show w1.heap.size≤k;omega));have how7:=how.WH hF7 (fun a ha e=>by cases ha;have e:l=p:=e;omega);refine Gz 1 ?_;refine S6 aF rfl rfl rfl hg7 (by have:=CF (j:=i) (by omega);rw[X0];exact this) ?_;intro w8 hg8 hs8 hF8;rw[Af (by omega)] at hg8;have hP8:=hP7.WH hF8 (fun k hk e=>by have e:k=q:=e;have:=hk.2;omega);have hJ8:=hJ7.trans (hF8.mono (fun k h=>by have h:k=q:=h;show w1.heap.size≤k;omega));have how8:=how7.WH hF8 (fun a ha e=>by cases ha;have e:l=q:=e;omega);refine Gz 7 ?_;exact aG (i+1) ⟨by omega,hP8,hg8,how8,hJ8,by have h:w8.heap.size=w7.heap.size:=hs8;omega⟩ (by show 7-(i+1)<7-i;omega)
 have hi7:i=7:=by have h29:¬ (i:Int)<(oW.length:Nat):=h29;have e:oW.length=7:=rfl;omega
 subst hi7;refine cA 12 O1 (uA q w6) ?_;rintro _ w9 ⟨l2,rfl,ho9,hm1,hm2,hf9⟩;have hz6:=hJ6.size;have hz9:=hf9.size;have hJ9:=hJ6.trans hf9.any;refine Gz 5 ?_;refine S4 (β:=Nat) (fun i=>[(0,pT tp),(1,.slice io im.length ic),(4,pT r),(6,pT p),(7,pT q),(8,.string (bs (jE 0 ys 4))),(37,.slice (some ⟨l2,0,none⟩) oN.length 3),(38,iV (oN.length:Nat)),(39,iV i)]) (fun i w=>i≤3∧RdL (fun k=>w1.heap.size≤k∧k<w2.heap.size) w.heap p (suT q0 (7+i)).1.1 (suT q0 (7+i)).1.2∧w.heap[q]?=some (.cells (cM (suT q0 (7+i)).2).toArray 44 (0,0))∧Own (ptO q) 72 w.heap (some ⟨l2,0,none⟩) 3 oN∧aA (fun k=>w1.heap.size≤k) w1 w) (fun i=>3-i) 0 ⟨rfl,rfl,rfl,rfl,rfl,rfl,rfl,rfl,rfl,trivial⟩ ⟨by decide,hP6.WG hf9,hf9.obj hg6 id,ho9,hJ9⟩ ?_;rintro i w6 ⟨hi,hP6,hg6,how,hJ6⟩;refine fK 2 ?_ ?_<;>intro h40
 ·have hi3:i<3:=by have:(i:Int)<(oN.length:Nat):=h40;have e:oN.length=3:=rfl;omega
  refine Gz 10 ?_;refine cL (SY Bt rfl rfl how.vw.non (by have e:oN.length=3:=rfl;omega)) ?_;refine cL (S2 Al rfl (how.vw.gz 0 i rfl (by show i<3;exact hi3))) ?_;rw[(FO hi3).1];refine Gz 6 ?_;refine SZ N2 rfl (by have h:=Fs q0 hql (7+i) (by omega) _ p w6 hP6;rw[(FO hi3).2] at h;exact h) rfl ?_;rintro _ w7 ⟨rfl,hP7,hF7⟩;have hz7:=hF7.size;have hg7:=hF7.obj hg6 (fun h=>by have h:q=p:=h;omega);have hJ7:=hJ6.trans (hF7.mono (fun k h=>by have h:k=p:=h;show w1.heap.size≤k;omega));have how7:=how.WH hF7 (fun a ha e=>by cases ha;have e:l2=p:=e;omega);refine Gz 1 ?_;refine S6 aF rfl rfl rfl hg7 (by have:=CF (j:=7+i) (by omega);rw[X0];exact this) ?_;intro w8 hg8 hs8 hF8;rw[Af (by omega)] at hg8;have hP8:=hP7.WH hF8 (fun k hk e=>by have e:k=q:=e;have:=hk.2;omega);have hJ8:=hJ7.trans (hF8.mono (fun k h=>by have h:k=q:=h;show w1.heap.size≤k;omega));have how8:=how7.WH hF8 (fun a ha e=>by cases ha;have e:l2=q:=e;omega);refine Gz 7 ?_;exact aG (i+1) ⟨by omega,hP8,hg8,how8,hJ8⟩ (by show 3-(i+1)<3-i;omega)
 have hi3:i=3:=by have h40:¬ (i:Int)<(oN.length:Nat):=h40;have e:oN.length=3:=rfl;omega
 subst hi3;have eS:suT q0 10=spS im:=by rw[hq0];rfl
 have hP6:RdL (fun k=>w1.heap.size≤k∧k<w2.heap.size) w6.heap p (suT q0 10).1.1 (suT q0 10).1.2:=hP6;have hg6:w6.heap[q]?=some (.cells (cM (suT q0 10).2).toArray 44 (0,0)):=hg6;rw[eS] at hP6 hg6;obtain⟨s,hs⟩:∃ s,s=(spS im).1:=⟨_,rfl⟩
 rw[←hs] at hP6;have hsl:s.2.length≤64:=by rw[hs,←eS];have:=Fq q0 10 (by decide);omega
 refine cA 12 O0 (Ae p s.1 s.2 w6 hP6) ?_;rintro _ wq ⟨rfl,hwq⟩;subst wq;rw[show pD s.1 s.2=spL s from rfl];refine Gz 6 ?_;refine SZ N2 rfl (CT p s.1 s.2 4 w6 hP6 (by omega)) rfl ?_;rintro _ w10 ⟨rfl,hP10,hF10⟩;have hP10:RdL (fun k=>w1.heap.size≤k∧k<w2.heap.size) w10.heap p (spR s).1 (spR s).2:=hP10;have hrl:(spR s).2.length≤s.2.length:=yJ _ _ _;have hJ10:=hJ6.trans (hF10.mono (fun k h=>by have h:k=p:=h;show w1.heap.size≤k;omega));have hg10:=hF10.obj hg6 (fun h=>by have h:q=p:=h;omega);obtain⟨vn,hvn⟩:∃ vn,vn=dC (jE (dH s.1 4) s.2 4):=⟨_,rfl⟩
 have hvn4:vn<4294967296:=by have h1:=vA (jE (dH s.1 4) s.2 4);have h2:=C7 s.1 s.2 4;rw[←hvn] at h1;exact Xz h1 (by have:=Nat.pow_le_pow_right (n:=256) (by decide) h2;omega)
 rw[←hvn];refine cL (Td (n:=((vn:Nat):Int)) is3 KV rfl (mE hvn4)) ?_;refine cA 7 O0 (Ae p (spR s).1 (spR s).2 w10 hP10) ?_;rintro _ wq ⟨rfl,hwq⟩;subst wq;rw[show pD (spR s).1 (spR s).2=spL (spR s) from rfl];refine SZ N3 rfl (BC p (spR s).1 (spR s).2 (spL (spR s)) w10 hP10 (by omega)) rfl ?_;rintro _ w11 ⟨o11,c11,rfl,ho11,hfr11,hP11,hF11⟩;have hJ11:=hJ10.trans (hF11.mono (fun k h=>by have h:k=p:=h;show w1.heap.size≤k;omega));have hg11:=hF11.obj hg10 (fun h=>by have h:q=p:=h;omega);have hP11:RdL (fun k=>w1.heap.size≤k∧k<w2.heap.size) w11.heap p (spE (spR s)) (sH (spR s).1 (spR s).2 (spL (spR s))):=hP11;have ho11:Own b8 5 w11.heap o11 c11 (spB (spR s)):=ho11;rw[show jE (spR s).1 (spR s).2 (spL (spR s))=spB (spR s) from rfl];have hW11:aA nob W w11:=(hf1.any.WD hJ11 (fun k h=>.inl h)).fresh (fun k h=>by omega);have hr11:=hJ11.obj hg1 (fun h=>by have h:w1.heap.size≤r:=h;omega);refine Gz 9 ?_;refine SZ Dv rfl (H6 p _ _ w11 hP11) rfl ?_;rintro _ wq ⟨rfl,hwq⟩;subst wq;refine fK 0 ?_ ?_<;>intro h61
 ·have hno:¬ kS im:=fun h=>h61 (by rw[hs];exact(vC h.1).2.2.2.2.1);refine Gz 10 ?_;refine cL (bU (cM zF) qX qH) ?_;refine sA rfl dT (by exact fR _) hr11 ?_;intro w20 hg20 hs20 hf20;have hFx:aA nob W w20:=hW11.tw hf20;refine Gz 5 ?_;refine rC hg20 dT ?_;have e:fA im=(zF,2):=WI hno;exact⟨_,rfl,by rw[e],hFx⟩
 refine fW 3 ?_ ?_<;>intro h65
 ·have hno:¬ kS im:=fun h=>by have:=h.1;omega
  refine Gz 6 ?_;refine cL (bU (cM zF) qX qH) ?_;refine sA rfl dT (by exact fR _) hr11 ?_;intro w20 hg20 hs20 hf20;have hFx:aA nob W w20:=hW11.tw hf20;refine Gz 5 ?_;refine rC hg20 dT ?_;have e:fA im=(zF,2):=WI hno;exact⟨_,rfl,by rw[e],hFx⟩
 have h64:64≤im.length:=by omega
 obtain⟨g1,g2,g3,g4,g5,g6⟩:=vC h64;rw[←hs] at g3 g4;have g4:((vn:Nat):Int)=(dC ((im.drop 38).take 4):Nat):=by rw[hvn];exact g4
 rw[g2] at hg11;rw[g3];refine Gz 9 ?_;refine TE (TW (b:=suM) rfl rfl) rfl (fun h69=>?_) (fun h69=>?_)
 ·have hm1:jE 0 (im.take 64) 4=suM:=by rw[←hys];exact h69
  refine Gz 6 ?_;refine cW (S3 (u:=.slice io (im.take 38).length ic) (Tl aH rfl rfl (by omega)) (by rw[aV,WR,Nat.min_eq_left (by omega)];rfl)) ?_;refine Tb rfl rfl N1 rfl (Ee tp io ic (im.take 38) w11 (hW11.obj ht id) ((hv.take 38).WG hW11)) rfl ?_;rintro _ wq ⟨rfl,hwq⟩;subst wq;refine fW 0 ?_ ?_<;>intro h78
  ·have hm2:((dC ((im.drop 38).take 4):Nat):Int)=(gD (im.take 38):Nat):=by rw[←g4];exact h78
   refine fW 6 ?_ ?_<;>intro h85
   ·refine Gz 2 ?_;refine cW (Tf (cs:=cM (suF im)) dT rfl (bI hg11 0 rfl)) ?_;refine Tb rfl rfl OZ rfl (CC (suF im) w11) rfl ?_;rintro _ w12 ⟨rfl,hf12⟩;have hr12:=hf12.obj hr11 id;have hg12:=hf12.obj hg11 id;have hW12:=hW11.trans hf12;by_cases h89:gH (suF im)
    ·rw[WO h89];refine Gz 8 ?_;refine cL (Tj rfl) ?_;refine Gz 2 ?_;refine Tb rfl rfl Su rfl (zI (R:=fun c=>c≠0) 51 St o11 c11 (spB (spR s)) w12 (ho11.WG hf12).vw Ed) rfl ?_;rintro _ wq ⟨rfl,hwq⟩;subst wq;by_cases h95:∃ c∈spB (spR s),c≠0
     ·rw[WO h95];have hno:¬ kS im:=fun h=>(Ie h).2.2 (by rw[←hs];exact h95);refine Gz 6 ?_;refine cL (bU (cM zF) qX qH) ?_;refine sA rfl dT (by exact fR _) (by first|exact hr12|exact hr11) ?_;intro w20 hg20 hs20 hf20;have hFx:aA nob W w20:=by first|exact hW12.tw hf20|exact hW11.tw hf20
      refine Gz 5 ?_;refine rC hg20 dT ?_;have e:fA im=(zF,2):=WI hno;exact⟨_,rfl,by rw[e],hFx⟩
     rw[WL h95];have hyes:kS im:=OA h64 hm1 hm2 h85 h89 (by rw[←hs];exact h95);refine Gz 8 ?_;refine cL (Tf (cs:=cM (suF im)) dT rfl (bI hg12 0 rfl)) ?_;refine sA rfl dT (by exact fR _) hr12 ?_;intro w20 hg20 hs20 hf20;have hFx:aA nob W w20:=hW12.tw hf20;refine Gz 4 ?_;refine rC hg20 dT ?_;have e:fA im=(suF im,0):=WJ hyes;exact⟨_,rfl,by rw[e],hFx⟩
    rw[WL h89];have hno:¬ kS im:=fun h=>h89 h.2.1;refine Gz 8 ?_;refine cL (Tj rfl) ?_;refine Gz 9 ?_;refine cL (bU (cM zF) qX qH) ?_;refine sA rfl dT (by exact fR _) (by first|exact hr12|exact hr11) ?_;intro w20 hg20 hs20 hf20;have hFx:aA nob W w20:=by first|exact hW12.tw hf20|exact hW11.tw hf20
    refine Gz 5 ?_;refine rC hg20 dT ?_;have e:fA im=(zF,2):=WI hno;exact⟨_,rfl,by rw[e],hFx⟩
   have hno:¬ kS im:=fun h=>h85 h.2.2.2;refine Gz 12 ?_;refine cL (Tj rfl) ?_;refine Gz 9 ?_;refine cL (bU (cM zF) qX qH) ?_;refine sA rfl dT (by exact fR _) (by first|exact hr12|exact hr11) ?_;intro w20 hg20 hs20 hf20;have hFx:aA nob W w20:=by first|exact hW12.tw hf20|exact hW11.tw hf20
   refine Gz 5 ?_;refine rC hg20 dT ?_;have e:fA im=(zF,2):=WI hno;exact⟨_,rfl,by rw[e],hFx⟩
  have hno:¬ kS im:=fun h=>h78 (by rw[g4];exact(Ie h).2.1);refine Gz 19 ?_;refine cL (Tj rfl) ?_;refine Gz 9 ?_;refine cL (bU (cM zF) qX qH) ?_;refine sA rfl dT (by exact fR _) (by first|exact hr12|exact hr11) ?_;intro w20 hg20 hs20 hf20;have hFx:aA nob W w20:=by first|exact hW12.tw hf20|exact hW11.tw hf20
  refine Gz 5 ?_;refine rC hg20 dT ?_;have e:fA im=(zF,2):=WI hno;exact⟨_,rfl,by rw[e],hFx⟩
 have hno:¬ kS im:=fun h=>h69 (by rw[hys];exact(Ie h).1);refine Gz 28 ?_;refine cL (Tj rfl) ?_;refine Gz 9 ?_;refine cL (bU (cM zF) qX qH) ?_;refine sA rfl dT (by exact fR _) (by first|exact hr12|exact hr11) ?_;intro w20 hg20 hs20 hf20;have hFx:aA nob W w20:=by first|exact hW12.tw hf20|exact hW11.tw hf20
 refine Gz 5 ?_;refine rC hg20 dT ?_;have e:fA im=(zF,2):=WI hno;exact⟨_,rfl,by rw[e],hFx⟩
theorem DF(x:Ent):∀ v∈nE x,v.oneCell'=true:=(dQ x).2
theorem J7(x:Ent)(last:By)(W:World)(hx:x.1.length≤maxLen):CA 172 [.agg (nE x).toArray,.string (bs last)] W fun v w'=>v=.bool (decide (jI x last))∧aA nob W w':=by
 refine cS 35 [(0,_),(1,_)] Tryz.func172 ?_;refine Gz 2 ?_;refine To rfl rfl ?_;intro w1 hg1 hs1 hf1;have hg2:w1.heap[W.heap.size]?=some (.cells (nE x).toArray 157 (0,0)):=hg1;obtain⟨g,eg⟩:∃ g,g=W.heap.size:=⟨_,rfl⟩
 rw[←eg] at hg2 ⊢;refine cA 7 M3 (Cq x.1 w1 hx) ?_;rintro _ w2 ⟨rfl,hf2⟩;have hg2:=hf2.obj hg2 id;have hW:=hf1.trans hf2;refine fK 0 ?_ ?_<;>intro h8
 ·have hv0:dN x.1=0:=h8;refine Gz 4 ?_;refine Tz rfl rfl (Tm (UA (a:=x.1) (b:=last) rfl rfl)) rfl (fun h13=>?_) (fun h13=>?_)
  ·have hlt:Xd last x.1=true:=by rw[fT] at h13;simpa using h13
   refine fW 4 ?_ ?_<;>intro h18
   ·refine fW 4 ?_ ?_<;>intro h23
    ·refine fW 4 ?_ ?_<;>intro h28
     ·refine fW 4 ?_ ?_<;>intro h33
      ·refine Gz 6 ?_;exact⟨_,rfl,by rw[WO (show jI x last from ⟨hv0,hlt,h18,h23,h28,h33⟩)],hW⟩
      refine Gz 6 ?_;exact⟨_,rfl,by rw[WL (fun h:jI x last=>by obtain⟨m1,m2,m3,m4,m5,m6⟩:=h;first|exact h8 m1|exact hlt m2|omega)],hW⟩
     refine Gz 11 ?_;exact⟨_,rfl,by rw[WL (fun h:jI x last=>by obtain⟨m1,m2,m3,m4,m5,m6⟩:=h;first|exact h8 m1|exact hlt m2|omega)],hW⟩
    refine Gz 16 ?_;exact⟨_,rfl,by rw[WL (fun h:jI x last=>by obtain⟨m1,m2,m3,m4,m5,m6⟩:=h;first|exact h8 m1|exact hlt m2|omega)],hW⟩
   refine Gz 21 ?_;exact⟨_,rfl,by rw[WL (fun h:jI x last=>by obtain⟨m1,m2,m3,m4,m5,m6⟩:=h;first|exact h8 m1|exact hlt m2|omega)],hW⟩
  have hlt:¬ Xd last x.1=true:=by rw[fT] at h13;simpa using h13
  refine Gz 26 ?_;exact⟨_,rfl,by rw[WL (fun h:jI x last=>by obtain⟨m1,m2,m3,m4,m5,m6⟩:=h;first|exact h8 m1|exact hlt m2|omega)],hW⟩
 refine Gz 31 ?_;exact⟨_,rfl,by rw[WL (fun h:jI x last=>by obtain⟨m1,m2,m3,m4,m5,m6⟩:=h;first|exact h8 m1|exact hlt m2|omega)],hW⟩
theorem Jd{x:Ent}{last:By}(h:jI x last):x.1.length≤255:=(lS h).1
def chainB:By→List Ent→Bool
|_,[]=>true
|last,x::r=>decide (jI x last) && chainB x.1 r
theorem yO:∀ (L:List Ent) (last:By),chainB last L=true↔bM last L
|[],_=>by simp[chainB,bM]
|x::r,last=>by simp only[chainB,bM,Bool.and_eq_true,decide_eq_true_eq,yO r]
instance (last:By)(L:List Ent):Decidable (bM last L):=decidable_of_iff _ (yO L last)
theorem WrO.bound{cs:Int→Value→List Value}{T:TypeId}{D D':Nat→Prop}{H:Array Obj}{p:Nat}{E:Int}{xs:By}(h:WrO cs T D H p E xs)(hd:∀ k,D k→k<H.size→D' k):WrO cs T D' H p E xs:=by
 have hl:=h.lt;obtain⟨ao,c,hg,ho,h1,h2,h3⟩:=h;exact⟨ao,c,hg,ho,h1,hd _ h2 hl,fun k hk=>hd k (h3 k hk) (by obtain⟨a,ha,rfl⟩:=hk;exact ho.lt a ha)⟩
def gE(L:List Ent):By×Int:=if bM [] L then (bK L,0) else ([],1)
theorem tT:∀ {L:List Ent} {last:By} {i:Nat} {x:Ent},bM last L→L[i]?=some x→jI x (if i=0 then last else (L.getD (i-1) yG).1)
|[],_,_,_,_,h=>by simp at h
|y::r,last,0,x,h,hx=>by simp at hx;subst hx;exact h.1
|y::r,last,i+1,x,h,hx=>by
   have:=tT (i:=i) h.2 (by simpa using hx);rw[WI (by omega)];by_cases hi:i=0
   ·subst hi;simpa using this
   · rw[WI hi] at this
     have e:(y::r).getD (i+1-1) yG=r.getD (i-1) yG:=by
      obtain⟨k,rfl⟩:∃ k,i=k+1:=⟨i-1,by omega⟩
      simp
     rw[e];exact this
theorem kD{L:List Ent}{i:Nat}{x:Ent}(hx:L[i]?=some x):L.take (i+1)=L.take i++[x]:=by
 obtain⟨h,rfl⟩:=WN.1 hx;exact Xb h
theorem pV{L:List Ent}{i:Nat}(h0:0<i)(h:i≤L.length):xQ (L.take i)=(L.getD (i-1) yG).1:=by
 obtain⟨k,rfl⟩:∃ k,i=k+1:=⟨i-1,by omega⟩
 have hk:k<L.length:=by omega
 rw[kD (WK hk),EH];simp[WW,hk]
theorem mR{L:List Ent}{last:By}(h:bM last L):(bK L).length≤261*L.length:=by
 induction L generalizing last with
|nil=>simp[bK]
|cons x r ih=>
   have h1:=ih h.2;have h2:=Jd h.1;show (lG x++bK r).length≤_;rw[WM,sC,W7];omega
theorem Aq(D:Nat→Prop)(p:Nat)(xs s:By)(W:World)(hs:s.length≤255)(hP:WrR D W.heap p 0 xs)(hD:∀ k,W.heap.size≤k→D k)(hb:xs.length≤549755813888) :
 CA 137 [pT p,.string (bs s)] W fun v w'=>WrR D w'.heap p 0 (xs++(W4 s.length::s))∧aA D W w':=by
 refine(qS D p 0 xs s W hP hD hb (by omega)).mono ?_;rintro e w' ⟨v,rfl,h1,h2⟩;have e1:gX 0 s=0:=by unfold gX;rw[WI (by decide),WI (by omega)]
 have e2:jF 0 xs s=xs++(W4 s.length::s):=by unfold jF;rw[WI (by omega)]
 rw[e1,e2] at h1;exact⟨_,rfl,h1,h2⟩
theorem N8{x:Ent}(h:Md x):¬ eX x.2.1 1:=fX (m:=255) (by decide) (by decide) h.2.1 (by have:=h.2.2.1;omega) (by decide)
theorem N7{x:Ent}(h:Md x):¬ eX x.2.2 4:=fX (m:=4294967295) (by decide) (by decide) h.2.2.2.1 h.2.2.2.2 (by decide)
theorem IF(lo:Option Addr)(lc:Nat)(L:List Ent)(W:World)(hv:VwM 3 nE W.heap lo lc L)(hsm:∀ x∈L,x.1.length≤maxLen)(hll:L.length≤1073741824) :
 CA 87 [.slice lo L.length lc] W (sP W (gE L)):=by
 have h63:=hv.WF;obtain⟨p,ep⟩:∃ p,p=W.heap.size:=⟨_,rfl⟩
 refine cS 67 [(0,_)] Tryz.func87 ?_;refine Gz 8 ?_;refine cL (TC pM kW rfl rfl) ?_;refine S5 kW rfl ?_;intro w1 hg1 hs1 hf1;rw[←ep] at hg1 ⊢;refine sA rfl qF (by simp[Value.oneCell']) hg1 ?_;intro w1b hg1b hs1b hf1b;have hF1:aA nob W w1b:=hf1.tw hf1b;refine Gz 9 ?_;refine S4 (β:=Nat) (fun i=>[(0,.slice lo L.length lc),(4,pT p),(5,iV i)]) (fun i w=>i≤L.length∧bM [] (L.take i)∧WrR (fun k=>p≤k∧k<w.heap.size) w.heap p 0 (bK (L.take i))∧aA nob W w) (fun i=>L.length-i) 0 ⟨rfl,rfl,rfl,trivial⟩ ⟨WU _,trivial,Wf hg1b ⟨WT _,(WS.1 hg1b).1⟩,hF1⟩ ?_;rintro i w2 ⟨hi,hch,hP2,hF2⟩;refine fK 6 ?_ ?_<;>intro h11
 ·have hil:i<L.length:=by omega
  obtain⟨x,hx⟩:∃ x,L[i]?=some x:=⟨_,WK hil⟩
  have hxm:=hsm x (WQ hx);have hv2:=hv.WG hF2;have hchl:=mR hch;have htl:(L.take i).length=i:=by rw[WR];omega
  have hnext:bM [] L→jI x (if i=0 then [] else (L.getD (i-1) yG).1):=fun h=>tT h hx;refine Gz 11 ?_;refine cL (S1 qQ rfl rfl hv2.non (by omega)) ?_;refine cL (Tf (cs:=nE x) yX rfl (fun j v hj=>hv2.rowZ i rfl hx j v hj)) ?_;refine S5 zU rfl ?_;intro w3 hg3 hs3 hf3;obtain⟨q,eq⟩:∃ q,q=w2.heap.size:=⟨_,rfl⟩
  rw[←eq] at hg3 ⊢;refine sA rfl yX (by exact DF _) hg3 ?_;intro w4 hg4 hs4 hf4;have hF24:aA nob w2 w4:=hf3.tw hf4;have hv4:=hv2.WG hF24;have hF4:=hF2.trans hF24;have hz2:=hF2.size;refine Gz 4 ?_;refine Tc 39 (fun H=>H[q]?=some (.cells (nE x).toArray 157 (0,0))∧VwM 3 nE H lo lc L) [2] [0,1,2,3,4,5,6,7,8,9,10,11,12,13,14,15,16,17,18,19,20,21,22,23,24,25,26,27,28,29,30,31,32,33,34,35,36,37,38] aI (by kernel_rfl) (⟨hg4,hv4⟩) ?_;refine Gz 2 ?_;refine S7 rfl rfl (SZ M6 rfl (An x.1 _ hxm) rfl ?_);rintro _ wq ⟨rfl,rfl⟩;refine Tg (by exact⟨hg4,hv4⟩) ?_;refine xK 0 ?_ ?_<;>intro h21
  ·refine Gz 52 ?_;have hno:¬ bM [] L:=fun h=>by
    obtain⟨m1,m2,m3,m4,m5,m6⟩:=hnext h;by_cases hi0:i=0
    ·first|exact h21 m1|omega
    · rw[WI hi0] at m2
      first|exact h21 m1|(rw[hyd] at m2;exact hge m2)|omega
   have e:gE L=([],1):=WI hno;rw[e];exact⟨_,rfl,none,0,rfl,V8,V6,hF4.draws 1⟩
  refine xW 2 ?_ ?_<;>intro h24
  ·have hpos:0<i:=by omega
   obtain⟨y,hy⟩:∃ y,L[i-1]?=some y:=⟨_,WK (by omega)⟩
   have hyd:L.getD (i-1) yG=y:=by rw[WW,hy];rfl
   refine Gz 4 ?_;refine xV rfl (S1 qQ rfl rfl hv4.non (by omega)) ?_;refine Gz 1 ?_;refine xV rfl (S9 eG rfl (fun H hH=>hH.2.rowZ (i-1) (by omega) hy 0 _ rfl)) ?_;refine Gz 2 ?_;refine T8 rfl rfl rfl rfl (Tm (UX (a:=y.1) (b:=x.1) rfl rfl)) rfl (fun h34=>?_) (fun h34=>?_)
   ·have hge:¬ Xd y.1 x.1=true:=by simpa using h34
    refine xV rfl (T2 rfl rfl) ?_;refine Gz 38 ?_;have hno:¬ bM [] L:=fun h=>by
     obtain⟨m1,m2,m3,m4,m5,m6⟩:=hnext h;by_cases hi0:i=0
     ·first|exact h21 m1|omega
     · rw[WI hi0] at m2
       first|exact h21 m1|(rw[hyd] at m2;exact hge m2)|omega
    have e:gE L=([],1):=WI hno;rw[e];exact⟨_,rfl,none,0,rfl,V8,V6,hF4.draws 1⟩
   have hlt:Xd y.1 x.1=true:=by simpa using h34
   refine xV rfl (T2 rfl rfl) ?_;refine xW 4 ?_ ?_<;>intro h40
   ·refine Gz 33 ?_;have hno:¬ bM [] L:=fun h=>by
     obtain⟨m1,m2,m3,m4,m5,m6⟩:=hnext h;by_cases hi0:i=0
     ·first|exact h21 m1|omega
     · rw[WI hi0] at m2
       first|exact h21 m1|(rw[hyd] at m2;exact hge m2)|omega
    have e:gE L=([],1):=WI hno;rw[e];exact⟨_,rfl,none,0,rfl,V8,V6,hF4.draws 1⟩
   refine xW 4 ?_ ?_<;>intro h45
   ·refine Gz 28 ?_;have hno:¬ bM [] L:=fun h=>by
     obtain⟨m1,m2,m3,m4,m5,m6⟩:=hnext h;by_cases hi0:i=0
     ·first|exact h21 m1|omega
     · rw[WI hi0] at m2
       first|exact h21 m1|(rw[hyd] at m2;exact hge m2)|omega
    have e:gE L=([],1):=WI hno;rw[e];exact⟨_,rfl,none,0,rfl,V8,V6,hF4.draws 1⟩
   refine xW 4 ?_ ?_<;>intro h50
   ·refine Gz 23 ?_;have hno:¬ bM [] L:=fun h=>by
     obtain⟨m1,m2,m3,m4,m5,m6⟩:=hnext h;by_cases hi0:i=0
     ·first|exact h21 m1|omega
     · rw[WI hi0] at m2
       first|exact h21 m1|(rw[hyd] at m2;exact hge m2)|omega
    have e:gE L=([],1):=WI hno;rw[e];exact⟨_,rfl,none,0,rfl,V8,V6,hF4.draws 1⟩
   refine xW 4 ?_ ?_<;>intro h55
   ·refine Gz 18 ?_;have hno:¬ bM [] L:=fun h=>by
     obtain⟨m1,m2,m3,m4,m5,m6⟩:=hnext h;by_cases hi0:i=0
     ·first|exact h21 m1|omega
     · rw[WI hi0] at m2
       first|exact h21 m1|(rw[hyd] at m2;exact hge m2)|omega
    have e:gE L=([],1):=WI hno;rw[e];exact⟨_,rfl,none,0,rfl,V8,V6,hF4.draws 1⟩
   refine Gz 10 ?_;have hgood:jI x (if i=0 then [] else (L.getD (i-1) yG).1):=by
    refine⟨X4.1 h21,?_,by omega,by omega,by omega,by omega⟩;by_cases hi0:i=0
    ·rw[WJ hi0,xO];exact(jM (X4.1 h21)).2.1
    · rw[WI hi0]
      first|exact absurd hz hi0|(rw[hyd];exact hlt)
   have hfit:=lS hgood;refine SZ Dw rfl (Aq (fun k=>p≤k∧k≠q) p (bK (L.take i)) x.1 (w4.drewN 1) hfit.1 ((hP2.WH hF24 (fun _ _=>id)).mono (fun k hk=>⟨hk.1,by omega⟩)) (fun k hk=>⟨by have:w4.heap.size≤k:=hk;have:=hF4.size;omega,by have h1:w4.heap.size≤k:=hk;have h2:q<w4.heap.size:=(WS.1 hg4).1;omega⟩) (by omega)) rfl ?_;rintro _ w5 ⟨hP5,hF5⟩;have hF5:=hF5.WE;have hg5:=hF5.obj hg4 (fun h=>h.2 rfl);have hz4:=hF4.size;have hz5:=hF5.size;have hq4:q<w4.heap.size:=(WS.1 hg4).1;refine Gz 6 ?_;refine SZ fV rfl (lO (fun k=>p≤k∧k≠q) p (bK (L.take i)++(W4 x.1.length::x.1)) x.2.1 1 w5 (N8 hfit) hP5 (fun k hk=>⟨by omega,by omega⟩) (by simp only[WM,W7];have:=hfit.1;omega)) rfl ?_;rintro _ w6 ⟨hP6,hF6⟩;have hg6:=hF6.obj hg5 (fun h=>h.2 rfl);have hz6:=hF6.size;refine Gz 5 ?_;refine SZ fV rfl (lO (fun k=>p≤k∧k≠q) p (bK (L.take i)++(W4 x.1.length::x.1)++le x.2.1 1) x.2.2 4 w6 (N7 hfit) hP6 (fun k hk=>⟨by omega,by omega⟩) (by simp only[WM,W7,bB];have:=hfit.1;omega)) rfl ?_;rintro _ w7 ⟨hP7,hF7⟩;have hF7a:aA nob W w7:=(((hF4.any.trans (hF5.mono (fun k h=>h.1))).trans (hF6.mono (fun k h=>h.1))).trans (hF7.mono (fun k h=>h.1))).fresh (fun k h=>by omega);refine Gz 8 ?_;refine aG (i+1) ⟨by omega,?_,?_,hF7a⟩ (by show L.length-(i+1)<L.length-i;omega)
   · rw[kD hx,lB]
     refine⟨hch,?_⟩;by_cases hi0:i=0
     ·rw[WJ hi0] at hgood;rw[WJ (by rw[hi0];rfl)];exact hgood
     ·rw[WI hi0] at hgood;rw[WI (fun e=>by rw[e] at htl;simp at htl;omega),pV (by omega) (by omega)];exact hgood
   · rw[kD hx,qC]
     have e:bK (L.take i)++lG x=bK (L.take i)++(W4 x.1.length::x.1)++le x.2.1 1++le x.2.2 4:=by unfold lG;simp only[W9]
     rw[e];exact hP7.bound (fun k hk h=>⟨hk.1,h⟩)
  have hz:i=0:=by omega
  refine Gz 10 ?_;refine xV rfl (Ub rfl rfl) ?_;refine xW 4 ?_ ?_<;>intro h40
  ·refine Gz 33 ?_;have hno:¬ bM [] L:=fun h=>by
    obtain⟨m1,m2,m3,m4,m5,m6⟩:=hnext h;by_cases hi0:i=0
    ·first|exact h21 m1|omega
    · rw[WI hi0] at m2
      first|exact h21 m1|(rw[hyd] at m2;exact hge m2)|omega
   have e:gE L=([],1):=WI hno;rw[e];exact⟨_,rfl,none,0,rfl,V8,V6,hF4.draws 1⟩
  refine xW 4 ?_ ?_<;>intro h45
  ·refine Gz 28 ?_;have hno:¬ bM [] L:=fun h=>by
    obtain⟨m1,m2,m3,m4,m5,m6⟩:=hnext h;by_cases hi0:i=0
    ·first|exact h21 m1|omega
    · rw[WI hi0] at m2
      first|exact h21 m1|(rw[hyd] at m2;exact hge m2)|omega
   have e:gE L=([],1):=WI hno;rw[e];exact⟨_,rfl,none,0,rfl,V8,V6,hF4.draws 1⟩
  refine xW 4 ?_ ?_<;>intro h50
  ·refine Gz 23 ?_;have hno:¬ bM [] L:=fun h=>by
    obtain⟨m1,m2,m3,m4,m5,m6⟩:=hnext h;by_cases hi0:i=0
    ·first|exact h21 m1|omega
    · rw[WI hi0] at m2
      first|exact h21 m1|(rw[hyd] at m2;exact hge m2)|omega
   have e:gE L=([],1):=WI hno;rw[e];exact⟨_,rfl,none,0,rfl,V8,V6,hF4.draws 1⟩
  refine xW 4 ?_ ?_<;>intro h55
  ·refine Gz 18 ?_;have hno:¬ bM [] L:=fun h=>by
    obtain⟨m1,m2,m3,m4,m5,m6⟩:=hnext h;by_cases hi0:i=0
    ·first|exact h21 m1|omega
    · rw[WI hi0] at m2
      first|exact h21 m1|(rw[hyd] at m2;exact hge m2)|omega
   have e:gE L=([],1):=WI hno;rw[e];exact⟨_,rfl,none,0,rfl,V8,V6,hF4.draws 1⟩
  refine Gz 10 ?_;have hgood:jI x (if i=0 then [] else (L.getD (i-1) yG).1):=by
   refine⟨X4.1 h21,?_,by omega,by omega,by omega,by omega⟩;by_cases hi0:i=0
   ·rw[WJ hi0,xO];exact(jM (X4.1 h21)).2.1
   · rw[WI hi0]
     first|exact absurd hz hi0|(rw[hyd];exact hlt)
  have hfit:=lS hgood;refine SZ Dw rfl (Aq (fun k=>p≤k∧k≠q) p (bK (L.take i)) x.1 (w4.drewN 1) hfit.1 ((hP2.WH hF24 (fun _ _=>id)).mono (fun k hk=>⟨hk.1,by omega⟩)) (fun k hk=>⟨by have:w4.heap.size≤k:=hk;have:=hF4.size;omega,by have h1:w4.heap.size≤k:=hk;have h2:q<w4.heap.size:=(WS.1 hg4).1;omega⟩) (by omega)) rfl ?_;rintro _ w5 ⟨hP5,hF5⟩;have hF5:=hF5.WE;have hg5:=hF5.obj hg4 (fun h=>h.2 rfl);have hz4:=hF4.size;have hz5:=hF5.size;have hq4:q<w4.heap.size:=(WS.1 hg4).1;refine Gz 6 ?_;refine SZ fV rfl (lO (fun k=>p≤k∧k≠q) p (bK (L.take i)++(W4 x.1.length::x.1)) x.2.1 1 w5 (N8 hfit) hP5 (fun k hk=>⟨by omega,by omega⟩) (by simp only[WM,W7];have:=hfit.1;omega)) rfl ?_;rintro _ w6 ⟨hP6,hF6⟩;have hg6:=hF6.obj hg5 (fun h=>h.2 rfl);have hz6:=hF6.size;refine Gz 5 ?_;refine SZ fV rfl (lO (fun k=>p≤k∧k≠q) p (bK (L.take i)++(W4 x.1.length::x.1)++le x.2.1 1) x.2.2 4 w6 (N7 hfit) hP6 (fun k hk=>⟨by omega,by omega⟩) (by simp only[WM,W7,bB];have:=hfit.1;omega)) rfl ?_;rintro _ w7 ⟨hP7,hF7⟩;have hF7a:aA nob W w7:=(((hF4.any.trans (hF5.mono (fun k h=>h.1))).trans (hF6.mono (fun k h=>h.1))).trans (hF7.mono (fun k h=>h.1))).fresh (fun k h=>by omega);refine Gz 8 ?_;refine aG (i+1) ⟨by omega,?_,?_,hF7a⟩ (by show L.length-(i+1)<L.length-i;omega)
  · rw[kD hx,lB]
    refine⟨hch,?_⟩;by_cases hi0:i=0
    ·rw[WJ hi0] at hgood;rw[WJ (by rw[hi0];rfl)];exact hgood
    ·rw[WI hi0] at hgood;rw[WI (fun e=>by rw[e] at htl;simp at htl;omega),pV (by omega) (by omega)];exact hgood
  · rw[kD hx,qC]
    have e:bK (L.take i)++lG x=bK (L.take i)++(W4 x.1.length::x.1)++le x.2.1 1++le x.2.2 4:=by unfold lG;simp only[W9]
    rw[e];exact hP7.bound (fun k hk h=>⟨hk.1,h⟩)
 have hie:i=L.length:=by omega
 subst hie;rw[Xl] at hP2 hch;refine Gz 10 ?_;refine SZ BX rfl (hO (fun k=>p≤k∧k<w2.heap.size) p 0 _ w2 hP2 (by have:=mR hch;omega)) rfl ?_;rintro _ w3 ⟨o3,c3,rfl,ho3,hfr3,hf3⟩;refine Gz 6 ?_;have e:gE L=(bK L,0):=WJ hch;rw[e];exact⟨_,rfl,o3,c3,rfl,ho3,hfr3.mono hF2.size,hF2.trans hf3⟩
section
open Go Go.RowKit Go.Maps
theorem Ec{ps qs:List (NdH×Nd)}(h:qs.Perm ps)(ht:¬ dE (nds ps)):¬ dE (nds qs):=by
 unfold dE at *;rw[Xk] at *;exact((h.map (·.2)).pairwise_iff (R:=fun a b:Nd=>a.names≠b.names) (fun h e=>h e.symm)).2 ht
theorem No{ps:List (NdH×Nd)}(ht:¬ dE (nds ps)){i j:Nat}{p q:NdH×Nd}(hij:i<j)(hp:(jG ps)[i]?=some p)(hq:(jG ps)[j]?=some q):cC p.2.names q.2.names=true:=by
 have e1:=WN.1 hp;have e2:=WN.1 hq;have h:=Xu.1 (Fx ps) i j e1.1 e2.1 hij;rw[e1.2,e2.2] at h;rcases lU.1 h with e|h
 ·exact absurd ((eZ (jG ps)).2 ⟨i,j,p,q,hij,hp,hq,e.symm⟩) (Ec (nL ps) ht)
 ·exact h
theorem E3{ps qs:List (NdH×Nd)}(hq:nds qs=nds (jU ps)){i:Nat}{q:NdH×Nd}(h:qs[i]?=some q):∃ p,(jG ps)[i]?=some p∧q.2=(cY (aR (jG ps)) p).2:=by
 have h1:=bE h;rw[hq] at h1;simp only[nds,jU,xI,Xv,Option.map_eq_some_iff] at h1;obtain⟨a,⟨p,hp,e⟩,e2⟩:=h1;exact⟨p,hp,by rw[←e2,←e]⟩
theorem Mv{ps qs:List (NdH×Nd)}(hq:nds qs=nds (jU ps)):qs.length=ps.length:=by
 have:=congrArg Xp hq;have h2:=(nL ps).length_eq;simp[nds,jU,xI] at this;omega
theorem Oe{ps qs:List (NdH×Nd)}(ht:¬ dE (nds ps))(hq:nds qs=nds (jU ps)){i j:Nat}{p q:NdH×Nd}(hij:i<j)(hp:qs[i]?=some p)(h:qs[j]?=some q):cC p.2.names q.2.names=true:=by
 obtain⟨a,ha,e1⟩:=E3 hq hp;obtain⟨b,hb,e2⟩:=E3 hq h;have:=No ht hij ha hb;rw[e1,e2];exact this
theorem Hg(a:List By):cC a []=false:=by cases a<;>rfl
theorem GU{l:List Nd}(h:plc l=0):fZ l []∧∀ n∈l,n.names≠[]→fZ l n.names.dropLast:=by
 unfold plc at h;by_cases h0:1024<l.length
 ·rw[WJ h0] at h;cases h
 · rw[WI h0] at h
   by_cases h1:nmd l=0
   · rw[WI (fun g=>g h1)] at h
     by_cases h2:fZ l []
     · rw[WI (fun g=>g h2)] at h
       by_cases h3:∃ n∈l,n.names≠[]∧¬ fZ l n.names.dropLast
       ·rw[WJ h3] at h;cases h
       ·exact⟨h2,fun n hn hne=>WV fun hd=>h3 ⟨n,hn,hne,hd⟩⟩
     ·rw[WJ h2] at h;cases h
   ·rw[WJ h1] at h;exact absurd h h1
def wL(ps:List (NdH×Nd))(i:Nat):Nat:=(cF (aR ((jG ps).take i))).length
theorem Mw{ps qs:List (NdH×Nd)}(hq:nds qs=nds (jU ps)){i:Nat}{q:NdH×Nd}(h:qs[i]?=some q):1≤q.2.ino∧q.2.ino≤(wL ps i:Int)+1∧((wL ps (i+1):Nat):Int)=if (wL ps i:Int)<q.2.ino then q.2.ino else (wL ps i:Int):=by
 obtain⟨p,hp,e⟩:=E3 hq h;have ei:q.2.ino=jR (aR (jG ps)) p.2.ino:=by rw[e];rfl
 rw[ei];refine⟨C4 _ _,?_⟩;unfold wL;rw[jT hp];by_cases hm:p.2.ino∈aR ((jG ps).take i)
 · have h1:jR (aR (jG ps)) p.2.ino≤((cF (aR ((jG ps).take i))).length:Int):=by
    obtain⟨r,hr⟩:=CK (aR ((jG ps).take i)) (p.2.ino::aR ((jG ps).drop (i+1)));rw[mO hp];unfold jR;rw[hr,List.idxOf_append,WJ (kG.2 hm)];have:=Zo.2 (kG.2 hm);omega
   rw[mI hm];exact⟨by omega,by rw[WI (by omega)]⟩
 · have h1:jR (aR (jG ps)) p.2.ino=((cF (aR ((jG ps).take i))).length:Nat)+1:=by rw[mO hp,xG hm]
   rw[mJ hm,h1];exact⟨by omega,by rw[WJ (by omega)];omega⟩
end
section
open Go Go.RowKit Go.Maps
theorem lW{l s:List By}:iH l s↔l≠[]∧l.dropLast=s:=by
 unfold iH;rw[drop_take];constructor
 · rintro⟨h1,h2⟩
   exact⟨fun e=>by rw[e] at h1;simp at h1,by rw[show l.length-1=s.length by omega];exact h2⟩
 · rintro⟨h1,h2⟩
   have h0:=W5.2 h1;have h3:s.length=l.length-1:=by rw[←h2,WR];omega
   exact⟨by omega,by rw[h3];exact h2⟩
section
variable {ps qs:List (NdH×Nd)}
theorem BJ(qs:List (NdH×Nd)){i:Nat}(h:i<qs.length):∃ p,qs[i]?=some p∧nmG qs i=p.2.names:=⟨_,WK h,kM (WK h)⟩
end
end
def nU(b:By):Prop:=∀ i,i<b.length→b.getD i 0=0
instance (b:By):Decidable (nU b):=by unfold nU;exact inferInstance
theorem HZ(o:Option Addr)(c:Nat)(b:By)(W:World)(hv:Vw b8 W.heap o c b) :
 CA 210 [.slice o b.length c,.int .u8 0] W fun v w'=>∃ o' n c',v=.slice o' n c'∧(n=0↔nU b)∧w'=W:=by
 have hlen:=hv.WF;refine cS 21 [(0,_),(1,_)] Tryz.func210 ?_;refine Gz 7 ?_;refine S4 (β:=Nat×(Option Addr×Nat)) (fun⟨i,⟨oi,ci⟩⟩=>[(0,.slice oi (b.drop i).length ci),(1,.int .u8 0)]) (fun⟨i,⟨oi,ci⟩⟩ w=>i≤b.length∧(∀ j,j<i→b.getD j 0=0)∧Vw b8 W.heap oi ci (b.drop i)∧w=W) (fun⟨i,⟨oi,ci⟩⟩=>b.length-i) ⟨0,⟨o,c⟩⟩ ⟨rfl,rfl,trivial⟩ ⟨WU _,by intro j hj;omega,hv,rfl⟩ ?_;rintro⟨i,⟨oi,ci⟩⟩ w2 ⟨hi,hz,hvi,hw2⟩;subst hw2;have hdl0:=WX (i:=i) (l:=b);have hci:=hvi.le;refine fK 5 ?_ ?_<;>intro h7
 ·have hdl:0<(b.drop i).length:=by omega
  refine Gz 2 ?_;refine cW (SY aH rfl rfl hvi.non (by omega)) ?_;refine cW (S2 nM rfl (hvi.gz 0 0 rfl (by omega))) ?_;refine fW 1 ?_ ?_<;>intro h13
  ·have h13:(((b.drop i).getD 0 0).toNat:Int)=0:=h13;have h0:b.getD i 0=0:=by rw[WW,X1,YH] at h13;have h13:((b.getD i 0).toNat:Int)=0:=h13;exact XS.1 (by show _=0;omega)
   refine Gz 9 ?_;refine cL (TK aH rfl rfl (by omega)) ?_;refine Gz 3 ?_;have hcd:=yI (n:=1) hvi (by decide) (by omega);rw[show (1:Int).toNat=1 from rfl,YG] at hcd;refine Ti ⟨i+1,⟨_,_⟩⟩ ⟨?_,rfl,trivial⟩ ⟨by omega,?_,hcd,rfl⟩ (by show b.length-(i+1)<b.length-i;omega)
   · show some (Value.slice _ _ _)=some (Value.slice _ _ _)
     rw[show (1:Int).toNat=1 from rfl,WX,WX,Nat.sub_sub]
   · intro j hj
     by_cases hji:j=i
     ·rw[hji];exact h0
     ·exact hz j (by omega)
  have h13:¬ (((b.drop i).getD 0 0).toNat:Int)=0:=h13;have hne:b.getD i 0≠0:=fun e=>h13 (by rw[WW,X1,YH];show ((b.getD i 0).toNat:Int)=0;rw[e];rfl);refine fK 14 ?_ ?_<;>intro h19
  ·refine Gz 11 ?_
   first
   |exact absurd h19 (by omega)
   |(have h0:b.length≤i:=by omega
     exact⟨_,rfl,none,0,0,rfl,⟨fun _=>fun j hj=>hz j (by omega),fun _=>rfl⟩,rfl⟩)
  refine Gz 13 ?_
  first
  |exact absurd h19 (by omega)
  |(have h0:i<b.length:=by omega
    exact⟨_,rfl,oi,(b.drop i).length,ci,rfl,⟨fun e=>absurd e (by omega),fun h=>absurd (h i h0) hne⟩,rfl⟩)
 refine fK 20 ?_ ?_<;>intro h19
 ·refine Gz 11 ?_
  first
  |exact absurd h19 (by omega)
  |(have h0:b.length≤i:=by omega
    exact⟨_,rfl,none,0,0,rfl,⟨fun _=>fun j hj=>hz j (by omega),fun _=>rfl⟩,rfl⟩)
 refine Gz 13 ?_
 first
 |exact absurd h19 (by omega)
 |(have h0:i<b.length:=by omega
   exact⟨_,rfl,oi,(b.drop i).length,ci,rfl,⟨fun e=>absurd e (by omega),fun h=>absurd (h i h0) hne⟩,rfl⟩)
theorem Hk:nU []:=fun i h=>absurd h (by simp)
theorem H0(o:Option Addr)(c:Nat)(b:By)(W:World)(hv:Vw b8 W.heap o c b) :
 CA 168 [.slice o b.length c,.string (bs [0])] W fun v w'=>∃ o' n c',v=.slice o' n c'∧(n=0↔nU b)∧w'=W:=by
 have hlen:=hv.WF;refine cS 36 [(0,_),(1,_)] Tryz.func168 ?_;refine fK 10 ?_ ?_<;>intro h9
 ·have h0:b=[]:=W3.1 (by omega);refine Gz 11 ?_;exact⟨_,rfl,none,0,0,rfl,⟨fun _=>by rw[h0];exact Hk,fun _=>rfl⟩,rfl⟩
 refine Gz 9 ?_;refine cL (UU (TW (a:=[0]) (b:=[]) rfl rfl) (by decide)) ?_;refine Gz 9 ?_;refine cL (Tv ty9 rfl) ?_;refine cL (TY (TU rfl rfl) (by decide)) ?_;refine Gz 2 ?_;refine cW (Uj ty9 rfl rfl (by decide)) ?_;refine cW (TY (T1 rfl rfl) (by decide)) ?_;refine Gz 8 ?_;refine cL (Uj ty9 rfl rfl (by decide)) ?_;refine cA 0 Pf (HZ o c b W hv) ?_;rintro _ w1 ⟨o1,n1,c1,rfl,hn,hw1⟩;subst hw1;refine Gz 6 ?_;exact⟨_,rfl,_,_,_,rfl,hn,rfl⟩
theorem L2(o:Option Addr)(c:Nat)(b:By)(W:World)(hv:Vw b8 W.heap o c b) :
 CA 119 [.slice o b.length c] W fun v w'=>v=.bool (decide (nU b))∧w'=W:=by
 refine cS 7 [(0,_)] Tryz.func119 ?_;refine cA 8 PB (H0 o c b W hv) ?_;rintro _ w1 ⟨o1,n1,c1,rfl,hn,hw1⟩;subst hw1;refine fK 1 ?_ ?_<;>intro h6
 ·refine Gz 5 ?_;refine⟨_,rfl,?_,rfl⟩;congr 1
  first
  |exact(WO (hn.1 (by omega))).symm
  |exact(WL (fun h=>h6 (by have:=hn.2 h;omega))).symm
 refine Gz 5 ?_;refine⟨_,rfl,?_,rfl⟩;congr 1
 first
 |exact(WO (hn.1 (by omega))).symm
 |exact(WL (fun h=>h6 (by have:=hn.2 h;omega))).symm
theorem IC(o:Option Addr)(c:Nat)(b:By)(W:World)(hv:Vw b8 W.heap o c b) :
 CA 84 [.slice o b.length c] W fun v w'=>v=.bool (decide (nU b))∧w'=W:=by
 have hlen:=hv.WF;refine cS 15 [(0,_)] Tryz.func84 ?_;refine Gz 12 ?_;refine S4 (β:=Nat) (fun i=>[(0,.slice o b.length c),(3,iV i)]) (fun i w=>i≤b.length∧(∀ j,j<i→b.getD j 0=0)∧w=W) (fun i=>b.length-i) 0 ⟨rfl,rfl,trivial⟩ ⟨WU _,by intro j hj;omega,rfl⟩ ?_;rintro i w2 ⟨hi,hz,hw2⟩;subst hw2;refine fK 6 ?_ ?_<;>intro h7
 ·refine Gz 11 ?_;refine cL (SY aH rfl rfl hv.non (by omega)) ?_;refine cL (S2 nM rfl (hv.gz 0 i rfl (by omega))) ?_;refine fK 0 ?_ ?_<;>intro h14
  ·have hno:¬ nU b:=fun h=>h14 (by rw[h i (by omega)];rfl);refine Gz 15 ?_;exact⟨_,rfl,congrArg Value.bool (WL hno).symm,rfl⟩
  have h14:((b.getD i 0).toNat:Int)=0:=X4.1 h14;have h0:b.getD i 0=0:=XS.1 (by show _=0;omega);refine Gz 11 ?_;refine aG (i+1) ⟨by omega,?_,rfl⟩ (by show b.length-(i+1)<b.length-i;omega);intro j hj;by_cases hji:j=i
  ·rw[hji];exact h0
  ·exact hz j (by omega)
 refine Gz 15 ?_;exact⟨_,rfl,congrArg Value.bool (WO (fun j hj=>hz j (by omega))).symm,rfl⟩
def Ck(W:World)(xs:By):Value→World→Prop:=fun v w'=>∃ ao' cap',v=.slice ao' xs.length cap'∧Own b8 5 w'.heap ao' cap' xs∧Fr W.heap.size ao'∧aA nob W w'
theorem HA(cap:Nat)(xs:By)(W:World)(hv:Vw b8 W.heap none cap xs):CA 61 [.slice none xs.length cap] W (Ck W xs):=by
 have hx:xs=[]:=List.eq_nil_of_length_eq_zero (by
  rcases Nat.eq_zero_or_pos xs.length with h|h
  ·exact h
  ·exact absurd rfl (hv.non (by omega)))
 subst hx;refine cS 8 [(0,_)] Tryz.func61 ?_;refine Gz 9 ?_;refine cL (TI aH rfl rfl) ?_;refine Gz 11 ?_;exact⟨_,rfl,none,0,rfl,V8,V6,VZ _ _⟩
theorem E0(a:Addr)(cap:Nat)(xs:By)(W:World)(hv:Vw b8 W.heap (some a) cap xs)(hb:xs.length≤140737488355328):CA 61 [.slice (some a) xs.length cap] W (Ck W xs):=by
 have hl:=hv.WF;refine cS 8 [(0,_)] Tryz.func61 ?_;refine Gz 9 ?_;refine cL (TI aH rfl rfl) ?_;refine Gz 7 ?_;refine TF b8 aH rfl ?_;intro w1 ho1 hs1 hf1;refine Gz 1 ?_;refine S8 aN aH rfl rfl ho1 (hv.WG hf1) (by simp only[WZ];omega) (by simp only[WZ];unfold maxLen;omega) rfl ?_;intro ao2 c2 w2 ho2 hf2 hr2 hn2;refine Gz 5 ?_;have hfr:Fr W.heap.size (some (⟨W.heap.size,0,none⟩:Addr)):=fun a ha=>by cases ha;exact WT _
 refine⟨_,rfl,ao2,c2,rfl,ho2,fun a ha=>?_,hf1.WD hf2 hfr.step⟩;rcases hr2 a ha with h|h
 ·exact hfr a h
 ·have:=hf1.size;omega
theorem DQ(ao:Option Addr)(cap:Nat)(xs:By)(W:World)(hv:Vw b8 W.heap ao cap xs)(hb:xs.length≤140737488355328):CA 61 [.slice ao xs.length cap] W (Ck W xs):=by
 cases ao with
|none=>exact HA cap xs W hv
|some a=>exact E0 a cap xs W hv hb
def KpB(sb nb:Nat)(W W':World):Prop:=W'.heap[sb]?=W.heap[sb]?∧W'.heap[nb]?=W.heap[nb]?
theorem KpB.trans{sb nb:Nat}{A B C:World}(h:KpB sb nb A B)(k:KpB sb nb B C):KpB sb nb A C:=⟨k.1.trans h.1,k.2.trans h.2⟩
def ckN(len k:Nat):Nat:=(len+k-1)/k
def ckE(len k i:Nat):Nat:=min k (len-i*k)
def ckV(o:Option Addr)(len k i:Nat):Value:=.slice (bA o (i*k+ckE len k i) (i*k) 1) (ckE len k i) (ckE len k i)
theorem Nc{len k i:Nat}(hk:1≤k):i<ckN len k↔i*k<len:=by
 unfold ckN;rw[Nat.lt_div_iff_mul_lt (by omega)];omega
theorem Ms(i k:Nat):(i+1)*k=i*k+k:=Nat.succ_mul i k
def ckA(sb nb:Nat):List Value:=[pT sb,pT nb]
theorem Km(sb nb:Nat)(o:Option Addr)(c len k:Nat)(w0:World)(hs:w0.heap[sb]?=some (.cells [Value.slice o len c].toArray 25 (0,0)))(hn:w0.heap[nb]?=some (.cells [Value.int .i64 k].toArray 3 (0,0)))
 (hk:1≤k)(hk2:k≤1099511627776)(hl:len≤c)(hlb:len≤1099511627776) :
 SeqStopsK Fence.wide 3 Tryz.prog 167 (ckA sb nb).toArray (fun i:Fin (ckN len k)=>#[ckV o len k i.1]) (KpB sb nb) (fun xs=>xs.map (·.1)=XV (ckN len k)) (fun _=>True) (ckN len k) w0:=by
 intro l J Jx W hW hJ hJx hY h0;refine callsIn_wide.2 ?_;have hs1:W.heap[sb]?=some (.cells [Value.slice o len c].toArray 25 (0,0)):=(hW.block sb (WS.1 hs).1).trans hs;have hn1:W.heap[nb]?=some (.cells [Value.int .i64 k].toArray 3 (0,0)):=(hW.block nb (WS.1 hn).1).trans hn;have ea:(#[Value.func (.yield l) #[] #[]]++(ckA sb nb).toArray)=[.func (.yield l) #[] #[],pT sb,pT nb].toArray:=by simp[ckA]
 rw[ea];refine cS 31 [(0,_),(1,_),(2,_)] Tryz.func167 ?_;refine Gz 6 ?_;refine S4 (β:=Nat) (fun i=>[(0,.func (.yield l) #[] #[]),(1,pT sb),(2,pT nb),(4,iV (i*k:Nat))]) (fun i w=>i≤ckN len k∧(∃ xs:List (Fin (ckN len k)),xs.map (·.1)=XV i∧J xs w)∧w.heap[sb]?=some (.cells [Value.slice o len c].toArray 25 (0,0))∧w.heap[nb]?=some (.cells [Value.int .i64 k].toArray 3 (0,0))) (fun i=>ckN len k-i) 0 ⟨rfl,rfl,rfl,(by rw[Za];rfl),trivial⟩ ⟨WU _,⟨[],rfl,h0⟩,hs1,hn1⟩ ?_;rintro i w ⟨hi,⟨xs,hx,hJw⟩,hs2,hn2⟩;have hxl:i=xs.length:=by have:=congrArg Xp hx;simpa using this.symm
 refine Gz 4 ?_;refine cL (S2 aL rfl (aT hs2 rfl)) ?_;refine fK 1 ?_ ?_<;>intro h9
 ·have hilt:i<ckN len k:=(Nc hk).2 (by omega);have hik:i*k<len:=by omega
  obtain⟨e,he⟩:∃ e,e=ckE len k i:=⟨_,rfl⟩
  have he2:e=min k (len-i*k):=he;have hcv:ckV o len k i=.slice (bA o (i*k+e) (i*k) 1) e e:=by unfold ckV;rw[←he]
  refine Gz 8 ?_;refine Tk 7 [0,1,2,3,4,5,6] aI (by kernel_rfl) ?_;refine xC rfl (S2 aF rfl (aT hn2 rfl)) ?_;refine xC rfl (S2 aL rfl (aT hs2 rfl)) ?_;refine Gz 1 ?_;refine xC rfl (TK aH rfl rfl (by omega)) ?_;refine Gz 1 ?_;refine xC rfl (S3 (u:=iV (e:Int)) (Uv rfl rfl) (by rw[he2];congr 1;omega)) ?_;refine Gz 4 ?_;refine Vc 3 ?_;refine Si.calm (Ta rfl) rfl ?_;refine Si.calm (S2 aL rfl (aT hs2 rfl)) rfl ?_;refine Si.calm (Ta rfl) rfl ?_;refine Si.calm (Ta rfl) rfl ?_;refine Si.calm (Ta rfl) rfl ?_;refine Si.calm (TO rfl rfl (by omega)) rfl ?_;refine Si.calm (Ta rfl) rfl ?_;refine Si.calm (Ta rfl) rfl ?_;refine Si.calm (TO rfl rfl (by omega)) rfl ?_;refine Si.calm (S3 (u:=ckV o len k i) (Ug aH rfl rfl rfl rfl (by omega) (by omega) (by omega)) (by rw[hcv,show ((i*k:Nat):Int).toNat=i*k from rfl,show (((i*k:Nat):Int)+(e:Int)).toNat=i*k+e by omega,Yq])) rfl ?_;refine Si.yield rfl rfl (hY xs ⟨i,hilt⟩ (w.drewN 1) (hJ _ _ _ none hJw ⟨rfl,rfl,rfl,WT _,fun _ _ _=>rfl⟩ (fun r e=>by cases e)) (by rw[←hxl];exact hilt)) rfl ?_ ?_
  ·rintro W' ⟨hJ',hK'⟩;refine Si.calm (Tj rfl) rfl ?_;refine Wj ?_;refine Gz 7 ?_;refine cL (S2 aF rfl (aT (hK'.2.trans hn2) rfl)) ?_;refine Gz 3 ?_;refine Ti (i+1) ⟨rfl,rfl,rfl,?_,trivial⟩ ⟨by omega,⟨xs++[⟨i,hilt⟩],by rw[YR,hx,YQ];rfl,hJ'⟩,hK'.1.trans hs2,hK'.2.trans hn2⟩ (by show ckN len k-(i+1)<ckN len k-i;omega);rw[Ms];rfl
  rintro W' hJ';refine Si.calm (Tj rfl) rfl ?_;refine Wj ?_;refine Gz 8 ?_;exact⟨⟨_,rfl⟩,.inr ⟨_,trivial,hJ'⟩⟩
 have h9n:¬ i<ckN len k:=fun q=>(show ¬ i*k<len by omega) ((Nc (len:=len) (i:=i) hk).1 q)
 have hie:i=ckN len k:=by omega
 refine Gz 7 ?_;refine Ty rfl ?_;exact⟨⟨_,rfl⟩,.inl ⟨xs,by show xs.map (·.1)=_;rw[hx,hie],hJw⟩⟩
theorem Kl(o:Option Addr)(c len k:Nat)(W:World)(hk:1≤k) :
 CA 118 [.slice o len c,iV k] W fun v w'=>v=.func (.func 167) #[] (ckA W.heap.size (W.heap.size+1)).toArray∧w'.heap[W.heap.size]?=some (.cells [Value.slice o len c].toArray 25 (0,0))∧w'.heap[W.heap.size+1]?=some (.cells [Value.int .i64 k].toArray 3 (0,0))∧W.heap.size+2≤w'.heap.size∧aA nob W w':=by
 refine cS 9 [(0,_),(1,_)] Tryz.func118 ?_;refine Gz 2 ?_;refine To rfl rfl ?_;intro w1 hg1 hs1 hf1;refine To rfl rfl ?_;intro w2 hg2 hs2 hf2;have hg1b:=hf2.obj hg1 id;rw[hs1] at hg2 ⊢;refine Gz 6 ?_;refine cL (S2 aF rfl (aT (cs:=[Value.int .i64 k]) hg2 rfl)) ?_;refine cL (UU (T1 rfl rfl) (by omega)) ?_;refine Gz 7 ?_;refine cL (by refine Ua (cs:=[.tmp 2,.tmp 3]) (vs:=ckA W.heap.size (W.heap.size+1)) ?_;rfl) ?_;refine Gz 5 ?_;exact⟨_,rfl,rfl,hg1b,hg2,by omega,hf1.trans hf2⟩
def chB(b:By)(i:Nat):By:=(b.drop (i*128)).take 128
def hX(x:By):By:=if nU x then [] else x
def frB(x:By):By:=(bV (hX x)).1
def tA(b:By)(n:Nat):By:=((XV n).map fun i=>frB (chB b i)).flatten
def bR(b:By):By:=tA b (b.length/128)
def cO(b:By):By:=b.drop (b.length/128*128)
theorem vU(b:By)(i:Nat):(chB b i).length≤128:=by unfold chB;rw[WR];omega
theorem DT{b:By}{i:Nat}(h:i<b.length/128):(chB b i).length=128:=by unfold chB;rw[WR,WX];omega
theorem NW(x:By):(hX x).length≤x.length:=by unfold hX;split<;>simp
theorem vO{x:By}(h:x.length≤128):(frB x).length≤135∧3≤(frB x).length:=by
 have h1:=NW x;have h2:=dR (b:=hX x) (by omega);unfold frB;omega
theorem sZ(b:By)(n:Nat):tA b (n+1)=tA b n++frB (chB b n):=by unfold tA;rw[YQ];simp
theorem iX(b:By):∀ n,(tA b n).length≤135*n∧3*n≤(tA b n).length
|0=>by simp[tA]
|n+1=>by
   have h:=iX b n;have h2:=vO (vU b n);rw[sZ,WM];omega
theorem mpS:tW Tryz.prog 60 9 3 (iV 0):=⟨by kernel_rfl,z3⟩
def vM(m:List (SK×Nat)):List (SK×Value):=m.map fun p=>(p.1,nV p.2)
def eA:List (SK×Nat)→SK→Option Nat
|[],_=>none
|p::r,a=>if p.1=a then some p.2 else eA r a
theorem rS(a:SK):∀ m:List (SK×Nat),cQ (vM m) a=(eA m a).map nV
|[]=>rfl
|p::r=>by
   unfold eA;show (if p.1=a then some (nV p.2) else cQ (vM r) a)=_
   split
   ·rfl
   ·exact rS a r
theorem Lg{m:List (SK×Nat)}{a:SK}{v:Nat}(h:eA m a=none):cX (vM m) a (nV v)=vM (m++[(a,v)]):=by
 rw[iM _ (by rw[rS,h];rfl)];simp[vM]
theorem yD{m:List (SK×Nat)}{a b:SK}{v:Nat}:eA (m++[(a,v)]) b=match eA m b with|some k=>some k|none=>if a=b then some v else none:=by
 induction m with
|nil=>simp[eA]
|cons p r ih=>
   simp only[XA,eA]
   split
   ·rfl
   ·exact ih
structure DS where
 B:By
 m:List (SK×Nat)
def HM(first:Nat)(s:DS)(r:By):DS×Nat:=match eA s.m (iW r) with
|some k=>(s,k)
|none=>(⟨s.B++r,s.m++[(iW r,first+s.B.length)]⟩,first+s.B.length)
def fO(first:Nat)(s:DS)(b:By):DS×Nat:=if bR b=[] then (s,0) else HM first s (bR b)
theorem Bk{first:Nat}{s:DS}{b:By}(h:(bR b).length=0):fO first s b=(s,0):=by unfold fO;rw[WJ (W3.1 h)]
theorem yY{first:Nat}{s:DS}{b:By}{k:Nat}(h:(bR b).length≠0)(hk:eA s.m (iW (bR b))=some k):fO first s b=(s,k):=by
 unfold fO HM;rw[WI (fun e=>h (by rw[e];rfl)),hk]
theorem yZ{first:Nat}{s:DS}{b:By}(h:(bR b).length≠0)(hk:eA s.m (iW (bR b))=none):fO first s b=(⟨s.B++bR b,s.m++[(iW (bR b),first+s.B.length)]⟩,first+s.B.length):=by
 unfold fO HM;rw[WI (fun e=>h (by rw[e];rfl)),hk]
def dwC(p first:Nat)(bo:Option Addr)(bn bc mg:Nat):List Value:=[pT p,iV first,.slice bo bn bc,.map (some mg)]
def DwO(D:Nat→Prop)(H:Array Obj)(g p first:Nat)(s:DS):Prop:=
 ∃ bo bc mg,H[g]?=some (.cells (dwC p first bo s.B.length bc mg).toArray 132 (0,0))∧Own b8 5 H bo bc s.B∧dM enS H mg (vM s.m)∧¬ blk bo g∧mg≠g∧¬ blk bo mg∧D g∧(∀ k,blk bo k→D k)∧D mg∧TbV H p∧¬ D p
section
variable {D:Nat→Prop}{g p first:Nat}{s:DS}
theorem DwO.lt{H:Array Obj}(h:DwO D H g p first s):g<H.size:=by obtain⟨bo,bc,mg,hg,_⟩:=h;exact(WS.1 hg).1
theorem DwO.tab{H:Array Obj}(h:DwO D H g p first s):TbV H p∧¬ D p:=by obtain⟨bo,bc,mg,hg,h1,h2,h3,h4,h5,h6,h7,h8,h9,h10⟩:=h;exact⟨h9,h10⟩
theorem DwO.WH{S:Nat→Prop}{w w':World}(h:DwO D w.heap g p first s)(hf:aA S w w')(hs:∀ k,D k→¬ S k)(hp:¬ S p):DwO D w'.heap g p first s:=by
 obtain⟨bo,bc,mg,hg,h1,h2,h3,h4,h5,h6,h7,h8,h9,h10⟩:=h;exact⟨bo,bc,mg,hf.obj hg (hs g h6),h1.WH hf (fun a ha=>hs _ (h7 _ ⟨a,ha,rfl⟩)),h2.WH hf (hs _ h8),h3,h4,h5,h6,h7,h8,hf.obj h9 hp,h10⟩
theorem DwO.WG{w w':World}(h:DwO D w.heap g p first s)(hf:aA nob w w'):DwO D w'.heap g p first s:=h.WH hf (fun _ _=>id) id
theorem DwO.mono{D':Nat→Prop}{H:Array Obj}(h:DwO D H g p first s)(hd:∀ k,D k→D' k)(hp:¬ D' p):DwO D' H g p first s:=by
 obtain⟨bo,bc,mg,hg,h1,h2,h3,h4,h5,h6,h7,h8,h9,h10⟩:=h;exact⟨bo,bc,mg,hg,h1,h2,h3,h4,h5,hd _ h6,fun k hk=>hd _ (h7 k hk),hd _ h8,h9,hp⟩
theorem DwO.fresh{B:Nat→Prop}{w w':World}(h:DwO D w.heap g p first s)(hf:aA nob w w')(hB:∀ k,k<w.heap.size→D k→B k)(hp:¬ B p):DwO B w'.heap g p first s:=by
 have hl:=h.lt;obtain⟨bo,bc,mg,hg,h1,h2,h3,h4,h5,h6,h7,h8,h9,h10⟩:=h;exact⟨bo,bc,mg,hf.obj hg id,h1.WG hf,h2.WH hf id,h3,h4,h5,hB _ hl h6,fun k ⟨a,ha,hb⟩=>hB _ (by have:=h1.lt a ha;omega) (h7 k ⟨a,ha,hb⟩),hB _ h2.obj h8,hf.obj h9 id,hp⟩
theorem QC{W w1 w2:World}{bo bo':Option Addr}{bc' mg:Nat}{mq:List (SK×Nat)}{Bq:By}(hD:∀ k,W.heap.size≤k→D k)
 (hm:dM enS W.heap mg (vM mq))(h3:¬ blk bo g)(h4:mg≠g)(h5:¬ blk bo mg)(h6:D g)(h7:∀ k,blk bo k→D k)(h8:D mg)(h9:TbV W.heap p)(h10:¬ D p)(hgl:g<W.heap.size)
 (ho:Own b8 5 w1.heap bo' bc' Bq)(hf1:aA (blk bo) W w1)(hr:∀ a,bo'=some a→bo=some a∨W.heap.size≤a.block)
 (hg2:w2.heap[g]?=some (.cells (dwC p first bo' Bq.length bc' mg).toArray 132 (0,0)))(hf2:aA (· = g) w1 w2) :
 DwO D w2.heap g p first ⟨Bq,mq⟩∧aA D W w2:=by
 have hpl:=(WS.1 h9).1;have hD1:aA D W w1:=hf1.mono h7;have hD2:aA D W w2:=hD1.trans (hf2.mono (fun k h=>by have h:k=g:=h;subst h;exact h6));have hml:=hm.obj;have hn:∀ k,k<W.heap.size→¬ blk bo k→¬ blk bo' k:=fun k hk hb ⟨a,ha,e⟩=>by
  rcases hr a ha with h|h
  ·exact hb ⟨a,h,e⟩
  ·omega
 refine⟨⟨bo',bc',mg,hg2,ho.WH hf2 (fun a ha h=>hn g hgl h3 ⟨a,ha,h⟩),(hm.WH hf1 h5).WH hf2 h4,hn g hgl h3,h4,hn mg hml h5,h6,fun k ⟨a,ha,hb⟩=>?_,h8,hD2.obj h9 h10,h10⟩,hD2⟩;rcases hr a ha with h|h
 ·exact h7 k ⟨a,h,hb⟩
 ·exact hD k (by omega)
end
theorem Mm(p first:Nat)(W:World)(ht:TbV W.heap p) :
 CA 21 [pT p,iV first] W fun v w'=>v=.pointer (some ⟨W.heap.size+1,0,none⟩)∧DwO (fun k=>W.heap.size≤k) w'.heap (W.heap.size+1) p first ⟨[],[]⟩∧aA nob W w':=by
 have hpl:=(WS.1 ht).1;refine cS 10 [(0,_),(1,_)] Tryz.func21 ?_;refine Gz 9 ?_;refine TN (enc:=enS) rfl ?_;intro w1 hm1 hs1 hf1;refine cL (TC (cs:=#[pT p,iV first,sN,.map (some W.heap.size)]) Nz Oq rfl (by kernel_rfl)) ?_;refine To rfl rfl ?_;intro w2 hg2 hs2 hf2;rw[hs1] at hg2 ⊢;refine Gz 5 ?_;exact⟨_,rfl,rfl,⟨none,0,W.heap.size,hg2,V8,hm1.WH hf2 id,(fun⟨a,ha,_⟩=>by cases ha),(by omega),(fun⟨a,ha,_⟩=>by cases ha),(by omega),(fun k ⟨a,ha,_⟩=>by cases ha),WT _,(hf1.trans hf2).obj ht id,(by omega)⟩,hf1.trans hf2⟩
theorem Kc(D:Nat→Prop)(g p first:Nat)(s:DS)(W:World)(hM:DwO D W.heap g p first s)(hb:s.B.length≤1099511627776) :
 CA 28 [pT g] W (Ck W s.B):=by
 obtain⟨bo,bc,mg,hg,h1,h2,h3,h4,h5,h6,h7,h8,h9,h10⟩:=hM;refine cS 8 [(0,_)] Tryz.func28 ?_;refine Gz 11 ?_;refine SZ EP rfl (DQ bo bc s.B W h1.vw (by omega)) rfl ?_;intro _ w1 hP1;refine Gz 5 ?_;exact⟨_,rfl,hP1⟩
def kO(first:Nat)(s:DS)(b:By):DS×Nat:=(⟨s.B++(bV b).1,s.m⟩,first+s.B.length)
theorem Hx(D:Nat→Prop)(g p first:Nat)(s:DS)(bo0:Option Addr)(bc0:Nat)(b:By)(W:World)(hM:DwO D W.heap g p first s)(hD:∀ k,W.heap.size≤k→D k)(hv:Vw b8 W.heap bo0 bc0 b)(hfi:first≤1000)(hb:s.B.length≤1099511627776)(hbl:b.length≤128) :
 CA 69 [pT g,.slice bo0 b.length bc0] W fun v w'=>v=iV ((kO first s b).2:Nat)∧DwO D w'.heap g p first (kO first s b).1∧aA D W w':=by
 obtain⟨bo,bc,mg,hg,h1,h2,h3,h4,h5,h6,h7,h8,h9,h10⟩:=hM;have hgl:=(WS.1 hg).1;have hps:=dR hbl;refine cS 37 [(0,_),(1,_)] Tryz.func69 ?_;refine cA 12 L6 (vP p bo0 bc0 b W h9 hv) ?_;rintro _ w1 ⟨o1,c1,rfl,ho1,hfr1,hf1⟩;have hg1:=hf1.obj hg id;refine Gz 8 ?_;refine Tc 11 (fun H=>H[g]?=some (.cells (dwC p first bo s.B.length bc mg).toArray 132 (0,0))) [] [0,1,2,3,4,5,6,7,8,9,10] aI (by kernel_rfl) (hg1) ?_;refine Gz 21 ?_;refine S8 aN aH rfl rfl (h1.WG (hf1.draws 1)) ho1.vw (by omega) (by unfold maxLen;omega) rfl ?_;intro o2 c2 w2 ho2 hf2 hr2 hn2;have hf2:=hf2.WE;have hg2:=hf2.obj hg1 h3;refine Gz 2 ?_;refine S6 aL rfl rfl rfl hg2 rfl ?_;intro w3 hg3 hs3 hf3;obtain⟨hM3,hF3⟩:=QC (W:=w1) (mq:=s.m) (first:=first) (Bq:=s.B++(bV b).1) (bO hf1 hD) (h2.WH hf1 id) h3 h4 h5 h6 h7 h8 (hf1.obj h9 id) h10 (by have:=hf1.size;omega) ho2 hf2 hr2 hg3 hf3;refine Gz 10 ?_;exact⟨_,rfl,rfl,hM3,hf1.any.trans hF3⟩
def mZ{M:Nat}(b:By)(pre:List (Fin M)):By:=(pre.map fun i=>frB (chB b i.1)).flatten
theorem xD{M:Nat}(b:By)(pre:List (Fin M))(x:Fin M):mZ b (pre++[x])=mZ b pre++frB (chB b x.1):=by simp[mZ]
theorem GW{M:Nat}(b:By)(xs:List (Fin M))(h:xs.map (·.1)=XV M):mZ b xs=tA b M:=by
 unfold mZ tA;rw[←h,List.map_map];rfl
theorem GV{M:Nat}(b:By):∀ pre:List (Fin M),(mZ b pre).length≤135*pre.length:=fun pre=>by
 induction pre with
|nil=>simp[mZ]
|cons x r ih=>
   have h2:=(vO (vU b x.1)).1;have e:mZ b (x::r)=frB (chB b x.1)++mZ b r:=by simp[mZ]
   rw[e,WM,W7];omega
theorem Fz{r:By}(h:r.length≤maxLen):iW r=⟨r,h⟩:=by unfold iW;rw[dif_pos h]
theorem Mo(D:Nat→Prop)(g p first:Nat)(s:DS)(bo0:Option Addr)(bc0:Nat)(b:By)(W:World)(hM:DwO D W.heap g p first s)(hD:∀ k,W.heap.size≤k→D k)(hv:Vw b8 W.heap bo0 bc0 b)(hfi:first≤1000)(hb:s.B.length≤1099511627776)(hbl:b.length≤1048576) :
 CA 66 [pT g,.slice bo0 b.length bc0] W fun v w'=>∃ o c,v=.tuple #[iV ((fO first s b).2:Nat),.slice o (cO b).length c]∧Own b8 5 w'.heap o c (cO b)∧Fr W.heap.size o∧DwO (fun k=>D k∧¬ blk o k) w'.heap g p first (fO first s b).1∧aA D W w':=by
 have hM0:=hM;obtain⟨bo,bc,mg,hg,h1,h2,h3,h4,h5,h6,h7,h8,h9,h10⟩:=hM;have hgl:=(WS.1 hg).1;have hpl:=(WS.1 h9).1;have hlb:=hv.le;obtain⟨M,hMd⟩:∃ M,M=b.length/128:=⟨_,rfl⟩
 obtain⟨n,hn⟩:∃ n,n=M*128:=⟨_,rfl⟩
 have hnb:n≤b.length:=by omega
 have hrun:=iX b M;have hrd:bR b=tA b M:=by rw[hMd];rfl
 have hck:ckN n 128=M:=by unfold ckN;omega
 refine Cd 83 [(0,_),(1,_)] Tryz.func66 rfl rfl rfl (uM ⟨rfl,rfl,trivial⟩) ?_;refine Gz 2 ?_;refine To rfl rfl ?_;intro w1 hg1 hs1 hf1;have hg1:w1.heap[W.heap.size]?=some (.cells [pT g].toArray 63 (0,0)):=hg1;refine Gz 6 ?_;refine S5 On rfl ?_;intro w2 hg2 hs2 hf2;rw[hs1] at hg2 ⊢;have hg2:w2.heap[W.heap.size+1]?=some (.cells [Value.slice none ([]:By).length 0].toArray 25 (0,0)):=hg2;obtain⟨bx,hbx⟩:∃ bx,bx=W.heap.size+1:=⟨_,rfl⟩
 rw[←hbx] at hg2 ⊢;have hg12:=hf2.obj hg1 id;have hF2:=hf1.trans hf2;refine Gz 6 ?_;refine cL (S3 (u:=iV (M:Int)) (Uy rfl rfl (by omega) (by decide)) (by congr 1;omega)) ?_;refine cL (S3 (u:=iV (n:Int)) (TL rfl rfl (by omega)) (by congr 1;omega)) ?_;refine Gz 8 ?_;refine cL (S3 (u:=.slice bo0 n bc0) (Tl aH rfl rfl (by omega)) (by rw[aV];rfl)) ?_;refine SZ PW rfl (Kl bo0 bc0 n 128 w2 (by decide)) rfl ?_;rintro _ w4 ⟨rfl,hsb4,hnb4,hz4,hf4⟩;have hF4:=hF2.trans hf4;have hg4:=hf4.obj hg2 id;have hb4:=hf4.obj hg12 id;have hG4:=hF4.obj hg id;refine Gz 3 ?_;refine Vu (α:=Fin (ckN n 128)) (f:=19) (p:=20) (q:=8) (gf:=167) (lb:=(ckA w2.heap.size (w2.heap.size+1)).toArray) (enc:=fun i=>ckV bo0 n 128 i.1) (M:=ckN n 128) rfl PC (Km w2.heap.size (w2.heap.size+1) bo0 bc0 n 128 w4 hsb4 hnb4 (by decide) (by decide) (by omega) (by omega)) KpB.trans (fun W1 l1 _ _ hl1 _ _ _=>⟨World.putObj_heap_other (by omega),World.putObj_heap_other (by omega)⟩) (Below.refl _ _) rfl rfl (BbI 5 25 bx w4 (mZ b)) BbI.own ⟨none,0,hg4,V8,V6,VZ _ _⟩ ?_ ?_
 ·rintro lp pre x w ⟨oo,oc,hbw,hoo,hfro,hFw⟩ hlt;have hxn:x.1<M:=by have:=x.2;omega
  have hpl2:=GV b pre;have hpl3:pre.length<M:=by omega
  have hfl:=(vO (vU b x.1)).1;have hvw:=((hv.WG hF4).keep' hFw (fun hne a ha e=>by have e:a.block=bx:=e;have:=wD hv (show 0<b.length by have:=W5.2 hne;omega) a.block ⟨a,ha,rfl⟩;omega))
  have hGw:=hFw.obj hG4 (by omega);have hbw2:=hFw.obj hb4 (by omega);have hTw:TbV w.heap p:=hFw.obj (hF4.obj h9 id) (by omega);have hx1:ckE n 128 x.1=128:=by unfold ckE;omega
  obtain⟨co,hco⟩:∃ co,co=bA bo0 (x.1*128+128) (x.1*128) 1:=⟨_,rfl⟩
  have hcl:(chB b x.1).length=128:=DT (by omega);have hcv:=hvw.cut (l:=x.1*128) (h:=x.1*128+128) (m:=x.1*128+128) (by omega) (by omega) (by omega) (by omega);rw[←hco,Yq] at hcv;have hcv:Vw b8 w.heap co 128 (chB b x.1):=hcv;have hckv:ckV bo0 n 128 x.1=.slice co (chB b x.1).length 128:=by unfold ckV;rw[hx1,←hco,hcl]
  rw[hckv];obtain⟨wr,hwr⟩:∃ wr,wr=w:=⟨_,rfl⟩
  refine Rc.block ?_;refine Rc.cut (β:=Option Addr×Nat) (fun⟨xo,xc⟩=>[(2,pT W.heap.size),(6,pT bx),(8,.slice xo (hX (chB b x.1)).length xc)]) (fun⟨xo,xc⟩ w=>Vw b8 w.heap xo xc (hX (chB b x.1))∧w=wr) ?_ ?_
  ·refine Rc.seq ?_;refine Rc.region (by repeat first|exact fL.post|with_reducible apply Wg|with_reducible apply fL.block) rfl ?_;refine cA 1 PV (L2 co 128 (chB b x.1) w hcv) ?_;rintro _ wq ⟨rfl,hwq⟩;subst wq;by_cases h22:nU (chB b x.1)
   ·rw[WO h22];have ex:hX (chB b x.1)=[]:=by unfold hX;rw[WJ h22]
    refine Gz 1 ?_;refine Vb ?_;refine Wh rfl ?_;refine Rc.region (by repeat first|exact fL.post|with_reducible apply Wg|with_reducible apply fL.block) rfl ?_;refine Gz 2 ?_;exact TG ⟨none,0⟩ ⟨rfl,rfl,(by show some (Value.slice none 0 0)=_;rw[ex];rfl),trivial⟩ ⟨by rw[ex];exact V7 0 (WU _),hwr.symm⟩
   rw[WL h22];have ex:hX (chB b x.1)=chB b x.1:=by unfold hX;rw[WI h22]
   refine Gz 1 ?_;refine Vb ?_;refine Wi rfl ?_;refine Rc.skip ?_;exact TG ⟨co,128⟩ ⟨rfl,rfl,(by rw[ex];rfl),trivial⟩ ⟨by rw[ex];exact hcv,hwr.symm⟩
  rintro⟨xo,xc⟩ wq ⟨hxv,hwq⟩;obtain rfl:w=wq:=(hwq.trans hwr).symm;refine Rc.seq ?_;refine Rc.region (by repeat first|exact fL.post|with_reducible apply Wg|with_reducible apply fL.block) rfl ?_;refine cL (S2 uC rfl (aT hbw2 rfl)) ?_;refine cA 4 L6 (vP p xo xc (hX (chB b x.1)) w hTw hxv) ?_;rintro _ v1 ⟨o1,c1,rfl,ho1,hfr1,hvf1⟩;have ho1:Own b8 5 v1.heap o1 c1 (frB (chB b x.1)):=ho1;have hbw1:=hvf1.obj hbw id;refine Gz 6 ?_;refine Vb ?_;refine Rc.region (by repeat first|exact fL.post|with_reducible apply Wg|with_reducible apply fL.block) rfl ?_;refine cL (S2 aL rfl (aT hbw1 rfl)) ?_;refine Gz 1 ?_;refine S8 aN aH rfl rfl (hoo.WG hvf1) ho1.vw (by rw[show (bV (hX (chB b x.1))).1=frB (chB b x.1) from rfl];omega) (by rw[show (bV (hX (chB b x.1))).1=frB (chB b x.1) from rfl];unfold maxLen;omega) rfl ?_;intro o7 c7 v2 ho7 hvf2 hr7 hn7;have hnb2:∀ k,k<w4.heap.size→¬ blk oo k:=fun k hk ⟨a,ha,e⟩=>by have:=hfro a ha;omega
  have hbw3:=hvf2.obj hbw1 (hnb2 bx (by omega));refine S6 aL rfl rfl rfl hbw3 rfl ?_;intro v3 hg3b hs3b hvf3;have hFv:aA (fun k=>k=bx∨blk oo k) w v3:=(hvf1.any.WD hvf2 (fun k hk=>.inl (.inr hk))).WD hvf3 (fun k hk=>.inl (.inl hk));have ho73:=ho7.WH hvf3 (fun a ha e=>by rcases hr7 a ha with h|h;have:=hfro a h;have e:a.block=bx:=e;omega;have e:a.block=bx:=e;have:=hvf1.size;have:=hFw.size;omega);refine Gz 2 ?_;refine U4 ⟨Jp hFv (fun k hk _=>?_),⟨hFv.same _ (by have:=hFw.size;omega) ?_,hFv.same _ (by have:=hFw.size;omega) ?_⟩,⟨o7,c7,?_,?_,cH hfro hr7 (by have:=hFw.size;have:=hvf1.size;omega),(hFw.WD hFv (fun k hk=>hk.imp id (fun⟨a,ha,e⟩=>by have:=hfro a ha;omega)))⟩⟩
  · rcases hk with rfl|⟨a,ha,rfl⟩
    ·exact⟨_,_,_,hbw⟩
    ·obtain⟨cur,h⟩:=hoo.cells ha;exact⟨_,_,_,h⟩
  · rintro(h|⟨a,ha,e⟩)
    ·omega
    ·have:=hfro a ha;omega
  · rintro(h|⟨a,ha,e⟩)
    ·omega
    ·have:=hfro a ha;omega
  ·rw[xD];exact hg3b
  ·rw[xD];exact ho73
 intro Dm xs w5 hDm hS ⟨oo,oc,hb5,ho5,hfro,hF5⟩ hK;have hS:xs.map (·.1)=XV (ckN n 128):=hS;have hall:mZ b xs=bR b:=by rw[GW b xs hS,hck,hrd]
 rw[hall] at hb5 ho5;have hFW5:aA nob W w5:=hF4.WD hF5 (fun k e=>.inr (by have e:k=bx:=e;omega));have htl:(cO b).length=b.length-n:=by unfold cO;rw[WX,←hMd,←hn]
 have hrb:=iX b M;rw[←hrd] at hrb;have hvt:Vw b8 w5.heap (bA bo0 bc0 n 1) (bc0-n) (cO b):=by
  have h:=(hv.WG hFW5).cut (l:=n) (h:=b.length) (m:=bc0) (by omega) (by omega) (by omega) (WT _);rw[WY (by rw[WX];omega)] at h;unfold cO;rw[←hMd,←hn];exact h
 refine Gz 6 ?_;refine cL (S3 (u:=.slice (bA bo0 bc0 n 1) (cO b).length (bc0-n)) (TK aH rfl rfl (by omega)) (by rw[htl];rfl)) ?_;refine SZ EP rfl (DQ (bA bo0 bc0 n 1) (bc0-n) (cO b) w5 hvt (by omega)) rfl ?_;rintro _ w6 ⟨o6,c6,rfl,ho6,hfr6,hf6⟩;have hK6:=hf6.obj hK id;have hb6:=hf6.obj hb5 id;have ho56:=ho5.WG hf6;have hFW6:=hFW5.trans hf6;have hG6:=hFW6.obj hg id;have hB6:=hf6.obj (hF5.obj hb4 (by omega)) id;have h26:=h2.WH hFW6 id;have hz6:=hFW6.size;have ho6l:=ho6.lt;have hfr6w:=hfr6.mono hFW5.size;have ho5l:=ho56.lt;have hne6:∀ k,k<W.heap.size→¬ blk o6 k:=fun k hk ⟨a,ha,e⟩=>by have:=hfr6w a ha;omega
 have hsame:∀ wf,aA nob W wf→DwO (fun k=>D k∧¬ blk o6 k) wf.heap g p first s:=fun wf hf=>hM0.fresh hf (fun k hk hd=>⟨hd,hne6 k hk⟩) (fun h=>h10 h.1)
 have hend:∀ wf,aA (· = Dm) w6 wf→Own b8 5 wf.heap o6 c6 (cO b)∧aA nob W wf:=fun wf hf=>⟨ho6.WH hf (fun a ha e=>by obtain⟨cur,h⟩:=ho6.cells ha;have e:a.block=Dm:=e;rw[e,hK6] at h;cases h),hFW6.WD hf (fun k e=>.inr (by have e:k=Dm:=e;omega))⟩
 refine Gz 6 ?_;refine cL (S2 aL rfl (aT hb6 rfl)) ?_;refine fK 1 ?_ ?_<;>intro h41
 ·have e:=Bk (first:=first) (s:=s) (b:=b) (by omega);refine Gz 12 ?_;refine UD rfl rfl rfl hK6 ?_;intro wf _ hfD;obtain⟨e1,e2⟩:=hend wf hfD;rw[e];exact⟨_,rfl,o6,c6,rfl,e1,hfr6w,hsame wf e2,e2.any⟩
 have hrl:(bR b).length≤maxLen:=by unfold maxLen;omega
 have hrne:(bR b).length≠0:=by omega
 have hsk:=Fz hrl;refine Gz 6 ?_;refine Tc 12 (fun H=>H[W.heap.size]?=some (.cells [pT g].toArray 63 (0,0))∧H[g]?=some (.cells (dwC p first bo s.B.length bc mg).toArray 132 (0,0))∧H[bx]?=some (.cells [Value.slice oo (bR b).length oc].toArray 25 (0,0))∧Vw b8 H oo oc (bR b)∧dM enS H mg (vM s.m)) [] [0,1,2,3,4,5,6,7,8,9,10,11] aI (by kernel_rfl) (⟨hB6,hG6,hb6,ho56.vw,h26⟩) ?_;refine xC rfl (S9 uC rfl (fun H hH=>aT hH.1 rfl)) ?_;refine Gz 3 ?_;refine xC rfl (S9 aL rfl (fun H hH=>aT hH.2.2.1 rfl)) ?_;refine xC rfl (Ul aH ty5 ty9 rfl (fun H hH=>hH.2.2.2.1)) ?_;refine xC rfl (TR mpS Dk (a:=⟨bR b,hrl⟩) rfl rfl (fun H hH=>hH.2.2.2.2)) ?_;refine Gz 11 ?_;refine TE (T9 rfl) rfl (fun h54=>?_) (fun h54=>?_)
 ·rw[rS] at h54;have hno:eA s.m (iW (bR b))=none:=by rw[hsk];simpa using h54
  have e:=yZ (first:=first) hrne hno;refine Gz 4 ?_;refine Tc 11 (fun H=>H[W.heap.size]?=some (.cells [pT g].toArray 63 (0,0))∧H[g]?=some (.cells (dwC p first bo s.B.length bc mg).toArray 132 (0,0))) [] [0,1,2,3,4,5,6,7,8,9,10] aI (by kernel_rfl) (⟨hB6,hG6⟩) ?_;refine xC rfl (S9 uC rfl (fun H hH=>aT hH.1 rfl)) ?_;refine Gz 3 ?_;refine xC rfl (S9 uC rfl (fun H hH=>aT hH.1 rfl)) ?_;refine Gz 9 ?_;refine Tc 7 (fun H=>H[W.heap.size]?=some (.cells [pT g].toArray 63 (0,0))∧H[g]?=some (.cells (dwC p first bo s.B.length bc mg).toArray 132 (0,0))∧H[bx]?=some (.cells [Value.slice oo (bR b).length oc].toArray 25 (0,0))∧Vw b8 H oo oc (bR b)) [7] [0,1,2,3,4,5,6,7] aI (by kernel_rfl) (⟨hB6,hG6,hb6,ho56.vw⟩) ?_;refine xC rfl (S9 uC rfl (fun H hH=>aT hH.1 rfl)) ?_;refine Gz 3 ?_;refine xC rfl (S9 aL rfl (fun H hH=>aT hH.2.2.1 rfl)) ?_;refine xC rfl (Ul aH ty5 ty9 rfl (fun H hH=>hH.2.2.2)) ?_;refine Gz 1 ?_;refine S7 rfl rfl (TH mpS Dk (a:=⟨bR b,hrl⟩) rfl rfl rfl h26 ?_);intro w7 hm7 hs7 hf7;refine Tx rfl ?_;have hf7:=hf7.WE.WE.WE;have hml:=h2.obj;have hDml:=(WS.1 hK6).1;have hnbo:∀ k,W.heap.size≤k→¬ blk bo k:=fun k hk ⟨a,ha,e⟩=>by have:=h1.lt a ha;omega
  have hG7:=hf7.obj hG6 (fun e=>h4 (Eq.symm e));have hB7:=hf7.obj hB6 (by omega);have hb7:=hf7.obj hb6 (by omega);have ho57:=ho56.WH hf7 (fun a ha e=>by have:=hfro a ha;have e:a.block=mg:=e;omega);have h17:=(h1.WG hFW6).WH hf7 (fun a ha e=>h5 ⟨a,ha,e⟩);have hz7:=hf7.size;have hm7q:dM enS w7.heap mg (vM (s.m++[(iW (bR b),first+s.B.length)])):=by rw[←Lg hno,hsk];exact hm7
  refine Gz 2 ?_;refine Tc 9 (fun H=>H[W.heap.size]?=some (.cells [pT g].toArray 63 (0,0))∧H[g]?=some (.cells (dwC p first bo s.B.length bc mg).toArray 132 (0,0))∧H[bx]?=some (.cells [Value.slice oo (bR b).length oc].toArray 25 (0,0))) [6,9] [0,1,2,3,4,5,6,7,8,9] aI (by kernel_rfl) (⟨hB7,hG7,hb7⟩) ?_;refine xC rfl (S9 uC rfl (fun H hH=>aT hH.1 rfl)) ?_;refine xC rfl (S9 uC rfl (fun H hH=>aT hH.1 rfl)) ?_;refine Gz 3 ?_;refine xC rfl (S9 aL rfl (fun H hH=>aT hH.2.2 rfl)) ?_;refine S7 rfl rfl (S8 aN aH rfl rfl h17 ho57.vw (by omega) (by unfold maxLen;omega) rfl ?_);intro o8 c8 w8 ho8 hf8 hr8 hn8;have hf8:=hf8.WE;have hz8:=hf8.size;refine Tg (by exact⟨hf8.obj hB7 (hnbo _ (by omega)),hf8.obj hG7 h3,hf8.obj hb7 (hnbo _ (by omega))⟩) ?_;refine Gz 2 ?_;refine S7 rfl rfl (S6 aL rfl rfl rfl (hf8.obj hG7 h3) rfl ?_);intro w9 hg9 hs9 hf9;refine Tx rfl ?_;obtain⟨hM9,hF9⟩:=QC (W:=w7) (D:=fun k=>D k∧¬ blk o6 k∧k≠Dm) (mq:=s.m++[(iW (bR b),first+s.B.length)]) (first:=first) (Bq:=s.B++bR b) (fun k hk=>⟨hD k (by omega),(fun⟨a,ha,e⟩=>by have:=ho6l a ha;omega),by omega⟩) hm7q h3 h4 h5 ⟨h6,hne6 g hgl,by omega⟩ (fun k ⟨a,ha,e⟩=>⟨h7 k ⟨a,ha,e⟩,hne6 k (by have:=h1.lt a ha;omega),by have:=h1.lt a ha;omega⟩) ⟨h8,hne6 mg hml,by omega⟩ (hf7.obj (hFW6.obj h9 id) (fun e=>h10 (by have e:p=mg:=e;rw[e];exact h8))) (fun h=>h10 h.1) (by omega) ho8 hf8 hr8 hg9 hf9;have hK9:=hf9.obj (hf8.obj (hf7.obj hK6 (by omega)) (hnbo _ (by omega))) (fun e=>by have e:Dm=g:=e;omega);have hK6:=hK9;have hz9:=hF9.size;have ho9:=(ho6.WH hf7 (fun a ha e=>hne6 mg hml ⟨a,ha,e⟩)).WH hF9 (fun a ha e=>e.2.1 ⟨a,ha,rfl⟩);refine Gz 11 ?_;refine UD rfl rfl rfl hK6 ?_;intro wf _ hfD;have e9:Own b8 5 wf.heap o6 c6 (cO b):=ho9.WH hfD (fun a ha e=>by obtain⟨cur,h⟩:=ho9.cells ha;have e:a.block=Dm:=e;rw[e,hK6] at h;cases h);rw[e];exact⟨_,rfl,o6,c6,rfl,e9,hfr6w,(hM9.WH hfD (fun k hk e=>hk.2.2 e) (fun e=>by have e:p=Dm:=e;omega)).mono (fun k hk=>⟨hk.1,hk.2.1⟩) (fun h=>h10 h.1),((hFW6.any.trans (hf7.mono (fun k e=>by have e:k=mg:=e;rw[e];exact h8))).trans (hF9.mono (fun k hk=>hk.1))).WD hfD (fun k e=>.inr (by have e:k=Dm:=e;omega))⟩
 rw[rS] at h54;obtain⟨k,hk⟩:∃ k,eA s.m (iW (bR b))=some k:=by rw[hsk];cases h:eA s.m ⟨bR b,hrl⟩ with|none=>rw[h] at h54;exact absurd rfl h54|some k=>exact⟨k,rfl⟩
 have e:=yY (first:=first) hrne hk;have eg:(cQ (vM s.m) ⟨bR b,hrl⟩).getD (iV 0)=nV k:=by rw[rS,←hsk,hk];rfl
 rw[eg];refine Gz 14 ?_;refine UD rfl rfl rfl hK6 ?_;intro wf _ hfD;obtain⟨e1,e2⟩:=hend wf hfD.WE;rw[e];exact⟨_,rfl,o6,c6,rfl,e1,hfr6w,hsame wf e2,e2.any⟩
def Hw(x:Hd×Nat):List Value:=[hd x.1,iV x.2]
theorem mS:iF 2 Hw:=fun x=>⟨rfl,by simp[Hw,Value.oneCell',hd]⟩
def zA(D:Nat→Prop)(H:Array Obj)(ys:List (Hd×Nat))(m:List (SK×Nat)):Prop:=
 ys.length=m.length∧∀ (i:Nat) (x:Hd×Nat) (y:SK×Nat),ys[i]?=some x→m[i]?=some y→x.2=y.2∧x.1.n=y.1.1.length∧Vw b8 H x.1.a x.1.c y.1.1∧∀ k,blk x.1.a k→D k
section
variable {D D':Nat→Prop}{H:Array Obj}{ys:List (Hd×Nat)}{m:List (SK×Nat)}
theorem zA.WH{S:Nat→Prop}{w w':World}(h:zA D w.heap ys m)(f:aA S w w')(hS:∀ k,D k→¬ S k):zA D w'.heap ys m:=
 ⟨h.1,fun i x y hx hy=>by
  obtain⟨h1,h2,h3,h4⟩:=h.2 i x y hx hy;exact⟨h1,h2,h3.WH f (fun a ha=>hS _ (h4 _ ⟨a,ha,rfl⟩)),h4⟩⟩
theorem zA.mono(h:zA D H ys m)(hd:∀ k,D k→D' k):zA D' H ys m:=
 ⟨h.1,fun i x y hx hy=>by obtain⟨h1,h2,h3,h4⟩:=h.2 i x y hx hy;exact⟨h1,h2,h3,fun k hk=>hd k (h4 k hk)⟩⟩
theorem zA.snoc(h:zA D H ys m){s:SK}{v:Nat}{z:Hd}(h1:z.n=s.1.length)(h2:Vw b8 H z.a z.c s.1)(h4:∀ k,blk z.a k→D k):zA D H (ys++[(z,v)]) (m++[(s,v)]):=by
 refine⟨by simp[h.1],fun i x y hx hy=>?_⟩;by_cases hi:i<ys.length
 · rw[XC hi] at hx
   rw[XC (by rw[←h.1];exact hi)] at hy;exact h.2 i x y hx hy
 · have hi':i=ys.length:=by
    have:=(WN.1 hx).1;simp at this;omega
   subst hi';simp at hx;rw[h.1] at hy;simp at hy;subst hx;subst hy;exact⟨rfl,h1,h2,h4⟩
end
def rdC(first:Nat)(bo:Option Addr)(bn bc:Nat)(ro:Option Addr)(rn rc:Nat):List Value:=[iV first,.slice bo bn bc,.slice ro rn rc]
def RyO(D:Nat→Prop)(H:Array Obj)(g first:Nat)(s:DS):Prop:=
 ∃ bo bc ro rc ys,H[g]?=some (.cells (rdC first bo s.B.length bc ro (Xp (α:=Hd×Nat) ys) rc).toArray 84 (0,0))∧Own b8 5 H bo bc s.B∧bL 2 Hw 152 H ro rc ys ∧
  zA (fun k=>D k∧k≠g∧¬ blk bo k∧¬ blk ro k∧k<H.size) H ys s.m∧¬ blk bo g∧¬ blk ro g∧Ap bo ro∧D g∧(∀ k,blk bo k→D k)∧(∀ k,blk ro k→D k)
section
variable {D:Nat→Prop}{g first:Nat}{s:DS}
theorem RyO.lt{H:Array Obj}(h:RyO D H g first s):g<H.size:=by obtain⟨bo,bc,ro,rc,ys,hg,_⟩:=h;exact(WS.1 hg).1
theorem RyO.keepTo{S E:Nat→Prop}{w w':World}(h:RyO D w.heap g first s)(hf:aA S w w')(hs:∀ k,k<w.heap.size→D k→¬ S k)(hE:∀ k,k<w.heap.size→D k→E k):RyO E w'.heap g first s:=by
 have hl:=h.lt;obtain⟨bo,bc,ro,rc,ys,hg,h1,h2,h3,h4,h5,h6,h7,h8,h9⟩:=h;have hb:∀ k,blk bo k→k<w.heap.size:=fun k ⟨a,ha,e⟩=>by have:=h1.lt a ha;omega
 have hr:∀ k,blk ro k→k<w.heap.size:=fun k ⟨a,ha,e⟩=>by have:=h2.lt a ha;omega
 exact⟨bo,bc,ro,rc,ys,hf.obj hg (hs g hl h7),h1.WH hf (fun a ha=>hs _ (h1.lt a ha) (h8 _ ⟨a,ha,rfl⟩)),h2.WH hf (fun a ha=>hs _ (h2.lt a ha) (h9 _ ⟨a,ha,rfl⟩)),
  (h3.WH hf (fun k hk=>hs k hk.2.2.2.2 hk.1)).mono (fun k hk=>⟨hE k hk.2.2.2.2 hk.1,hk.2.1,hk.2.2.1,hk.2.2.2.1,by have:=hk.2.2.2.2;have:=hf.size;omega⟩),h4,h5,h6,hE g hl h7,fun k hk=>hE k (hb k hk) (h8 k hk),fun k hk=>hE k (hr k hk) (h9 k hk)⟩
theorem RyO.WH{S:Nat→Prop}{w w':World}(h:RyO D w.heap g first s)(hf:aA S w w')(hs:∀ k,k<w.heap.size→D k→¬ S k):RyO D w'.heap g first s:=h.keepTo hf hs (fun _ _ h=>h)
theorem OG{W w1 w2:World}{bo bo' ro:Option Addr}{bc' rc:Nat}{ys:List (Hd×Nat)}{mq:List (SK×Nat)}{Bq:By}(hD:∀ k,W.heap.size≤k→D k)(hgl:g<W.heap.size)
 (hbl:∀ k,blk bo k→k<W.heap.size)(h2:bL 2 Hw 152 W.heap ro rc ys)(h3:zA (fun k=>D k∧k≠g∧¬ blk bo k∧¬ blk ro k∧k<W.heap.size) W.heap ys mq)(h4:¬ blk bo g)(h5:¬ blk ro g)(h6:Ap bo ro)(h7:D g)(h8:∀ k,blk bo k→D k)(h9:∀ k,blk ro k→D k)
 (ho:Own b8 5 w1.heap bo' bc' Bq)(hf1:aA (blk bo) W w1)(hr:∀ a,bo'=some a→bo=some a∨W.heap.size≤a.block)
 (hg2:w2.heap[g]?=some (.cells (rdC first bo' Bq.length bc' ro ys.length rc).toArray 84 (0,0)))(hf2:aA (· = g) w1 w2) :
 RyO D w2.heap g first ⟨Bq,mq⟩∧aA D W w2:=by
 have hz:=hf1.size;have hz2:=hf2.size;have hD2:aA D W w2:=(hf1.mono h8).trans (hf2.mono (fun k h=>by have h:k=g:=h;subst h;exact h7));have hn:∀ k,k<W.heap.size→¬ blk bo k→¬ blk bo' k:=fun k hk hb ⟨a,ha,e⟩=>by
  rcases hr a ha with h|h
  ·exact hb ⟨a,h,e⟩
  ·omega
 have hrl:∀ k,blk ro k→k<W.heap.size:=fun k ⟨a,ha,e⟩=>by have:=h2.lt a ha;omega
 refine⟨⟨bo',bc',ro,rc,ys,hg2,ho.WH hf2 (fun a ha h=>hn g hgl h4 ⟨a,ha,h⟩),(h2.WH hf1 (fun a ha ⟨b,hb,h⟩=>h6 b a hb ha h)).WH hf2 (fun a ha h=>h5 ⟨a,ha,h⟩),
  ((h3.WH hf1 (fun k hk=>hk.2.2.1)).WH hf2 (fun k hk=>hk.2.1)).mono (fun k hk=>⟨hk.1,hk.2.1,hn k hk.2.2.2.2 hk.2.2.1,hk.2.2.2.1,by have:=hk.2.2.2.2;omega⟩),hn g hgl h4,h5,fun a b ha hb e=>?_,h7,fun k ⟨a,ha,hb⟩=>?_,h9⟩,hD2⟩
 ·exact hn a.block (by have:=hrl b.block ⟨b,hb,rfl⟩;omega) (fun⟨c,hc,e2⟩=>h6 c b hc hb (e2.trans e)) ⟨a,ha,rfl⟩
 · rcases hr a ha with h|h
   ·exact h8 k ⟨a,h,hb⟩
   ·exact hD k (by omega)
end
theorem Eu(D:Nat→Prop)(g first:Nat)(s:DS)(bo0:Option Addr)(bc0:Nat)(b:By)(W:World)(hM:RyO D W.heap g first s)(hD:∀ k,W.heap.size≤k→D k)(hv:Vw b8 W.heap bo0 bc0 b)(hfi:first≤1000)(hb:s.B.length≤1099511627776)(hbl:b.length≤128) :
 CA 33 [pT g,.slice bo0 b.length bc0] W fun v w'=>v=iV ((kO first s b).2:Nat)∧RyO D w'.heap g first (kO first s b).1∧aA D W w':=by
 obtain⟨bo,bc,ro,rc,ys,hg,h1,h2,h3,h4,h5,h6,h7,h8,h9⟩:=hM;have hgl:=(WS.1 hg).1;have hps:=dR hbl;refine cS 33 [(0,_),(1,_)] Tryz.func33 ?_;refine cA 8 Ho (lP bo0 bc0 b W hv) ?_;rintro _ w1 ⟨o1,c1,rfl,ho1,hfr1,hf1⟩;have hg1:=hf1.obj hg id;have hz1:=hf1.size;refine Gz 8 ?_;refine Tc 11 (fun H=>H[g]?=some (.cells (rdC first bo s.B.length bc ro ys.length rc).toArray 84 (0,0))) [] [0,1,2,3,4,5,6,7,8,9,10] aI (by kernel_rfl) (hg1) ?_;refine Gz 21 ?_;refine S8 aN aH rfl rfl (h1.WG (hf1.draws 1)) ho1.vw (by omega) (by unfold maxLen;omega) rfl ?_;intro o2 c2 w2 ho2 hf2 hr2 hn2;have hf2:=hf2.WE;have hg2:=hf2.obj hg1 h4;refine Gz 2 ?_;refine S6 aL rfl rfl rfl hg2 rfl ?_;intro w3 hg3 hs3 hf3;obtain⟨hM3,hF3⟩:=OG (W:=w1) (mq:=s.m) (first:=first) (Bq:=s.B++(bV b).1) (bO hf1 hD) (by omega) (fun k ⟨a,ha,e⟩=>by have:=h1.lt a ha;omega) (h2.WG hf1) ((h3.WH hf1 (fun _ _=>id)).mono (fun k hk=>⟨hk.1,hk.2.1,hk.2.2.1,hk.2.2.2.1,by have:=hk.2.2.2.2;omega⟩)) h4 h5 h6 h7 h8 h9 ho2 hf2 hr2 hg3 hf3;refine Gz 10 ?_;exact⟨_,rfl,rfl,hM3,hf1.any.trans hF3⟩
theorem AU{a:SK}{v:Nat}:∀ {m:List (SK×Nat)} {j:Nat},eA (m.take j) a=none→m[j]?=some (a,v)→eA m a=some v
|[],j,_,h=>by simp at h
|p::r,0,_,h=>by
   simp at h;subst h;unfold eA;rw[WJ rfl]
|p::r,j+1,hn,h=>by
   rw[List.take_succ_cons] at hn;unfold eA at hn ⊢
   split at hn
   ·cases hn
   ·rename_i hp;rw[WI hp];exact AU hn (by simpa using h)
theorem ES{a b:SK}{v:Nat}{m:List (SK×Nat)}{j:Nat}(hn:eA (m.take j) a=none)(h:m[j]?=some (b,v))(hne:b≠a):eA (m.take (j+1)) a=none:=by
 have hj:=(WN.1 h).1;have e:m[j]=(b,v):=(WN.1 h).2;rw[Xb hj,e,yD,hn];exact WI hne
theorem II(D:Nat→Prop)(g first:Nat)(s:DS)(bo0:Option Addr)(bc0:Nat)(b:By)(W:World)(hM:RyO D W.heap g first s)(hD:∀ k,W.heap.size≤k→D k)(hv:Vw b8 W.heap bo0 bc0 b)(hfi:first≤1000)(hb:s.B.length≤1099511627776)(hbl:b.length≤1048576)(hml:s.m.length≤1048576) :
 CA 31 [pT g,.slice bo0 b.length bc0] W fun v w'=>∃ o c,v=.tuple #[iV ((fO first s b).2:Nat),.slice o (cO b).length c]∧Own b8 5 w'.heap o c (cO b)∧Fr W.heap.size o∧RyO (fun k=>D k∧¬ blk o k) w'.heap g first (fO first s b).1∧aA D W w':=by
 have hM0:=hM;obtain⟨bo,bc,ro,rc,ys,hg,h1,h2,h3,h4,h5,h6,h7,h8,h9⟩:=hM;have hgl:=(WS.1 hg).1;have hlb:=hv.le;have hyl:=h3.1;have hbol:∀ k,blk bo k→k<W.heap.size:=fun k ⟨a,ha,e⟩=>by have:=h1.lt a ha;omega
 have hrol:∀ k,blk ro k→k<W.heap.size:=fun k ⟨a,ha,e⟩=>by have:=h2.lt a ha;omega
 refine cS 101 [(0,_),(1,_)] Tryz.func31 ?_;refine Gz 8 ?_;refine TF b8 aH rfl ?_;intro w1 ho1 hs1 hf1;refine Gz 5 ?_;refine S4 (β:=Nat×(Option Addr×Nat)×(Option Addr×Nat)) (fun⟨i,⟨oi,ci⟩,⟨ro2,rc2⟩⟩=>[(0,pT g),(1,.slice oi (b.drop (i*128)).length ci),(6,.slice ro2 (tA b i).length rc2)]) (fun⟨i,⟨oi,ci⟩,⟨ro2,rc2⟩⟩ w=>i≤b.length/128∧Vw b8 W.heap oi ci (b.drop (i*128))∧Own b8 5 w.heap ro2 rc2 (tA b i)∧Fr W.heap.size ro2∧aA nob W w) (fun⟨i,⟨oi,ci⟩,⟨ro2,rc2⟩⟩=>b.length/128-i) ⟨0,⟨bo0,bc0⟩,⟨some ⟨W.heap.size,0,none⟩,0⟩⟩ ⟨rfl,(by rw[Za,Zh];rfl),rfl,trivial⟩ ⟨WU _,by rw[Za,Zh];exact hv,ho1,(fun a ha=>by cases ha;exact WT _),hf1⟩ ?_;rintro⟨i,⟨oi,ci⟩,⟨ro2,rc2⟩⟩ w2 ⟨hi,hvi,hro,hfro,hF2⟩;have hdl:=WX (i:=i*128) (l:=b);have hci:=hvi.le;have hri:=iX b i;refine fK 5 ?_ ?_<;>intro h16
 ·have hcl:(chB b i).length=128:=DT (by omega);have hrl:=iX b i;have hfl:=vO (vU b i);have hdn:(b.drop ((i+1)*128)).length=(b.drop (i*128)).length-128:=by rw[hdl,WX];omega
  refine Gz 9 ?_;refine cL (S3 (u:=.slice oi (chB b i).length ci) (Tl aH rfl rfl (by omega)) (by rw[aV,hcl];rfl)) ?_;refine Gz 3 ?_;refine Tw (β:=Option Addr×Nat) (fun⟨xo,xc⟩=>[(0,pT g),(1,.slice oi (b.drop (i*128)).length ci),(6,.slice ro2 (tA b i).length rc2),(7,.slice xo (hX (chB b i)).length xc)]) (fun⟨xo,xc⟩ w=>Vw b8 w.heap xo xc (hX (chB b i))∧w=w2) ?_ ?_
  ·refine cA 3 R3 (IC oi ci (chB b i) w2 ((hvi.WG hF2).take 128)) ?_;rintro _ wq ⟨rfl,hwq⟩;subst wq;by_cases h20:nU (chB b i)
   ·rw[WO h20];have ex:hX (chB b i)=[]:=by unfold hX;rw[WJ h20]
    refine Gz 6 ?_;exact TG ⟨none,0⟩ ⟨rfl,rfl,rfl,(by show some (Value.slice none 0 0)=_;rw[ex];rfl),trivial⟩ ⟨by rw[ex];exact V7 0 (WU _),rfl⟩
   rw[WL h20];have ex:hX (chB b i)=chB b i:=by unfold hX;rw[WI h20]
   refine Gz 4 ?_;exact TG ⟨oi,ci⟩ ⟨rfl,rfl,rfl,(by rw[ex];rfl),trivial⟩ ⟨by rw[ex];exact(hvi.WG hF2).take 128,rfl⟩
  rintro⟨xo,xc⟩ wq ⟨hxv,hwq⟩;obtain rfl:w2=wq:=hwq.symm;refine cA 3 Ho (lP xo xc (hX (chB b i)) w2 hxv) ?_;rintro _ w3 ⟨o3,c3,rfl,ho3,hfr3,hf3⟩;have ho3:Own b8 5 w3.heap o3 c3 (frB (chB b i)):=ho3;refine Gz 11 ?_;refine S8 aN aH rfl rfl (hro.WG hf3) ho3.vw (by rw[show (bV (hX (chB b i))).1=frB (chB b i) from rfl];omega) (by rw[show (bV (hX (chB b i))).1=frB (chB b i) from rfl];unfold maxLen;omega) rfl ?_;intro o4 c4 w4 ho4 hf4 hr4 hn4;refine Gz 5 ?_;refine cL (S3 (u:=.slice (bA oi ci 128 1) (b.drop ((i+1)*128)).length (ci-128)) (TK aH rfl rfl (by omega)) (by rw[hdn];rfl)) ?_;refine Gz 3 ?_;have hcd:=yI (n:=128) hvi (by omega) (by omega);rw[show (128:Int).toNat=128 from rfl,YG,show i*128+128=(i+1)*128 by omega] at hcd;refine Ti ⟨i+1,⟨bA oi ci 128 1,ci-128⟩,⟨o4,c4⟩⟩ ⟨rfl,rfl,?_,trivial⟩ ⟨by omega,hcd,by rw[sZ];exact ho4,cH hfro hr4 (by have:=hf3.size;have:=hF2.size;omega),(hF2.trans hf3).WD hf4 (fun k ⟨a,ha,e⟩=>.inr (by have:=hfro a ha;omega))⟩ (by show b.length/128-(i+1)<b.length/128-i;omega);rw[sZ];rfl
 have hie:i=b.length/128:=by omega
 subst hie;have hro:Own b8 5 w2.heap ro2 rc2 (bR b):=hro;have hvi:Vw b8 W.heap oi ci (cO b):=hvi;have htl:(cO b).length≤b.length:=by unfold cO;rw[WX];omega
 have hrb:=iX b (b.length/128);have hrb:(bR b).length≤135*(b.length/128)∧3*(b.length/128)≤(bR b).length:=hrb;refine Gz 10 ?_;refine TF b8 aH rfl ?_;intro w5 ho5 hs5 hf5;refine Gz 1 ?_;refine S8 aN aH rfl rfl ho5 ((hvi.WG hF2).WG hf5) (by simp only[WZ];omega) (by simp only[WZ];unfold maxLen;omega) rfl ?_;intro o6 c6 w6 ho6 hf6 hr6 hn6;have ho6:Own b8 5 w6.heap o6 c6 (cO b):=ho6;have hz5:=hf5.size;have hz2:=hF2.size;have hfr5:Fr w2.heap.size (some (⟨w2.heap.size,0,none⟩:Addr)):=fun a ha=>by cases ha;exact WT _
 have hF26:aA nob w2 w6:=hf5.WD hf6 hfr5.step;have hF6:=hF2.trans hF26;have hfr6:Fr w2.heap.size o6:=fun a ha=>by rcases hr6 a ha with h|h;exact hfr5 a h;omega
 have hro6:=hro.WG hF26;have hg6:=hF6.obj hg id;have k16:=h1.WG hF6;have k26:=h2.WG hF6;have k36:=h3.WH hF6 (fun _ _=>id);have hz6:=hF6.size;have hz26:=hF26.size;have ho6l:=ho6.lt;have hrl6:=hro6.lt;have hne6:∀ k,k<w2.heap.size→¬ blk o6 k:=fun k hk ⟨a,ha,e⟩=>by have:=hfr6 a ha;omega
 have hrl2:=hro.lt;have hsame:∀ wf,aA nob W wf→RyO (fun k=>D k∧¬ blk o6 k) wf.heap g first s:=fun wf hf=>hM0.keepTo hf (fun _ _ _=>id) (fun k hk hd=>⟨hd,hne6 k (by omega)⟩)
 have hfr6W:Fr W.heap.size o6:=hfr6.mono hz2;refine fK 8 ?_ ?_<;>intro h36
 ·have e:=Bk (first:=first) (s:=s) (b:=b) (by omega);refine Gz 13 ?_;rw[e];exact⟨_,rfl,o6,c6,rfl,ho6,hfr6W,hsame _ hF6,hF6.any⟩
 have hrl:(bR b).length≤maxLen:=by unfold maxLen;omega
 have hrne:(bR b).length≠0:=by omega
 have hsk:=Fz hrl;have hysv:=k26.vw mS;have hyle:=hysv.le;refine Gz 12 ?_;refine S4 (β:=Nat) (fun j=>[(0,pT g),(6,.slice ro2 (bR b).length rc2),(10,.slice o6 (cO b).length c6),(11,iV j)]) (fun j w=>j≤s.m.length∧eA (s.m.take j) (iW (bR b))=none∧∃ n,w=w6.drewN n) (fun j=>s.m.length-j) 0 ⟨rfl,rfl,rfl,rfl,trivial⟩ ⟨WU _,rfl,0,rfl⟩ ?_;rintro j w ⟨hj,hjn,⟨n,rfl⟩⟩;refine fK 9 ?_ ?_<;>intro h44
 ·have hjm:j<s.m.length:=by omega
  obtain⟨⟨⟨xa,xn,xc⟩,xk⟩,hx⟩:∃ x,ys[j]?=some x:=⟨_,WK (by omega)⟩
  obtain⟨⟨y,yk⟩,hy⟩:∃ y,s.m[j]?=some y:=⟨_,WK hjm⟩
  obtain⟨e1,e2,hxv,_⟩:=k36.2 j _ _ hx hy;have e1:xk=yk:=e1;have e2:xn=y.1.length:=e2;subst e1 e2;have hxv:Vw b8 w6.heap xa xc y.1:=hxv;refine Gz 8 ?_;refine Tc 12 (fun H=>H[g]?=some (.cells (rdC first bo s.B.length bc ro ys.length rc).toArray 84 (0,0))∧VwM 2 Hw H ro rc ys∧Vw b8 H xa xc y.1∧Vw b8 H ro2 rc2 (bR b)) [] [0,1,2,3,4,5,6,7,8,9,10,11] aI (by kernel_rfl) (⟨hg6,hysv,hxv,hro6.vw⟩) ?_;refine Gz 5 ?_;refine xC rfl (S1 Ih rfl rfl hysv.non (by omega)) ?_;refine Gz 1 ?_;refine xC rfl (S9 aL rfl (fun H hH=>hH.2.1.rowZ j rfl hx 0 _ rfl)) ?_;refine xC rfl (Ul (xs:=y.1) aH ty5 ty9 rfl (fun H hH=>hH.2.2.1)) ?_;refine Gz 1 ?_;refine xC rfl (Ul (xs:=bR b) aH ty5 ty9 rfl (fun H hH=>hH.2.2.2)) ?_;refine xK 0 ?_ ?_<;>intro h58
  ·have hyr:y=iW (bR b):=Subtype.ext (by rw[hsk];exact h58);have e:=yY (first:=first) hrne (AU hjn (by rw[hy,hyr]));refine Gz 10 ?_;refine cL (S1 Ih rfl rfl hysv.non (by omega)) ?_;refine Gz 1 ?_;refine cL (S2 aF rfl (hysv.rowZ j rfl hx 1 _ rfl)) ?_;refine Gz 12 ?_;rw[e];exact⟨_,rfl,o6,c6,rfl,ho6,hfr6W,hsame _ ((hF6.draws n).draws 1),((hF6.draws n).draws 1).any⟩
  have hyr:y≠iW (bR b):=fun e=>h58 (by rw[e,hsk]);have hjn2:=ES hjn hy hyr;refine Gz 11 ?_;exact aG (j+1) ⟨by omega,hjn2,n+1,by simp[World.drewN];omega⟩ (by show s.m.length-(j+1)<s.m.length-j;omega)
 have hje:j=s.m.length:=by omega
 subst hje;rw[Xl] at hjn;have e:=yZ (first:=first) hrne hjn;refine Gz 9 ?_;refine Tc 11 (fun H=>H[g]?=some (.cells (rdC first bo s.B.length bc ro ys.length rc).toArray 84 (0,0))) [] [0,1,2,3,4,5,6,7,8,9,10] aI (by kernel_rfl) (hg6) ?_;refine Gz 22 ?_;refine cL (TC (cs:=#[hd ⟨ro2,(bR b).length,rc2⟩,iV ((first+s.B.length:Nat):Int)]) Ny MG rfl (by kernel_rfl)) ?_;refine Tu Ih (cs:=[hd ⟨ro2,(bR b).length,rc2⟩,iV ((first+s.B.length:Nat):Int)].toArray) MG rfl rfl rfl (by kernel_rfl) rfl ?_;intro w7 hg7 hs7 hf7;have hf7:=hf7.WE.WE;obtain⟨yn,hyn⟩:∃ yn:Hd×Nat,yn=(⟨ro2,(bR b).length,rc2⟩,first+s.B.length):=⟨_,rfl⟩
 have ho7:bL 2 Hw 152 w7.heap (some ⟨w6.heap.size,0,none⟩) 1 [yn]:=bS (xs:=[yn]) mS (by rw[hyn];exact hg7) (by show 1≤maxLen;decide);have hz7:w7.heap.size=w6.heap.size+1:=hs7;refine Th mS rfl Ih rfl rfl (k26.WG hf7) (ho7.vw mS) (by simp only[WP];omega) (by simp only[WP];unfold maxLen;omega) rfl ?_;intro o8 c8 w8 ho8 hf8 hr8 hn8;have hz8:=hf8.size;have hg8:=hf8.obj (hf7.obj hg6 id) h5;have hr8w:∀ k,k<W.heap.size→¬ blk ro k→¬ blk o8 k:=fun k hk hb ⟨a,ha,e⟩=>by rcases hr8 a ha with h|h;exact hb ⟨a,h,e⟩;omega
 refine Gz 2 ?_;refine S6 MH rfl rfl rfl hg8 rfl ?_;intro w9 hg9 hs9 hf9;have h19:=((k16.WG hf7).WH hf8 (fun a ha ⟨c,hc,e⟩=>h6 a c ha hc e.symm)).WH hf9 (fun a ha e=>h4 ⟨a,ha,e⟩);have h29:=ho8.WH hf9 (fun a ha e=>hr8w g hgl h5 ⟨a,ha,e⟩);have hro9:=((hro6.WG hf7).WH hf8 (fun a ha hb=>by have:=hrol _ hb;have:=hfro a ha;omega)).WH hf9 (fun a ha e=>by have:=hfro a ha;have e:a.block=g:=e;omega);have hblk:∀ k,blk ro2 k→(D k∧¬ blk o6 k)∧k≠g∧¬ blk bo k∧¬ blk o8 k∧k<w9.heap.size:=by
  rintro k ⟨a,ha,e⟩;have h10:=hfro a ha;have h11:=hrl2 a ha;subst e;refine⟨⟨hD _ (by omega),hne6 _ (by omega)⟩,by omega,(fun h=>?_),(fun⟨c,hc,e2⟩=>?_),by omega⟩
  ·have:=hbol _ h;omega
  · rcases hr8 c hc with h|h
    ·have:=hrol _ ⟨c,h,e2⟩;omega
    ·omega
 have h39:=(((((k36.WH hf7 (fun _ _=>id)).WH hf8 (fun k hk=>hk.2.2.2.1)).WH hf9 (fun k hk=>hk.2.1)).mono (D':=fun k=>(D k∧¬ blk o6 k)∧k≠g∧¬ blk bo k∧¬ blk o8 k∧k<w9.heap.size) (fun k hk=>⟨⟨hk.1,hne6 k (by have:=hk.2.2.2.2;omega)⟩,hk.2.1,hk.2.2.1,hr8w k hk.2.2.2.2 hk.2.2.2.1,by have:=hk.2.2.2.2;omega⟩)).snoc (s:=iW (bR b)) (v:=first+s.B.length) (z:=⟨ro2,(bR b).length,rc2⟩) (by rw[hsk]) (by rw[hsk];exact hro9.vw) hblk)
 rw[←hyn] at h39;have hF9:aA D W w9:=((hF6.any.trans hf7.any).trans (hf8.mono h9)).trans (hf9.mono (fun k e=>by have e:k=g:=e;rw[e];exact h7));have ho69:=((ho6.WG hf7).WH hf8 (fun a ha hb=>by have:=hrol _ hb;have:=hfr6W a ha;omega)).WH hf9 (fun a ha e=>by have:=hfr6W a ha;have e:a.block=g:=e;omega);refine Gz 10 ?_;refine S8 aN aH rfl rfl h19 hro9.vw (by omega) (by unfold maxLen;omega) rfl ?_;intro o10 c10 w10 ho10 hf10 hr10 hn10;have hg10:=hf10.obj hg9 h4;refine Gz 2 ?_;refine S6 aL rfl rfl rfl hg10 rfl ?_;intro w11 hg11 hs11 hf11;have hz9:=hf9.size;obtain⟨hM11,hF11⟩:=OG (W:=w9) (D:=fun k=>D k∧¬ blk o6 k) (ro:=o8) (ys:=ys++[yn]) (mq:=s.m++[(iW (bR b),first+s.B.length)]) (first:=first) (Bq:=s.B++bR b) (fun k hk=>⟨hD k (by omega),(fun⟨a,ha,e⟩=>by have:=ho6l a ha;omega)⟩) (by omega) (fun k hk=>by have:=hbol k hk;omega) h29 h39 h4 (hr8w g hgl h5) (fun a c ha hc e=>by rcases hr8 c hc with h|h;exact h6 a c ha h e;have:=h1.lt a ha;omega) ⟨h7,hne6 g (by omega)⟩ (fun k hk=>⟨h8 k hk,hne6 k (by have:=hbol k hk;omega)⟩) (fun k ⟨a,ha,e⟩=>by rcases hr8 a ha with h|h;exact⟨h9 k ⟨a,h,e⟩,hne6 k (by have:=hrol k ⟨a,h,e⟩;omega)⟩;exact⟨hD k (by omega),(fun⟨c,hc,e2⟩=>by have:=ho6l c hc;omega)⟩) ho10 hf10 hr10 hg11 hf11;refine Gz 12 ?_;rw[e];exact⟨_,rfl,o6,c6,rfl,ho69.WH hF11 (fun a ha hh=>hh.2 ⟨a,ha,rfl⟩),hfr6W,hM11,hF9.trans (hF11.mono (fun k hk=>hk.1))⟩
abbrev Ino:=(Nat→Int)×By
def oY(x:Ino):List Value:=bN x.1 x.2
theorem dX:iF 11 oY:=fun x=>⟨rfl,lY _ _⟩
def cI:Ino:=(fun _=>0,[])
def Ca(x:Ino):By:=(kT x.1 x.2).2
theorem DJ{x:Ino}(h:jS x.1 x.2):15≤(Ca x).length∧(Ca x).length≤214:=by
 have h1:=Lx h;have h9:=h.1;unfold bH at h9;unfold Ca
 split at h1
 ·omega
 ·split at h1<;>omega
def nO(l:List Int)(n:Int):Int:=match l.findIdx? (fun x=>decide (x=n)) with
|some i=>i
|none=>0
structure BSt where
 ino:By
 lst:By
 fur:By
 refs:List Int
 sets:List (List Xa×Int)
 many:Nat
def lH(n:Nat):BSt:=⟨[],[],[],Xe n 0,[],0⟩
def bT(s:BSt)(X:List Xa):Int×BSt:=
 if X.length=0 then (0,s) else
 match s.sets.find? (fun y=>decide (y.1=X)) with
|some y=>(y.2+1,s)
|none=>((bJ s.fur s.fur.length:Nat)+1,{ s with fur:=s.fur++(eM X).1,sets:=s.sets++[(X,((bJ s.fur s.fur.length:Nat):Int))] })
def ndB(qs:List (NdH×Nd))(k:Int):Nd:=(qs.getD k.toNat (tD,nd0)).2
def inB(qs:List (NdH×Nd))(ids:List Int)(k:Int)(i:Ino)(xr:Int):Ino:=
 (fun j=>[(ndB qs k).kind,(ndB qs k).md,nO ids (ndB qs k).ud,nO ids (ndB qs k).gd,rK qs k,xr,i.1 6,i.1 7,i.1 8,i.1 9].getD j 0,i.2)
def eW(qs:List (NdH×Nd))(ids:List Int)(k:Int)(i:Ino)(s:BSt):BSt:=
 { (bT s (ndB qs k).xs).2 with
  ino:=(bT s (ndB qs k).xs).2.ino++(iO (inB qs ids k i (bT s (ndB qs k).xs).1).1 (inB qs ids k i (bT s (ndB qs k).xs).1).2).1
  refs:=(bT s (ndB qs k).xs).2.refs.set (ndB qs k).ino.toNat ((bJ (bT s (ndB qs k).xs).2.ino (bT s (ndB qs k).xs).2.ino.length:Nat)+1)
  many:=(bT s (ndB qs k).xs).2.many+1 }
def wrK(wr:Int→BSt→BSt)(qs:List (NdH×Nd)):List Int→BSt→BSt×List Ent
|[],s=>(s,[])
|j::r,s=>((wrK wr qs r (wr j s)).1,(aU (ndB qs j).names,(ndB qs j).kind,(wr j s).refs.getD (ndB qs j).ino.toNat 0-1)::(wrK wr qs r (wr j s)).2)
def EX(s:BSt)(b:By):Ino:=(fun j=>if j=6 then ((bJ s.lst s.lst.length:Nat):Int) else if j=7 then b.length else 0,[])
def wrB(qs:List (NdH×Nd))(ids:List Int)(files:List Ino):Nat→Int→BSt→BSt
|0,_,s=>s
|n+1,k,s=>
   if 0<s.refs.getD (ndB qs k).ino.toNat 0 then s
   else if (ndB qs k).kind=2 then eW qs ids k (files.getD (ndB qs k).ino.toNat cI) s
   else if (ndB qs k).kind=3 then eW qs ids k (zF,(ndB qs k).tgt) s
   else if (ndB qs k).kind=1 then
    eW qs ids k (EX (wrK (wrB qs ids files n) qs (bP qs (ndB qs k).names qs.length) s).1 (gE (wrK (wrB qs ids files n) qs (bP qs (ndB qs k).names qs.length) s).2).1)
     { (wrK (wrB qs ids files n) qs (bP qs (ndB qs k).names qs.length) s).1 with lst:=(wrK (wrB qs ids files n) qs (bP qs (ndB qs k).names qs.length) s).1.lst++(gE (wrK (wrB qs ids files n) qs (bP qs (ndB qs k).names qs.length) s).2).1 }
   else eW qs ids k (zF,[]) s
structure FSt where
 ds:DS
 tails:List By
 files:List Ino
def dS(s:FSt)(x:Nd):FSt:=
 if x.kind≠2∨(s.files.getD x.ino.toNat cI).1 0=2 then s
 else ⟨(fO 64 s.ds x.data).1,(dK s.tails (cO x.data)).1,s.files.set x.ino.toNat (fun j=>[2,0,0,0,0,0,((fO 64 s.ds x.data).2:Int),x.data.length,((dK s.tails (cO x.data)).2.1:Int),((dK s.tails (cO x.data)).2.2:Int)].getD j 0,[])⟩
def aS(qs:List (NdH×Nd)):FSt:=(nds qs).foldl dS ⟨⟨[],[]⟩,[],Xe (qs.length+1) cI⟩
def eF:List By→DS→DS×List Int
|[],s=>(s,[])
|t::r,s=>((eF r (kO 64 s t).1).1,((kO 64 s t).2:Int)::(eF r (kO 64 s t).1).2)
def dnW(T:By):By:=frW T (nF T)
structure zG where
 d:DS
 pl:List Int
 s:BSt
def aK(qs:List (NdH×Nd))(ids:List Int):zG:=⟨(eF (aS qs).tails (aS qs).ds).1,(eF (aS qs).tails (aS qs).ds).2,wrB qs ids (aS qs).files 17 0 (lH (qs.length+1))⟩
def gN(a:zG):By:=a.d.B
def gM(a:zG):By:=gN a++dnW a.s.ino
def iC(a:zG):By:=gM a++dnW a.s.lst
def iI(a:zG):By:=iC a++dnW (aJ a.pl 4).1
def iY(a:zG)(ids:List Int):By:=iI a++dnW (aJ ids 2).1
def gL(a:zG)(ids:List Int):By:=iY a ids++dnW a.s.fur
def fM(qs:List (NdH×Nd))(ids:List Int)(a:zG):Nat→Int:=fun j=>[64+((gL a ids).length:Int),a.s.many,64+(gN a).length,64+(gM a).length,64+(iC a).length,64+(iI a).length,64+(iY a ids).length,ids.length,a.pl.length,a.s.refs.getD (ndB qs 0).ino.toNat 0-1].getD j 0
def pY(qs:List (NdH×Nd))(ids:List Int):By×Int:=
 if 1048576<64+((gL (aK qs ids) ids).length:Int) then ([],3)
 else ((eU (fM qs ids (aK qs ids))).1++gL (aK qs ids) ids,0)
structure zC (z:Nat)(C:Value→Value→List Value):Prop where
 g0:∀ a b,(C a b)[z]?=some a
 g1:∀ a b,(C a b)[z+1]?=some b
 s0:∀ a b v,(C a b).set z v=C v b
 s1:∀ a b v,(C a b).set (z+1) v=C a v
 l0:∀ a b,Nat.blt z (C a b).length=true
 l1:∀ a b,Nat.blt (z+1) (C a b).length=true
section
variable {C:Value→Value→List Value}{T:TypeId}
def RwI(C:Value→Value→List Value)(T:TypeId)(D:Nat→Prop)(H:Array Obj)(g:Nat)(f t:By):Prop:=
 ∃ fo fc to tc,H[g]?=some (.cells (C (.slice fo f.length fc) (.slice to t.length tc)).toArray T (0,0))∧Own b8 5 H fo fc f∧Own b8 5 H to tc t∧¬ blk fo g∧¬ blk to g∧Ap fo to∧D g∧(∀ k,blk fo k→D k)∧(∀ k,blk to k→D k)
section
variable {D:Nat→Prop}{g:Nat}{f t:List UInt8}
theorem RwI.lt{H:Array Obj}(h:RwI C T D H g f t):g<H.size:=by obtain⟨fo,fc,to,tc,hg,_⟩:=h;exact(WS.1 hg).1
end
theorem In{D:Nat→Prop}{W w1 w2:World}{g:Nat}{f t t':By}{fo to to':Option Addr}{fc tc tc':Nat}(hD:∀ k,W.heap.size≤k→D k)
 (hg:W.heap[g]?=some (.cells (C (.slice fo f.length fc) (.slice to t.length tc)).toArray T (0,0)))(h1:Own b8 5 W.heap fo fc f)(h3:¬ blk fo g)(h4:¬ blk to g)(h5:Ap fo to)(h6:D g)(h7:∀ k,blk fo k→D k)(h8:∀ k,blk to k→D k)
 (ho:Own b8 5 w1.heap to' tc' t')(hf1:aA (blk to) W w1)(hr:∀ a,to'=some a→to=some a∨W.heap.size≤a.block)
 (hg2:w2.heap[g]?=some (.cells (C (.slice fo f.length fc) (.slice to' t'.length tc')).toArray T (0,0)))(hf2:aA (· = g) w1 w2) :
 RwI C T D w2.heap g f t'∧aA D W w2:=by
 have hgl:=(WS.1 hg).1;have hD1:aA D W w1:=hf1.mono h8;have hD2:aA D W w2:=hD1.trans (hf2.mono (fun k h=>by have h:k=g:=h;subst h;exact h6));have hn:¬ blk to' g:=fun⟨a,ha,hb⟩=>by
  rcases hr a ha with h|h
  ·exact h4 ⟨a,h,hb⟩
  ·omega
 refine⟨⟨fo,fc,to',tc',hg2,(h1.WH hf1 (fun a ha ⟨b,hb,h⟩=>h5 a b ha hb h.symm)).WH hf2 (fun a ha h=>h3 ⟨a,ha,h⟩),ho.WH hf2 (fun a ha h=>hn ⟨a,ha,h⟩),h3,hn,fun a b ha hb e=>?_,h6,h7,fun k ⟨a,ha,hb⟩=>?_⟩,hD2⟩
 · rcases hr b hb with h|h
   ·exact h5 a b ha h e
   ·have:=h1.lt a ha;omega
 · rcases hr a ha with h|h
   ·exact h8 k ⟨a,h,hb⟩
   ·exact hD k (by omega)
theorem Io{D:Nat→Prop}{W w1 w2:World}{g:Nat}{f t f':By}{fo to fo':Option Addr}{fc tc fc':Nat}(hD:∀ k,W.heap.size≤k→D k)
 (hg:W.heap[g]?=some (.cells (C (.slice fo f.length fc) (.slice to t.length tc)).toArray T (0,0)))(h2:Own b8 5 W.heap to tc t)(h3:¬ blk fo g)(h4:¬ blk to g)(h5:Ap fo to)(h6:D g)(h7:∀ k,blk fo k→D k)(h8:∀ k,blk to k→D k)
 (ho:Own b8 5 w1.heap fo' fc' f')(hf1:aA (blk fo) W w1)(hr:∀ a,fo'=some a→fo=some a∨W.heap.size≤a.block)
 (hg2:w2.heap[g]?=some (.cells (C (.slice fo' f'.length fc') (.slice to t.length tc)).toArray T (0,0)))(hf2:aA (· = g) w1 w2) :
 RwI C T D w2.heap g f' t∧aA D W w2:=by
 have hgl:=(WS.1 hg).1;have hD1:aA D W w1:=hf1.mono h7;have hD2:aA D W w2:=hD1.trans (hf2.mono (fun k h=>by have h:k=g:=h;subst h;exact h6));have hn:¬ blk fo' g:=fun⟨a,ha,hb⟩=>by
  rcases hr a ha with h|h
  ·exact h3 ⟨a,h,hb⟩
  ·omega
 refine⟨⟨fo',fc',to,tc,hg2,ho.WH hf2 (fun a ha h=>hn ⟨a,ha,h⟩),(h2.WH hf1 (fun a ha ⟨b,hb,h⟩=>h5 b a hb ha h)).WH hf2 (fun a ha h=>h4 ⟨a,ha,h⟩),hn,h4,fun a b ha hb e=>?_,h6,fun k ⟨a,ha,hb⟩=>?_,h8⟩,hD2⟩
 · rcases hr a ha with h|h
   ·exact h5 a b h hb e
   ·have:=h2.lt b hb;omega
 · rcases hr a ha with h|h
   ·exact h7 k ⟨a,h,hb⟩
   ·exact hD k (by omega)
theorem Lh{D:Nat→Prop}{W w2:World}{g:Nat}{f t:By}{fo to:Option Addr}{fc tc:Nat}
 (hg:W.heap[g]?=some (.cells (C (.slice fo f.length fc) (.slice to t.length tc)).toArray T (0,0)))(h1:Own b8 5 W.heap fo fc f)(h3:¬ blk fo g)(h6:D g)(h7:∀ k,blk fo k→D k)
 (hg2:w2.heap[g]?=some (.cells (C (.slice fo f.length fc) sN).toArray T (0,0)))(hf2:aA (· = g) W w2) :
 RwI C T D w2.heap g f []∧aA D W w2:=
 ⟨⟨fo,fc,none,0,hg2,h1.WH hf2 (fun a ha h=>h3 ⟨a,ha,h⟩),V8,h3,(fun⟨a,ha,_⟩=>by cases ha),V5,h6,h7,(fun k ⟨a,ha,_⟩=>by cases ha)⟩,hf2.mono (fun k h=>by have h:k=g:=h;subst h;exact h6)⟩
theorem GL{z:Nat}(hC:zC z C)(D:Nat→Prop)(g:Nat)(f t:By)(bo:Option Addr)(bc:Nat)(b:By)(W:World)(hM:RwI C T D W.heap g f t)(hD:∀ k,W.heap.size≤k→D k)(hv:Vw b8 W.heap bo bc b)(hbD:b≠[]→∀ k,blk bo k→¬ D k)(htl:t.length<128)(hb:f.length+2*(t.length+b.length)≤1099511627776) :
 CA 36 [.pointer (some ⟨g,z,none⟩),.slice bo b.length bc] W fun v w'=>v=iV (256*f.length+t.length:Nat)∧RwI C T D w'.heap g (aP f (t++b)).1 (aP f (t++b)).2∧aA D W w':=by
 have hM0:=hM;obtain⟨fo,fc,to,tc,hg,h1,h2,h3,h4,h5,h6,h7,h8⟩:=hM;have hvl:=hv.WF;refine cS 67 [(0,_),(1,_)] Tryz.func36 ?_;refine Gz 6 ?_;refine Tk 13 [0,1,2,3,4,5,6,7,8,9,10,11,12] aI (by kernel_rfl) ?_;refine Gz 3 ?_;refine xC rfl (S2 aL rfl (by first|exact aT hg (hC.g0 _ _)|exact aT hg (hC.g1 _ _))) ?_;refine Gz 1 ?_;refine xC rfl (TL rfl rfl (by omega)) ?_;refine Gz 3 ?_;refine xC rfl (S2 aL rfl (by first|exact aT hg (hC.g0 _ _)|exact aT hg (hC.g1 _ _))) ?_;refine Gz 12 ?_;refine S4 (β:=Nat×(By×By)) (fun⟨i,⟨f9,t9⟩⟩=>[(0,.pointer (some ⟨g,z,none⟩)),(1,.slice bo b.length bc),(5,iV (256*f.length+t.length:Nat)),(6,iV i)]) (fun⟨i,⟨f9,t9⟩⟩ w=>i≤b.length∧aP f (t++b.take i)=(f9,t9)∧RwI C T D w.heap g f9 t9∧aA D W w) (fun⟨i,⟨f9,t9⟩⟩=>b.length-i) ⟨0,⟨f,t⟩⟩ ⟨rfl,rfl,rfl,rfl,trivial⟩ ⟨WU _,by rw[Yr,XP,cJ htl],hM0,(VZ _ _).draws 1⟩ ?_;rintro⟨i,⟨f9,t9⟩⟩ w3 ⟨hi,hcw,hM3,hF3⟩;obtain⟨hoA,hcap,ko,kc,kg,k1,k2,k3,k4,k5,k6,k7,k8⟩:=hM3;have hM3:RwI C T D w3.heap g f9 t9:=⟨hoA,hcap,ko,kc,kg,k1,k2,k3,k4,k5,k6,k7,k8⟩
 have hv9:Vw b8 w3.heap bo bc b:=hv.keepN hF3 (fun hne a ha h=>hbD hne _ ⟨a,ha,rfl⟩ h);refine fK 6 ?_ ?_<;>intro h24
 ·have hib:i<b.length:=by omega
  have hsn:=Ba f (t++b.take i) (b.getD i 0);rw[W9,←Fl hib,hcw] at hsn;have hsn:aP f (t++b.take (i+1))=if (t9++[b.getD i 0]).length=128 then (f9++(bV (t9++[b.getD i 0])).1,[]) else (f9,t9++[b.getD i 0]):=hsn
  have hln:=sG f (t++b.take i);rw[hcw,WM,WR] at hln;have hrl:=fH f (t++b.take i);rw[hcw] at hrl;have hln:f9.length+2*t9.length≤f.length+2*(t.length+min i b.length):=hln;have hrl:t9.length<128:=hrl;refine Gz 5 ?_;refine Tw (β:=By×By) (fun⟨f8,t8⟩=>[(0,.pointer (some ⟨g,z,none⟩)),(1,.slice bo b.length bc),(5,iV (256*f.length+t.length:Nat)),(6,iV i)]) (fun⟨f8,t8⟩ w=>aP f (t++b.take (i+1))=(f8,t8)∧RwI C T D w.heap g f8 t8∧aA D W w) ?_ ?_
  ·refine Gz 2 ?_;refine Tc 13 (fun H=>Vw b8 H bo bc b∧H[g]?=some (.cells (C (.slice hoA f9.length hcap) (.slice ko t9.length kc)).toArray T (0,0))) [9,10,13] [0,1,2,3,4,5,6,7,8,9,10,11,12,13] aI (by kernel_rfl) (⟨hv9,kg⟩) ?_;refine Gz 4 ?_;refine xC rfl (S9 aL rfl (fun H hH=>aT hH.2 (hC.g1 _ _))) ?_;refine Gz 2 ?_;refine xC rfl (SY aH rfl rfl hv.non (by omega)) ?_;refine xC rfl (S9 nM rfl (fun H hH=>hH.1.gd 0 hib)) ?_;refine S7 rfl rfl (TB (enc:=b8) (u:=b.getD i 0) aH (aN _) rfl rfl ?_);intro w4 ho4 hs4 hf4;have hf4:=hf4.WE;refine Tg (by exact⟨(hv9).WG hf4,hf4.obj kg id⟩) ?_;refine S7 rfl rfl (S8 aN aH rfl rfl (k2.WG hf4) ho4.vw (by simp only[WP];omega) (by simp only[WP];unfold maxLen;omega) rfl ?_);intro to5 tc5 w5 ho5 hf5 hr5 hn5;have hg5:=hf5.obj (hf4.obj kg id) k4;have hv5:Vw b8 w5.heap bo bc b:=(hv9.WG hf4).keepN hf5 (fun hne a ha h=>hbD hne _ ⟨a,ha,rfl⟩ (k8 _ h));refine Tg (by exact⟨hv5,hg5⟩) ?_;refine Gz 2 ?_;refine S7 rfl rfl (S6 aL rfl rfl rfl hg5 (hC.l1 _ _) ?_);intro w6 hg6 hs6 hf6;refine Tx rfl ?_;rw[hC.s1] at hg6;obtain⟨hM6,hF6⟩:=In (bO hf4 (bO hF3 hD)) (hf4.obj kg id) (k1.WG hf4) k3 k4 k5 k6 k7 k8 ho5 hf5 hr5 hg6 hf6;have hF6:=hf4.any.trans hF6;obtain⟨jo,jc,lo,lc,jg,j1,j2,j3,j4,j5,j6,j7,j8⟩:=hM6;have hz6:=hF6.size;refine Gz 7 ?_;refine cL (S2 aL rfl (by first|exact aT jg (hC.g0 _ _)|exact aT jg (hC.g1 _ _))) ?_;refine fK 1 ?_ ?_<;>intro h45
   ·rw[WJ (by omega)] at hsn;have hps:=dR (b:=t9++[b.getD i 0]) (by omega);refine Gz 8 ?_;refine cL (S2 aL rfl (by first|exact aT jg (hC.g0 _ _)|exact aT jg (hC.g1 _ _))) ?_;refine cA 0 Ho (lP lo lc (t9++[b.getD i 0]) w6 j2.vw) ?_;rintro _ w7 ⟨o7,c7,rfl,ho7,hfr7,hf7⟩;have hg7:=hf7.obj jg id;refine Gz 13 ?_;refine cL (S2 aL rfl (by first|exact aT hg7 (hC.g0 _ _)|exact aT hg7 (hC.g1 _ _))) ?_;refine Gz 1 ?_;refine S8 aN aH rfl rfl (j1.WG hf7) ho7.vw (by omega) (by unfold maxLen;omega) rfl ?_;intro fo8 fc8 w8 ho8 hf8 hr8 hn8;have hg8:=hf8.obj hg7 j3;refine Gz 2 ?_;refine S6 aL rfl rfl rfl hg8 (hC.l0 _ _) ?_;intro w9 hg9 hs9 hf9;rw[hC.s0] at hg9;obtain⟨hM9,hF9⟩:=Io (bO hf7 (bO hF6 (bO hF3 hD))) hg7 (j2.WG hf7) j3 j4 j5 j6 j7 j8 ho8 hf8 hr8 hg9 hf9;obtain⟨io,ic,mo,mc,ig,i1,i2,i3,i4,i5,i6,i7,i8⟩:=hM9;refine Gz 6 ?_;refine S6 aL rfl rfl rfl ig (hC.l1 _ _) ?_;intro w10 hg10 hs10 hf10;rw[hC.s1] at hg10;obtain⟨hM10,hF10⟩:=Lh ig i1 i3 i6 i7 hg10 hf10;refine Gz 2 ?_;exact aC ⟨f9++(bV (t9++[b.getD i 0])).1,[]⟩ ⟨hsn,hM10,(((hF3.trans hF6).trans hf7.any).trans hF9).trans hF10⟩
   rw[WI (by omega)] at hsn;refine Gz 5 ?_;exact aC ⟨f9,t9++[b.getD i 0]⟩ ⟨hsn,⟨jo,jc,lo,lc,jg,j1,j2,j3,j4,j5,j6,j7,j8⟩,hF3.trans hF6⟩
  rintro⟨f8,t8⟩ w12 ⟨hcw12,hM12,hF12⟩;refine Gz 5 ?_;exact aG ⟨i+1,⟨f8,t8⟩⟩ ⟨by omega,hcw12,hM12,hF12⟩ (by show b.length-(i+1)<b.length-i;omega)
 have hib:i=b.length:=by omega
 subst hib;rw[Xl] at hcw;refine Gz 16 ?_;rw[hcw];exact⟨_,rfl,rfl,hM3,hF3⟩
theorem Et{z:Nat}(hC:zC z C)(D:Nat→Prop)(g:Nat)(f t:By)(W:World)(hM:RwI C T D W.heap g f t)(hb:f.length≤1099511627000)(htl:t.length<128) :
 CA 37 [.pointer (some ⟨g,z,none⟩)] W (iR W (jD f t)):=by
 obtain⟨fo,fc,to,tc,hg,h1,h2,h3,h4,h5,h6,h7,h8⟩:=hM;refine cS 30 [(0,_)] Tryz.func37 ?_;refine Gz 7 ?_;refine TF b8 aH rfl ?_;intro w1 ho1 hs1 hf1;have hg1:=hf1.obj hg id;refine Gz 3 ?_;refine cL (S2 aL rfl (by first|exact aT hg1 (hC.g0 _ _)|exact aT hg1 (hC.g1 _ _))) ?_;refine S8 aN aH rfl rfl ho1 (h1.WG hf1).vw (by simp only[WZ];omega) (by simp only[WZ];unfold maxLen;omega) rfl ?_;intro o2 c2 w2 ho2 hf2 hr2 hn2;rw[Xi] at ho2 ⊢;have hF2:aA nob W w2:=hf1.WD hf2 (fJ _).step;have hfr2:Fr W.heap.size o2:=cH (fJ _) hr2 hf1.size;have hg2:=hF2.obj hg id;refine Gz 9 ?_;refine cL (S2 aL rfl (by first|exact aT hg2 (hC.g0 _ _)|exact aT hg2 (hC.g1 _ _))) ?_;refine fK 1 ?_ ?_<;>intro h17
 ·have e:jD f t=f++(bV t).1:=by unfold jD;rw[WI (by omega)]
  have hps:=dR (b:=t) (by omega);refine Gz 8 ?_;refine cL (S2 aL rfl (by first|exact aT hg2 (hC.g0 _ _)|exact aT hg2 (hC.g1 _ _))) ?_;refine cA 0 Ho (lP to tc t w2 (h2.WG hF2).vw) ?_;rintro _ w3 ⟨o3,c3,rfl,ho3,hfr3,hf3⟩;refine Gz 10 ?_;refine S8 aN aH rfl rfl (ho2.WG hf3) ho3.vw (by omega) (by unfold maxLen;omega) rfl ?_;intro o4 c4 w4 ho4 hf4 hr4 hn4;refine Gz 11 ?_;rw[e];exact⟨_,rfl,o4,c4,rfl,ho4,cH hfr2 hr4 (hF2.trans hf3).size,(hF2.trans hf3).WD hf4 hfr2.step⟩
 have e:jD f t=f:=by unfold jD;rw[WJ (by omega)]
 refine Gz 13 ?_;rw[e];exact⟨_,rfl,o2,c2,rfl,ho2,hfr2,hF2⟩
theorem RwI.tight{D:Nat→Prop}{H:Array Obj}{g:Nat}{f t:By}(h:RwI C T D H g f t):RwI C T (fun k=>D k∧k<H.size) H g f t:=by
 have hl:=h.lt;obtain⟨fo,fc,to,tc,hg,h1,h2,h3,h4,h5,h6,h7,h8⟩:=h;exact⟨fo,fc,to,tc,hg,h1,h2,h3,h4,h5,⟨h6,hl⟩,fun k ⟨a,ha,hb⟩=>⟨h7 k ⟨a,ha,hb⟩,by have:=h1.lt a ha;omega⟩,fun k ⟨a,ha,hb⟩=>⟨h8 k ⟨a,ha,hb⟩,by have:=h2.lt a ha;omega⟩⟩
theorem RwI.mono{D D':Nat→Prop}{H:Array Obj}{g:Nat}{f t:By}(h:RwI C T D H g f t)(hd:∀ k,D k→D' k):RwI C T D' H g f t:=by
 obtain⟨fo,fc,to,tc,hg,h1,h2,h3,h4,h5,h6,h7,h8⟩:=h;exact⟨fo,fc,to,tc,hg,h1,h2,h3,h4,h5,hd _ h6,fun k hk=>hd _ (h7 k hk),fun k hk=>hd _ (h8 k hk)⟩
theorem RwI.nx{A:Nat→Prop}{W w':World}{g:Nat}{f t:By}(h:RwI C T (fun k=>A k∨W.heap.size≤k) w'.heap g f t):RwI C T (Nx A W w') w'.heap g f t:=
 h.tight.mono (fun k hk=>hk.1.elim .inl (fun h2=>.inr ⟨h2,hk.2⟩))
theorem pL{z:Nat}(hC:zC z C)(A:Nat→Prop)(g:Nat)(Q:By)(bo:Option Addr)(bc:Nat)(b:By)(W:World)(hM:RwI C T A W.heap g (aP [] Q).1 (aP [] Q).2)(hv:Vw b8 W.heap bo bc b)(hbA:b≠[]→∀ k,blk bo k→¬ A k)(hb:Q.length+b.length≤274877906944) :
 CA 36 [.pointer (some ⟨g,z,none⟩),.slice bo b.length bc] W fun v w'=>v=iV (bJ Q Q.length:Nat)∧RwI C T (Nx A W w') w'.heap g (aP [] (Q++b)).1 (aP [] (Q++b)).2∧aA A W w':=by
 have hs:=oH Q b;have hr:=fH [] Q;refine(GL hC (fun k=>A k∨W.heap.size≤k) g _ _ bo bc b W (hM.mono (fun k h=>.inl h)) (fun k h=>.inr h) hv (fun hne k hk h=>h.elim (hbA hne k hk) (fun h=>by obtain⟨a,ha,rfl⟩:=hk;have:=hv.lt hne a ha;omega)) hr (by omega)).mono ?_;rintro e w' ⟨v,rfl,rfl,h1,h2⟩;rw[←wW,←nZ] at *;exact⟨_,rfl,rfl,h1.nx,h2.nx⟩
theorem nN{z:Nat}(hC:zC z C)(A:Nat→Prop)(g:Nat)(Q:By)(W:World)(hM:RwI C T A W.heap g (aP [] Q).1 (aP [] Q).2)(hb:Q.length≤274877906944) :
 CA 37 [.pointer (some ⟨g,z,none⟩)] W (iR W (frW Q (nF Q))):=by
 have hs:=oH Q [];have hr:=fH [] Q;have:=Et hC A g _ _ W hM (by rw[WZ] at hs;omega) hr;rwa[tO] at this
end
theorem Gv:(Tryz.prog.info? 81).map (fun i=>i.zero.map (·.cells))=some (some #[sN,sN,sN,sN,sN,sN,sN,sN,sN,sN,sN,sN,iV 0]):=by kernel_rfl
def biC(lv iv a1 b1 a2 b2 a3 b3 rv fv sv tv:Value)(many:Int):List Value:=[lv,iv,a1,b1,a2,b2,a3,b3,rv,fv,sv,tv,iV many]
structure BiA where
 lo:Option Addr
 lc:Nat
 io:Option Addr
 ic:Nat
 f1:Option Addr
 c1:Nat
 t1:Option Addr
 d1:Nat
 f2:Option Addr
 c2:Nat
 t2:Option Addr
 d2:Nat
 f3:Option Addr
 c3:Nat
 t3:Option Addr
 d3:Nat
 ro:Option Addr
 rc:Nat
 fo:Option Addr
 fc:Nat
 so:Option Addr
 sc:Nat
 tr:Option Addr
 tc:Nat
 hs:List Hd
def biK(a:BiA)(qs:List (NdH×Nd))(ids:List Int)(files:List Ino)(s:BSt):List Value:=
 biC (.slice a.lo qs.length a.lc) (.slice a.io ids.length a.ic) (.slice a.f1 (aP [] s.ino).1.length a.c1) (.slice a.t1 (aP [] s.ino).2.length a.d1) (.slice a.f2 (aP [] s.lst).1.length a.c2) (.slice a.t2 (aP [] s.lst).2.length a.d2)
  (.slice a.f3 (aP [] s.fur).1.length a.c3) (.slice a.t3 (aP [] s.fur).2.length a.d3) (.slice a.ro s.refs.length a.rc) (.slice a.fo files.length a.fc) (.slice a.so s.sets.length a.sc) (.slice a.tr s.sets.length a.tc) s.many
def WrM(ow:Nat→Nat)(z:Nat)(H:Array Obj)(Q:By)(fo:Option Addr)(fc:Nat)(to:Option Addr)(tc:Nat):Prop:=
 Own b8 5 H fo fc (aP [] Q).1∧Own b8 5 H to tc (aP [] Q).2∧Ap fo to∧(∀ k,blk fo k→ow k=z)∧(∀ k,blk to k→ow k=z)
def BiW(a:BiA)(ow:Nat→Nat)(H:Array Obj)(g:Nat)(qs:List (NdH×Nd))(ids:List Int)(files:List Ino)(s:BSt):Prop:=
 H[g]?=some (.cells (biK a qs ids files s).toArray 81 (0,0))∧ow g=6 ∧
 (aO (fun k=>ow k=4) H a.lo a.lc qs∧(qs≠[]→∀ k,blk a.lo k→ow k=4))∧(Vw i64 H a.io a.ic ids∧∀ k,blk a.io k→ow k=4)∧(VwM 11 oY H a.fo a.fc files∧∀ k,blk a.fo k→ow k=4) ∧
 WrM ow 1 H s.ino a.f1 a.c1 a.t1 a.d1∧WrM ow 2 H s.lst a.f2 a.c2 a.t2 a.d2∧WrM ow 3 H s.fur a.f3 a.c3 a.t3 a.d3 ∧
 (Own i64 3 H a.ro a.rc s.refs∧∀ k,blk a.ro k→ow k=5)∧(Own hd 35 H a.so a.sc a.hs∧∀ k,blk a.so k→ow k=7) ∧
 (a.hs.length=s.sets.length∧∀ (i:Nat) (h:Hd) (y:List Xa×Int),a.hs[i]?=some h→s.sets[i]?=some y→XsV (fun k=>ow k=4) H h y.1)∧(Own i64 3 H a.tr a.tc (s.sets.map (·.2))∧∀ k,blk a.tr k→ow k=8)
def Lb(ow:Nat→Nat):Nat→Prop:=fun k=>ow k≠0∧ow k≠4
theorem WrM.WH{ow ow':Nat→Nat}{z:Nat}{S:Nat→Prop}{w w':World}{Q:By}{fo to:Option Addr}{fc tc:Nat}(h:WrM ow z w.heap Q fo fc to tc)(f:aA S w w')(hS:∀ k,ow k=z→¬ S k)(ho:∀ k,ow k=z→ow' k=z):WrM ow' z w'.heap Q fo fc to tc:=
 ⟨h.1.WH f (fun a ha=>hS _ (h.2.2.2.1 _ ⟨a,ha,rfl⟩)),h.2.1.WH f (fun a ha=>hS _ (h.2.2.2.2 _ ⟨a,ha,rfl⟩)),h.2.2.1,fun k hk=>ho k (h.2.2.2.1 k hk),fun k hk=>ho k (h.2.2.2.2 k hk)⟩
section
variable {a:BiA}{ow ow':Nat→Nat}{g:Nat}{qs:List (NdH×Nd)}{ids:List Int}{files:List Ino}{s:BSt}
theorem cZ{D D' S:Nat→Prop}{w w':World}{lo:Option Addr}{lc:Nat}(h:aO D w.heap lo lc qs)(f:aA S w w')(hS:∀ k,D k→¬ S k)(hl:qs≠[]→∀ k,blk lo k→¬ S k)(hD:∀ k,D k→D' k):aO D' w'.heap lo lc qs:=
 ⟨h.1.keep' f (fun hne a ha=>hl hne _ ⟨a,ha,rfl⟩),fun p hp=>((h.2 p hp).WH f hS).mono hD⟩
theorem BiW.WH{S:Nat→Prop}{w w':World}(h:BiW a ow w.heap g qs ids files s)(f:aA S w w')(hS:∀ k,ow k≠0→¬ S k)(ho:∀ k,ow k≠0→ow' k=ow k):BiW a ow' w'.heap g qs ids files s:=by
 obtain⟨hg,hl,⟨n1,n2⟩,⟨i1,i2⟩,⟨f1,f2⟩,w1,w2,w3,⟨r1,r2⟩,⟨s1,s2⟩,⟨e1,e2⟩,t1,t2⟩:=h;have key:∀ z,z≠0→∀ k,ow k=z→¬ S k:=fun z hz k hk=>hS k (by omega);have kz:∀ z,z≠0→∀ k,ow k=z→ow' k=z:=fun z hz k hk=>by rw[ho k (by omega)];exact hk
 exact⟨f.obj hg (hS g (by omega)),kz 6 (by decide) g hl,⟨cZ n1 f (key 4 (by decide)) (fun hne k hk=>key 4 (by decide) k (n2 hne k hk)) (kz 4 (by decide)),fun hne k hk=>kz 4 (by decide) k (n2 hne k hk)⟩,
  ⟨i1.WH f (fun a ha=>key 4 (by decide) _ (i2 _ ⟨a,ha,rfl⟩)),fun k hk=>kz 4 (by decide) k (i2 k hk)⟩,⟨f1.WH f (fun a ha=>key 4 (by decide) _ (f2 _ ⟨a,ha,rfl⟩)),fun k hk=>kz 4 (by decide) k (f2 k hk)⟩,
  w1.WH f (key 1 (by decide)) (kz 1 (by decide)),w2.WH f (key 2 (by decide)) (kz 2 (by decide)),w3.WH f (key 3 (by decide)) (kz 3 (by decide)),
  ⟨r1.WH f (fun a ha=>key 5 (by decide) _ (r2 _ ⟨a,ha,rfl⟩)),fun k hk=>kz 5 (by decide) k (r2 k hk)⟩,⟨s1.WH f (fun a ha=>key 7 (by decide) _ (s2 _ ⟨a,ha,rfl⟩)),fun k hk=>kz 7 (by decide) k (s2 k hk)⟩,
  ⟨e1,fun i h y hh hy=>((e2 i h y hh hy).WH f (key 4 (by decide))).mono (kz 4 (by decide))⟩,t1.WH f (fun a ha=>key 8 (by decide) _ (t2 _ ⟨a,ha,rfl⟩)),fun k hk=>kz 8 (by decide) k (t2 k hk)⟩
theorem BiW.WG{w w':World}(h:BiW a ow w.heap g qs ids files s)(f:aA nob w w'):BiW a ow w'.heap g qs ids files s:=h.WH f (fun _ _=>id) (fun _ _=>rfl)
def MT(a:BiA)(qs:List (NdH×Nd))(ids:List Int)(files:List Ino)(s:BSt)(x y:Value):List Value:=
 biC (.slice a.lo qs.length a.lc) (.slice a.io ids.length a.ic) x y (.slice a.f2 (aP [] s.lst).1.length a.c2) (.slice a.t2 (aP [] s.lst).2.length a.d2) (.slice a.f3 (aP [] s.fur).1.length a.c3) (.slice a.t3 (aP [] s.fur).2.length a.d3) (.slice a.ro s.refs.length a.rc) (.slice a.fo files.length a.fc) (.slice a.so s.sets.length a.sc) (.slice a.tr s.sets.length a.tc) s.many
theorem F3(a:BiA)(qs:List (NdH×Nd))(ids:List Int)(files:List Ino)(s:BSt):zC 2 (MT a qs ids files s):=⟨fun _ _=>rfl,fun _ _=>rfl,fun _ _ _=>rfl,fun _ _ _=>rfl,fun _ _=>rfl,fun _ _=>rfl⟩
theorem BiW.rwi1{H:Array Obj}(h:BiW a ow H g qs ids files s):RwI (MT a qs ids files s) 81 (fun k=>k=g∨ow k=1) H g (aP [] s.ino).1 (aP [] s.ino).2:=by
 obtain⟨hg,hl,_,_,_,w1,w2,w3,_⟩:=h;exact⟨a.f1,a.c1,a.t1,a.d1,hg,w1.1,w1.2.1,fun h=>by have:=w1.2.2.2.1 g h;omega,fun h=>by have:=w1.2.2.2.2 g h;omega,w1.2.2.1,.inl rfl,fun k hk=>.inr (w1.2.2.2.1 k hk),fun k hk=>.inr (w1.2.2.2.2 k hk)⟩
theorem HJ(bo:Option Addr)(bc:Nat)(b:By)(W:World)(hM:BiW a ow W.heap g qs ids files s)(hn:∀ k,W.heap.size≤k→ow k=0)(hv:Vw b8 W.heap bo bc b)(hb:b≠[]→∀ k,blk bo k→ow k=0∨ow k=4)(hl:s.ino.length+b.length≤274877906944) :
 CA 36 [.pointer (some ⟨g,2,none⟩),.slice bo b.length bc] W fun v w'=>v=iV (bJ s.ino s.ino.length:Nat)∧∃ (a':BiA) (ow':Nat→Nat),BiW a' ow' w'.heap g qs ids files { s with ino:=s.ino++b } ∧
  (a'.lo=a.lo∧a'.lc=a.lc∧a'.ro=a.ro∧a'.rc=a.rc)∧(∀ k,k<W.heap.size→ow' k=ow k)∧(∀ k,w'.heap.size≤k→ow' k=0)∧aA (fun k=>k=g∨ow k=1) W w':=by
 have hle:∀ z,z≠0→∀ k,ow k=z→k<W.heap.size:=fun z hz k hk=>WV fun hc=>by have:=hn k (by omega);omega
 have h6:=hM.2.1;refine(pL (F3 a qs ids files s) (fun k=>k=g∨ow k=1) g s.ino bo bc b W hM.rwi1 hv (fun hne k hk h=>by rcases hb hne k hk with h2|h2<;>rcases h with rfl|h<;>omega) hl).mono ?_;rintro e w' ⟨v,rfl,rfl,⟨fo,fc,to,tc,hg',o1,o2,n1,n2,ap,_,l1,l2⟩,hf⟩;obtain⟨hg,_,⟨nd1,nd2⟩,⟨i1,i2⟩,⟨f1,f2⟩,w1,w2,w3,⟨r1,r2⟩,⟨s1,s2⟩,⟨e1,e2⟩,t1,t2⟩:=hM;obtain⟨ow',eo⟩:∃ o:Nat→Nat,o=fun k=>if k<W.heap.size then ow k else if k<w'.heap.size then 1 else 0:=⟨_,rfl⟩
 have c1:∀ k,k<W.heap.size→ow' k=ow k:=fun k hk=>by rw[eo];exact WJ hk
 have c2:∀ k,w'.heap.size≤k→ow' k=0:=fun k hk=>by
  rw[eo];have:=hf.size;show (if k<W.heap.size then ow k else if k<w'.heap.size then 1 else 0)=0;rw[WI (by omega),WI (by omega)]
 have c3:∀ k,k≠g→Nx (fun k=>k=g∨ow k=1) W w' k→ow' k=1:=fun k hk h=>by
  rcases h with(h|h)|⟨h,h2⟩
  ·exact absurd h hk
  ·rw[c1 k (hle 1 (by decide) k h)];exact h
  · rw[eo]
    show (if k<W.heap.size then ow k else if k<w'.heap.size then 1 else 0)=1;rw[WI (by omega),WJ h2]
 have key:∀ z,z≠0→z≠1→z≠6→∀ k,ow k=z→¬ (k=g∨ow k=1):=fun z _ h1 h2 k hk h=>by rcases h with rfl|h<;>omega
 have kz:∀ z,z≠0→∀ k,ow k=z→ow' k=z:=fun z hz k hk=>by rw[c1 k (hle z hz k hk)];exact hk
 refine⟨_,rfl,rfl,{ a with f1:=fo,c1:=fc,t1:=to,d1:=tc },ow',⟨hg',kz 6 (by decide) g h6,⟨cZ nd1 hf (key 4 (by decide) (by decide) (by decide)) (fun hne k hk=>key 4 (by decide) (by decide) (by decide) k (nd2 hne k hk)) (kz 4 (by decide)),fun hne k hk=>kz 4 (by decide) k (nd2 hne k hk)⟩,
  ⟨i1.WH hf (fun a ha=>key 4 (by decide) (by decide) (by decide) _ (i2 _ ⟨a,ha,rfl⟩)),fun k hk=>kz 4 (by decide) k (i2 k hk)⟩,⟨f1.WH hf (fun a ha=>key 4 (by decide) (by decide) (by decide) _ (f2 _ ⟨a,ha,rfl⟩)),fun k hk=>kz 4 (by decide) k (f2 k hk)⟩,
  ⟨o1,o2,ap,fun k hk=>c3 k (fun e=>n1 (e ▸ hk)) (l1 k hk),fun k hk=>c3 k (fun e=>n2 (e ▸ hk)) (l2 k hk)⟩,w2.WH hf (key 2 (by decide) (by decide) (by decide)) (kz 2 (by decide)),w3.WH hf (key 3 (by decide) (by decide) (by decide)) (kz 3 (by decide)),
  ⟨r1.WH hf (fun a ha=>key 5 (by decide) (by decide) (by decide) _ (r2 _ ⟨a,ha,rfl⟩)),fun k hk=>kz 5 (by decide) k (r2 k hk)⟩,⟨s1.WH hf (fun a ha=>key 7 (by decide) (by decide) (by decide) _ (s2 _ ⟨a,ha,rfl⟩)),fun k hk=>kz 7 (by decide) k (s2 k hk)⟩,
  ⟨e1,fun i h y hh hy=>((e2 i h y hh hy).WH hf (key 4 (by decide) (by decide) (by decide))).mono (kz 4 (by decide))⟩,t1.WH hf (fun a ha=>key 8 (by decide) (by decide) (by decide) _ (t2 _ ⟨a,ha,rfl⟩)),fun k hk=>kz 8 (by decide) k (t2 k hk)⟩,⟨rfl,rfl,rfl,rfl⟩,c1,c2,hf⟩
def MS(a:BiA)(qs:List (NdH×Nd))(ids:List Int)(files:List Ino)(s:BSt)(x y:Value):List Value:=
 biC (.slice a.lo qs.length a.lc) (.slice a.io ids.length a.ic) (.slice a.f1 (aP [] s.ino).1.length a.c1) (.slice a.t1 (aP [] s.ino).2.length a.d1) x y (.slice a.f3 (aP [] s.fur).1.length a.c3) (.slice a.t3 (aP [] s.fur).2.length a.d3) (.slice a.ro s.refs.length a.rc) (.slice a.fo files.length a.fc) (.slice a.so s.sets.length a.sc) (.slice a.tr s.sets.length a.tc) s.many
theorem F1(a:BiA)(qs:List (NdH×Nd))(ids:List Int)(files:List Ino)(s:BSt):zC 4 (MS a qs ids files s):=⟨fun _ _=>rfl,fun _ _=>rfl,fun _ _ _=>rfl,fun _ _ _=>rfl,fun _ _=>rfl,fun _ _=>rfl⟩
theorem BiW.rwi2{H:Array Obj}(h:BiW a ow H g qs ids files s):RwI (MS a qs ids files s) 81 (fun k=>k=g∨ow k=2) H g (aP [] s.lst).1 (aP [] s.lst).2:=by
 obtain⟨hg,hl,_,_,_,w1,w2,w3,_⟩:=h;exact⟨a.f2,a.c2,a.t2,a.d2,hg,w2.1,w2.2.1,fun h=>by have:=w2.2.2.2.1 g h;omega,fun h=>by have:=w2.2.2.2.2 g h;omega,w2.2.2.1,.inl rfl,fun k hk=>.inr (w2.2.2.2.1 k hk),fun k hk=>.inr (w2.2.2.2.2 k hk)⟩
theorem HI(bo:Option Addr)(bc:Nat)(b:By)(W:World)(hM:BiW a ow W.heap g qs ids files s)(hn:∀ k,W.heap.size≤k→ow k=0)(hv:Vw b8 W.heap bo bc b)(hb:b≠[]→∀ k,blk bo k→ow k=0∨ow k=4)(hl:s.lst.length+b.length≤274877906944) :
 CA 36 [.pointer (some ⟨g,4,none⟩),.slice bo b.length bc] W fun v w'=>v=iV (bJ s.lst s.lst.length:Nat)∧∃ (a':BiA) (ow':Nat→Nat),BiW a' ow' w'.heap g qs ids files { s with lst:=s.lst++b } ∧
  (a'.lo=a.lo∧a'.lc=a.lc∧a'.ro=a.ro∧a'.rc=a.rc)∧(∀ k,k<W.heap.size→ow' k=ow k)∧(∀ k,w'.heap.size≤k→ow' k=0)∧aA (fun k=>k=g∨ow k=2) W w':=by
 have hle:∀ z,z≠0→∀ k,ow k=z→k<W.heap.size:=fun z hz k hk=>WV fun hc=>by have:=hn k (by omega);omega
 have h6:=hM.2.1;refine(pL (F1 a qs ids files s) (fun k=>k=g∨ow k=2) g s.lst bo bc b W hM.rwi2 hv (fun hne k hk h=>by rcases hb hne k hk with h2|h2<;>rcases h with rfl|h<;>omega) hl).mono ?_;rintro e w' ⟨v,rfl,rfl,⟨fo,fc,to,tc,hg',o1,o2,n1,n2,ap,_,l1,l2⟩,hf⟩;obtain⟨hg,_,⟨nd1,nd2⟩,⟨i1,i2⟩,⟨f1,f2⟩,w1,w2,w3,⟨r1,r2⟩,⟨s1,s2⟩,⟨e1,e2⟩,t1,t2⟩:=hM;obtain⟨ow',eo⟩:∃ o:Nat→Nat,o=fun k=>if k<W.heap.size then ow k else if k<w'.heap.size then 2 else 0:=⟨_,rfl⟩
 have c1:∀ k,k<W.heap.size→ow' k=ow k:=fun k hk=>by rw[eo];exact WJ hk
 have c2:∀ k,w'.heap.size≤k→ow' k=0:=fun k hk=>by
  rw[eo];have:=hf.size;show (if k<W.heap.size then ow k else if k<w'.heap.size then 2 else 0)=0;rw[WI (by omega),WI (by omega)]
 have c3:∀ k,k≠g→Nx (fun k=>k=g∨ow k=2) W w' k→ow' k=2:=fun k hk h=>by
  rcases h with(h|h)|⟨h,h2⟩
  ·exact absurd h hk
  ·rw[c1 k (hle 2 (by decide) k h)];exact h
  · rw[eo]
    show (if k<W.heap.size then ow k else if k<w'.heap.size then 2 else 0)=2;rw[WI (by omega),WJ h2]
 have key:∀ z,z≠0→z≠2→z≠6→∀ k,ow k=z→¬ (k=g∨ow k=2):=fun z _ h1 h2 k hk h=>by rcases h with rfl|h<;>omega
 have kz:∀ z,z≠0→∀ k,ow k=z→ow' k=z:=fun z hz k hk=>by rw[c1 k (hle z hz k hk)];exact hk
 refine⟨_,rfl,rfl,{ a with f2:=fo,c2:=fc,t2:=to,d2:=tc },ow',⟨hg',kz 6 (by decide) g h6,⟨cZ nd1 hf (key 4 (by decide) (by decide) (by decide)) (fun hne k hk=>key 4 (by decide) (by decide) (by decide) k (nd2 hne k hk)) (kz 4 (by decide)),fun hne k hk=>kz 4 (by decide) k (nd2 hne k hk)⟩,
  ⟨i1.WH hf (fun a ha=>key 4 (by decide) (by decide) (by decide) _ (i2 _ ⟨a,ha,rfl⟩)),fun k hk=>kz 4 (by decide) k (i2 k hk)⟩,⟨f1.WH hf (fun a ha=>key 4 (by decide) (by decide) (by decide) _ (f2 _ ⟨a,ha,rfl⟩)),fun k hk=>kz 4 (by decide) k (f2 k hk)⟩,
  w1.WH hf (key 1 (by decide) (by decide) (by decide)) (kz 1 (by decide)),⟨o1,o2,ap,fun k hk=>c3 k (fun e=>n1 (e ▸ hk)) (l1 k hk),fun k hk=>c3 k (fun e=>n2 (e ▸ hk)) (l2 k hk)⟩,w3.WH hf (key 3 (by decide) (by decide) (by decide)) (kz 3 (by decide)),
  ⟨r1.WH hf (fun a ha=>key 5 (by decide) (by decide) (by decide) _ (r2 _ ⟨a,ha,rfl⟩)),fun k hk=>kz 5 (by decide) k (r2 k hk)⟩,⟨s1.WH hf (fun a ha=>key 7 (by decide) (by decide) (by decide) _ (s2 _ ⟨a,ha,rfl⟩)),fun k hk=>kz 7 (by decide) k (s2 k hk)⟩,
  ⟨e1,fun i h y hh hy=>((e2 i h y hh hy).WH hf (key 4 (by decide) (by decide) (by decide))).mono (kz 4 (by decide))⟩,t1.WH hf (fun a ha=>key 8 (by decide) (by decide) (by decide) _ (t2 _ ⟨a,ha,rfl⟩)),fun k hk=>kz 8 (by decide) k (t2 k hk)⟩,⟨rfl,rfl,rfl,rfl⟩,c1,c2,hf⟩
def MR(a:BiA)(qs:List (NdH×Nd))(ids:List Int)(files:List Ino)(s:BSt)(x y:Value):List Value:=
 biC (.slice a.lo qs.length a.lc) (.slice a.io ids.length a.ic) (.slice a.f1 (aP [] s.ino).1.length a.c1) (.slice a.t1 (aP [] s.ino).2.length a.d1) (.slice a.f2 (aP [] s.lst).1.length a.c2) (.slice a.t2 (aP [] s.lst).2.length a.d2) x y (.slice a.ro s.refs.length a.rc) (.slice a.fo files.length a.fc) (.slice a.so s.sets.length a.sc) (.slice a.tr s.sets.length a.tc) s.many
theorem FZ(a:BiA)(qs:List (NdH×Nd))(ids:List Int)(files:List Ino)(s:BSt):zC 6 (MR a qs ids files s):=⟨fun _ _=>rfl,fun _ _=>rfl,fun _ _ _=>rfl,fun _ _ _=>rfl,fun _ _=>rfl,fun _ _=>rfl⟩
theorem BiW.rwi3{H:Array Obj}(h:BiW a ow H g qs ids files s):RwI (MR a qs ids files s) 81 (fun k=>k=g∨ow k=3) H g (aP [] s.fur).1 (aP [] s.fur).2:=by
 obtain⟨hg,hl,_,_,_,w1,w2,w3,_⟩:=h;exact⟨a.f3,a.c3,a.t3,a.d3,hg,w3.1,w3.2.1,fun h=>by have:=w3.2.2.2.1 g h;omega,fun h=>by have:=w3.2.2.2.2 g h;omega,w3.2.2.1,.inl rfl,fun k hk=>.inr (w3.2.2.2.1 k hk),fun k hk=>.inr (w3.2.2.2.2 k hk)⟩
theorem HH(bo:Option Addr)(bc:Nat)(b:By)(W:World)(hM:BiW a ow W.heap g qs ids files s)(hn:∀ k,W.heap.size≤k→ow k=0)(hv:Vw b8 W.heap bo bc b)(hb:b≠[]→∀ k,blk bo k→ow k=0∨ow k=4)(hl:s.fur.length+b.length≤274877906944) :
 CA 36 [.pointer (some ⟨g,6,none⟩),.slice bo b.length bc] W fun v w'=>v=iV (bJ s.fur s.fur.length:Nat)∧∃ (a':BiA) (ow':Nat→Nat),BiW a' ow' w'.heap g qs ids files { s with fur:=s.fur++b } ∧
  (a'.lo=a.lo∧a'.lc=a.lc∧a'.ro=a.ro∧a'.rc=a.rc)∧(∀ k,k<W.heap.size→ow' k=ow k)∧(∀ k,w'.heap.size≤k→ow' k=0)∧aA (fun k=>k=g∨ow k=3) W w':=by
 have hle:∀ z,z≠0→∀ k,ow k=z→k<W.heap.size:=fun z hz k hk=>WV fun hc=>by have:=hn k (by omega);omega
 have h6:=hM.2.1;refine(pL (FZ a qs ids files s) (fun k=>k=g∨ow k=3) g s.fur bo bc b W hM.rwi3 hv (fun hne k hk h=>by rcases hb hne k hk with h2|h2<;>rcases h with rfl|h<;>omega) hl).mono ?_;rintro e w' ⟨v,rfl,rfl,⟨fo,fc,to,tc,hg',o1,o2,n1,n2,ap,_,l1,l2⟩,hf⟩;obtain⟨hg,_,⟨nd1,nd2⟩,⟨i1,i2⟩,⟨f1,f2⟩,w1,w2,w3,⟨r1,r2⟩,⟨s1,s2⟩,⟨e1,e2⟩,t1,t2⟩:=hM;obtain⟨ow',eo⟩:∃ o:Nat→Nat,o=fun k=>if k<W.heap.size then ow k else if k<w'.heap.size then 3 else 0:=⟨_,rfl⟩
 have c1:∀ k,k<W.heap.size→ow' k=ow k:=fun k hk=>by rw[eo];exact WJ hk
 have c2:∀ k,w'.heap.size≤k→ow' k=0:=fun k hk=>by
  rw[eo];have:=hf.size;show (if k<W.heap.size then ow k else if k<w'.heap.size then 3 else 0)=0;rw[WI (by omega),WI (by omega)]
 have c3:∀ k,k≠g→Nx (fun k=>k=g∨ow k=3) W w' k→ow' k=3:=fun k hk h=>by
  rcases h with(h|h)|⟨h,h2⟩
  ·exact absurd h hk
  ·rw[c1 k (hle 3 (by decide) k h)];exact h
  · rw[eo]
    show (if k<W.heap.size then ow k else if k<w'.heap.size then 3 else 0)=3;rw[WI (by omega),WJ h2]
 have key:∀ z,z≠0→z≠3→z≠6→∀ k,ow k=z→¬ (k=g∨ow k=3):=fun z _ h1 h2 k hk h=>by rcases h with rfl|h<;>omega
 have kz:∀ z,z≠0→∀ k,ow k=z→ow' k=z:=fun z hz k hk=>by rw[c1 k (hle z hz k hk)];exact hk
 refine⟨_,rfl,rfl,{ a with f3:=fo,c3:=fc,t3:=to,d3:=tc },ow',⟨hg',kz 6 (by decide) g h6,⟨cZ nd1 hf (key 4 (by decide) (by decide) (by decide)) (fun hne k hk=>key 4 (by decide) (by decide) (by decide) k (nd2 hne k hk)) (kz 4 (by decide)),fun hne k hk=>kz 4 (by decide) k (nd2 hne k hk)⟩,
  ⟨i1.WH hf (fun a ha=>key 4 (by decide) (by decide) (by decide) _ (i2 _ ⟨a,ha,rfl⟩)),fun k hk=>kz 4 (by decide) k (i2 k hk)⟩,⟨f1.WH hf (fun a ha=>key 4 (by decide) (by decide) (by decide) _ (f2 _ ⟨a,ha,rfl⟩)),fun k hk=>kz 4 (by decide) k (f2 k hk)⟩,
  w1.WH hf (key 1 (by decide) (by decide) (by decide)) (kz 1 (by decide)),w2.WH hf (key 2 (by decide) (by decide) (by decide)) (kz 2 (by decide)),⟨o1,o2,ap,fun k hk=>c3 k (fun e=>n1 (e ▸ hk)) (l1 k hk),fun k hk=>c3 k (fun e=>n2 (e ▸ hk)) (l2 k hk)⟩,
  ⟨r1.WH hf (fun a ha=>key 5 (by decide) (by decide) (by decide) _ (r2 _ ⟨a,ha,rfl⟩)),fun k hk=>kz 5 (by decide) k (r2 k hk)⟩,⟨s1.WH hf (fun a ha=>key 7 (by decide) (by decide) (by decide) _ (s2 _ ⟨a,ha,rfl⟩)),fun k hk=>kz 7 (by decide) k (s2 k hk)⟩,
  ⟨e1,fun i h y hh hy=>((e2 i h y hh hy).WH hf (key 4 (by decide) (by decide) (by decide))).mono (kz 4 (by decide))⟩,t1.WH hf (fun a ha=>key 8 (by decide) (by decide) (by decide) _ (t2 _ ⟨a,ha,rfl⟩)),fun k hk=>kz 8 (by decide) k (t2 k hk)⟩,⟨rfl,rfl,rfl,rfl⟩,c1,c2,hf⟩
end
theorem Nj{X Y:List Xa}{k:Nat}(hx:k<X.length)(hy:k<Y.length)(ht:X.take k=Y.take k)(h1:(X.getD k x0).1=(Y.getD k x0).1)(h2:(X.getD k x0).2=(Y.getD k x0).2):X.take (k+1)=Y.take (k+1):=by
 have e:X[k]?=Y[k]?:=by
  rw[WW,WK hx,WW,WK hy] at h1 h2;rw[WK hx,WK hy];exact congrArg some (YU h1 h2)
 rw[List.take_add_one,List.take_add_one,ht,e]
theorem GE(X Y:List Xa)(ao bo:Option Addr)(ac bc:Nat)(W:World)(ha:XaV W.heap ao ac X)(hb:XaV W.heap bo bc Y) :
 CA 138 [.slice ao X.length ac,.slice bo Y.length bc] W fun v w'=>v=.bool (decide (X=Y))∧aA nob W w':=by
 have hl:=ha.WF;refine cS 43 [(0,_),(1,_)] Tryz.func138 ?_;refine fK 12 ?_ ?_<;>intro h10
 ·have hne:¬ X=Y:=fun e=>h10 (by rw[e]);refine Gz 11 ?_;exact⟨_,rfl,congrArg Value.bool (WL hne).symm,VZ _ _⟩
 have hab:X.length=Y.length:=by omega
 refine Gz 12 ?_;refine S4 (β:=Nat) (fun k=>[(0,.slice ao X.length ac),(1,.slice bo Y.length bc),(5,iV k)]) (fun k w=>k≤X.length∧X.take k=Y.take k∧aA nob W w) (fun k=>X.length-k) 0 ⟨rfl,rfl,rfl,trivial⟩ ⟨WU _,rfl,VZ _ _⟩ ?_;rintro k w ⟨hk,htk,hF⟩;refine fK 6 ?_ ?_<;>intro h14
 ·obtain⟨xa,xc,hrow,hxv,hnl⟩:=(ha.WG hF).at (i:=k) rfl (by omega);obtain⟨ya,yc,hrow2,hyv,_⟩:=(hb.WG hF).at (i:=k) rfl (by omega);refine Gz 8 ?_;refine Tk 26 [0,1,2,3,4,5,6,7,8,9,10,11,12,13,14,15,16,17,18,19,20,21,22,23,24,25] aI (by kernel_rfl) ?_;refine Gz 2 ?_;refine xC rfl (S1 gZ rfl rfl ha.non (by omega)) ?_;refine Gz 1 ?_;refine xC rfl (S2 eG rfl (hrow 0 _ rfl)) ?_;refine Gz 2 ?_;refine xC rfl (S1 gZ rfl rfl hb.non (by omega)) ?_;refine Gz 1 ?_;refine xC rfl (S2 eG rfl (hrow2 0 _ rfl)) ?_;refine xK 0 ?_ ?_<;>intro h27
  ·have hne:¬ X=Y:=fun e=>h27 (by rw[e]);refine Gz 30 ?_;exact⟨_,rfl,congrArg Value.bool (WL hne).symm,hF.draws 1⟩
  have e1:(X.getD k x0).1=(Y.getD k x0).1:=X4.1 h27;refine Gz 3 ?_;refine xV rfl (S1 gZ rfl rfl ha.non (by omega)) ?_;refine Gz 1 ?_;refine xV rfl (S2 aL rfl (hrow 1 _ rfl)) ?_;refine xV rfl (TM aH ty5 ty9 rfl hxv) ?_;refine Gz 2 ?_;refine xV rfl (S1 gZ rfl rfl hb.non (by omega)) ?_;refine Gz 1 ?_;refine xV rfl (S2 aL rfl (hrow2 1 _ rfl)) ?_;refine xV rfl (TM aH ty5 ty9 rfl hyv) ?_;refine xW 0 ?_ ?_<;>intro h41
  ·have hne:¬ X=Y:=fun e=>h41 (by rw[e]);refine Gz 16 ?_;exact⟨_,rfl,congrArg Value.bool (WL hne).symm,hF.draws 1⟩
  have e2:(X.getD k x0).2=(Y.getD k x0).2:=X4.1 h41;refine Gz 12 ?_;exact aG (k+1) ⟨by omega,Nj (by omega) (by omega) htk e1 e2,hF.draws 1⟩ (by show X.length-(k+1)<X.length-k;omega)
 refine Gz 15 ?_;have heq:X=Y:=by rw[←Xl (l:=X),←Xl (l:=Y),←hab,show X.length=k by omega];exact htk
 exact⟨_,rfl,congrArg Value.bool (WO heq).symm,hF⟩
theorem LA{l:List Int}{n:Int}{i:Nat}(hi:i<l.length)(h:l.getD i 0=n)(hno:∀ j,j<i→l.getD j 0≠n):nO l n=i:=by
 unfold nO;rw[show l.findIdx? (fun x=>decide (x=n))=some i from ?_];rw[XN];refine⟨hi,?_,fun j hj=>?_⟩
 ·rw[WW,WK hi] at h;exact WO h
 · have:=hno j hj
   rw[WW,WK (by omega)] at this;simpa using this
theorem IU{l:List Int}{n:Int}(hno:∀ j,j<l.length→l.getD j 0≠n):nO l n=0:=by
 unfold nO;rw[show l.findIdx? (fun x=>decide (x=n))=none from ?_];rw[X8];intro x hx;obtain⟨j,hj⟩:=W8 hx;have:=hno j (WN.1 hj).1;rw[WW,hj] at this;simpa using this
theorem Ar(io:Option Addr)(ic:Nat)(l:List Int)(n:Int)(W:World)(hv:Vw i64 W.heap io ic l) :
 CA 88 [.slice io l.length ic,iV n] W fun v w'=>v=iV (nO l n)∧w'=W:=by
 have h63:=hv.WF;refine cS 19 [(0,_),(1,_)] Tryz.func88 ?_;refine Gz 12 ?_;refine S4 (β:=Nat) (fun i=>[(0,.slice io l.length ic),(1,iV n),(5,iV i)]) (fun i w=>i≤l.length∧(∀ j,j<i→l.getD j 0≠n)∧w=W) (fun i=>l.length-i) 0 ⟨rfl,rfl,rfl,trivial⟩ ⟨WU _,fun j hj=>by omega,rfl⟩ ?_;rintro i w ⟨hi,hno,hw⟩;subst w;refine fK 6 ?_ ?_<;>intro h9
 ·have hil:i<l.length:=by omega
  refine Gz 11 ?_;refine cL (SY aY rfl rfl hv.non (by omega)) ?_;refine cL (S2 aF rfl (hv.gz 0 i rfl hil)) ?_;refine fK 1 ?_ ?_<;>intro h17
  ·have hres:nO l n=i:=LA hil h17 hno;refine Gz 16 ?_;exact⟨_,rfl,by rw[hres],rfl⟩
  refine Gz 11 ?_;refine aG (i+1) ⟨by omega,fun j hj=>?_,rfl⟩ (by show l.length-(i+1)<l.length-i;omega);by_cases e:j=i
  ·subst e;exact h17
  ·exact hno j (by omega)
 have hie:i=l.length:=by omega
 subst hie;refine Gz 15 ?_;exact⟨_,rfl,by rw[IU hno],rfl⟩
theorem My{a:BiA}{ow:Nat→Nat}{g:Nat}{qs:List (NdH×Nd)}{ids:List Int}{files:List Ino}{s:BSt}{w w':World}{X:List Xa}{r:Int}{xo so' tr':Option Addr}{xc sc' tc':Nat}(hM:BiW a ow w.heap g qs ids files s)(hn:∀ k,w.heap.size≤k→ow k=0)(hX:XsV (fun k=>ow k=4) w.heap ⟨xo,X.length,xc⟩ X)
 (hg:w'.heap[g]?=some (.cells (biK { a with so:=so',sc:=sc',tr:=tr',tc:=tc' } qs ids files { s with sets:=s.sets++[(X,r)] }).toArray 81 (0,0)))
 (ho:Own hd 35 w'.heap so' sc' (a.hs++[⟨xo,X.length,xc⟩]))(hr:∀ b,so'=some b→a.so=some b∨w.heap.size≤b.block)
 (ht:Own i64 3 w'.heap tr' tc' (s.sets.map (·.2)++[r]))(hrt:∀ b,tr'=some b→a.tr=some b∨w.heap.size≤b.block)(hap:∀ b c,so'=some b→tr'=some c→w.heap.size≤b.block→b.block≠c.block)
 (hf:aA (fun k=>k=g∨ow k=7∨ow k=8) w w'):∃ (a':BiA) (ow':Nat→Nat),BiW a' ow' w'.heap g qs ids files { s with sets:=s.sets++[(X,r)] }∧(a'.lo=a.lo∧a'.lc=a.lc∧a'.ro=a.ro∧a'.rc=a.rc)∧(∀ k,k<w.heap.size→ow' k=ow k)∧(∀ k,w'.heap.size≤k→ow' k=0):=by
 classical
 have hle:∀ z,z≠0→∀ k,ow k=z→k<w.heap.size:=fun z hz k hk=>WV fun hc=>by have:=hn k (by omega);omega
 obtain⟨_,h6,⟨nd1,nd2⟩,⟨i1,i2⟩,⟨f1,f2⟩,w1,w2,w3,⟨r1,r2⟩,⟨s1,s2⟩,⟨e1,e2⟩,t1,t2⟩:=hM;obtain⟨ow',eo⟩:∃ o:Nat→Nat,∀ k,o k=if k<w.heap.size then ow k else if blk so' k then 7 else if blk tr' k then 8 else 0:=⟨_,fun _=>rfl⟩
 have c1:∀ k,k<w.heap.size→ow' k=ow k:=fun k hk=>by rw[eo];exact WJ hk
 have c2:∀ k,w'.heap.size≤k→ow' k=0:=fun k hk=>by
  have:=hf.size;rw[eo,WI (by omega),WI (fun⟨b,hb,e⟩=>by have:=ho.lt b hb;omega),WI (fun⟨b,hb,e⟩=>by have:=ht.lt b hb;omega)]
 have key:∀ z,z≠0→z≠7→z≠8→z≠6→∀ k,ow k=z→¬ (k=g∨ow k=7∨ow k=8):=fun z _ h1 h2 h3 k hk h=>by rcases h with rfl|h|h<;>omega
 have kz:∀ z,z≠0→∀ k,ow k=z→ow' k=z:=fun z hz k hk=>by rw[c1 k (hle z hz k hk)];exact hk
 refine⟨{ a with so:=so',sc:=sc',tr:=tr',tc:=tc',hs:=a.hs++[⟨xo,X.length,xc⟩] },ow',⟨hg,kz 6 (by decide) g h6,⟨cZ nd1 hf (key 4 (by decide) (by decide) (by decide) (by decide)) (fun hne k hk=>key 4 (by decide) (by decide) (by decide) (by decide) k (nd2 hne k hk)) (kz 4 (by decide)),fun hne k hk=>kz 4 (by decide) k (nd2 hne k hk)⟩,
  ⟨i1.WH hf (fun a ha=>key 4 (by decide) (by decide) (by decide) (by decide) _ (i2 _ ⟨a,ha,rfl⟩)),fun k hk=>kz 4 (by decide) k (i2 k hk)⟩,⟨f1.WH hf (fun a ha=>key 4 (by decide) (by decide) (by decide) (by decide) _ (f2 _ ⟨a,ha,rfl⟩)),fun k hk=>kz 4 (by decide) k (f2 k hk)⟩,
  w1.WH hf (key 1 (by decide) (by decide) (by decide) (by decide)) (kz 1 (by decide)),w2.WH hf (key 2 (by decide) (by decide) (by decide) (by decide)) (kz 2 (by decide)),w3.WH hf (key 3 (by decide) (by decide) (by decide) (by decide)) (kz 3 (by decide)),
  ⟨r1.WH hf (fun a ha=>key 5 (by decide) (by decide) (by decide) (by decide) _ (r2 _ ⟨a,ha,rfl⟩)),fun k hk=>kz 5 (by decide) k (r2 k hk)⟩,⟨ho,fun k hk=>?_⟩,⟨by show (a.hs++_).length=(s.sets++_).length;rw[WM,WM,e1];rfl,fun i h y hh hy=>?_⟩,by show Own i64 3 w'.heap tr' tc' ((s.sets++[(X,r)]).map (·.2));rw[YR];exact ht,fun k hk=>?_⟩,⟨rfl,rfl,rfl,rfl⟩,c1,c2⟩
 · obtain⟨b,hb,rfl⟩:=hk
   rcases hr b hb with h|h
   ·exact kz 7 (by decide) _ (s2 _ ⟨b,h,rfl⟩)
   ·rw[eo,WI (by omega),WJ ⟨b,hb,rfl⟩]
 · have hh:(a.hs++[⟨xo,X.length,xc⟩])[i]?=some h:=hh
   have hy:(s.sets++[(X,r)])[i]?=some y:=hy;by_cases hi:i<a.hs.length
   · rw[XC hi] at hh
     rw[XC (by omega)] at hy;exact((e2 i h y hh hy).WH hf (key 4 (by decide) (by decide) (by decide) (by decide))).mono (kz 4 (by decide))
   · have hil:=(WN.1 hh).1
     rw[WM,WP] at hil;have ei:i=a.hs.length:=by omega
     rw[ei,List.getElem?_concat_length] at hh;rw[ei,e1,List.getElem?_concat_length] at hy;cases hh;cases hy;exact(hX.WH hf (key 4 (by decide) (by decide) (by decide) (by decide))).mono (kz 4 (by decide))
 · obtain⟨b,hb,rfl⟩:=hk
   rcases hrt b hb with h|h
   ·exact kz 8 (by decide) _ (t2 _ ⟨b,h,rfl⟩)
   ·rw[eo,WI (by omega),WI (fun⟨c,hc,e⟩=>hap c b hc hb (by omega) e),WJ ⟨b,hb,rfl⟩]
def bdB(s:BSt):Prop:=s.ino.length≤137438953472∧s.lst.length≤137438953472∧s.fur.length≤137438953472∧s.sets.length≤1048576∧s.many≤1048576
def bdR(s:BSt):Prop:=(∀ z∈s.refs,0≤z∧z≤1152921504606846977)∧∀ y∈s.sets,0≤y.2∧y.2≤1152921504606846976
def KJ(ow:Nat→Nat)(W:World)(g:Nat)(qs:List (NdH×Nd))(ids:List Int)(files:List Ino)(s':BSt)(w':World):Prop:=
 aA (Lb ow) W w'∧∃ (a':BiA) (ow':Nat→Nat),BiW a' ow' w'.heap g qs ids files s'∧(∀ k,k<W.heap.size→ow' k=ow k)∧(∀ k,w'.heap.size≤k→ow' k=0)∧bdR s'
theorem AR{s:BSt}{X:List Xa}(h:X.length=0):bT s X=(0,s):=WJ h
theorem JC{s:BSt}{X:List Xa}{i:Nat}{y:List Xa×Int}(h:¬ X.length=0)(hy:s.sets[i]?=some y)(he:y.1=X)(hno:∀ (j:Nat) (z:List Xa×Int),j<i→s.sets[j]?=some z→z.1≠X):bT s X=(y.2+1,s):=by
 unfold bT;rw[WI h,show s.sets.find? (fun y=>decide (y.1=X))=some y from ?_];rw[List.find?_eq_some_iff_getElem];obtain⟨hi,rfl⟩:=WN.1 hy;exact⟨WO he,i,hi,rfl,fun j hj=>by have:=hno j s.sets[j] hj (WK (by omega));simpa using this⟩
theorem JD{s:BSt}{X:List Xa}(h:¬ X.length=0)(hno:∀ (j:Nat) (z:List Xa×Int),s.sets[j]?=some z→z.1≠X):bT s X=(((bJ s.fur s.fur.length:Nat):Int)+1,{ s with fur:=s.fur++(eM X).1,sets:=s.sets++[(X,((bJ s.fur s.fur.length:Nat):Int))] }):=by
 unfold bT;rw[WI h,show s.sets.find? (fun y=>decide (y.1=X))=none from ?_];rw[List.find?_eq_none];intro x hx;obtain⟨j,hj⟩:=W8 hx;simpa using hno j x hj
theorem CR(a:BiA)(ow:Nat→Nat)(g:Nat)(qs:List (NdH×Nd))(ids:List Int)(files:List Ino)(s:BSt)(xo:Option Addr)(xc:Nat)(X:List Xa)(W:World)(hM:BiW a ow W.heap g qs ids files s)(hn:∀ k,W.heap.size≤k→ow k=0)(hX:XsV (fun k=>ow k=4) W.heap ⟨xo,X.length,xc⟩ X)(hmX:∀ x∈X,x.1.length≤255)(hsX:∀ y∈s.sets,∀ x∈y.1,x.1.length≤255)(hb:bdB (bT s X).2)(hbr:bdR s) :
 CA 90 [pT g,.slice xo X.length xc] W fun v w'=>v=iV (bT s X).1∧KJ ow W g qs ids files (bT s X).2 w':=by
 have hM0:=hM;obtain⟨hg,h6,⟨nd1,nd2⟩,⟨i1,i2⟩,⟨f1,f2⟩,w1,w2,w3,⟨r1,r2⟩,⟨s1,s2⟩,⟨e1,e2⟩,t1,t2⟩:=hM;have hXa:=hX.xa hmX;have hX63:=hXa.WF;have hv7:=s1.vw;have hs63:=hv7.WF;rw[e1] at hs63;refine cS 72 [(0,_),(1,_)] Tryz.func90 ?_;refine fK 10 ?_ ?_<;>intro h12
 ·have hres:bT s X=(0,s):=AR (by omega);refine Gz 11 ?_;exact⟨_,rfl,by rw[hres],by rw[hres];exact⟨VZ _ _,a,ow,hM0,fun _ _=>rfl,hn,hbr⟩⟩
 have hne:¬ X.length=0:=by omega
 refine Gz 12 ?_;refine S4 (β:=Nat) (fun k=>[(0,pT g),(1,.slice xo X.length xc),(5,iV k)]) (fun k w=>k≤s.sets.length∧(∀ (j:Nat) (z:List Xa×Int),j<k→s.sets[j]?=some z→z.1≠X)∧aA nob W w) (fun k=>s.sets.length-k) 0 ⟨rfl,rfl,rfl,trivial⟩ ⟨WU _,fun j z hj=>by omega,VZ _ _⟩ ?_;rintro k w ⟨hk,hno,hF⟩;refine Gz 7 ?_;refine cL (S2 CN rfl (aD (hF.obj hg id) rfl)) ?_;refine fK 1 ?_ ?_<;>intro h19
 ·have hkl:k<s.sets.length:=by omega
  obtain⟨y,hy⟩:∃ y,s.sets[k]?=some y:=⟨_,WK hkl⟩
  obtain⟨h,hh⟩:∃ h,a.hs[k]?=some h:=⟨_,WK (by omega)⟩
  have hxv:=(e2 k h y hh hy).WH hF (fun _ _=>id);have hyn:=hxv.1;have hhd:a.hs.getD k hd0=h:=by rw[WW,hh];rfl
  have hsd:(s.sets.map (·.2)).getD k 0=y.2:=by rw[WW,Xv,hy];rfl
  have hyb:=hbr.2 y (WQ hy);have hyx:XaV w.heap h.a h.c y.1:=by obtain⟨ha,hn0,hc0⟩:=h;have hyn:hn0=y.1.length:=hyn;exact hxv.xa (hsX y (WQ hy))
  refine Gz 12 ?_;refine cL (S2 CN rfl (aD (hF.obj hg id) rfl)) ?_;refine Gz 1 ?_;refine cL (SY Lf rfl rfl (fun h=>hv7.non (by rw[e1];exact h)) (by omega)) ?_;refine cL (S3 (u:=.slice h.a y.1.length h.c) (S2 cK rfl ((hv7.WG hF).gz hd0 k rfl (by omega))) (by rw[hhd,←hyn];rfl)) ?_;refine cA 1 PL (GE y.1 X h.a xo h.c xc w hyx (hXa.WG hF)) ?_;rintro _ w5 ⟨rfl,hf5⟩;have hF5:=hF.trans hf5;refine Gz 5 ?_;refine TE (Tm (Ta rfl)) rfl (fun h31=>?_) (fun h31=>?_)
  ·have hyX:y.1=X:=of_decide_eq_true h31;have hres:bT s X=(y.2+1,s):=JC hne hy hyX hno;refine Gz 8 ?_;refine cL (S2 kY rfl (aD (hF5.obj hg id) rfl)) ?_;refine Gz 1 ?_;refine cL (SY aY rfl rfl (fun h=>t1.vw.non (by rw[W2];exact h)) (by omega)) ?_;refine cL (S2 aF rfl ((t1.vw.WG hF5).gz 0 k rfl (by rw[W2];omega))) ?_;rw[hsd];refine Gz 11 ?_;exact⟨_,rfl,by rw[hres],by rw[hres];exact⟨hF5.any,a,ow,hM0.WG hF5,fun _ _=>rfl,fun k hk=>hn k (Xf hF5.size hk),hbr⟩⟩
  have hyX:¬ y.1=X:=fun e=>h31 (WO e);refine Gz 11 ?_;refine aG (k+1) ⟨by omega,fun j z hj hz=>?_,hF5⟩ (by show s.sets.length-(k+1)<s.sets.length-k;omega);by_cases e:j=k
  ·subst e;rw[hy] at hz;cases hz;exact hyX
  ·exact hno j z (by omega) hz
 have hke:k=s.sets.length:=by omega
 have hres:bT s X=_:=JD hne (fun j z hz=>hno j z (by have:=(WN.1 hz).1;omega) hz);rw[hres] at hb;have hsl:s.sets.length+1≤1048576:=by have h:=hb.2.2.2.1;rwa[WM] at h
 have hbl:s.fur.length+(eM X).1.length≤137438953472:=by have h:=hb.2.2.1;rwa[WM] at h
 refine cA 11 PK (Iq xo xc X w (hXa.WG hF)) ?_;rintro _ w5 ⟨o5,c5,rfl,ho5,hfr5,hf5⟩;have hF5:=hF.trans hf5;have hz5:=hF5.size;have hzF:=hF.size;refine Gz 13 ?_;refine SZ JL rfl (HH o5 c5 (eM X).1 w5 (hM0.WG hF5) (fun k hk=>hn k (by omega)) ho5.vw (fun _ k ⟨b,hb,e⟩=>.inl (hn k (by have:=hfr5 b hb;omega))) (by omega)) rfl ?_;rintro _ w6 ⟨rfl,a6,ow6,hM6,hae,q1,q2,hf6⟩;have hz6:=hf6.size;have hX6:XsV (fun k=>ow6 k=4) w6.heap ⟨xo,X.length,xc⟩ X:=((hX.WH hF5 (fun _ _=>id)).WH hf6 (fun k hk h=>by have hk:ow k=4:=hk;have h:k=g∨ow k=3:=h;rcases h with rfl|h<;>omega)).mono (fun k hk=>by have hk:ow k=4:=hk;rw[q1 k (WV fun hc=>by have:=hn k (by omega);omega)];exact hk);obtain⟨s6,es6⟩:∃ t:BSt,t = { s with fur:=s.fur++(eM X).1 }:=⟨_,rfl⟩
 have z6:s6.sets=s.sets:=by rw[es6]
 rw[←es6] at hM6;have hM60:=hM6;obtain⟨hg6,h66,_,_,_,_,_,_,_,⟨s61,s62⟩,⟨e61,e62⟩,t61,t62⟩:=hM6;have hrb:bJ s.fur s.fur.length≤1152921504606846976:=wV (by omega);have hl6:a6.hs.length≤1048575:=by rw[e61,z6];omega
 have hl6s:s6.sets.length≤1048575:=by rw[z6];omega
 have hL6:∀ k,ow6 k=7∨ow6 k=8→k<w6.heap.size∧k≠g:=fun k hk=>⟨WV fun hc=>by have:=q2 k (by omega);omega,fun e=>by have h66:ow6 g=6:=h66;rw[e,h66] at hk;omega⟩
 have hg6s:g<w6.heap.size:=(WS.1 hg6).1;refine Gz 9 ?_;refine cL (S3 (u:=.slice a6.so a6.hs.length a6.sc) (S2 CN rfl (aD hg6 rfl)) (by rw[e61])) ?_;refine Gz 1 ?_;refine TB (enc:=hd) (u:=⟨xo,X.length,xc⟩) Lf rfl rfl rfl ?_;intro w7 ho7 hs7 hf7;refine S8 pZ Lf rfl rfl (s61.WG hf7) ho7.vw (by simp only[WP];omega) (by simp only[WP];unfold maxLen;omega) rfl ?_;intro so8 sc8 w8 ho8 hf8 hr8 hn8;refine Gz 2 ?_;refine S6 CN rfl rfl rfl (hf8.obj (hf7.obj hg6 id) (fun h=>(hL6 g (.inl (s62 g h))).2 rfl)) rfl ?_;intro w9 hg9 hs9 hf9;have hz8:=hf8.size;have hz7:=hf7.size;have hs9b:w9.heap.size=w8.heap.size:=hs9;have hf69:aA (fun k=>k=g∨ow6 k=7) w6 w9:=(hf7.any.trans (hf8.mono (fun k h=>.inr (s62 k h)))).trans (hf9.mono (fun k h=>.inl h));have hso:∀ b,so8=some b→a6.so=some b∨w6.heap.size≤b.block:=fun b hb=>(hr8 b hb).imp id (fun h=>by omega);have hsn:∀ k,blk so8 k→k≠g:=fun k ⟨b,hb,e⟩ h=>by rcases hso b hb with h2|h2;exact(hL6 k (.inl (s62 k ⟨b,h2,e⟩))).2 h;omega
 have ho9:=ho8.WH hf9 (fun b hb e=>hsn _ ⟨b,hb,rfl⟩ e);have ht9:=t61.WH hf69 (fun b hb e=>by have h8:=t62 _ ⟨b,hb,rfl⟩;have e:b.block=g∨ow6 b.block=7:=e;rcases e with e|e;rw[e,show ow6 g=6 from h66] at h8;omega;omega);refine Gz 8 ?_;refine cL (S3 (u:=.slice a6.tr (s6.sets.map (·.2)).length a6.tc) (S2 kY rfl (aD hg9 rfl)) (by rw[W2])) ?_;refine Gz 1 ?_;refine TB (enc:=i64) (u:=((bJ s.fur s.fur.length:Nat):Int)) aY rfl rfl rfl ?_;intro w10 ho10 hs10 hf10;refine S8 jB aY rfl rfl (ht9.WG hf10) ho10.vw (by simp only[WP,W2];omega) (by simp only[WP,W2];unfold maxLen;omega) rfl ?_;intro tr11 tc11 w11 ho11 hf11 hr11 hn11;refine Gz 2 ?_;refine S6 kY rfl rfl rfl (hf11.obj (hf10.obj hg9 id) (fun h=>(hL6 g (.inr (t62 g h))).2 rfl)) rfl ?_;intro w12 hg12 hs12 hf12;refine Gz 11 ?_;have hz11:=hf11.size;have hz10:=hf10.size;have hs12b:w12.heap.size=w11.heap.size:=hs12;have hlo9:=ho9.lt;have hlt6:=t61.lt;have hst:∀ k,blk so8 k→¬ blk a6.tr k:=fun k ⟨b,hb,e⟩ ht=>by
  have h8:=t62 k ht;rcases hso b hb with h|h
  ·have:=s62 k ⟨b,h,e⟩;omega
  ·obtain⟨c,hc,e2⟩:=ht;have:=hlt6 c hc;omega
 have hrt:∀ b,tr11=some b→a6.tr=some b∨w6.heap.size≤b.block:=fun b hb=>(hr11 b hb).imp id (fun h=>by omega);have htn:∀ k,blk tr11 k→k≠g:=fun k ⟨b,hb,e⟩ h=>by
  rcases hrt b hb with h2|h2
  ·exact(hL6 k (.inr (t62 k ⟨b,h2,e⟩))).2 h
  ·omega
 have ho12:=((ho9.WG hf10).WH hf11 (fun b hb e=>hst _ ⟨b,hb,rfl⟩ e)).WH hf12 (fun b hb e=>hsn _ ⟨b,hb,rfl⟩ e);have ht12:=ho11.WH hf12 (fun b hb e=>htn _ ⟨b,hb,rfl⟩ e);have hf612:aA (fun k=>k=g∨ow6 k=7∨ow6 k=8) w6 w12:=(((hf69.mono (fun k h=>h.elim .inl (fun h=>.inr (.inl h)))).trans hf10.any).trans (hf11.mono (fun k h=>.inr (.inr (t62 k h))))).trans (hf12.mono (fun k h=>.inl h));have hg12b:w12.heap[g]?=some (.cells (biK { a6 with so:=so8,sc:=sc8,tr:=tr11,tc:=tc11 } qs ids files { s6 with sets:=s6.sets++[(X,((bJ s.fur s.fur.length:Nat):Int))] }).toArray 81 (0,0)):=by
  rw[hg12];have l1:(a6.hs++[(⟨xo,X.length,xc⟩:Hd)]).length=(s6.sets++[(X,((bJ s.fur s.fur.length:Nat):Int))]).length:=by simp[e61]
  have l2:(s6.sets.map (·.2)++[((bJ s.fur s.fur.length:Nat):Int)]).length=(s6.sets++[(X,((bJ s.fur s.fur.length:Nat):Int))]).length:=by simp
  rw[l1,l2];rfl
 obtain⟨a9,ow9,hM9,_,k1,k2⟩:=My hM60 q2 hX6 hg12b ho12 hso ht12 hrt (fun b c hb hc h6b=>by
  rcases hr11 c hc with h|h
  ·have:=hlt6 c h;omega
  ·have:=hlo9 b hb;omega) hf612
 refine⟨_,rfl,by rw[hres],?_⟩;rw[hres];rw[es6] at hM9;refine⟨(hF5.any.trans (hf6.mono (fun k h=>?_))).WD hf612 (fun k h=>?_),a9,ow9,hM9,fun k hk=>by rw[k1 k (by omega),q1 k (by omega)],k2,hbr.1,fun y hy=>?_⟩
 · have h:k=g∨ow k=3:=h
   show ow k≠0∧ow k≠4;rcases h with h|h
   ·rw[h,h6];decide
   ·rw[h];decide
 · by_cases hk:k<W.heap.size
   · have h:k=g∨ow6 k=7∨ow6 k=8:=h
     rw[q1 k (by omega)] at h;refine .inl ?_;show ow k≠0∧ow k≠4;rcases h with h|h|h
     ·rw[h,h6];decide
     ·rw[h];decide
     ·rw[h];decide
   ·exact .inr (by omega)
 · have hy:y∈s.sets++[(X,((bJ s.fur s.fur.length:Nat):Int))]:=hy
   rcases Xj.1 hy with hy|hy
   ·exact hbr.2 y hy
   ·rw[Xg] at hy;subst hy;exact⟨by show (0:Int)≤((bJ s.fur s.fur.length:Nat):Int);omega,by show ((bJ s.fur s.fur.length:Nat):Int)≤_;omega⟩
theorem XsV.eta{D:Nat→Prop}{H:Array Obj}{z:Hd}{X:List Xa}(h:XsV D H z X):XsV D H ⟨z.a,X.length,z.c⟩ X:=⟨rfl,h.2⟩
section
variable {a:BiA}{ow:Nat→Nat}{g:Nat}{qs:List (NdH×Nd)}{ids:List Int}{files:List Ino}{s:BSt}{w w':World}
theorem BiW.refsup{m:Nat}{v:Int}(h:BiW a ow w.heap g qs ids files s)(ho:Own i64 3 w'.heap a.ro a.rc (s.refs.set m v))(f:aA (blk a.ro) w w'):BiW a ow w'.heap g qs ids files { s with refs:=s.refs.set m v }:=by
 obtain⟨hg,hl,⟨n1,n2⟩,⟨i1,i2⟩,⟨f1,f2⟩,w1,w2,w3,⟨r1,r2⟩,⟨s1,s2⟩,⟨e1,e2⟩,t1,t2⟩:=h;have key:∀ z,z≠5→∀ k,ow k=z→¬ blk a.ro k:=fun z hz k hk hb=>by have:=r2 k hb;omega
 refine⟨?_,hl,⟨cZ n1 f (key 4 (by decide)) (fun hne k hk=>key 4 (by decide) k (n2 hne k hk)) (fun _=>id),n2⟩,⟨i1.WH f (fun a ha=>key 4 (by decide) _ (i2 _ ⟨a,ha,rfl⟩)),i2⟩,⟨f1.WH f (fun a ha=>key 4 (by decide) _ (f2 _ ⟨a,ha,rfl⟩)),f2⟩,
  w1.WH f (key 1 (by decide)) (fun _=>id),w2.WH f (key 2 (by decide)) (fun _=>id),w3.WH f (key 3 (by decide)) (fun _=>id),⟨ho,r2⟩,⟨s1.WH f (fun a ha=>key 7 (by decide) _ (s2 _ ⟨a,ha,rfl⟩)),s2⟩,⟨e1,fun i h y hh hy=>(e2 i h y hh hy).WH f (key 4 (by decide))⟩,t1.WH f (fun a ha=>key 8 (by decide) _ (t2 _ ⟨a,ha,rfl⟩)),t2⟩
 have:=f.obj hg (key 6 (by decide) g hl);rw[this];unfold biK;show _=some (Obj.cells (biC _ _ _ _ _ _ _ _ (.slice a.ro (s.refs.set m v).length a.rc) _ _ _ _).toArray _ _);rw[XH]
theorem BiW.manyup{n:Nat}(h:BiW a ow w.heap g qs ids files s)(hg':w'.heap[g]?=some (.cells (biK a qs ids files { s with many:=n }).toArray 81 (0,0)))(f:aA (· = g) w w'):BiW a ow w'.heap g qs ids files { s with many:=n }:=by
 obtain⟨hg,hl,⟨n1,n2⟩,⟨i1,i2⟩,⟨f1,f2⟩,w1,w2,w3,⟨r1,r2⟩,⟨s1,s2⟩,⟨e1,e2⟩,t1,t2⟩:=h;have key:∀ z,z≠6→∀ k,ow k=z→¬ k=g:=fun z hz k hk hb=>by rw[hb,hl] at hk;omega
 exact⟨hg',hl,⟨cZ n1 f (key 4 (by decide)) (fun hne k hk=>key 4 (by decide) k (n2 hne k hk)) (fun _=>id),n2⟩,⟨i1.WH f (fun a ha=>key 4 (by decide) _ (i2 _ ⟨a,ha,rfl⟩)),i2⟩,⟨f1.WH f (fun a ha=>key 4 (by decide) _ (f2 _ ⟨a,ha,rfl⟩)),f2⟩,
  w1.WH f (key 1 (by decide)) (fun _=>id),w2.WH f (key 2 (by decide)) (fun _=>id),w3.WH f (key 3 (by decide)) (fun _=>id),⟨r1.WH f (fun a ha=>key 5 (by decide) _ (r2 _ ⟨a,ha,rfl⟩)),r2⟩,⟨s1.WH f (fun a ha=>key 7 (by decide) _ (s2 _ ⟨a,ha,rfl⟩)),s2⟩,⟨e1,fun i h y hh hy=>(e2 i h y hh hy).WH f (key 4 (by decide))⟩,t1.WH f (fun a ha=>key 8 (by decide) _ (t2 _ ⟨a,ha,rfl⟩)),t2⟩
end
structure leB (s t:BSt):Prop where
 i:s.ino.length≤t.ino.length
 l:s.lst.length≤t.lst.length
 f:s.fur.length≤t.fur.length
 e:s.sets.length≤t.sets.length
 r:t.refs.length=s.refs.length
 m:s.many≤t.many
theorem leB.rfl{s:BSt}:leB s s:=⟨WT _,WT _,WT _,WT _,Eq.refl _,WT _⟩
theorem leB.trans{s t u:BSt}(h:leB s t)(k:leB t u):leB s u:=⟨Xf h.i k.i,Xf h.l k.l,Xf h.f k.f,Xf h.e k.e,k.r.trans h.r,Xf h.m k.m⟩
theorem leB.bd{s t:BSt}(h:leB s t)(k:bdB t):bdB s:=⟨Xf h.i k.1,Xf h.l k.2.1,Xf h.f k.2.2.1,Xf h.e k.2.2.2.1,Xf h.m k.2.2.2.2⟩
theorem vL(s:BSt)(X:List Xa):leB s (bT s X).2:=by
 unfold bT
 split
 ·exact .rfl
 · split
   ·exact .rfl
   ·exact⟨WT _,WT _,by show _≤(s.fur++_).length;rw[WM];omega,by show _≤(s.sets++_).length;rw[WM];omega,Eq.refl _,WT _⟩
section
variable {qs:List (NdH×Nd)}{ids:List Int}{files:List Ino}
theorem rX(k:Int)(i:Ino)(s:BSt):leB (bT s (ndB qs k).xs).2 (eW qs ids k i s):=⟨by show _≤(_++_:By).length;rw[WM];omega,WT _,WT _,WT _,XH,Y6 _⟩
theorem kP(k:Int)(i:Ino)(s:BSt):leB s (eW qs ids k i s):=(vL s _).trans (rX k i s)
theorem vZ{wr:Int→BSt→BSt}(hw:∀ k s,leB s (wr k s)):∀ (ys:List Int) (s:BSt),leB s (wrK wr qs ys s).1
|[],s=>.rfl
|j::r,s=>(hw j s).trans (vZ hw r (wr j s))
theorem BN(s:BSt)(b:By):leB s { s with lst:=s.lst++b }:=⟨WT _,by show _≤(s.lst++b).length;rw[WM];omega,WT _,WT _,Eq.refl _,WT _⟩
theorem pI:∀ (n:Nat) (k:Int) (s:BSt),leB s (wrB qs ids files n k s)
|0,k,s=>.rfl
|n+1,k,s=>by
   unfold wrB
   split
   ·exact .rfl
   · split
     ·exact kP _ _ _
     · split
       ·exact kP _ _ _
       · split
         ·exact((vZ (pI n) _ s).trans (BN _ _)).trans (kP _ _ _)
         ·exact kP _ _ _
def shS(s:BSt):Prop:=∀ y∈s.sets,∀ x∈y.1,x.1.length≤255
theorem Gf{s:BSt}{X:List Xa}(h:shS s)(hX:∀ x∈X,x.1.length≤255):shS (bT s X).2:=by
 unfold bT
 split
 ·exact h
 · split
   ·exact h
   · intro y hy
     rcases Xj.1 hy with hy|hy
     ·exact h y hy
     ·rw[Xg] at hy;subst hy;exact hX
structure GdB (qs:List (NdH×Nd))(files:List Ino):Prop where
 q:∀ q∈qs,(1≤q.2.ino∧q.2.ino≤qs.length)∧q.2.names.length≤16∧(∀ c∈q.2.names,c.length≤255)∧q.2.tgt.length≤200∧(∀ x∈q.2.xs,x.1.length≤255)
 k:∀ s ys,zD qs s ys→ys=bP qs s qs.length
 fl:files.length=qs.length+1
 ft:∀ f∈files,f.2.length≤200
 n:qs.length≤1024
theorem GdB.nd(G:GdB qs files)(k:Int):∀ x∈(ndB qs k).xs,x.1.length≤255:=by
 unfold ndB;rw[WW];cases h:qs[k.toNat]? with
|none=>simp[nd0]
|some q=>exact(G.q q (WQ h)).2.2.2.2
theorem vS(G:GdB qs files){k:Int}{i:Ino}{s:BSt}(h:shS s):shS (eW qs ids k i s):=Gf h (G.nd k)
theorem HT{wr:Int→BSt→BSt}(hw:∀ k s,shS s→shS (wr k s)):∀ (ys:List Int) (s:BSt),shS s→shS (wrK wr qs ys s).1
|[],s,h=>h
|j::r,s,h=>HT hw r (wr j s) (hw j s h)
theorem D5(G:GdB qs files):∀ (n:Nat) (k:Int) (s:BSt),shS s→shS (wrB qs ids files n k s)
|0,k,s,h=>h
|n+1,k,s,h=>by
   unfold wrB
   split
   ·exact h
   · split
     ·exact vS G h
     · split
       ·exact vS G h
       · split
         ·exact vS G (show shS { (wrK (wrB qs ids files n) qs (bP qs (ndB qs k).names qs.length) s).1 with lst:=_ } from HT (D5 G n) _ s h)
         ·exact vS G h
structure okS (qs:List (NdH×Nd))(s:BSt):Prop where
 r:s.refs.length=qs.length+1
 b:bdR s
 h:shS s
end
def WrS(g:Nat)(qs:List (NdH×Nd))(ids:List Int)(files:List Ino)(n:Nat):Prop:=∀ (a:BiA) (ow:Nat→Nat) (s:BSt) (k:Int) (W:World),BiW a ow W.heap g qs ids files s→(∀ k,W.heap.size≤k→ow k=0)→(0≤k∧k<qs.length)→17≤(ndB qs k).names.length+n→okS qs s→bdB (wrB qs ids files n k s) →
 CA 34 [pT g,iV k] W fun _ w'=>KJ ow W g qs ids files (wrB qs ids files n k s) w'
theorem eI{qs:List (NdH×Nd)}{i:Nat}{q:NdH×Nd}(h:qs[i]?=some q):ndB qs (i:Int)=q.2:=by unfold ndB;rw[Xm,WW,h];rfl
theorem D6{qs:List (NdH×Nd)}{ids:List Int}{files:List Ino}{i m:Nat}{q:NdH×Nd}(n:Nat)(s:BSt)(h:qs[i]?=some q)(hm:q.2.ino=(m:Int)):wrB qs ids files (n+1) (i:Int) s=if 0<s.refs.getD m 0 then s else if q.2.kind=2 then eW qs ids i (files.getD m cI) s else if q.2.kind=3 then eW qs ids i (zF,q.2.tgt) s else if q.2.kind=1 then
 eW qs ids i (EX (wrK (wrB qs ids files n) qs (bP qs q.2.names qs.length) s).1 (gE (wrK (wrB qs ids files n) qs (bP qs q.2.names qs.length) s).2).1)
  { (wrK (wrB qs ids files n) qs (bP qs q.2.names qs.length) s).1 with lst:=(wrK (wrB qs ids files n) qs (bP qs q.2.names qs.length) s).1.lst++(gE (wrK (wrB qs ids files n) qs (bP qs q.2.names qs.length) s).2).1 }
 else eW qs ids i (zF,[]) s:=by
 rw[wrB,eI h,hm,Xm]
theorem vJ{qs:List (NdH×Nd)}{s:List By}:∀ (n:Nat),(bP qs s n).length≤n
|0=>WT _
|n+1=>by
   have:=vJ (qs:=qs) (s:=s) n;unfold bP
   split
   ·rw[WM,WP];omega
   ·omega
theorem uI{l:List By}(h:∀ c∈l,c.length≤255):(aU l).length≤255:=by
 unfold aU;rw[WW];cases hx:l[l.length-1]? with
|none=>exact WU _
|some x=>exact h x (WQ hx)
theorem lA{ow ow8:Nat→Nat}{w4 w w':World}(h8:∀ k,k<w4.heap.size→ow8 k=ow k)(hF:aA (Lb ow) w4 w)(hf:aA (Lb ow8) w w'):aA (Lb ow) w4 w':=hF.WD hf (fun k h=>by
 by_cases hk:k<w4.heap.size
 · have h:ow8 k≠0∧ow8 k≠4:=h
   rw[h8 k hk] at h;exact .inl h
 ·exact .inr (by omega))
theorem Eo(g:Nat)(qs:List (NdH×Nd))(ids:List Int)(files:List Ino)(G:GdB qs files)(n:Nat)(ih:WrS g qs ids files n):WrS g qs ids files (n+1):=by
 intro a ow s k W hM hn hk hdp hok hbd;obtain⟨kn,rfl⟩:=XB hk.1;have hkl:kn<qs.length:=by omega
 obtain⟨q,hq⟩:∃ q,qs[kn]?=some q:=⟨_,WK hkl⟩
 have hnd:=eI hq;obtain⟨⟨hi1,hi2⟩,hnl,hnc,htl,hxl⟩:=G.q q (WQ hq);obtain⟨m,hm⟩:=XB (show 0≤q.2.ino by omega);have hwr:=D6 (ids:=ids) (files:=files) n s hq hm;have hM2:=hM;obtain⟨hg,h6,⟨nd1,nd2⟩,⟨i1,i2⟩,⟨f1,f2⟩,_,_,_,⟨r1,r2⟩,⟨s1,s2⟩,e0,t0⟩:=hM2;have hlr:=hok.r;have hfl:=G.fl;have hn1024:=G.n;have ys_le:(bP qs q.2.names qs.length).length≤qs.length:=vJ _;have hgl:=(WS.1 hg).1;obtain⟨hvn,hvd,hvx⟩:=nd1.2 q (WQ hq);refine cS 179 [(0,_),(1,_)] Tryz.func34 ?_;refine Gz 7 ?_;refine cL (S1 aQ rfl rfl nd1.1.non (by omega)) ?_;refine cL (Tf (cs:=aE q) aZ rfl (fun j v hj=>nd1.1.rowZ kn rfl hq j v hj)) ?_;refine S5 eY rfl ?_;intro w1 hg1 hs1 hf1;obtain⟨b,eb⟩:∃ b,b=W.heap.size:=⟨_,rfl⟩
 rw[←eb] at hg1 ⊢;refine Te (vs:=aE q) aZ rfl rfl (aB q).2 hg1 rfl ?_;intro w2 hb2 hs2 hf2;have hF2:aA nob W w2:=hf1.tw hf2;have hs1b:w1.heap.size=W.heap.size+1:=hs1;have hs2b:w2.heap.size=w1.heap.size:=hs2;have hr2v:=(r1.WG hF2).vw;refine Gz 4 ?_;refine Tk 9 [0,1,2,3,4,5,6,7,8] aI (by kernel_rfl) ?_;refine Gz 3 ?_;refine xC rfl (S2 kY rfl (aD (hF2.obj hg id) rfl)) ?_;refine Gz 1 ?_;refine xC rfl (S2 aF rfl (aD hb2 rfl)) ?_;refine xC rfl (SY aY rfl rfl hr2v.non (by omega)) ?_;refine xC rfl (S2 aF rfl (hr2v.gz 0 m hm (by omega))) ?_;refine xK 0 ?_ ?_<;>intro h29
 ·rw[WJ h29] at hwr;refine Gz 6 ?_;exact⟨_,rfl,by rw[hwr];exact⟨(hF2.draws 1).any,a,ow,hM.WG (hF2.draws 1),fun _ _=>rfl,fun k hk=>hn k (by have hk:w2.heap.size≤k:=hk;omega),hok.b⟩⟩
 rw[WI h29] at hwr;refine Gz 7 ?_;refine cL (bU (bN zF []) IV Cn) ?_;refine S5 Cn rfl ?_;intro w3 hg3 hs3 hf3;obtain⟨c,ec⟩:∃ c,c=w2.heap.size:=⟨_,rfl⟩
 rw[show (w2.drewN 1).heap.size=c from ec.symm] at hg3 ⊢;refine sA rfl lD (lY _ _) hg3 ?_;intro w4 hc4 hs4 hf4;have hf24:aA nob w2 w4:=hf3.WE.tw hf4;have hF4:=hF2.trans hf24;have hs3b:w3.heap.size=w2.heap.size+1:=hs3;have hs4b:w4.heap.size=w3.heap.size:=hs4;have hb4:=hf24.obj hb2 id;have hM4:=hM.WG hF4;have hg4:=hF4.obj hg id;have hbl:ow b=0:=hn b (by omega);have hcl:ow c=0:=hn c (by omega);have hn4:∀ k,w4.heap.size≤k→ow k=0:=fun k hk=>hn k (by omega);have hbc:b≠c:=by omega
 refine Gz 2 ?_;refine Tw (β:=(BSt×Ino)×(BiA×(Nat→Nat))) (fun⟨⟨s8,i8⟩,⟨a8,ow8⟩⟩=>[(0,pT g),(1,iV (kn:Int)),(4,pT b),(5,pT c)]) (fun⟨⟨s8,i8⟩,⟨a8,ow8⟩⟩ w=>BiW a8 ow8 w.heap g qs ids files s8∧w.heap[b]?=some (.cells (aE q).toArray 37 (0,0))∧w.heap[c]?=some (.cells (bN i8.1 i8.2).toArray 88 (0,0))∧wrB qs ids files (n+1) (kn:Int) s=eW qs ids kn i8 s8∧okS qs s8∧i8.2.length≤200∧(∀ k,k<w4.heap.size→ow8 k=ow k)∧(∀ k,w.heap.size≤k→ow8 k=0)∧aA (fun k=>Lb ow k∨k=c) w4 w) ?_ ?_
 ·refine fK 9 ?_ ?_<;>intro h34
  ·rw[WJ h34] at hwr;have hmf:m<files.length:=by omega
   obtain⟨fi,hfi⟩:∃ fi,files[m]?=some fi:=⟨_,WK hmf⟩
   have hfd:files.getD m cI=fi:=by rw[WW,hfi];rfl
   rw[hfd] at hwr;have hfv4:=f1.WG hF4;refine Gz 4 ?_;refine Tc 8 (fun H=>H[g]?=some (.cells (biK a qs ids files s).toArray 81 (0,0))∧H[b]?=some (.cells (aE q).toArray 37 (0,0))∧VwM 11 oY H a.fo a.fc files) [8] [0,1,2,3,4,5,6,7,8] aI (by kernel_rfl) (⟨hg4,hb4,hfv4⟩) ?_;refine Gz 6 ?_;refine xC rfl (S1 Bs rfl rfl f1.non (by omega)) ?_;refine xC rfl (TX (cs:=oY fi) lD rfl (fun H hH a v hv=>hH.2.2.rowZ m hm hfi a v hv)) ?_;refine S7 rfl rfl (Te (vs:=oY fi) lD rfl rfl (lY _ _) hc4 rfl ?_);intro w5 hc5 hs5 hf5;refine Tx rfl ?_;have hf45:aA (· = c) w4 w5:=hf5.WE;refine Gz 2 ?_;have hM5:=hM4.WH hf45 (fun k hk h=>hk (by have h:k=c:=h;rw[h];exact hcl)) (fun _ _=>rfl);exact aC ⟨⟨s,fi⟩,⟨a,ow⟩⟩ ⟨hM5,hf45.obj hb4 hbc,hc5,hwr,hok,G.ft fi (WQ hfi),fun _ _=>rfl,fun k hk=>hn4 k (Xf hf45.size hk),hf45.mono (fun k h=>.inr h)⟩
  rw[WI h34] at hwr;refine fK 6 ?_ ?_<;>intro h44
  ·rw[WJ h44] at hwr;refine Gz 8 ?_;refine S6 eG rfl rfl rfl hc4 rfl ?_;intro w5 hc5 hs5 hf5;have hf45:aA (· = c) w4 w5:=hf5;refine Gz 2 ?_;have hM5:=hM4.WH hf45 (fun k hk h=>hk (by have h:k=c:=h;rw[h];exact hcl)) (fun _ _=>rfl);exact aC ⟨⟨s,(zF,q.2.tgt)⟩,⟨a,ow⟩⟩ ⟨hM5,hf45.obj hb4 hbc,hc5,hwr,hok,htl,fun _ _=>rfl,fun k hk=>hn4 k (Xf hf45.size hk),hf45.mono (fun k h=>.inr h)⟩
  rw[WI h44] at hwr;refine fK 6 ?_ ?_<;>intro h49
  ·rw[WJ h49] at hwr;have hvn4:=hvn.WH hF4 (fun _ _=>id);have hqn:q.1.names.n=q.2.names.length:=hvn4.1;have hbK:=(kP (qs:=qs) (ids:=ids) _ _ _).bd (show bdB _ from hwr ▸ hbd);have hbK2:=(BN _ _).bd hbK;refine Gz 5 ?_;refine Tc 8 (fun H=>H[g]?=some (.cells (biK a qs ids files s).toArray 81 (0,0))∧H[b]?=some (.cells (aE q).toArray 37 (0,0))) [6] [0,1,2,3,4,5,6,7] aI (by kernel_rfl) (⟨hg4,hb4⟩) ?_;refine Gz 5 ?_;refine xC rfl (S3 (u:=.slice q.1.names.a q.2.names.length q.1.names.c) (S9 dW rfl (fun H hH=>aD hH.2 rfl)) (by rw[←hqn];rfl)) ?_;refine S7 rfl rfl (SZ RZ rfl (IB a.lo a.lc qs q.1.names.a q.1.names.c q.2.names (w4.drewN 1) ⟨(hM4.WG (V2 1)).2.2.1.1.1,(hM4.WG (V2 1)).2.2.1.1.2⟩ (hvn4.2.1.WG (V2 1)) (by omega)) rfl ?_);rintro _ w5 ⟨ko,kc,ys,rfl,hoy,hfy,hky,hf5⟩;have hf5:=hf5.WE;refine Tg (by exact⟨hf5.obj hg4 id,hf5.obj hb4 id⟩) ?_;have hfy:Fr w4.heap.size ko:=hfy;have hky:=G.k _ _ hky;rw[←hky] at hwr hbK hbK2;have hysl:ys.length≤qs.length:=by rw[hky];exact vJ _
   have hyv:=hoy.vw;have hy63:=hyv.WF;have hz5:=hf5.size;have hg5:=hf5.obj hg4 id;have hb5:=hf5.obj hb4 id;have hc5:=hf5.obj hc4 id;have hM5:=hM4.WG hf5;have hlk5:=hoy.lt;refine Gz 5 ?_;refine TT dQ qQ rfl ?_;intro w6 ho6 hs6 hf6;obtain⟨lb,elb⟩:∃ b,b=w5.heap.size:=⟨_,rfl⟩
   rw[←elb] at ho6 ⊢;refine Gz 10 ?_;refine S4 (β:=((Nat×BSt)×(BiA×(Nat→Nat)))×(Option Addr×(Nat×List Ent))) (fun⟨⟨⟨j,s9⟩,⟨a9,ow9⟩⟩,⟨lo9,⟨lc9,L9⟩⟩⟩=>[(0,pT g),(1,iV (kn:Int)),(4,pT b),(5,pT c),(6,.slice ko ys.length kc),(7,.slice lo9 L9.length lc9),(8,iV j)]) (fun⟨⟨⟨j,s9⟩,⟨a9,ow9⟩⟩,⟨lo9,⟨lc9,L9⟩⟩⟩ w=>j≤ys.length∧L9.length=j∧wrK (wrB qs ids files n) qs ys s=((wrK (wrB qs ids files n) qs (ys.drop j) s9).1,L9++(wrK (wrB qs ids files n) qs (ys.drop j) s9).2)∧BiW a9 ow9 w.heap g qs ids files s9∧okS qs s9∧(∀ k,k<w5.heap.size→ow9 k=ow k)∧(∀ k,w.heap.size≤k→ow9 k=0)∧bL 3 nE 157 w.heap lo9 lc9 L9∧(∀ k,blk lo9 k→w5.heap.size≤k∧ow9 k=0)∧(∀ x∈L9,x.1.length≤255)∧aA (Lb ow) w5 w) (fun⟨⟨⟨j,s9⟩,⟨a9,ow9⟩⟩,⟨lo9,⟨lc9,L9⟩⟩⟩=>ys.length-j) ⟨⟨⟨0,s⟩,⟨a,ow⟩⟩,⟨some ⟨lb,0,none⟩,⟨0,[]⟩⟩⟩ ⟨rfl,rfl,rfl,rfl,rfl,rfl,rfl,trivial⟩ ⟨WU _,rfl,rfl,hM5.WG hf6,hok,fun _ _=>rfl,fun k hk=>hn k (by have:=hf6.size;omega),ho6,fun k ⟨a,ha,e⟩=>by cases ha;have e:lb=k:=e;exact⟨by omega,hn k (by omega)⟩,by simp,hf6.any⟩ ?_;rintro⟨⟨⟨j,s9⟩,⟨a9,ow9⟩⟩,⟨lo9,⟨lc9,L9⟩⟩⟩ w9 ⟨hj,hLj,hwk,hM9,hok9,hl9,hn9,ho9,hb9l,hL9,hF9⟩;refine fK 6 ?_ ?_<;>intro h61
   ·have hjl:j<ys.length:=by omega
    obtain⟨z,hz⟩:∃ z,ys[j]?=some z:=⟨_,WK hjl⟩
    have hzd:ys.getD j 0=z:=by rw[WW,hz];rfl
    have hzm:=WQ hz;rw[hky] at hzm;obtain⟨i,rfl,hil,hkq⟩:=dZ.1 hzm;obtain⟨r,hr⟩:∃ r,qs[i]?=some r:=⟨_,WK hil⟩
    rw[kM hr] at hkq;obtain⟨hrne,hrdl⟩:=lW.1 hkq;have hrl:r.2.names.length=q.2.names.length+1:=by have h0:=W5.2 hrne;rw[←hrdl,Yd];omega
    have hnr:=eI hr;obtain⟨⟨hr1,hr2⟩,hrnl,hrnc,hrtl,hrxl⟩:=G.q r (WQ hr);obtain⟨mr,hmr⟩:=XB (show 0≤r.2.ino by omega);have hdr:ys.drop j=(i:Int)::ys.drop (j+1):=by obtain⟨h,e⟩:=WN.1 hz;rw[←e];exact XI h
    rw[hdr] at hwk;have hb9:bdB (wrB qs ids files n (i:Int) s9):=(vZ (qs:=qs) (pI n) (ys.drop (j+1)) _).bd (by have h:=hbK2;rw[hwk] at h;exact h);have hvy9:=hyv.WH hF9 (fun a ha h=>by have h1:=hfy a ha;have h2:=hlk5 a ha;have h:(ow a.block≠0∧ow a.block≠4):=h;exact h.1 (hn4 _ h1));refine Gz 1 ?_;refine aW [(0,_),(1,_),(4,_),(5,_),(6,_),(7,_),(8,_),(61,_)] ?_;refine Gz 11 ?_;refine cL (SY aY rfl rfl hvy9.non (by omega)) ?_;refine cL (S2 aF rfl (hvy9.gz 0 j rfl hjl)) ?_;rw[hzd];refine SZ O5 rfl (ih a9 ow9 s9 (i:Int) w9 hM9 hn9 ⟨by omega,by omega⟩ (by rw[hnr,hrl];rw[hnd] at hdp;omega) hok9 hb9) rfl ?_;rintro _ w10 hP;obtain⟨hf10,a10,ow10,hM10,hl10,hn10,hbr10⟩:=hP;have hok10:okS qs (wrB qs ids files n (i:Int) s9):=⟨by rw[(pI n _ s9).r];exact hok9.r,hbr10,D5 G n _ s9 hok9.h⟩
    obtain⟨e,ee⟩:∃ e:Ent,e=(aU r.2.names,r.2.kind,(wrB qs ids files n (i:Int) s9).refs.getD mr 0-1):=⟨_,rfl⟩
    have hwk2:wrK (wrB qs ids files n) qs ys s=((wrK (wrB qs ids files n) qs (ys.drop (j+1)) (wrB qs ids files n (i:Int) s9)).1,(L9++[e])++(wrK (wrB qs ids files n) qs (ys.drop (j+1)) (wrB qs ids files n (i:Int) s9)).2):=by
     rw[hwk];show (_,L9++((aU (ndB qs i).names,(ndB qs i).kind,(wrB qs ids files n (i:Int) s9).refs.getD (ndB qs i).ino.toNat 0-1)::_))=_;rw[hnr,hmr,Xm,←ee,W9];rfl
    obtain⟨s10,es10⟩:∃ t,t=wrB qs ids files n (i:Int) s9:=⟨_,rfl⟩
    rw[←es10] at hM10 hbr10 hok10 ee hwk2;have hz10:=hf10.size;have hz9:=hF9.size;have hz6:=hf6.size;have hl9lt:=ho9.lt;have hnl9:∀ k,blk lo9 k→¬ Lb ow9 k:=fun k hk h=>h.1 (hb9l k hk).2;have hvy10:=hvy9.WH hf10 (fun a ha h=>by have h1:=hfy a ha;have h2:=hlk5 a ha;exact h.1 (by rw[hl9 _ h2];exact hn4 _ h1));have ho10:=ho9.WH hf10 (fun a ha=>hnl9 _ ⟨a,ha,rfl⟩);have hN10:=hM10.2.2.1.1;have hg10:=hM10.1;have hR10:=hM10.2.2.2.2.2.2.2.2.1.1;obtain⟨hrn,_⟩:=hN10.2 r (WQ hr);have hrnn:r.1.names.n=r.2.names.length:=hrn.1;have hlr10:=hok10.r;have hrb:=hbr10.1 (s10.refs.getD mr 0) (by rw[WW,WK (by omega)];exact XE _);refine Gz 3 ?_;refine Tc 11 (fun H=>H[g]?=some (.cells (biK a10 qs ids files s10).toArray 81 (0,0))∧Vw i64 H ko kc ys∧VwM 10 aE H a10.lo a10.lc qs) [10,11] [0,1,2,3,4,5,6,7,8,9,10,11] aI (by kernel_rfl) (⟨hg10,hvy10,hN10.1⟩) ?_;refine Gz 6 ?_;refine xC rfl (SY aY rfl rfl hvy10.non (by omega)) ?_;refine xC rfl (S9 aF rfl (fun H hH=>hH.2.1.gz 0 j rfl hjl)) ?_;rw[hzd];refine xC rfl (S1 aQ rfl rfl hN10.1.non (by omega)) ?_;refine xC rfl (TX (cs:=aE r) aZ rfl (fun H hH a v hv=>hH.2.2.rowZ i rfl hr a v hv)) ?_;refine S7 rfl rfl (S5 eY rfl ?_);intro w11 hg11 hs11 hf11;have hf11:=hf11.WE;obtain⟨d,ed⟩:∃ d,d=w10.heap.size:=⟨_,rfl⟩
    rw[show (w10.drewN 1).heap.size=d from ed.symm] at hg11 ⊢;refine Tg (by exact⟨hf11.obj hg10 id,hvy10.WG hf11,hN10.1.WG hf11⟩) ?_;refine S7 rfl rfl (Te (vs:=aE r) aZ rfl rfl (aB r).2 hg11 rfl ?_);intro w12 hd12 hs12 hf12;refine Tx rfl ?_;have hf1012:aA nob w10 w12:=hf11.tw hf12;have hg12:=hf1012.obj hg10 id;have hr12:=hrn.2.1.WG hf1012;have hR12:=hR10.vw.WG hf1012;refine Gz 2 ?_;refine Tc 24 (fun H=>H[d]?=some (.cells (aE r).toArray 37 (0,0))∧H[g]?=some (.cells (biK a10 qs ids files s10).toArray 81 (0,0))∧Vw gY H r.1.names.a r.1.names.c r.2.names∧Vw i64 H a10.ro a10.rc s10.refs) [21,22] [0,1,2,3,4,5,6,7,8,9,10,11,12,13,14,15,16,17,18,19,20,21,22,23] aI (by kernel_rfl) (⟨hd12,hg12,hr12,hR12⟩) ?_;refine Gz 2 ?_;refine xC rfl (S3 (u:=.slice r.1.names.a r.2.names.length r.1.names.c) (S9 dW rfl (fun H hH=>aD hH.1 rfl)) (by rw[←hrnn];rfl)) ?_;refine Gz 1 ?_;refine xC rfl (S3 (u:=.slice r.1.names.a r.2.names.length r.1.names.c) (S9 dW rfl (fun H hH=>aD hH.1 rfl)) (by rw[←hrnn];rfl)) ?_;refine Gz 1 ?_;refine xC rfl (S3 (u:=iV ((r.2.names.length-1:Nat):Int)) (TV rfl rfl (by omega)) (by congr 1;omega)) ?_;refine xC rfl (SY jH rfl rfl hr12.non (by omega)) ?_;refine xC rfl (S9 eG rfl (fun H hH=>hH.2.2.1.gz [] (r.2.names.length-1) rfl (by omega))) ?_;refine Gz 8 ?_;refine xC rfl (SY aY rfl rfl hR12.non (by omega)) ?_;refine xC rfl (S9 aF rfl (fun H hH=>hH.2.2.2.gz 0 mr hmr (by omega))) ?_;refine Gz 1 ?_;refine xC rfl (bU (nE (aU r.2.names,r.2.kind,s10.refs.getD mr 0-1)) IW zU) ?_;rw[←ee];refine S7 rfl rfl (Tu qQ (cs:=(nE e).toArray) zU rfl rfl rfl (by kernel_rfl) rfl ?_);intro w13 hg13 hs13 hf13;have hf13:=hf13.WE;have ho13:=bS (e:=157) (xs:=[e]) dQ (by simpa using hg13) (by show 1≤maxLen;decide);refine Tg (by exact⟨hf13.obj hd12 id,hf13.obj hg12 id,hr12.WG hf13,hR12.WG hf13⟩) ?_;refine S7 rfl rfl (Th dQ rfl qQ rfl rfl ((ho10.WG hf1012).WG hf13) (ho13.vw dQ) (by simp only[WP];omega) (by simp only[WP];unfold maxLen;omega) rfl ?_);intro lo14 lc14 w14 ho14 hf14 hr14 hn14;have hf1013:=hf1012.trans hf13;have hz13:=hf1013.size;have hz14:=hf14.size;have hn9l:∀ k,blk lo9 k→ow10 k=0:=fun k hk=>by
     have hk2:k<w9.heap.size:=by obtain⟨x,hx,hxe⟩:=hk;have:=hl9lt x hx;omega
     rw[hl10 k hk2];exact(hb9l k hk).2
    refine Tg (by exact⟨hf14.obj (hf13.obj hd12 id) (fun⟨x,hx,hxe⟩=>by have:=hl9lt x hx;omega),hf14.obj (hf13.obj hg12 id) (fun h=>by have:=hn9l g h;rw[hM10.2.1] at this;omega),(hr12.WG hf13).WH hf14 (fun x hx h=>by have h1:=hrn.2.2 hrne _ ⟨x,hx,rfl⟩;have h1:ow10 x.block=4:=h1;have:=hn9l _ h;omega),(hR12.WG hf13).WH hf14 (fun x hx h=>by have h1:=hM10.2.2.2.2.2.2.2.2.1.2 _ ⟨x,hx,rfl⟩;have:=hn9l _ h;omega)⟩) ?_;have hM14:=(hM10.WG hf1013).WH hf14 (fun k hk hb=>hk (hn9l k hb)) (fun _ _=>rfl);have hF14:aA (Lb ow) w5 w14:=((lA hl9 hF9 hf10).trans hf1013.any).WD hf14 (fun k h=>.inr (hb9l k h).1);have hb14:∀ k,blk lo14 k→w5.heap.size≤k∧ow10 k=0:=fun k hk=>by
     obtain⟨x,hx,hxe⟩:=hk;rcases hr14 x hx with h|h
     ·exact⟨(hb9l k ⟨x,h,hxe⟩).1,hn9l k ⟨x,h,hxe⟩⟩
     ·exact⟨by omega,hn10 k (by omega)⟩
    refine Gz 9 ?_;exact aG ⟨⟨⟨j+1,s10⟩,⟨a10,ow10⟩⟩,⟨lo14,⟨lc14,L9++[e]⟩⟩⟩ ⟨by omega,by rw[WM,hLj];rfl,hwk2,hM14,hok10,fun k hk=>by rw[hl10 k (by omega)];exact hl9 k hk,fun k hk=>hn10 k (by omega),ho14,hb14,fun x hx=>by
     rcases Xj.1 hx with hx|hx
     ·exact hL9 x hx
     ·rw[Xg] at hx;subst hx;rw[ee];exact uI hrnc,hF14⟩ (by show ys.length-(j+1)<ys.length-j;omega)
   have hje:ys.drop j=[]:=XU (by omega);rw[hje] at hwk;have hwk:wrK (wrB qs ids files n) qs ys s=(s9,L9):=by rw[hwk];show (s9,L9++[])=(s9,L9);rw[XP]
   rw[hwk] at hwr hbK hbK2;have hL9n:L9.length≤1024:=by omega
   refine Gz 1 ?_;refine aW [(0,_),(1,_),(4,_),(5,_),(6,_),(7,_),(8,_),(61,_)] ?_;refine Gz 10 ?_;refine SZ RY rfl (IF lo9 lc9 L9 w9 (ho9.vw dQ) (fun x hx=>Xf (hL9 x hx) (by decide)) (by omega)) rfl ?_;rintro _ w10 ⟨o10,c10,rfl,ho10,hfr10,hf10⟩;have hz10:=hf10.size;have hz9:=hF9.size;have hbk5:b<w5.heap.size:=by omega
   have hck5:c<w5.heap.size:=by omega
   have hb10:=hf10.obj (hF9.obj hb5 (fun h=>h.1 hbl)) id;have hc10:=hf10.obj (hF9.obj hc5 (fun h=>h.1 hcl)) id;refine Gz 12 ?_;refine S6 aF rfl rfl rfl hc10 rfl ?_;intro w11 hc11 hs11 hf11;have hs11b:w11.heap.size=w10.heap.size:=hs11;have hM11:=(hM9.WG hf10).WH hf11 (fun k hk h=>hk (by have h:k=c:=h;rw[h,hl9 c hck5];exact hcl)) (fun _ _=>rfl);have ho11:=ho10.WH hf11 (fun x hx h=>by have h:x.block=c:=h;have:=hfr10 x hx;omega);have hb11:=hf11.obj hb10 hbc;refine Gz 7 ?_;refine SZ JL rfl (HI o10 c10 (gE L9).1 w11 hM11 (fun k hk=>hn9 k (by omega)) ho11.vw (fun _ k ⟨x,hx,hxe⟩=>.inl (hn9 k (by have:=hfr10 x hx;omega))) (by have h:=hbK.2.1;simp only[WM] at h;omega)) rfl ?_;rintro _ w12 ⟨rfl,a12,ow12,hM12,_,q1,q2,hf12⟩;have hb12:=hf12.obj hb11 (fun h=>by have h:b=g∨ow9 b=2:=h;rw[hl9 b hbk5,hbl] at h;omega);have hc12:=hf12.obj hc11 (fun h=>by have h:c=g∨ow9 c=2:=h;rw[hl9 c hck5,hcl] at h;omega);have hz12:=hf12.size;refine Gz 1 ?_;refine S6 aF rfl rfl rfl hc12 rfl ?_;intro w13 hc13 hs13 hf13;have hs13b:w13.heap.size=w12.heap.size:=hs13;refine Gz 2 ?_;have hc12l:ow12 c=0:=by rw[q1 c (by omega),hl9 c hck5];exact hcl
   have hM13:=hM12.WH hf13 (fun k hk h=>hk (by have h:k=c:=h;rw[h];exact hc12l)) (fun _ _=>rfl);refine aC ⟨⟨{ s9 with lst:=s9.lst++(gE L9).1 },EX s9 (gE L9).1⟩,⟨a12,ow12⟩⟩ ⟨hM13,hf13.obj hb12 hbc,hc13,hwr,⟨hok9.r,hok9.b,hok9.h⟩,WU _,fun k hk=>by rw[q1 k (by omega),hl9 k (by omega)],fun k hk=>q2 k (by omega),?_⟩;have hf49:aA (Lb ow) w4 w9:=hf5.any.trans hF9;have hf411:aA (fun k=>Lb ow k∨k=c) w4 w11:=((hf49.mono (fun k h=>.inl h)).trans hf10.any).trans (hf11.mono (fun k h=>.inr h));refine(hf411.WD hf12 (fun k h=>?_)).trans (hf13.mono (fun k h=>.inr h));have h:k=g∨ow9 k=2:=h;by_cases hk:k<w5.heap.size
   · rw[hl9 k hk] at h
     refine .inl (.inl ?_);show ow k≠0∧ow k≠4;rcases h with h|h
     ·rw[h,h6];decide
     ·rw[h];decide
   ·exact .inr (by omega)
  rw[WI h49] at hwr;refine Gz 6 ?_;exact aC ⟨⟨s,(zF,[])⟩,⟨a,ow⟩⟩ ⟨hM4,hb4,hc4,hwr,hok,WU _,fun _ _=>rfl,hn4,VZ _ _⟩
 rintro⟨⟨s8,i8⟩,⟨a8,ow8⟩⟩ w8 ⟨hM8,hb8,hc8,hw8,hok8,hi8,hl8,hn8,hF8⟩;refine Gz 3 ?_;have hz8:=hF8.size;have hcs:c<w4.heap.size:=by omega
 have hbs:b<w4.heap.size:=by omega
 have hc8l:ow8 c=0:=by rw[hl8 c hcs];exact hcl
 have hb8l:ow8 b=0:=by rw[hl8 b hbs];exact hbl
 have kc:∀ {w w2:World} {S:Nat→Prop},(∀ k,S k→k=c)→BiW a8 ow8 w.heap g qs ids files s8→aA S w w2→BiW a8 ow8 w2.heap g qs ids files s8:=fun hS hM hf=>hM.WH hf (fun k hk h=>hk (by rw[hS k h];exact hc8l)) (fun _ _=>rfl);obtain⟨R,hR⟩:∃ R,R=bT s8 q.2.xs:=⟨_,rfl⟩
 have hfix:eW qs ids (kn:Int) i8 s8 = { R.2 with ino:=R.2.ino++(iO (inB qs ids kn i8 R.1).1 (inB qs ids kn i8 R.1).2).1,refs:=R.2.refs.set m ((bJ R.2.ino R.2.ino.length:Nat)+1),many:=R.2.many+1 }:=by unfold eW;rw[hnd,←hR,hm,Xm]
 have hbF:bdB R.2:=by have h:=(rX (qs:=qs) (ids:=ids) kn i8 s8).bd (by rw[←hw8];exact hbd);rw[hnd,←hR] at h;exact h
 have hbT:R.2.ino.length+(iO (inB qs ids kn i8 R.1).1 (inB qs ids kn i8 R.1).2).1.length≤137438953472:=by have h:=hbd.1;rw[hw8,hfix] at h;simp only[WM] at h;exact h
 refine Gz 2 ?_;refine S6 aF rfl rfl rfl hc8 rfl ?_;intro w9 hc9 hs9 hf9;have hb9:=hf9.obj hb8 hbc;have hs9b:w9.heap.size=w8.heap.size:=hs9;refine Gz 6 ?_;refine cL (S2 aF rfl (aD (i:=3) hb9 rfl)) ?_;refine Gz 1 ?_;refine S6 aF rfl rfl rfl hc9 rfl ?_;intro w10 hc10 hs10 hf10;have hb10:=hf10.obj hb9 hbc;have hM10:=kc (fun _ h=>h) (kc (fun _ h=>h) hM8 hf9) hf10;have hs10b:w10.heap.size=w9.heap.size:=hs10;refine Gz 3 ?_;refine Tc 9 (fun H=>H[g]?=some (.cells (biK a8 qs ids files s8).toArray 81 (0,0))∧H[b]?=some (.cells (aE q).toArray 37 (0,0))) [7,9] [0,1,2,3,4,5,6,7,8,9] aI (by kernel_rfl) (⟨hM10.1,hb10⟩) ?_;refine Gz 6 ?_;refine xC rfl (S9 aF rfl (fun H hH=>aD (i:=4) hH.2 rfl)) ?_;refine S7 rfl rfl (SZ OU rfl (Ar a8.io a8.ic ids q.2.ud (w10.drewN 1) (hM10.2.2.2.1.1.WG (V2 1))) rfl ?_);rintro _ w11 ⟨rfl,hw⟩;subst hw;refine Tg (by exact⟨hM10.1,hb10⟩) ?_;refine Gz 1 ?_;refine S7 rfl rfl (S6 aF rfl rfl rfl hc10 rfl ?_);intro w12 hc12 hs12 hf12;refine Tx rfl ?_;have hf12:=hf12.WE;have hb12:=hf12.obj hb10 hbc;have hM12:=kc (fun _ h=>h) hM10 hf12;have hs12b:w12.heap.size=w10.heap.size:=hs12;refine Gz 3 ?_;refine Tc 9 (fun H=>H[g]?=some (.cells (biK a8 qs ids files s8).toArray 81 (0,0))∧H[b]?=some (.cells (aE q).toArray 37 (0,0))) [7,9] [0,1,2,3,4,5,6,7,8,9] aI (by kernel_rfl) (⟨hM12.1,hb12⟩) ?_;refine Gz 6 ?_;refine xC rfl (S9 aF rfl (fun H hH=>aD (i:=5) hH.2 rfl)) ?_;refine S7 rfl rfl (SZ OU rfl (Ar a8.io a8.ic ids q.2.gd (w12.drewN 1) (hM12.2.2.2.1.1.WG (V2 1))) rfl ?_);rintro _ w13 ⟨rfl,hw⟩;subst hw;refine Tg (by exact⟨hM12.1,hb12⟩) ?_;refine Gz 1 ?_;refine S7 rfl rfl (S6 aF rfl rfl rfl hc12 rfl ?_);intro w14 hc14 hs14 hf14;refine Tx rfl ?_;have hf14:=hf14.WE;have hb14:=hf14.obj hb12 hbc;have hM14:=kc (fun _ h=>h) hM12 hf14;have hs14b:w14.heap.size=w12.heap.size:=hs14;refine Gz 7 ?_;refine cL (S2 wN rfl (aD hM14.1 rfl)) ?_;refine cA 1 RX (GM a8.lo a8.lc qs kn w14 hM14.2.2.1.1) ?_;rintro _ w15 ⟨rfl,hf15⟩;have hz15:=hf15.size;refine Gz 1 ?_;refine S6 aF rfl rfl rfl (hf15.obj hc14 id) rfl ?_;intro w16 hc16 hs16 hf16;have hb16:=hf16.obj (hf15.obj hb14 id) hbc;have hM16:=kc (fun _ h=>h) (hM14.WG hf15) hf16;have hs16b:w16.heap.size=w15.heap.size:=hs16;have hX16:=(hM16.2.2.1.1.2 q (WQ hq)).2.2;have hxn:q.1.xs.n=q.2.xs.length:=hX16.1;have hX16:=hX16.eta;have hn16:∀ k,w16.heap.size≤k→ow8 k=0:=fun k hk=>hn8 k (by omega);refine Gz 6 ?_;refine cL (S3 (u:=.slice q.1.xs.a q.2.xs.length q.1.xs.c) (S2 cK rfl (aD hb16 rfl)) (by rw[←hxn];rfl)) ?_;refine cA 0 RW (CR a8 ow8 g qs ids files s8 q.1.xs.a q.1.xs.c q.2.xs w16 hM16 hn16 hX16 hxl hok8.h (hR ▸ hbF) hok8.b) ?_;rw[←hR];rintro _ w17 ⟨rfl,hf17,a17,ow17,hM17,hl17,hn17,hbr17⟩;have hz17:=hf17.size;have hb17:=hf17.obj hb16 (fun h=>h.1 hb8l);have hc17:=hf17.obj hc16 (fun h=>h.1 hc8l);have hc17l:ow17 c=0:=by rw[hl17 c (by omega)];exact hc8l
 have hb17l:ow17 b=0:=by rw[hl17 b (by omega)];exact hb8l
 refine Gz 1 ?_;refine S6 aF rfl rfl rfl hc17 rfl ?_;intro w18 hc18 hs18 hf18;have hs18b:w18.heap.size=w17.heap.size:=hs18;have hb18:=hf18.obj hb17 hbc;have hM18:=hM17.WH hf18 (fun k hk h=>hk (by have h:k=c:=h;rw[h];exact hc17l)) (fun _ _=>rfl);have hcF:w18.heap[c]?=some (.cells (bN (inB qs ids kn i8 R.1).1 (inB qs ids kn i8 R.1).2).toArray 88 (0,0)):=by unfold inB;rw[hnd];exact hc18
 refine Gz 4 ?_;refine cL (Tf (cs:=bN (inB qs ids kn i8 R.1).1 (inB qs ids kn i8 R.1).2) lD rfl (bI hcF 0 rfl)) ?_;refine SZ RV rfl (Lk (inB qs ids kn i8 R.1).1 (inB qs ids kn i8 R.1).2 w18 (by show i8.2.length≤maxLen;unfold maxLen;omega)) rfl ?_;rintro _ w19 ⟨o19,c19,rfl,ho19,hfr19,hf19⟩;have hz19:=hf19.size;have hb19:=hf19.obj hb18 id;have hM19:=hM18.WG hf19;refine Gz 8 ?_;refine Tc 13 (fun H=>bD H ((⟨g,0,none⟩:Addr).add 8)=some (.slice a17.ro R.2.refs.length a17.rc)∧H[b]?=some (.cells (aE q).toArray 37 (0,0))) [10,13] [0,1,2,3,4,5,6,7,8,9,10,11,12,13] aI (by kernel_rfl) (⟨aD hM19.1 rfl,hb19⟩) ?_;refine Gz 3 ?_;refine xC rfl (S9 kY rfl (fun H hH=>hH.1)) ?_;refine Gz 6 ?_;refine S7 rfl rfl (SZ JL rfl (HJ o19 c19 (iO (inB qs ids kn i8 R.1).1 (inB qs ids kn i8 R.1).2).1 (w19.drewN 1) (hM19.WG (V2 1)) (fun k hk=>hn17 k (by have hk:w19.heap.size≤k:=hk;omega)) (ho19.vw.WG (V2 1)) (fun _ k ⟨x,hx,hxe⟩=>.inl (hn17 k (by have:=hfr19 x hx;omega))) (by omega)) rfl ?_);rintro _ w20 ⟨rfl,a20,ow20,hM20,⟨_,_,hro,hrc⟩,q1,q2,hf20⟩;obtain⟨s20,es20⟩:∃ t:BSt,t = { R.2 with ino:=R.2.ino++(iO (inB qs ids kn i8 R.1).1 (inB qs ids kn i8 R.1).2).1 }:=⟨_,rfl⟩
 rw[←es20] at hM20;have zr:s20.refs=R.2.refs:=by rw[es20]
 have zm:s20.many=R.2.many:=by rw[es20]
 have hf20:=hf20.WE;have hb20:=hf20.obj hb19 (fun h=>by have h:b=g∨ow17 b=1:=h;rw[hb17l] at h;omega);refine Tg (by exact⟨by rw[←hro,←hrc,←zr];exact aD hM20.1 rfl,hb20⟩) ?_;have hrT:bJ R.2.ino R.2.ino.length≤1152921504606846976:=wV (by have:=hbF.1;omega);have hz20:=hf20.size;have hR20:=hM20.2.2.2.2.2.2.2.2.1.1;have hRl:R.2.refs.length=qs.length+1:=by rw[hR,(vL s8 q.2.xs).r];exact hok8.r
 rw[hro,hrc] at hR20;refine Gz 1 ?_;refine xC rfl (SY aY rfl rfl (by rw[←zr];exact hR20.vw.non) (by omega)) ?_;refine S7 rfl rfl (Tr jB aF rfl rfl hR20 (by rw[zr];omega) ?_);intro w21 ho21 hs21 hf21;refine Tx rfl ?_;rw[hm,Xm] at ho21;have hM21:=hM20.refsup (by rw[hro,hrc];exact ho21) (by rw[hro];exact hf21);have hs21b:w21.heap.size=w20.heap.size:=hs21;refine Gz 6 ?_;refine cL (S3 (u:=iV (R.2.many:Nat)) (S2 aF rfl (aD hM21.1 rfl)) (by show Value.int .i64 ((s20.many:Nat):Int)=_;rw[zm])) ?_;refine cL (TO rfl rfl (by have:=hbF.2.2.2.2;omega)) ?_;refine Gz 2 ?_;refine S6 aF rfl rfl rfl hM21.1 rfl ?_;intro w22 hg22 hs22 hf22;have hs22b:w22.heap.size=w21.heap.size:=hs22;have hM22:=hM21.manyup (n:=R.2.many+1) hg22 hf22;refine Gz 1 ?_;refine Ty rfl ?_;rw[es20] at hM22;rw[hw8,hfix];have hWc:W.heap.size≤c:=by omega
 have A8:aA (Lb ow) W w8:=(hF4.any (S:=Lb ow)).WD hF8 (fun k h=>h.elim .inl (fun h=>.inr (by omega)));have A10:=(A8.tw hf9).tw hf10;have A14:=(A10.tw hf12).tw hf14;have A16:=(A14.trans hf15.any).tw hf16;have l8:∀ k,k<W.heap.size→ow8 k=ow k:=fun k hk=>hl8 k (by omega);have l17:∀ k,k<W.heap.size→ow17 k=ow k:=fun k hk=>by rw[hl17 k (by omega),l8 k hk]
 have lg:Lb ow g:=by show ow g≠0∧ow g≠4;rw[h6];decide
 have A18:=(A16.WD hf17 (fun k h=>by
  by_cases hk:k<W.heap.size
  · have h:ow8 k≠0∧ow8 k≠4:=h
    rw[l8 k hk] at h;exact .inl h
  ·exact .inr (by omega))).tw hf18
 have A20:=(A18.trans hf19.any).WD hf20 (fun k h=>by
  by_cases hk:k<W.heap.size
  · have h:k=g∨ow17 k=1:=h
    rw[l17 k hk] at h;refine .inl ?_;rcases h with h|h
    ·rw[h];exact lg
    · show ow k≠0∧ow k≠4
      rw[h];decide
  ·exact .inr (by omega))
 have A22:=(A20.WD hf21 (fun k h=>by
  by_cases hk:k<W.heap.size
  · have h5:=hM17.2.2.2.2.2.2.2.2.1.2 k h
    rw[l17 k hk] at h5;refine .inl ?_;show ow k≠0∧ow k≠4;rw[h5];decide
  ·exact .inr (by omega))).trans (hf22.mono (fun k h=>by have h:k=g:=h;rw[h];exact lg))
 refine⟨_,rfl,A22,a20,ow20,hM22,fun k hk=>by rw[q1 k (by show k<w19.heap.size;omega),l17 k hk],fun k hk=>q2 k (by omega),fun z hz=>?_,hbr17.2⟩;have hz:z∈R.2.refs.set m (((bJ R.2.ino R.2.ino.length:Nat):Int)+1):=hz;rcases Zk hz with hz|hz
 ·exact hbr17.1 z hz
 ·omega
theorem Am(g:Nat)(qs:List (NdH×Nd))(ids:List Int)(files:List Ino)(G:GdB qs files):∀ (n:Nat),WrS g qs ids files n
|0=>fun a ow s k W hM hn hk hdp hok hbd=>by
   exfalso;obtain⟨kn,rfl⟩:=XB hk.1;obtain⟨q,hq⟩:∃ q,qs[kn]?=some q:=⟨_,WK (by omega)⟩
   have h:=(G.q q (WQ hq)).2.1;rw[eI hq] at hdp;omega
|n+1=>Eo g qs ids files G n (Am g qs ids files G n)
section
open Go Go.RowKit Go.Maps
def zM(l:List Nd):Prop:=l.length≤1024∧(∀ n∈l,∀ s∈n.names,dN s=0)∧(∀ n∈l,n.names.length≤16)∧(l.Pairwise fun a b=>a.names≠b.names)∧fZ l []∧(∀ n∈l,n.names≠[]→fZ l n.names.dropLast)∧(∀ n∈l,dY n)∧l.Pairwise iG
theorem Kn(l:List Nd):chk l=0↔zM l:=by
 constructor
 · intro h
   have h1:=sK h;have h2:=jA (xB h1);have h3:=GU h1;have hm:¬ ∃ n∈l,¬ dY n:=fun hm=>by
    rw[aM,h1,WI (show ¬ ((0:Int)≠0) from fun h=>h rfl),WJ hm] at h;cases h
   have hl:l.Pairwise iG:=by
    apply WV;intro hl;rw[aM,h1,WI (show ¬ ((0:Int)≠0) from fun h=>h rfl),WI hm,WI hl] at h;cases h
   exact⟨Cc h,fun n hn s hs=>h2.1 s (Y3.2 ⟨n,hn,hs⟩),h2.2.1,Xk.1 h2.2.2,h3.1,h3.2,fun n hn=>WV fun h=>hm ⟨n,hn,h⟩,hl⟩
 · rintro⟨g1,g2,g3,g4,g5,g6,g7,g8⟩
   have e1:iJ (eO l)=0:=pR fun s hs=>by obtain⟨n,hn,h⟩:=Y3.1 hs;exact g2 n hn s h
   have e2:nmd l=0:=by
    unfold nmd;rw[WI (fun h=>h e1),WI (fun⟨n,hn,h⟩=>by have:=g3 n hn;omega),WI (fun h=>h g4)]
   have e3:plc l=0:=by
    unfold plc;rw[WI (by omega),WI (fun h=>h e2),WI (fun h=>h g5),WI (fun⟨n,hn,h1,h2⟩=>h2 (g6 n hn h1))]
   rw[aM,e3,WI (show ¬ ((0:Int)≠0) from fun h=>h rfl),WI (fun⟨n,hn,h⟩=>h (g7 n hn)),WJ g8]
theorem Hc{a b:Nd}(h:iG a b):iG b a:=fun e=>by
 obtain⟨h1,h2⟩:=h e.symm;exact⟨by rw[←h2.1];exact h1,h2.symm⟩
theorem yH{l m:List Nd}(h:l.Perm m){s:List By}(hd:fZ l s):fZ m s:=by
 obtain⟨n,hn,h1,h2⟩:=hd;exact⟨n,h.mem_iff.1 hn,h1,h2⟩
theorem tJ{l m:List Nd}(h:l.Perm m)(g:zM l):zM m:=by
 obtain⟨g1,g2,g3,g4,g5,g6,g7,g8⟩:=g;exact⟨by rw[←h.length_eq];exact g1,fun n hn=>g2 n (h.mem_iff.2 hn),fun n hn=>g3 n (h.mem_iff.2 hn),(h.pairwise_iff (fun h e=>h e.symm)).1 g4,yH h g5,fun n hn hne=>yH h (g6 n (h.mem_iff.2 hn) hne),fun n hn=>g7 n (h.mem_iff.2 hn),(h.pairwise_iff (fun h=>Hc h)).1 g8⟩
def wU(f:Int→Int)(n:Nd):Nd:={ n with ino:=f n.ino }
def Gu(f:Int→Int)(zs:List Int):Prop:=∀ a∈zs,∀ b∈zs,f a=f b→a=b
theorem A9{f:Int→Int}{l:List Nd}{s:List By}:fZ (l.map (wU f)) s↔fZ l s:=by
 constructor
 · rintro⟨n,hn,h1,h2⟩
   obtain⟨m,hm,rfl⟩:=Xq.1 hn;exact⟨m,hm,h1,h2⟩
 · rintro⟨n,hn,h1,h2⟩
   exact⟨wU f n,Xq.2 ⟨n,hn,rfl⟩,h1,h2⟩
theorem Dq{f:Int→Int}{l:List Nd}(hf:Gu f (l.map (·.ino))):zM (l.map (wU f))↔zM l:=by
 have hp:∀ {R R':Nd→Nd→Prop},(∀ a∈l,∀ b∈l,R (wU f a) (wU f b)↔R' a b)→((l.map (wU f)).Pairwise R↔l.Pairwise R'):=fun {R R'} h=>by
  rw[List.pairwise_map];exact⟨fun g=>g.imp_of_mem (fun ha hb=>(h _ ha _ hb).1),fun g=>g.imp_of_mem (fun ha hb=>(h _ ha _ hb).2)⟩
 have hl:(l.map (wU f)).Pairwise iG↔l.Pairwise iG:=hp fun a ha b hb=>by
  unfold iG;constructor
  ·intro h e;exact h (by show f b.ino=f a.ino;rw[e])
  ·intro h e;exact h (hf _ (Xq.2 ⟨b,hb,rfl⟩) _ (Xq.2 ⟨a,ha,rfl⟩) e)
 have hn:((l.map (wU f)).Pairwise fun a b=>a.names≠b.names)↔l.Pairwise fun a b=>a.names≠b.names:=hp fun a _ b _=>Iff.rfl;unfold zM;rw[hl,hn,W2,A9];simp only[List.forall_mem_map,A9];exact Iff.rfl
theorem I4(zs:List Int):Gu (jR zs) zs:=fun a ha b hb h=>by
 unfold jR at h;have h1:=Zo.2 (kG.2 ha);have h2:=Zo.2 (kG.2 hb);have e:(cF zs).idxOf a=(cF zs).idxOf b:=by omega
 have g1:=List.getElem_idxOf h1;have g2:=List.getElem_idxOf h2;rw[←g1,←g2];exact getElem_congr_idx e
def Ls(f:Int→Int)(p:NdH×Nd):NdH×Nd:=(p.1,wU f p.2)
theorem LH(f:Int→Int)(ps:List (NdH×Nd)):nds (ps.map (Ls f))=(nds ps).map (wU f):=by simp[nds,Ls,Function.comp_def]
theorem L4{f:Int→Int}{ps qs:List (NdH×Nd)}(hp:qs.Perm (ps.map (Ls f)))(hf:Gu f (aR ps)):zM (nds qs)↔zM (nds ps):=by
 have h1:(nds qs).Perm ((nds ps).map (wU f)):=by rw[←LH];exact hp.map _
 have h2:Gu f ((nds ps).map (·.ino)):=by
  have e:(nds ps).map (·.ino)=aR ps:=by simp[nds,aR,Function.comp_def]
  rw[e];exact hf
 constructor
 ·intro g;exact(Dq h2).1 (tJ h1 g)
 ·intro g;exact tJ h1.symm ((Dq h2).2 g)
theorem Kt{ps:List (NdH×Nd)}(g:zM (nds ps)):zM (nds (jU ps)):=by
 have e:jU ps=(jG ps).map (Ls (jR (aR (jG ps)))):=rfl;refine(L4 (f:=jR (aR (jG ps))) (ps:=jG ps) (by rw[e]) (I4 _)).2 ?_;exact tJ ((nL ps).symm.map _) g
end
section
open Go Go.RowKit Go.Maps
structure GdT (qs:List (NdH×Nd)):Prop where
 n:0<qs.length∧qs.length≤40
 ino:∀ q∈qs,1≤q.2.ino∧q.2.ino≤qs.length
 may:∀ q∈qs,dY q.2
 nmv:∀ q∈qs,∀ c∈q.2.names,dN c=0
 dep:∀ q∈qs,q.2.names.length≤16
 lt:∀ (i j:Nat) (p q:NdH×Nd),i<j→qs[i]?=some p→qs[j]?=some q→cC p.2.names q.2.names=true
 lnk:∀ (i j:Nat) (p q:NdH×Nd),i≠j→qs[i]?=some p→qs[j]?=some q→p.2.ino=q.2.ino→p.2.kind≠1∧Alk p.2 q.2
 root:∃ q,qs[0]?=some q∧q.2.names=[]∧q.2.kind=1
 up:∀ q∈qs,q.2.names≠[]→∃ p∈qs,p.2.names=q.2.names.dropLast∧p.2.kind=1
theorem Ku(ps:List (NdH×Nd)):(jU ps).length=ps.length:=Mv (ps:=ps) rfl
theorem Kv(ps:List (NdH×Nd)):∀ q∈jU ps,1≤q.2.ino∧q.2.ino≤(jU ps).length:=by
 intro q hq;obtain⟨i,hi⟩:=W8 hq;obtain⟨h1,h2,_⟩:=Mw (ps:=ps) rfl hi;have h3:=(WN.1 hi).1;have h4:wL ps i≤i:=by
  have:=Bu (aR ((jG ps).take i));have:(aR ((jG ps).take i)).length≤i:=by simp[aR];omega
  unfold wL;omega
 omega
theorem EN{ps:List (NdH×Nd)}(hz:chk (nds ps)=0)(hl:ps.length≤40):GdT (jU ps):=by
 have g:=Kt ((Kn _).1 hz);obtain⟨qs,hqs⟩:∃ qs,qs=jU ps:=⟨_,rfl⟩
 have hlen:=Ku ps;have hino:=Kv ps;have hq:nds qs=nds (jU ps):=by rw[hqs]
 rw[←hqs] at g hlen hino ⊢;obtain⟨g1,g2,g3,g4,g5,g6,g7,g8⟩:=g;have hlt:∀ (i j:Nat) (p q:NdH×Nd),i<j→qs[i]?=some p→qs[j]?=some q→cC p.2.names q.2.names=true:=fun i j p q hij hp h=>Oe (tS hz) hq hij hp h;have hmem:∀ q∈qs,q.2∈nds qs:=fun q h=>Xq.2 ⟨q,h,rfl⟩;have hr:∃ q,qs[0]?=some q∧q.2.names=[]∧q.2.kind=1:=by
  obtain⟨n,hn,h1,h2⟩:=g5;obtain⟨q,hqm,rfl⟩:=Xq.1 hn;obtain⟨i,hi⟩:=W8 hqm;have hi0:=(WN.1 hi).1;by_cases e:i=0
  ·subst e;exact⟨q,hi,h1,h2⟩
  · have:=hlt 0 i _ q (by omega) (WK (by omega)) hi
    rw[h1,Hg] at this;cases this
 refine⟨⟨?_,by omega⟩,hino,fun q h=>g7 _ (hmem q h),fun q h=>g2 _ (hmem q h),fun q h=>g3 _ (hmem q h),hlt,fun i j p q hij hp h e=>?_,hr,fun q h hne=>?_⟩
 · obtain⟨q,h,_⟩:=hr
   have:=(WN.1 h).1;omega
 · have hp':=bE hp
   have hq':=bE h;have l1:=(WN.1 hp').1;have l2:=(WN.1 hq').1;have e1:=(WN.1 hp').2;have e2:=(WN.1 hq').2;rcases Nat.lt_or_gt_of_ne hij with c|c
   · have:=Xu.1 g8 i j l1 l2 c
     rw[e1,e2] at this;obtain⟨a,b⟩:=this e.symm;have b':=b.symm;exact⟨fun hk=>a (by rw[←b'.1];exact hk),b'⟩
   · have:=Xu.1 g8 j i l2 l1 c
     rw[e1,e2] at this;exact this e
 · obtain⟨n,hn,h1,h2⟩:=g6 _ (hmem q h) hne
   obtain⟨p,hp,rfl⟩:=Xq.1 hn;exact⟨p,hp,h1,h2⟩
section
variable {qs:List (NdH×Nd)}(G:GdT qs)
include G
theorem GdT.inj{i j:Nat}{p q:NdH×Nd}(hp:qs[i]?=some p)(h:qs[j]?=some q)(e:p.2.names=q.2.names):i=j:=by
 rcases Nat.lt_trichotomy i j with g|g|g
 ·have:=G.lt i j p q g hp h;rw[e,tH] at this;cases this
 ·exact g
 ·have:=G.lt j i q p g h hp;rw[e,tH] at this;cases this
theorem GdT.kids{s:List By}{ys:List Int}(h:zD qs s ys):ys=bP qs s qs.length:=by
 refine h.uniq ⟨List.Perm.refl _,?_⟩;refine IM ?_;have h1:=nT (ps:=qs) (s:=s) qs.length;refine List.Pairwise.imp_of_mem (fun {a b} ha hb hab=>?_) h1;obtain⟨x,rfl,hx,_⟩:=dZ.1 ha;obtain⟨y,rfl,hy,_⟩:=dZ.1 hb;obtain⟨p,hp,ep⟩:=BJ qs hx;obtain⟨q,hq',eq⟩:=BJ qs hy;have hl:=G.lt x y p q (by omega) hp hq';refine .inl ?_;show cV (nmG qs ((x:Int)).toNat) (nmG qs ((y:Int)).toNat)<0;rw[Xm,Xm,ep,eq];unfold cC at hl;exact of_decide_eq_true hl
theorem GdT.gdB{files:List Ino}(h1:files.length=qs.length+1)(h2:∀ f∈files,f.2.length≤200):GdB qs files where
 q:=fun q hq=>by
  have hm:=G.may q hq;have ht:q.2.tgt.length≤200:=by
   have h:=hm.2.2.2.2.2.2.2.1;unfold okT at h
   split at h
   ·exact h.2.1
   ·rw[h];exact WU _
  refine⟨G.ino q hq,G.dep q hq,fun c hc=>(jM (G.nmv q hq c hc)).1,ht,fun x hx=>?_⟩;have hx2:=hm.2.2.2.2.2.2.2.2;obtain⟨i,hi,rfl⟩:=XF hx;obtain⟨_,g2,_,_⟩:=hx2.1 i hi;have e:q.2.xs.getD i x0=q.2.xs[i]:=by simp[WW,hi]
  rw[e] at g2;omega
 k:=fun s ys h=>G.kids h
 fl:=h1
 ft:=h2
 n:=by have:=G.n.2;omega
omit G in
theorem xS {s:List By} {z:Int} (h:z∈bP qs s qs.length):∃ (k:Nat) (q:NdH×Nd),z=(k:Int)∧qs[k]?=some q∧q.2.names=s++[aU q.2.names]:=by
 obtain⟨k,rfl,hkl,hkq⟩:=dZ.1 h;obtain⟨q,hq',eq⟩:=BJ qs hkl;rw[eq] at hkq;refine⟨k,q,rfl,hq',?_⟩;have h1:q.2.names[s.length]?=some (aU q.2.names):=by
  unfold aU;rw[hkq.1,WW,Nat.add_sub_cancel,WK (by have:=hkq.1;omega)];rfl
 have h2:=tkL h1;rw[hkq.2,WY (by have:=hkq.1;omega)] at h2;exact h2
omit G in
theorem NQ {k:Nat} {q:NdH×Nd} {s:List By} (h:qs[k]?=some q) (hne:q.2.names≠[]) (hs:q.2.names.dropLast=s):(k:Int)∈bP qs s qs.length:=by
 have hk:=(WN.1 h).1;exact dZ.2 ⟨k,rfl,hk,by rw[kM h];exact lW.2 ⟨hne,hs⟩⟩
end
end
theorem FG{s:Int×By}{z n:Int}(h:s.1=0)(hb:¬ eX z n):cG n s z=(0,s.2++le z n.toNat):=by
 have h1:dU s.1 z n=0:=by rw[bC hb,h]
 have h2:cG n s z=(dU s.1 z n,kU s.1 s.2 z n):=rfl;rw[h2,h1,iQ h1]
def enW(w:Nat)(l:List Int):By:=l.flatMap fun x=>le x w
def inW(w:Nat)(l:List Int):Prop:=∀ x∈l,0≤x∧x<256 ^ w
def w24(w:Nat):Prop:=w=2∨w=4
theorem SQ{w:Nat}(hw:w24 w){z:Int}(h0:0≤z)(h1:z<256 ^ w):¬ eX z w:=by
 rcases hw with rfl|rfl
 ·exact fX (m:=65535) (by decide) (by decide) h0 (by have:z<65536:=h1;omega) (by decide)
 ·exact fX (m:=4294967295) (by decide) (by decide) h0 (by have:z<4294967296:=h1;omega) (by decide)
theorem Mi(w:Nat)(l:List Int):(enW w l).length=w*l.length:=by
 induction l with
|nil=>rfl
|cons x r ih=>show (le x w++enW w r).length=_;rw[WM,bB,ih,W7,Nat.mul_succ];omega
theorem AF{w:Nat}(hw:w24 w):∀ (l:List Int) (s:Int×By),s.1=0→inW w l→l.foldl (cG (w:Int)) s=(0,s.2++enW w l)
|[],s,h,_=>by show s=_;rw[show enW w []=[] from rfl,XP,←h]
|x::r,s,h,hl=>by
   have h1:=hl x (by simp);rw[XZ,FG h (SQ hw h1.1 h1.2),AF hw r _ rfl (fun y hy=>hl y (by simp[hy]))];show (0,s.2++le x (w:Int).toNat++enW w r)=(0,s.2++(le x w++enW w r))
   rw[W9,Xm]
theorem CX{w:Nat}(hw:w24 w){l:List Int}(h:inW w l):aJ l (w:Int)=(enW w l,0):=by
 unfold aJ;rw[WJ (by rcases hw with rfl|rfl;exact .inl rfl;exact .inr rfl)];have:fI l (w:Int)=(0,enW w l):=by unfold fI;rw[AF hw l _ rfl h];rfl
 rw[this];rfl
def B9(s:By):By:=W4 s.length::s
def pG(x:Xa):By:=B9 x.1++B9 x.2
def eB(X:List Xa):By:=W4 X.length::X.flatMap pG
theorem DG(s:By):(B9 s).length=1+s.length:=by simp[B9];omega
theorem Fi{s:Int×By}{t:By}(h:s.1=0)(ht:t.length≤255):uP s t=(0,s.2++B9 t):=by
 have h1:=(gJ h ht).1;have h2:uP s t=(gX s.1 t,jF s.1 s.2 t):=rfl;have h3:gX s.1 t=0:=h1;rw[h2,h3];unfold jF B9;rw[WI (by omega)]
theorem Fa{X:List Xa}(h:dV X):∀ k,k≤X.length→xSt X k=(0,W4 X.length::(X.take k).flatMap pG)
|0,_=>by
   have hb:=jX (n:=X.length) (by have:=h.2;omega);show cG 1 (0,[]) X.length=_;rw[FG rfl hb];have:=Jk X.length;simp only[Xi,Yr,List.flatMap_nil];rw[show (1:Int).toNat=1 from rfl,this]
|k+1,hk=>by
   obtain⟨_,g2,_,g4⟩:=h.1 k (by omega);rw[qI X k (by omega),Fa h k (by omega)];unfold xF;have i1:=Fi (s:=(0,W4 X.length::(X.take k).flatMap pG)) (t:=(X.getD k x0).1) rfl (by omega);rw[i1,Fi rfl (by omega)];rw[Xb (by omega:k<X.length),List.flatMap_append];simp[pG,WW,show k<X.length by omega]
theorem tB{X:List Xa}(h:dV X)(h0:0<X.length):eM X=(eB X,0):=by
 unfold eM;rw[WI (by rintro(h1|h1);omega;exact h1 h),Fa h _ (WT _),Xl];rfl
section
variable {im pre rest b:List UInt8}(him:im=pre++(bR b++rest))
include him
end
def E6(B b:By)(st:Nat):Prop:=(bR b=[]∧st=0)∨(bR b≠[]∧∃ pre rest,B=pre++(bR b++rest)∧st=64+pre.length)
def zE(s:DS):Prop:=∀ a v,eA s.m a=some v→∃ pre rest,s.B=pre++(a.1++rest)∧64+pre.length=v
theorem zE.zero:zE ⟨[],[]⟩:=fun a v h=>by cases h
theorem HN(s:DS)(b:By):∃ z,(fO 64 s b).1.B=s.B++z:=by
 unfold fO HM
 split
 ·exact⟨[],by simp⟩
 · split
   ·exact⟨[],by simp⟩
   ·exact⟨_,rfl⟩
theorem HO{s:DS}(h:zE s)(b:By)(hb:(bR b).length≤maxLen):zE (fO 64 s b).1∧E6 (fO 64 s b).1.B b (fO 64 s b).2:=by
 by_cases hr:bR b=[]
 · have e:fO 64 s b=(s,0):=by unfold fO;rw[WJ hr]
   rw[e];exact⟨h,.inl ⟨hr,rfl⟩⟩
 · cases hf:eA s.m (iW (bR b)) with
  |some k=>
     have e:fO 64 s b=(s,k):=yY (fun e=>hr (W3.1 e)) hf;rw[e];obtain⟨pre,rest,h1,h2⟩:=h _ _ hf;rw[qR hb] at h1;exact⟨h,.inr ⟨hr,pre,rest,h1,h2.symm⟩⟩
  |none=>
     have e:fO 64 s b=(⟨s.B++bR b,s.m++[(iW (bR b),64+s.B.length)]⟩,64+s.B.length):=yZ (fun e=>hr (W3.1 e)) hf;rw[e];refine⟨fun a v hv=>?_,.inr ⟨hr,s.B,[],by simp,rfl⟩⟩;have hv:eA (s.m++[(iW (bR b),64+s.B.length)]) a=some v:=hv;rw[yD] at hv;show ∃ pre rest,s.B++bR b=pre++(a.1++rest)∧64+pre.length=v;cases ha:eA s.m a with
    |some k=>
       rw[ha] at hv;have hkv:k=v:=by simpa using hv
       subst hkv;obtain⟨pre,rest,h1,h2⟩:=h a k ha;exact⟨pre,rest++bR b,by rw[h1];simp,h2⟩
    |none=>
       rw[ha] at hv;by_cases hk:iW (bR b)=a
       · have hv:64+s.B.length=v:=by simpa[hk] using hv
         refine⟨s.B,[],?_,hv⟩;rw[←hk,qR hb,XP]
       ·simp[hk] at hv
theorem E6.more{B b z:By}{st:Nat}(h:E6 B b st):E6 (B++z) b st:=by
 rcases h with h|⟨h,pre,rest,h1,h2⟩
 ·exact .inl h
 ·exact .inr ⟨h,pre,rest++z,by rw[h1];simp,h2⟩
def TlS(L:List By)(t:By)(fr off:Nat):Prop:=(t=[]∧fr=0∧off=0)∨(0<t.length∧∃ (n:Nat) (a z:By),n<L.length∧fr=n+1∧off=a.length∧L.getD n []=a++(t++z))
def ExL(A B:List By):Prop:=A.length≤B.length∧∀ q,q<A.length→∃ z,B.getD q []=A.getD q []++z
theorem TlS.ext{A B:List By}{t:By}{fr off:Nat}(h:TlS A t fr off)(k:ExL A B):TlS B t fr off:=by
 rcases h with h|⟨h,n,a,z,h1,h2,h3,h4⟩
 ·exact .inl h
 · obtain⟨y,hy⟩:=k.2 n h1
   exact .inr ⟨h,n,a,z++y,Xz h1 k.1,h2,h3,by rw[hy,h4];simp⟩
def zR(L:List By):Prop:=∀ b∈L,0<b.length∧b.length≤128
theorem KI{L:List By}(hL:zR L){t:By}(ht:t.length<128):ExL L (dK L t).1∧zR (dK L t).1∧(dK L t).1.length≤L.length+1∧TlS (dK L t).1 t (dK L t).2.1 (dK L t).2.2:=by
 unfold dK;by_cases h0:t.length<1
 · rw[WJ (oC (.inl h0))]
   exact⟨⟨WT _,fun q _=>⟨[],by simp⟩⟩,hL,Y6 _,.inl ⟨W3.1 (by omega),rfl,rfl⟩⟩
 · rw[WI (by rw[mV ⟨by omega,ht⟩];simp)]
   by_cases hn:L=[]∨128<(L.getD (L.length-1) []).length+t.length
   · rw[WJ hn]
     refine⟨⟨by simp,fun q hq=>⟨[],by rw[WW,WW,XC hq];simp⟩⟩,fun b hb=>?_,by simp,.inr ⟨by omega,L.length,[],[],by simp,rfl,rfl,by simp[WW]⟩⟩;rcases Xj.1 hb with hb|hb
     ·exact hL b hb
     ·rw[Xg] at hb;subst hb;omega
   · rw[WI hn]
     have hne:L≠[]:=fun e=>hn (.inl e);have hl:=W5.2 hne;have hsum:(L.getD (L.length-1) []).length+t.length≤128:=Nat.le_of_not_lt (fun h=>hn (.inr h));have hlast:(L.set (L.length-1) (L.getD (L.length-1) []++t)).getD (L.length-1) []=L.getD (L.length-1) []++t:=by
      rw[WW,Yo,WJ rfl,WJ (by omega)];rfl
     refine⟨⟨by simp,fun q hq=>?_⟩,fun b hb=>?_,by simp,.inr ⟨by omega,L.length-1,L.getD (L.length-1) [],[],by rw[XH];omega,by show L.length=_;omega,rfl,by rw[hlast];simp⟩⟩
     · by_cases e:q=L.length-1
       ·subst e;exact⟨t,hlast⟩
       ·exact⟨[],by rw[WW,Yo,WI (fun h=>e h.symm)];simp[WW]⟩
     · rcases Zk hb with hb|hb
       ·exact hL b hb
       ·rw[hb,WM];omega
def FOk(B:By)(L:List By)(d:By)(f:Ino):Prop:=
 ∃ st fr off:Nat,f=(fun j=>[2,0,0,0,0,0,(st:Int),(d.length:Int),(fr:Int),(off:Int)].getD j 0,[])∧E6 B d st∧TlS L (cO d) fr off
structure FI (V:List Nd)(n:Nat)(s:FSt):Prop where
 g:zE s.ds
 t:zR s.tails
 tn:s.tails.length≤V.length
 l:s.files.length=n
 b:s.ds.B.length≤4320*V.length
 f:∀ i f,s.files[i]?=some f→f=cI∨∃ x∈V,x.kind=2∧x.ino.toNat=i∧FOk s.ds.B s.tails x.data f
 a:∀ x∈V,x.kind=2→(s.files.getD x.ino.toNat cI).1 0=2
theorem Gy(d:By):(cO d).length<128:=by unfold cO;rw[WX];omega
theorem Nu(d:By)(h:d.length≤4096):(bR d).length≤maxLen:=by
 have:=iX d (d.length/128);have:(bR d).length≤135*(d.length/128):=this.1;unfold maxLen;omega
theorem Oi(s:DS)(b:By)(h:b.length≤4096):(fO 64 s b).1.B.length≤s.B.length+4320:=by
 have h1:(bR b).length≤135*(b.length/128):=(iX b (b.length/128)).1;unfold fO HM
 split
 ·exact Y1 _ _
 · split
   ·exact Y1 _ _
   · show (s.B++bR b).length≤_
     rw[WM];omega
theorem nX{V:List Nd}{n:Nat}{s:FSt}(h:FI V n s){x:Nd}(hx:0≤x.ino∧x.ino<n)(hd:x.data.length≤4096):FI (V++[x]) n (dS s x):=by
 unfold dS;by_cases hc:x.kind≠2∨(s.files.getD x.ino.toNat cI).1 0=2
 · rw[WJ hc]
   refine⟨h.g,h.t,by rw[WM];exact Xf h.tn (Y1 _ _),h.l,by rw[WM];have:=h.b;omega,fun i f hf=>(h.f i f hf).imp id (fun⟨y,hy,r⟩=>⟨y,List.mem_append_left _ hy,r⟩),fun y hy hk=>?_⟩;rcases Xj.1 hy with hy|hy
   ·exact h.a y hy hk
   · rw[Xg] at hy;subst hy
     exact hc.resolve_left (fun h=>h hk)
 · rw[WI hc]
   have hk:x.kind=2:=WV fun h=>hc (.inl h);obtain⟨g1,g2⟩:=HO h.g x.data (Nu _ hd);obtain⟨a1,a2,a3,a4⟩:=KI h.t (Gy x.data);obtain⟨z,hz⟩:=HN s.ds x.data;refine⟨g1,a2,by rw[WM];exact Xf a3 (Nat.add_le_add_right h.tn 1),by show (s.files.set _ _).length=n;rw[XH];exact h.l,by
    have h1:=Oi s.ds x.data hd;have:=h.b;show (fO 64 s.ds x.data).1.B.length≤_;rw[WM];simp only[WP];omega,fun i f hf=>?_,fun y hy hk2=>?_⟩
   · have hf:(s.files.set x.ino.toNat _)[i]?=some f:=hf
     rw[Yo] at hf;by_cases e:x.ino.toNat=i
     · rw[WJ e] at hf
       split at hf
       · cases hf
         exact .inr ⟨x,by simp,hk,e,_,_,_,rfl,g2,a4⟩
       ·cases hf
     · rw[WI e] at hf
       rcases h.f i f hf with hf|⟨y,hy,k1,k2,st,fr,off,k3,k4,k5⟩
       ·exact .inl hf
       ·exact .inr ⟨y,List.mem_append_left _ hy,k1,k2,st,fr,off,k3,by show E6 (fO 64 s.ds x.data).1.B _ _;rw[hz];exact k4.more,k5.ext a1⟩
   · show ((s.files.set x.ino.toNat _).getD y.ino.toNat cI).1 0=2
     rw[WW,Yo];by_cases e:x.ino.toNat=y.ino.toNat
     ·rw[WJ e,WJ (by rw[h.l];omega)];rfl
     · rw[WI e]
       rcases Xj.1 hy with hy|hy
       ·exact h.a y hy hk2
       ·rw[Xg] at hy;subst hy;exact absurd rfl e
theorem AV{n:Nat}:∀ (L V:List Nd) (s:FSt),FI V n s→(∀ x∈L,(0≤x.ino∧x.ino<n)∧x.data.length≤4096)→FI (V++L) n (L.foldl dS s)
|[],V,s,h,_=>by rw[XP];exact h
|x::r,V,s,h,hL=>by
   have h1:=nX h (hL x (by simp)).1 (hL x (by simp)).2;have h2:=AV r (V++[x]) _ h1 (fun y hy=>hL y (by simp[hy]));rw[W9] at h2;exact h2
theorem BZ{qs:List (NdH×Nd)}(h:∀ q∈qs,(1≤q.2.ino∧q.2.ino≤qs.length)∧q.2.data.length≤4096):FI (nds qs) (qs.length+1) (aS qs):=by
 have h0:FI [] (qs.length+1) ⟨⟨[],[]⟩,[],Xe (qs.length+1) cI⟩:=⟨zE.zero,(by intro b hb;cases hb),WT _,List.length_replicate,WT _,fun i f hf=>.inl (by
  have:=WQ hf;exact List.eq_of_mem_replicate this),(by intro x hx;cases hx)⟩
 have:=AV (nds qs) [] _ h0 (fun x hx=>by
  obtain⟨q,hq,rfl⟩:=Xq.1 hx;have:=h q hq;omega)
 exact this
theorem kC:∀ (L:List By) (s:DS),(eF L s).2.length=L.length
|[],_=>rfl
|t::r,s=>by show ((_::(eF r (kO 64 s t).1).2).length=_);rw[W7,kC r,W7]
theorem sV:∀ (L:List By) (s:DS),∃ z,(eF L s).1.B=s.B++z∧z.length≤(L.map (fun t=>(bV t).1.length)).sum
|[],s=>⟨[],by simp[eF],by simp⟩
|t::r,s=>by
   obtain⟨z,hz,hl⟩:=sV r (kO 64 s t).1;refine⟨(bV t).1++z,?_,?_⟩
   · show (eF r (kO 64 s t).1).1.B=_
     rw[hz];show (s.B++(bV t).1)++z=_;rw[W9]
   ·rw[WM,XQ,List.sum_cons];omega
theorem Fk:∀ (L:List By) (s:DS) (j:Nat),j<L.length→∃ pre rest,(eF L s).1.B=pre++((bV (L.getD j [])).1++rest)∧(eF L s).2.getD j 0=64+(pre.length:Int)
|[],s,j,h=>absurd h (Nat.not_lt_zero _)
|t::r,s,0,_=>by
   obtain⟨z,hz,_⟩:=sV r (kO 64 s t).1;refine⟨s.B,z,?_,?_⟩
   · show (eF r (kO 64 s t).1).1.B=_
     rw[hz];show (s.B++(bV t).1)++z=_;rw[W9];rfl
   · show ((64+s.B.length:Nat):Int)=_
     omega
|t::r,s,j+1,h=>Fk r (kO 64 s t).1 j (Nat.lt_of_succ_lt_succ h)
theorem Gd{F:Nat→Int}:∀ (L:List Fd) (G:Nat→Int) (t:By),(∀ x∈L,(1≤x.b∧x.b≤4)∧0≤F x.o∧F x.o<256 ^ x.b.toNat)→L.foldl gF ((0,jC F L++t),G)=((0,t),fun o=>if o∈L.map (·.o) then F o else G o)
|[],G,t,_=>by simp[jC]
|x::r,G,t,h=>by
   obtain⟨⟨b1,b4⟩,h0,hx⟩:=h x (by simp);have e:jC F (x::r)++t=le (F x.o) x.b.toNat++(jC F r++t):=by simp[jC]
   obtain⟨g1,g2⟩:=NY (n:=x.b.toNat) (x:=F x.o) (by omega) (by omega) h0 hx (jC F r++t);rw[show ((x.b.toNat:Nat):Int)=x.b by omega] at g1 g2;have hs:gF ((0,jC F (x::r)++t),G) x=((0,jC F r++t),upd G x.o (F x.o)):=by
    unfold gF;rw[e];simp only;rw[g1,g2]
   rw[XZ,hs,Gd r _ t (fun y hy=>h y (by simp[hy]))];refine YU rfl (funext fun o=>?_);simp only[XQ,Xo];by_cases ho:o∈r.map (·.o)
   ·rw[WJ ho,WJ (.inr ho)]
   · rw[WI ho]
     by_cases hx2:o=x.o
     ·rw[WJ (.inl hx2)];subst hx2;simp[upd]
     ·rw[WI (fun h=>h.elim hx2 ho)];simp[upd,hx2]
theorem La{F:Nat→Int}(h:gH F):∀ x∈suL,(1≤x.b∧x.b≤4)∧0≤F x.o∧F x.o<256 ^ x.b.toNat:=by
 obtain⟨⟨a1,a2,a3,a4,a5,a6,a7⟩,b1,b2,b3,b4,b5,b6,b7,b8⟩:=h;intro x hx;simp only[suL,Xo,XD,or_false] at hx;rcases hx with rfl|rfl|rfl|rfl|rfl|rfl|rfl|rfl|rfl|rfl
 ·exact⟨by decide,by show 0≤F 0;omega,by show F 0<4294967296;omega⟩
 ·exact⟨by decide,by show 0≤F 2;omega,by show F 2<4294967296;omega⟩
 ·exact⟨by decide,by show 0≤F 3;omega,by show F 3<4294967296;omega⟩
 ·exact⟨by decide,by show 0≤F 4;omega,by show F 4<4294967296;omega⟩
 ·exact⟨by decide,by show 0≤F 5;omega,by show F 5<4294967296;omega⟩
 ·exact⟨by decide,by show 0≤F 6;omega,by show F 6<4294967296;omega⟩
 ·exact⟨by decide,by show 0≤F 9;omega,by show F 9<4294967296;omega⟩
 ·exact⟨by decide,by show 0≤F 1;omega,by show F 1<65536;omega⟩
 ·exact⟨by decide,by show 0≤F 7;omega,by show F 7<65536;omega⟩
 ·exact⟨by decide,by show 0≤F 8;omega,by show F 8<65536;omega⟩
theorem H8(o:Nat):o∈suL.map (·.o)↔o<10:=by
 show o∈[0,2,3,4,5,6,9,1,7,8]↔_;simp only[Xo,XD,or_false];omega
theorem Lc{F:Nat→Int}(h:gH F)(h0:∀ o,10≤o→F o=0)(rest:By):suF (suB F++rest)=F:=by
 have e:((suB F++rest).take 64).drop 4=jC F suL++(le (gD (suH F):Nat) 4++Xe 22 0):=by
  rw[YP (qO F)];unfold suB suH;rw[W9];exact List.drop_left' (show suM.length=4 from rfl)
 unfold suF suQ;rw[e,Gd suL zF _ (La h)];funext o;show (if o∈suL.map (·.o) then F o else zF o)=F o;by_cases ho:o<10
 ·rw[WJ ((H8 o).2 ho)]
 ·rw[WI (fun h=>ho ((H8 o).1 h)),h0 o (by omega)];rfl
theorem Cv{F:Nat→Int}(h:gH F)(h0:∀ o,10≤o→F o=0)(rest:By)(hs:F 0=64+(rest.length:Int)):fA (suB F++rest)=(F,0):=by
 have hl:=qO F;have hF:=Lc h h0 rest;have hok:kS (suB F++rest):=by
  unfold kS;rw[hF];exact⟨by rw[WM];omega,h,YP hl,by rw[WM];omega⟩
 unfold fA;rw[WJ hok,hF]
theorem Kb{L:List Ent}(h:bM [] L):gE L=(bK L,0)∧Ob (bK L)=(L,0):=by
 refine⟨?_,Ka h rfl⟩;unfold gE;rw[WJ h]
section
open Go Go.RowKit Go.Maps
def At3(T X:By)(o:Nat):Prop:=∃ pre rest,T=pre++(X++rest)∧pre.length=o
theorem At3.more{T X z:By}{o:Nat}(h:At3 T X o):At3 (T++z) X o:=by
 obtain⟨pre,rest,h1,h2⟩:=h;exact⟨pre,rest++z,by rw[h1];simp,h2⟩
theorem At3.le{T X:By}{o:Nat}(h:At3 T X o):o+X.length≤T.length:=by
 obtain⟨pre,rest,h1,h2⟩:=h;rw[h1,WM,WM];omega
theorem At3.new(T X:By):At3 (T++X) X T.length:=⟨T,[],by simp,rfl⟩
theorem gK{T z:By}{o:Nat}(h:o≤T.length):bJ (T++z) o=bJ T o:=by
 rw[Av (T:=T++z) (by rw[WM];omega),Av (T:=T) h,List.take_append_of_le_length h]
theorem Lu(T:By){o p:Nat}(h:o<p):bJ T o<bJ T p:=by
 unfold bJ;by_cases e:o/128=p/128
 ·rw[e];omega
 · have h1:(frW T (o/128+1)).length≤(frW T (p/128)).length:=JG (by omega)
   have h2:=N0 (T:=T) (o/128);omega
structure Ex (s t:BSt):Prop where
 i:∃ z,t.ino=s.ino++z
 l:∃ z,t.lst=s.lst++z
 f:∃ z,t.fur=s.fur++z
 r:∀ m,0<s.refs.getD m 0→t.refs.getD m 0=s.refs.getD m 0
theorem Ex.rfl{s:BSt}:Ex s s:=⟨⟨[],by simp⟩,⟨[],by simp⟩,⟨[],by simp⟩,fun _ _=>Eq.refl _⟩
theorem Ex.trans{s t u:BSt}(h:Ex s t)(k:Ex t u):Ex s u:=by
 obtain⟨⟨a,ha⟩,⟨b,hb⟩,⟨c,hc⟩,hr⟩:=h;obtain⟨⟨a',ha'⟩,⟨b',hb'⟩,⟨c',hc'⟩,hr'⟩:=k;exact⟨⟨a++a',by rw[ha',ha,W9]⟩,⟨b++b',by rw[hb',hb,W9]⟩,⟨c++c',by rw[hc',hc,W9]⟩,fun m hm=>by rw[hr' m (by rw[hr m hm];exact hm),hr m hm]⟩
def XrI(s:BSt)(X:List Xa)(xr:Int):Prop:=(X=[]∧xr=0)∨(X≠[]∧∃ o,xr=((bJ s.fur o:Nat):Int)+1∧At3 s.fur (eB X) o)
theorem XrI.ex{s t:BSt}{X:List Xa}{xr:Int}(h:XrI s X xr)(e:Ex s t):XrI t X xr:=by
 rcases h with h|⟨h,o,h1,h2⟩
 ·exact .inl h
 · obtain⟨z,hz⟩:=e.f
   have:=h2.le;exact .inr ⟨h,o,by rw[hz,gK (by omega)];exact h1,by rw[hz];exact h2.more⟩
def nD(qs:List (NdH×Nd))(s:BSt)(ys:List Int):List Ent:=ys.map fun j=>(aU (ndB qs j).names,(ndB qs j).kind,s.refs.getD (ndB qs j).ino.toNat 0-1)
def Ek(qs:List (NdH×Nd))(s:BSt)(ys:List Int):Prop:=∀ j∈ys,0<s.refs.getD (ndB qs j).ino.toNat 0
theorem Ek.ex{qs:List (NdH×Nd)}{s t:BSt}{ys:List Int}(h:Ek qs s ys)(e:Ex s t):Ek qs t ys:=fun j hj=>by rw[e.r _ (h j hj)];exact h j hj
theorem B8{qs:List (NdH×Nd)}{s t:BSt}{ys:List Int}(h:Ek qs s ys)(e:Ex s t):nD qs t ys=nD qs s ys:=by
 unfold nD;apply List.map_congr_left;intro j hj;rw[e.r _ (h j hj)]
def Mn(s:BSt)(o n:Nat):Ino:=(fun j=>if j=6 then ((bJ s.lst o:Nat):Int) else if j=7 then (n:Int) else 0,[])
def KiI(qs:List (NdH×Nd))(files:List Ino)(s:BSt)(q:Nd)(i:Ino):Prop:=
 (q.kind=2→i=files.getD q.ino.toNat cI)∧(q.kind=3→i=(zF,q.tgt)) ∧
 (q.kind=1→Ek qs s (bP qs q.names qs.length)∧∃ o,i=Mn s o (bK (nD qs s (bP qs q.names qs.length))).length∧At3 s.lst (bK (nD qs s (bP qs q.names qs.length))) o)
theorem KiI.ex{qs:List (NdH×Nd)}{files:List Ino}{s t:BSt}{q:Nd}{i:Ino}(h:KiI qs files s q i)(e:Ex s t):KiI qs files t q i:=by
 obtain⟨h1,h2,h3⟩:=h;refine⟨h1,h2,fun hk=>?_⟩;obtain⟨a,o,b,c⟩:=h3 hk;obtain⟨z,hz⟩:=e.l;have hl:=c.le;have he:=B8 a e;refine⟨a.ex e,o,?_,?_⟩
 ·rw[he,b];unfold Mn;rw[hz,gK (by omega)]
 ·rw[he,hz];exact c.more
def MC(qs:List (NdH×Nd))(ids:List Int)(files:List Ino)(s:BSt)(m:Nat):Prop:=
 ∃ (k:Nat) (q:NdH×Nd) (i:Ino) (xr:Int) (o:Nat),qs[k]?=some q∧q.2.ino=(m:Int)∧s.refs.getD m 0=((bJ s.ino o:Nat):Int)+1∧jS (inB qs ids k i xr).1 (inB qs ids k i xr).2∧At3 s.ino (Ca (inB qs ids k i xr)) o∧XrI s q.2.xs xr∧KiI qs files s q.2 i
theorem MC.ex{qs:List (NdH×Nd)}{ids:List Int}{files:List Ino}{s t:BSt}{m:Nat}(h:MC qs ids files s m)(h0:0<s.refs.getD m 0)(e:Ex s t):MC qs ids files t m:=by
 obtain⟨k,q,i,xr,o,h1,h2,h3,h4,h5,h6,h7⟩:=h;obtain⟨z,hz⟩:=e.i;have hl:=h5.le;exact⟨k,q,i,xr,o,h1,h2,by rw[e.r m h0,hz,gK (by omega)];exact h3,h4,by rw[hz];exact h5.more,h6.ex e,h7.ex e⟩
def uT(s:BSt):List Int:=s.refs.filter (fun r=>decide (0<r))
structure nG (qs:List (NdH×Nd))(ids:List Int)(files:List Ino)(s:BSt):Prop where
 std:∀ m,0<s.refs.getD m 0→MC qs ids files s m
 rl:s.refs.length=qs.length+1
 rn:∀ m,0≤s.refs.getD m 0
 sets:∀ y∈s.sets,∃ o,y.2=((bJ s.fur o:Nat):Int)∧At3 s.fur (eB y.1) o
 many:s.many=(uT s).length
 dist:∀ m n,0<s.refs.getD m 0→s.refs.getD m 0=s.refs.getD n 0→m=n
 bi:s.ino.length≤214*s.many
 bf:s.fur.length≤4200*s.many
 sn:s.sets.length≤s.many
 sh:shS s
theorem yF{l:List Int}{m:Nat}{v:Int}(h:m<l.length)(h0:l.getD m 0≤0)(hv:0<v):((l.set m v).filter (fun r=>decide (0<r))).length=(l.filter (fun r=>decide (0<r))).length+1:=by
 have e:l=l.take m++l.getD m 0::l.drop (m+1):=by
  rw[show l.getD m 0=l[m] by simp[WW,h],←XI h,Xn]
 have e2:l.set m v=l.take m++v::l.drop (m+1):=List.set_eq_take_append_cons_drop .. |>.trans (by rw[WJ h]);rw[e2]
 conv=>rhs;rw[e]
 rw[X2,X2,Yt (by simpa using hv),List.filter_cons_of_neg (by simp only[decide_eq_true_eq];omega)];simp;omega
theorem OR{l:List Int}{m n:Nat}{v:Int}(h:m<l.length):(l.set m v).getD n 0=if n=m then v else l.getD n 0:=by
 rw[WW,Yo];by_cases e:m=n
 ·subst e;rw[WJ rfl,WJ h,WJ rfl];rfl
 ·rw[WI e,WI (fun h=>e h.symm)];rfl
theorem tM{X:List Xa}(h:dV X):(eB X).length≤4200:=by
 have hb:∀ x∈X,x.1.length≤255∧x.2.length≤255:=fun x hx=>by
  obtain⟨i,hi,rfl⟩:=XF hx;obtain⟨_,g2,_,g4⟩:=h.1 i hi;have e:X.getD i x0=X[i]:=by simp[WW,hi]
  rw[e] at g2 g4;omega
 have key:∀ Y:List Xa,(∀ x∈Y,x.1.length≤255∧x.2.length≤255)→(Y.flatMap pG).length≤512*Y.length:=by
  intro Y
  induction Y with
 |nil=>intro _;exact WT _
 |cons x r ih=>
    intro hy;have h1:=hy x (by simp);have h2:=ih (fun y h=>hy y (by simp[h]));have e:(pG x).length=(1+x.1.length)+(1+x.2.length):=by unfold pG;rw[WM,DG,DG]
    rw[XM,WM,W7,e];omega
 have h1:=key X hb;have h2:=h.2;unfold eB;rw[W7];omega
section
variable {qs:List (NdH×Nd)}{ids:List Int}{files:List Ino}
theorem JE{s:BSt}(h:nG qs ids files s){X:List Xa}(hX:dV X) :
 XrI (bT s X).2 X (bT s X).1∧Ex s (bT s X).2∧(bT s X).2.refs=s.refs∧(bT s X).2.many=s.many∧(bT s X).2.ino=s.ino∧(bT s X).2.lst=s.lst∧(bT s X).2.fur.length≤s.fur.length+4200 ∧
 (∀ y∈(bT s X).2.sets,∃ o,y.2=((bJ (bT s X).2.fur o:Nat):Int)∧At3 (bT s X).2.fur (eB y.1) o)∧0≤(bT s X).1∧shS (bT s X).2∧(bT s X).2.sets.length≤s.sets.length+1:=by
 have hsh:shS (bT s X).2:=Gf h.sh (fun x hx=>by
  obtain⟨i,hi,rfl⟩:=XF hx;obtain⟨_,g2,_,_⟩:=hX.1 i hi;have e:X.getD i x0=X[i]:=by simp[WW,hi]
  rw[e] at g2;omega)
 by_cases h0:X.length=0
 · have e:bT s X=(0,s):=by unfold bT;rw[WJ h0]
   rw[e] at hsh ⊢;exact⟨.inl ⟨W3.1 h0,rfl⟩,.rfl,rfl,rfl,rfl,rfl,Y1 _ _,h.sets,Int.le_refl _,hsh,Y6 _⟩
 · have hne:X≠[]:=fun e=>h0 (by rw[e];rfl)
   cases hf:s.sets.find? (fun y=>decide (y.1=X)) with
  |some y=>
     have e:bT s X=(y.2+1,s):=by unfold bT;rw[WI h0,hf]
     rw[e] at hsh ⊢;obtain⟨o,h1,h2⟩:=h.sets y (YK hf);have h3:y.1=X:=by simpa using List.find?_some hf
     exact⟨.inr ⟨hne,o,by rw[h1],by rw[←h3];exact h2⟩,.rfl,rfl,rfl,rfl,rfl,Y1 _ _,h.sets,by show 0≤y.2+1;omega,hsh,Y6 _⟩
  |none=>
     have e:bT s X=(((bJ s.fur s.fur.length:Nat):Int)+1,{ s with fur:=s.fur++(eM X).1,sets:=s.sets++[(X,((bJ s.fur s.fur.length:Nat):Int))] }):=by unfold bT;rw[WI h0,hf]
     have hp:(eM X).1=eB X:=by rw[tB hX (by omega)]
     rw[hp] at e;rw[e] at hsh ⊢;have hl:=tM hX;refine⟨.inr ⟨hne,s.fur.length,by show _=((bJ (s.fur++eB X) s.fur.length:Nat):Int)+1;rw[gK (WT _)],.new _ _⟩,⟨⟨[],by simp⟩,⟨[],by simp⟩,⟨_,rfl⟩,fun _ _=>rfl⟩,rfl,rfl,rfl,rfl,by show (s.fur++eB X).length≤_;rw[WM];omega,fun y hy=>?_,by show (0:Int)≤((bJ _ _:Nat):Int)+1;omega,hsh,by show (s.sets++_).length≤_;rw[WM];exact WT _⟩;show ∃ o,y.2=((bJ (s.fur++eB X) o:Nat):Int)∧At3 (s.fur++eB X) (eB y.1) o;rcases Xj.1 hy with hy|hy
     · obtain⟨o,h1,h2⟩:=h.sets y hy
       have:=h2.le;exact⟨o,by rw[gK (by omega)];exact h1,h2.more⟩
     · rw[Xg] at hy;subst hy
       exact⟨s.fur.length,by rw[gK (WT _)],.new _ _⟩
theorem JW{s:BSt}(h:nG qs ids files s){k m:Nat}{q:NdH×Nd}(hq:qs[k]?=some q)(hm:q.2.ino=(m:Int))(hml:m≤qs.length)(h0:s.refs.getD m 0=0)(hX:dV q.2.xs){i:Ino}(hk:KiI qs files s q.2 i)
 (hmay:∀ xr,0≤xr→xr≤4294967295→jS (inB qs ids k i xr).1 (inB qs ids k i xr).2)(hn:qs.length≤40) :
 nG qs ids files (eW qs ids k i s)∧Ex s (eW qs ids k i s)∧0<(eW qs ids k i s).refs.getD m 0∧(∀ n,n≠m→(eW qs ids k i s).refs.getD n 0=s.refs.getD n 0)∧(eW qs ids k i s).lst=s.lst∧(eW qs ids k i s).many=s.many+1:=by
 have hmn:s.many≤41:=by
  have h1:=YY (fun r:Int=>decide (0<r)) s.refs;rw[h.many];unfold uT;rw[h.rl] at h1;omega
 obtain⟨x1,x2,x3,x4,x5,x6,x7,x8,x9,x10,x11⟩:=JE h hX;have hnd:=eI hq;obtain⟨R,hR⟩:∃ R,R=bT s q.2.xs:=⟨_,rfl⟩
 rw[←hR] at x1 x2 x3 x4 x5 x6 x7 x8 x9 x10 x11;have hxr:R.1≤4294967295:=by
  rcases x1 with⟨_,e⟩|⟨_,o,e,ha⟩
  ·rw[e];decide
  · have h1:=ha.le
    have h2:=h.bf;have h3:=tK R.2.fur (o/128);rw[e];unfold bJ;omega
 have hmy:=hmay R.1 x9 hxr;obtain⟨I,hI⟩:∃ I,I=inB qs ids k i R.1:=⟨_,rfl⟩
 rw[←hI] at hmy;have hput:(iO I.1 I.2).1=Ca I:=by unfold iO Ca;rw[WJ hmy]
 have hlen:=DJ hmy;have hfix:eW qs ids (k:Int) i s = { R.2 with ino:=R.2.ino++Ca I,refs:=R.2.refs.set m ((bJ R.2.ino R.2.ino.length:Nat)+1),many:=R.2.many+1 }:=by
  unfold eW;rw[hnd,←hR,hm,Xm,←hI,hput]
 obtain⟨t,ht⟩:∃ t,t=eW qs ids (k:Int) i s:=⟨_,rfl⟩
 rw[←ht];have t1:t.ino=R.2.ino++Ca I:=by rw[ht,hfix]
 have t2:t.refs=R.2.refs.set m ((bJ R.2.ino R.2.ino.length:Nat)+1):=by rw[ht,hfix]
 have t3:t.many=R.2.many+1:=by rw[ht,hfix]
 have t4:t.fur=R.2.fur:=by rw[ht,hfix]
 have t5:t.lst=R.2.lst:=by rw[ht,hfix]
 have t6:t.sets=R.2.sets:=by rw[ht,hfix]
 have hrl:m<R.2.refs.length:=by rw[x3,h.rl];omega
 have hgd:∀ n,t.refs.getD n 0=if n=m then ((bJ s.ino s.ino.length:Nat):Int)+1 else s.refs.getD n 0:=fun n=>by rw[t2,OR hrl,x3,x5]
 have hex2:Ex R.2 t:=⟨⟨_,t1⟩,⟨[],by rw[t5];simp⟩,⟨[],by rw[t4];simp⟩,fun n hn=>by
  rw[hgd n,x3];by_cases e:n=m
  ·subst e;rw[x3,h0] at hn;exact absurd hn (by decide)
  ·rw[WI e]⟩
 have hex:=x2.trans hex2;have hpos:0<t.refs.getD m 0:=by rw[hgd m,WJ rfl];omega
 have hmt:At3 t.ino (Ca I) s.ino.length:=by rw[t1,x5];exact .new _ _
 have hrt:bJ t.ino s.ino.length=bJ s.ino s.ino.length:=by rw[t1,x5];exact gK (WT _)
 refine⟨⟨fun n hn=>?_,by rw[t2,XH,x3];exact h.rl,fun n=>?_,fun y hy=>?_,?_,fun a b ha hab=>?_,by rw[t1,t3,x5,x4,WM];have:=h.bi;omega,by rw[t4,t3,x4];have:=h.bf;omega,by rw[t6,t3,x4];have:=h.sn;omega,fun y hy=>x10 y (by rw[←t6];exact hy)⟩,hex,hpos,fun n hn=>by rw[hgd n,WI hn],by rw[t5,x6],by rw[t3,x4]⟩
 · by_cases e:n=m
   · subst e
     refine⟨k,q,i,R.1,s.ino.length,hq,hm,?_,by rw[←hI];exact hmy,by rw[←hI];exact hmt,x1.ex hex2,hk.ex hex⟩;rw[hgd n,WJ rfl,hrt]
   · have hn':0<s.refs.getD n 0:=by rw[hgd n,WI e] at hn;exact hn
     exact(h.std n hn').ex hn' hex
 · rw[hgd n]
   split
   ·omega
   ·exact h.rn n
 · rw[t6] at hy
   rw[t4];exact x8 y hy
 · rw[t3,x4,h.many]
   unfold uT;rw[t2,yF hrl (by rw[x3,h0];exact Int.le_refl _) (by omega),x3]
 · have old:∀ c,c≠m→0<s.refs.getD c 0→s.refs.getD c 0<((bJ s.ino s.ino.length:Nat):Int)+1:=fun c hc hp=>by
    obtain⟨_,_,_,_,o,_,_,e,hmy2,ha,_⟩:=h.std c hp;have h1:=ha.le;have h2:=DJ hmy2;have h3:=Lu s.ino (show o<s.ino.length by omega);rw[e];omega
   rw[hgd a] at ha hab;rw[hgd b] at hab;by_cases ea:a=m
   · by_cases eb:b=m
     ·rw[ea,eb]
     · rw[WJ ea,WI eb] at hab
       have:=old b eb (by omega);omega
   · rw[WI ea] at ha hab
     by_cases eb:b=m
     · rw[WJ eb] at hab
       have:=old a ea ha;omega
     · rw[WI eb] at hab
       exact h.dist a b ha hab
end
end
theorem DwO.tight{D B:Nat→Prop}{w:World}{g p first:Nat}{s:DS}(h:DwO D w.heap g p first s)(hB:∀ k,k<w.heap.size→D k→B k)(hp:¬ B p):DwO B w.heap g p first s:=h.fresh (VZ _ _) hB hp
theorem J9(p first:Nat)(W:World)(ht:TbV W.heap p) :
 CA 21 [pT p,iV first] W fun v w'=>v=.pointer (some ⟨W.heap.size+1,0,none⟩)∧DwO (fun k=>W.heap.size≤k∧k<w'.heap.size) w'.heap (W.heap.size+1) p first ⟨[],[]⟩∧aA nob W w':=by
 have hpl:=(WS.1 ht).1;refine(Mm p first W ht).mono ?_;rintro e w' ⟨v,rfl,rfl,h1,h2⟩;exact⟨_,rfl,rfl,h1.tight (fun k hk h=>⟨h,hk⟩) (fun h=>by omega),h2⟩
theorem Kd(A:Nat→Prop)(g p first:Nat)(s:DS)(bo:Option Addr)(bc:Nat)(b:By)(W:World)(hM:DwO A W.heap g p first s)(hv:Vw b8 W.heap bo bc b)(hfi:first≤1000)(hb:s.B.length≤1099511627776)(hbl:b.length≤1048576) :
 CA 66 [pT g,.slice bo b.length bc] W fun v w'=>∃ o c,v=.tuple #[iV ((fO first s b).2:Nat),.slice o (cO b).length c]∧Own b8 5 w'.heap o c (cO b)∧Fr W.heap.size o∧DwO (fun k=>Nx A W w' k∧¬ blk o k) w'.heap g p first (fO first s b).1∧aA A W w':=by
 obtain⟨ht,hp⟩:=hM.tab;have hpl:=(WS.1 ht).1;refine(Mo (fun k=>A k∨W.heap.size≤k) g p first s bo bc b W (hM.mono (fun k h=>.inl h) (fun h=>h.elim hp (fun h=>by omega))) (fun k h=>.inr h) hv hfi hb hbl).mono ?_;rintro e w' ⟨v,rfl,o,c,rfl,h1,h2,h3,h4⟩;exact⟨_,rfl,o,c,rfl,h1,h2,h3.tight (fun k hk h=>⟨h.1.imp id (fun h=>⟨h,hk⟩),h.2⟩) (fun h=>h.1.elim hp (fun h=>by omega)),h4.nx⟩
theorem EY(A:Nat→Prop)(g p first:Nat)(s:DS)(bo:Option Addr)(bc:Nat)(b:By)(W:World)(hM:DwO A W.heap g p first s)(hv:Vw b8 W.heap bo bc b)(hfi:first≤1000)(hb:s.B.length≤1099511627776)(hbl:b.length≤128) :
 CA 69 [pT g,.slice bo b.length bc] W fun v w'=>v=iV ((kO first s b).2:Nat)∧DwO (Nx A W w') w'.heap g p first (kO first s b).1∧aA A W w':=by
 obtain⟨ht,hp⟩:=hM.tab;have hpl:=(WS.1 ht).1;refine(Hx (fun k=>A k∨W.heap.size≤k) g p first s bo bc b W (hM.mono (fun k h=>.inl h) (fun h=>h.elim hp (fun h=>by omega))) (fun k h=>.inr h) hv hfi hb hbl).mono ?_;rintro e w' ⟨v,rfl,rfl,h3,h4⟩;exact⟨_,rfl,rfl,h3.tight (fun k hk h=>h.imp id (fun h=>⟨h,hk⟩)) (fun h=>h.elim hp (fun h=>by omega)),h4.nx⟩
section
open Go Go.RowKit Go.Maps
structure PiA where
 lo:Option Addr
 lc:Nat
 io:Option Addr
 ic:Nat
 g1:Nat
 g2:Nat
 g3:Nat
 r:Nat
 f:Nat
 z:Nat
def piC(a:PiA)(n m:Nat):List Value:=[pT a.g1,pT a.g2,pT a.g3,.slice a.lo n a.lc,.slice a.io m a.ic,.map (some a.r),.map (some a.f),.map (some a.z)]
def fl0(f:Ino):Ino:=(fun j=>if j=0 then 0 else f.1 j,f.2)
def BT(f:Ino):Value:=.agg (oY f).toArray
def zS(m:List (I6×Value))(refs:List Int):Prop:=∀ a:I6,1≤a.1→cQ m a=if 0<refs.getD a.1.toNat 0 then some (iV (refs.getD a.1.toNat 0-1)) else none
def E7(m:List (I6×Value))(files:List Ino):Prop:=∀ a:I6,1≤a.1→cQ m a=if (files.getD a.1.toNat cI).1 0=2 then some (BT (fl0 (files.getD a.1.toNat cI))) else none
def E5(m:List (SK×Value))(sets:List (List Xa×Int)):Prop:=∀ X,dV X→X≠[]→cQ m (iW (eB X))=(sets.find? (fun y=>decide (y.1=X))).map (fun y=>iV y.2)
def PiX(z:Nat)(a:PiA)(ow:Nat→Nat)(H:Array Obj)(g tp:Nat)(qs:List (NdH×Nd))(ids:List Int)(files:List Ino)(s:BSt):Prop:=
 (H[g]?=some (.cells (piC a qs.length ids.length).toArray 62 (0,0))∧ow g=6)∧(aO (fun k=>ow k=4) H a.lo a.lc qs∧(qs≠[]→∀ k,blk a.lo k→ow k=4))∧(Vw i64 H a.io a.ic ids∧(ids≠[]→∀ k,blk a.io k→ow k=4))∧(TbV H tp∧ow tp=4) ∧
 (z≠1→MwO (fun k=>ow k=1) H a.g1 tp (aP [] s.ino).1 (aP [] s.ino).2)∧(z≠2→MwO (fun k=>ow k=2) H a.g2 tp (aP [] s.lst).1 (aP [] s.lst).2)∧(z≠3→MwO (fun k=>ow k=3) H a.g3 tp (aP [] s.fur).1 (aP [] s.fur).2) ∧
 (ow a.r=5∧(z≠5→∃ m,dM enI H a.r m∧zS m s.refs∧m.length=(uT s).length))∧(ow a.f=7∧(z≠7→∃ m,dM enI H a.f m∧E7 m files))∧(ow a.z=8∧(z≠8→∃ m,dM enS H a.z m∧E5 m s.sets))
section
variable {a:PiA}{ow ow':Nat→Nat}{g tp:Nat}{qs:List (NdH×Nd)}{ids:List Int}{files:List Ino}{s:BSt}{w w':World}
theorem PiX.step{S:Nat→Prop}(h:PiX 0 a ow w.heap g tp qs ids files s)(f:aA S w w')(z:Nat)(hz:z≠4∧z≠6)(hS:∀ k,S k→ow k=z∨ow k=0)(ho:∀ k,ow k≠0→ow' k=ow k):PiX z a ow' w'.heap g tp qs ids files s:=by
 obtain⟨⟨b1,b2⟩,⟨n1,n2⟩,⟨i1,i2⟩,⟨t1,t2⟩,w1,w2,w3,⟨r1,r2⟩,⟨f1,f2⟩,z1,z2⟩:=h;have key:∀ c,c≠0→c≠z→∀ k,ow k=c→¬ S k:=fun c h0 h1 k hk hs=>by rcases hS k hs with h|h<;>omega
 have kz:∀ c,c≠0→∀ k,ow k=c→ow' k=c:=fun c h0 k hk=>by rw[ho k (by omega)];exact hk
 have tb:¬ S tp:=key 4 (by decide) (fun h=>hz.1 h.symm) tp t2;have tn:∀ c,c≠4→¬ ow' tp=c:=fun c hc=>by rw[kz 4 (by decide) tp t2];exact fun h=>hc h.symm
 have d4:=key 4 (by decide) (fun h=>hz.1 h.symm);refine⟨⟨f.obj b1 (key 6 (by decide) (fun h=>hz.2 h.symm) g b2),kz 6 (by decide) g b2⟩,⟨cZ n1 f d4 (fun hne k hk=>d4 k (n2 hne k hk)) (kz 4 (by decide)),fun hne k hk=>kz 4 (by decide) k (n2 hne k hk)⟩,
  ⟨i1.keep' f (fun hne b hb=>d4 _ (i2 hne _ ⟨b,hb,rfl⟩)),fun hne k hk=>kz 4 (by decide) k (i2 hne k hk)⟩,⟨f.obj t1 tb,kz 4 (by decide) tp t2⟩,
  fun hc=>((w1 (by decide)).WH f (key 1 (by decide) (fun h=>hc h.symm)) tb).mono (kz 1 (by decide)) (tn 1 (by decide)),fun hc=>((w2 (by decide)).WH f (key 2 (by decide) (fun h=>hc h.symm)) tb).mono (kz 2 (by decide)) (tn 2 (by decide)),
  fun hc=>((w3 (by decide)).WH f (key 3 (by decide) (fun h=>hc h.symm)) tb).mono (kz 3 (by decide)) (tn 3 (by decide)),
  ⟨kz 5 (by decide) _ r1,fun hc=>?_⟩,⟨kz 7 (by decide) _ f1,fun hc=>?_⟩,kz 8 (by decide) _ z1,fun hc=>?_⟩
 · obtain⟨m,m1,m2⟩:=r2 (by decide)
   exact⟨m,m1.WH f (key 5 (by decide) (fun h=>hc h.symm) _ r1),m2⟩
 · obtain⟨m,m1,m2⟩:=f2 (by decide)
   exact⟨m,m1.WH f (key 7 (by decide) (fun h=>hc h.symm) _ f1),m2⟩
 · obtain⟨m,m1,m2⟩:=z2 (by decide)
   exact⟨m,m1.WH f (key 8 (by decide) (fun h=>hc h.symm) _ z1),m2⟩
theorem PiX.WG(h:PiX 0 a ow w.heap g tp qs ids files s)(f:aA nob w w'):PiX 0 a ow w'.heap g tp qs ids files s:=h.step f 0 (by decide) (fun k h=>h.elim) (fun _ _=>rfl)
def pW(W w':World)(z:Nat)(ow:Nat→Nat):Nat→Nat:=fun k=>if k<W.heap.size then ow k else if k<w'.heap.size then z else 0
theorem kN{W:World}(z:Nat)(ow:Nat→Nat){k:Nat}(h:k<W.heap.size):pW W w' z ow k=ow k:=WJ h
theorem lV{W:World}(z:Nat)(ow:Nat→Nat)(hs:W.heap.size≤w'.heap.size){k:Nat}(h:w'.heap.size≤k):pW W w' z ow k=0:=by unfold pW;rw[WI (by omega),WI (by omega)]
theorem iT{W:World}(z:Nat)(hn:∀ k,W.heap.size≤k→ow k=0){k:Nat}(h:ow k≠0):pW W w' z ow k=ow k:=kN z ow (WV fun hc=>h (hn k (by omega)))
theorem oM{W:World}(z:Nat)(hn:∀ k,W.heap.size≤k→ow k=0)(hz:z≠0){k:Nat}(h:Nx (fun k=>ow k=z) W w' k):pW W w' z ow k=z:=by
 rcases h with h|⟨h1,h2⟩
 ·rw[iT z hn (by omega)];exact h
 ·unfold pW;rw[WI (by omega),WJ h2]
def lI(a:PiA)(ow:Nat→Nat)(W:World)(g tp:Nat)(qs:List (NdH×Nd))(ids:List Int)(files:List Ino)(s':BSt)(w':World):Prop:=
 ∃ ow':Nat→Nat,PiX 0 a ow' w'.heap g tp qs ids files s'∧(∀ k,k<W.heap.size→ow' k=ow k)∧(∀ k,w'.heap.size≤k→ow' k=0)∧aA (Lb ow) W w'
theorem lI.trans{W:World}{s1 s2:BSt}{ow1:Nat→Nat}{w1:World}(h1:∀ k,k<W.heap.size→ow1 k=ow k)(f1:aA (Lb ow) W w1)(h:lI a ow1 w1 g tp qs ids files s2 w'):lI a ow W g tp qs ids files s2 w':=by
 obtain⟨ow2,a1,a2,a3,a4⟩:=h;refine⟨ow2,a1,fun k hk=>by rw[a2 k (by have:=f1.size;omega),h1 k hk],a3,f1.WD a4 (fun k hk=>?_)⟩;by_cases hk2:k<W.heap.size
 ·left;unfold Lb at hk ⊢;rw[h1 k hk2] at hk;exact hk
 ·right;omega
theorem GZ(bo:Option Addr)(bc:Nat)(b:By)(W:World)(hM:PiX 0 a ow W.heap g tp qs ids files s)(hn:∀ k,W.heap.size≤k→ow k=0)(hv:Vw b8 W.heap bo bc b)(hl:s.ino.length+b.length≤274877906944) :
 CA 26 [pT a.g1,.slice bo b.length bc] W fun v w'=>v=iV (bJ s.ino s.ino.length:Nat)∧lI a ow W g tp qs ids files { s with ino:=s.ino++b } w':=by
 obtain⟨_,_,_,⟨_,ht⟩,w1,w2,w3,_⟩:=id hM;refine(rJ (fun k=>ow k=1) a.g1 tp s.ino bo bc b W (w1 (by decide)) hv hl).mono ?_;rintro e w' ⟨v,rfl,rfl,h1,h2⟩;have hs:=h2.size;obtain⟨b0,b1,b2,b3,c1,c2,c3,b4⟩:=hM.step h2 1 (by decide) (fun k hk=>.inl hk) (fun k hk=>iT (w':=w') 1 hn hk);have hw:=h1.mono (D':=fun k=>pW W w' 1 ow k=1) (fun k hk=>oM 1 hn (by decide) hk) (by rw[iT 1 hn (by omega),ht];decide);exact⟨_,rfl,rfl,pW W w' 1 ow,⟨b0,b1,b2,b3,fun _=>hw,fun _=>c2 (by decide),fun _=>c3 (by decide),b4.1.imp id (fun h _=>h (by decide)),b4.2.1.imp id (fun h _=>h (by decide)),b4.2.2.imp id (fun h _=>h (by decide))⟩,fun k hk=>kN 1 ow hk,fun k hk=>lV 1 ow hs hk,h2.mono (fun k hk=>by unfold Lb;omega)⟩
theorem GY(bo:Option Addr)(bc:Nat)(b:By)(W:World)(hM:PiX 0 a ow W.heap g tp qs ids files s)(hn:∀ k,W.heap.size≤k→ow k=0)(hv:Vw b8 W.heap bo bc b)(hl:s.lst.length+b.length≤274877906944) :
 CA 26 [pT a.g2,.slice bo b.length bc] W fun v w'=>v=iV (bJ s.lst s.lst.length:Nat)∧lI a ow W g tp qs ids files { s with lst:=s.lst++b } w':=by
 obtain⟨_,_,_,⟨_,ht⟩,w1,w2,w3,_⟩:=id hM;refine(rJ (fun k=>ow k=2) a.g2 tp s.lst bo bc b W (w2 (by decide)) hv hl).mono ?_;rintro e w' ⟨v,rfl,rfl,h1,h2⟩;have hs:=h2.size;obtain⟨b0,b1,b2,b3,c1,c2,c3,b4⟩:=hM.step h2 2 (by decide) (fun k hk=>.inl hk) (fun k hk=>iT (w':=w') 2 hn hk);have hw:=h1.mono (D':=fun k=>pW W w' 2 ow k=2) (fun k hk=>oM 2 hn (by decide) hk) (by rw[iT 2 hn (by omega),ht];decide);exact⟨_,rfl,rfl,pW W w' 2 ow,⟨b0,b1,b2,b3,fun _=>c1 (by decide),fun _=>hw,fun _=>c3 (by decide),b4.1.imp id (fun h _=>h (by decide)),b4.2.1.imp id (fun h _=>h (by decide)),b4.2.2.imp id (fun h _=>h (by decide))⟩,fun k hk=>kN 2 ow hk,fun k hk=>lV 2 ow hs hk,h2.mono (fun k hk=>by unfold Lb;omega)⟩
theorem GX(bo:Option Addr)(bc:Nat)(b:By)(W:World)(hM:PiX 0 a ow W.heap g tp qs ids files s)(hn:∀ k,W.heap.size≤k→ow k=0)(hv:Vw b8 W.heap bo bc b)(hl:s.fur.length+b.length≤274877906944) :
 CA 26 [pT a.g3,.slice bo b.length bc] W fun v w'=>v=iV (bJ s.fur s.fur.length:Nat)∧lI a ow W g tp qs ids files { s with fur:=s.fur++b } w':=by
 obtain⟨_,_,_,⟨_,ht⟩,w1,w2,w3,_⟩:=id hM;refine(rJ (fun k=>ow k=3) a.g3 tp s.fur bo bc b W (w3 (by decide)) hv hl).mono ?_;rintro e w' ⟨v,rfl,rfl,h1,h2⟩;have hs:=h2.size;obtain⟨b0,b1,b2,b3,c1,c2,c3,b4⟩:=hM.step h2 3 (by decide) (fun k hk=>.inl hk) (fun k hk=>iT (w':=w') 3 hn hk);have hw:=h1.mono (D':=fun k=>pW W w' 3 ow k=3) (fun k hk=>oM 3 hn (by decide) hk) (by rw[iT 3 hn (by omega),ht];decide);exact⟨_,rfl,rfl,pW W w' 3 ow,⟨b0,b1,b2,b3,fun _=>c1 (by decide),fun _=>c2 (by decide),fun _=>hw,b4.1.imp id (fun h _=>h (by decide)),b4.2.1.imp id (fun h _=>h (by decide)),b4.2.2.imp id (fun h _=>h (by decide))⟩,fun k hk=>kN 3 ow hk,fun k hk=>lV 3 ow hs hk,h2.mono (fun k hk=>by unfold Lb;omega)⟩
end
end
section
open Go Go.RowKit Go.Maps
theorem DH{s t A B:By}(hs:s.length≤255)(ht:t.length≤255)(h:B9 s++A=B9 t++B):s=t∧A=B:=by
 unfold B9 at h;simp only[XA,YA.injEq] at h;have hl:s.length=t.length:=by
  have:=congrArg UInt8.toNat h.1;rw[XG,XG] at this;omega
 exact List.append_inj h.2 hl
theorem DI:∀ {X Y:List Xa},(∀ x∈X,x.1.length≤255∧x.2.length≤255)→(∀ x∈Y,x.1.length≤255∧x.2.length≤255)→X.length=Y.length→X.flatMap pG=Y.flatMap pG→X=Y
|[],[],_,_,_,_=>rfl
|[],y::r,_,_,h,_=>by simp at h
|x::r,[],_,_,h,_=>by simp at h
|x::r,y::q,hX,hY,hl,h=>by
   have hx:=hX x (by simp);have hy:=hY y (by simp);rw[XM,XM] at h;unfold pG at h;rw[W9,W9] at h;obtain⟨e1,h1⟩:=DH hx.1 hy.1 h;obtain⟨e2,h2⟩:=DH hx.2 hy.2 h1;rw[DI (fun z hz=>hX z (by simp[hz])) (fun z hz=>hY z (by simp[hz])) (by simpa using hl) h2,YU e1 e2]
theorem BM{X:List Xa}(h:dV X):∀ x∈X,x.1.length≤255∧x.2.length≤255:=fun x hx=>by
 obtain⟨i,hi,rfl⟩:=XF hx;obtain⟨_,g2,_,g4⟩:=h.1 i hi;have e:X.getD i x0=X[i]:=by simp[WW,hi]
 rw[e] at g2 g4;omega
theorem Hv{X Y:List Xa}(hX:dV X)(hY:dV Y)(h:eB X=eB Y):X=Y:=by
 unfold eB at h;rw[YA.injEq] at h;have hl:X.length=Y.length:=by
  have:=congrArg UInt8.toNat h.1;rw[XG,XG] at this;have:=hX.2;have:=hY.2;omega
 exact DI (BM hX) (BM hY) hl h.2
theorem E5.put{m:List (SK×Value)}{sets:List (List Xa×Int)}(h:E5 m sets){X:List Xa}(hX:dV X)(h0:X≠[])(hl:(eB X).length≤maxLen)(hno:cQ m (iW (eB X))=none)(v:Int):E5 (cX m (iW (eB X)) (iV v)) (sets++[(X,v)]):=by
 intro Y hY hY0;have hYl:(eB Y).length≤maxLen:=by have:=tM hY;unfold maxLen;omega
 rw[kF,List.find?_append];by_cases e:Y=X
 · subst e
   have hn:=h Y hY hY0;rw[hno] at hn;have hn:sets.find? (fun y=>decide (y.1=Y))=none:=by
    cases hf:sets.find? (fun y=>decide (y.1=Y)) with
   |none=>rfl
   |some y=>rw[hf] at hn;cases hn
   rw[WJ rfl,hn];simp
 · rw[WI (fun he=>e (Hv hY hX (by have:=congrArg Subtype.val he;rwa[qR hYl,qR hl] at this))),h Y hY hY0]
   have hx:[(X,v)].find? (fun y=>decide (y.1=Y))=none:=by
    simp only[List.find?_cons,List.find?_nil];rw[WL (fun h=>e h.symm)]
   rw[hx];cases sets.find? (fun y=>decide (y.1=Y))<;>rfl
theorem IX(a:PiA)(ow:Nat→Nat)(g tp:Nat)(qs:List (NdH×Nd))(ids:List Int)(files:List Ino)(s:BSt)(p:NdH×Nd)(W:World)(hM:PiX 0 a ow W.heap g tp qs ids files s)(hn:∀ k,W.heap.size≤k→ow k=0)(hp:NdV (fun k=>ow k=4) W.heap p)(hX:dV p.2.xs)(hb:s.fur.length≤137438953472)(hR:∀ y∈s.sets,0≤y.2∧y.2≤1152921504606846976) :
 CA 73 [pT g,.agg (aE p).toArray] W fun v w'=>v=iV (bT s p.2.xs).1∧lI a ow W g tp qs ids files (bT s p.2.xs).2 w':=by
 obtain⟨⟨hg,hg6⟩,_,_,_,_,_,_,_,_,hz8,hzm⟩:=id hM;obtain⟨mz,hmz,hms⟩:=hzm (by decide);obtain⟨X,hXe⟩:∃ X,X=p.2.xs:=⟨_,rfl⟩
 obtain⟨_,_,hxv⟩:=hp;have hxn:p.1.xs.n=X.length:=by rw[hXe];exact hxv.1
 rw[←hXe] at hX hxv ⊢;have hxl:=tM hX;have hxm:(eB X).length≤maxLen:=by unfold maxLen;omega
 have hlg:=(WS.1 hg).1;refine cS 45 [(0,_),(1,_)] Tryz.func73 ?_;refine Gz 2 ?_;refine To rfl rfl ?_;intro w1 hg1 hs1 hf1;have hg1:w1.heap[W.heap.size]?=some (.cells (aE p).toArray 37 (0,0)):=hg1;have hM1:=hM.WG hf1;refine Gz 6 ?_;refine cL (S3 (u:=.slice p.1.xs.a X.length p.1.xs.c) (S2 cK rfl (aD hg1 rfl)) (by rw[←hxn];rfl)) ?_;refine SZ PS rfl (Ly p.1.xs.a p.1.xs.c X w1 ((XsV.WH hxv hf1 (fun _ _=>id)).xav (fun x hx=>by have:=(BM hX x hx).1;unfold maxLen;omega))) rfl ?_;rintro _ w2 ⟨bo,bc,rfl,ho2,hfr2,hf2⟩;have hF2:=hf1.trans hf2;have hM2:=hM1.WG hf2;refine fK 11 ?_ ?_<;>intro h16
 ·have h0:X=[]:=WV fun hc=>h16 (by rw[tB hX (W5.2 hc)]);have hfu:bT s X=(0,s):=AR (by rw[h0];rfl);refine Gz 11 ?_;exact⟨_,rfl,by rw[hfu],by rw[hfu];exact⟨ow,hM2,fun _ _=>rfl,fun k hk=>hn k (by have:=hF2.size;omega),hF2.any⟩⟩
 have hX0:X≠[]:=fun e=>h16 (by rw[e];decide);have hpx:=tB hX (W5.2 hX0);rw[hpx] at ho2 ⊢;obtain⟨B,hB⟩:∃ B,B=eB X:=⟨_,rfl⟩
 have ho2:Own b8 5 w2.heap bo bc B:=by rw[hB];exact ho2
 rw[show ((eB X,(0:Int)):By×Int).1=B from hB.symm];have hBs:(iW (eB X))=⟨B,by rw[hB];exact hxm⟩:=Subtype.ext (by rw[qR hxm];exact hB.symm);have hfx:=hms X hX hX0;rw[hBs] at hfx;refine Gz 6 ?_;refine Tc 12 (fun H=>H[g]?=some (.cells (piC a qs.length ids.length).toArray 62 (0,0))∧Vw b8 H bo bc B∧dM enS H a.z mz) [] [0,1,2,3,4,5,6,7,8,9,10,11] aI (by kernel_rfl) (⟨hF2.obj hg id,ho2.vw,hmz.WH hF2 id⟩) ?_;refine Gz 5 ?_;refine xC rfl (Ul aH ty5 ty9 rfl (fun H hH=>hH.2.1)) ?_;refine xC rfl (TR mpS Dk (a:=⟨B,by rw[hB];exact hxm⟩) rfl rfl (fun H hH=>hH.2.2)) ?_;refine Gz 11 ?_;refine TE (T9 rfl) rfl (fun h28=>?_) (fun h28=>?_)
 ·have hno:s.sets.find? (fun y=>decide (y.1=X))=none:=by
   cases hf:s.sets.find? (fun y=>decide (y.1=X)) with
  |none=>rfl
  |some y=>rw[hfx,hf] at h28;simp at h28
  have hrb:=wV (T:=s.fur) (o:=s.fur.length) (by omega);have hfu:bT s X=(((bJ s.fur s.fur.length:Nat):Int)+1,{ s with fur:=s.fur++(eM X).1,sets:=s.sets++[(X,((bJ s.fur s.fur.length:Nat):Int))] }):=by
   unfold bT;rw[WI (fun h=>hX0 (W3.1 h)),hno]
  rw[hpx] at hfu;have hz2:=hF2.size;refine Gz 9 ?_;refine cL (S2 wM rfl (by rw[uO];exact aD (i:=2) (hF2.obj hg id) rfl)) ?_;refine Gz 1 ?_;refine SZ L8 rfl (GX bo bc B (w2.drewN 1) hM2 (fun k hk=>hn k (by have hk:w2.heap.size≤k:=hk;omega)) ho2.vw (by rw[hB];omega)) rfl ?_;rintro _ w3 ⟨rfl,ow3,hM3,hl3,hn3,hf3⟩;have hf3:aA (Lb ow) w2 w3:=hf3.WE;have hF3:aA (Lb ow) W w3:=hF2.any.trans hf3;have hl3:∀ k,k<w2.heap.size→ow3 k=ow k:=hl3;have ho3:=ho2.WH hf3 (fun b hb h=>by have h1:=hfr2 b hb;have h2:=hf1.size;exact h.1 (hn _ (by omega)));obtain⟨⟨hg3,_⟩,_,_,_,_,_,_,_,_,hz38,hzm3⟩:=id hM3;obtain⟨mz3,hmz3,hms3⟩:=hzm3 (by decide);have hfx3:=hms3 X hX hX0;rw[show ({ s with fur:=s.fur++B }:BSt).sets=s.sets from rfl,hno] at hfx3;have hkey:=hfx3;rw[hBs] at hkey;refine Gz 3 ?_;refine Tc 7 (fun H=>H[g]?=some (.cells (piC a qs.length ids.length).toArray 62 (0,0))∧Vw b8 H bo bc B) [7] [0,1,2,3,4,5,6,7] aI (by kernel_rfl) (⟨hg3,ho3.vw⟩) ?_;refine Gz 5 ?_;refine xC rfl (Ul aH ty5 ty9 rfl (fun H hH=>hH.2)) ?_;refine Gz 1 ?_;refine S7 rfl rfl (TH mpS Dk (a:=⟨B,by rw[hB];exact hxm⟩) rfl rfl rfl hmz3 ?_);intro w4 hm4 hs4 hf4;refine Tx rfl ?_;have hf4:aA (· = a.z) w3 w4:=hf4.WE;rw[←hBs] at hm4;have hst:=hM3.step hf4 8 (by decide) (fun k hk=>.inl (by have h:k=a.z:=hk;rw[h];exact hz38)) (fun _ _=>rfl);obtain⟨c0,c1,c2,c3,c4,c5,c6,c7,c8,c9,_⟩:=hst;have hM4:PiX 0 a ow3 w4.heap g tp qs ids files { s with fur:=s.fur++eB X,sets:=s.sets++[(X,((bJ s.fur s.fur.length:Nat):Int))] }:=by
   rw[←hB];exact⟨c0,c1,c2,c3,fun _=>c4 (by decide),fun _=>c5 (by decide),fun _=>c6 (by decide),c7.imp id (fun h _=>h (by decide)),c8.imp id (fun h _=>h (by decide)),c9,fun _=>⟨_,hm4,hms3.put hX hX0 hxm hfx3 _⟩⟩
  have hz4:=hf4.size;have hz3:=hf3.size;have hF4:aA (Lb ow) W w4:=hF3.WD hf4 (fun k hk=>.inl (by have h:k=a.z:=hk;rw[h];unfold Lb;omega));refine Gz 11 ?_
  first
  |exact⟨_,rfl,by rw[hfu],by rw[hfu];exact⟨ow3,hM4,fun k hk=>hl3 k (by omega),fun k hk=>hn3 k (by omega),hF4⟩⟩
  |exact⟨_,rfl,by rw[hfu],by rw[hfu];exact⟨ow,hM2,fun _ _=>rfl,fun k hk=>hn k (by have h1:=hF2.size;have h2:w2.heap.size≤k:=hk;omega),hF2.any.draws 1⟩⟩
 obtain⟨y,hy⟩:∃ y,s.sets.find? (fun y=>decide (y.1=X))=some y:=by
  cases hf:s.sets.find? (fun y=>decide (y.1=X)) with
 |none=>rw[hfx,hf] at h28;simp at h28
 |some y=>exact⟨y,rfl⟩
 have eg:(cQ mz ⟨B,by rw[hB];exact hxm⟩).getD (iV 0)=iV y.2:=by rw[hfx,hy];rfl
 rw[eg];have hfu:bT s X=(y.2+1,s):=by
  unfold bT;rw[WI (fun h=>hX0 (W3.1 h)),hy]
 have hyb:=hR y (YK hy);refine Gz 14 ?_
 first
 |exact⟨_,rfl,by rw[hfu],by rw[hfu];exact⟨ow3,hM4,fun k hk=>hl3 k (by omega),fun k hk=>hn3 k (by omega),hF4⟩⟩
 |exact⟨_,rfl,by rw[hfu],by rw[hfu];exact⟨ow,hM2,fun _ _=>rfl,fun k hk=>hn k (by have h1:=hF2.size;have h2:w2.heap.size≤k:=hk;omega),hF2.any.draws 1⟩⟩
end
theorem LB{l:List Int}(hr:l.Pairwise (· < ·)){e:Nat}{z:Int}(he:l[e]?=some z):nO l z=e∧∀ q,q<l.length→(l.getD q 0<z↔q<e):=by
 obtain⟨hel,hez⟩:=WN.1 he;have key:∀ q,q<l.length→(l.getD q 0<z↔q<e):=fun q hq=>by
  have hd:l.getD q 0=l[q]:=by rw[WW,WK hq];rfl
  rw[hd];have hp:=Xu.1 hr;constructor
  · intro h
    apply WV;intro hc;rcases Nat.lt_or_eq_of_le (Nat.le_of_not_lt hc) with h1|h1
    ·have:=hp e q hel hq h1;rw[hez] at this;omega
    ·subst h1;rw[hez] at h;omega
  · intro h
    have:=hp q e hq hel h;rw[hez] at this;exact this
 refine⟨?_,key⟩;unfold nO;have h:l.findIdx? (fun x=>decide (x=z))=some e:=by
  rw[XN];refine⟨hel,by simpa using hez,fun j hj=>?_⟩;have h1:=(key j (by omega)).2 hj;have hd:l.getD j 0=l[j]'(by omega):=by rw[WW,WK (by omega)];rfl
  rw[hd] at h1;simp only[decide_eq_true_eq];omega
 rw[h]
theorem Kz(lo:Option Addr)(lc:Nat)(l:List Int)(z:Int)(W:World)(hv:Vw i64 W.heap lo lc l)(hr:l.Pairwise (· < ·))(hz:z∈l)(hll:l.length≤1099511627776) :
 CA 72 [.slice lo l.length lc,iV z] W fun v w'=>v=.tuple #[iV (nO l z),.bool true]∧w'=W:=by
 obtain⟨e,he⟩:=W8 hz;obtain⟨hpe,hlt⟩:=LB hr he;obtain⟨hel,hez⟩:=WN.1 he;have hed:l.getD e 0=z:=by rw[WW,he];rfl
 refine cS 54 [(0,_),(1,_)] Tryz.func72 ?_;refine Gz 22 ?_;refine S4 (β:=Nat×Nat) (fun⟨i,j⟩=>[(0,.slice lo l.length lc),(1,iV z),(6,iV l.length),(7,iV i),(8,iV j)]) (fun⟨i,j⟩ w=>i≤e∧e≤j∧j≤l.length∧w=W) (fun⟨i,j⟩=>j-i) ⟨0,l.length⟩ ⟨rfl,rfl,rfl,rfl,rfl,trivial⟩ ⟨WU _,Nat.le_of_lt hel,WT _,rfl⟩ ?_;rintro⟨i,j⟩ w2 ⟨hie,hej,hjl,hw⟩;subst w2;refine fK 5 ?_ ?_<;>intro h15
 ·have hij:i<j:=by omega
  refine Gz 11 ?_;refine cL (Td (n:=((i:Int)+j)) is3 HV rfl (Co (by omega))) ?_;refine cL (Uo rfl rfl (by decide)) ?_;refine cL (Td (n:=(((i+j)/2:Nat):Int)) Jr ty3 rfl (Dp (by omega))) ?_;obtain⟨q,hq⟩:∃ q:Nat,q=(i+j)/2:=⟨_,rfl⟩
  rw[←hq];have hql:q<l.length:=by omega
  have hqe:=hlt q hql;refine Gz 7 ?_;refine cL (SY aY rfl rfl hv.non (by omega)) ?_;refine cL (S2 aF rfl (hv.gz 0 q rfl hql)) ?_;refine cA 1 Na (Ag (l.getD q 0) z W) ?_;rintro _ wq ⟨rfl,hwq⟩;subst wq;by_cases h27:l.getD q 0<z
  ·rw[WO h27];refine Gz 9 ?_;exact aG ⟨q+1,j⟩ ⟨by have:=hqe.1 h27;omega,hej,hjl,rfl⟩ (by show j-(q+1)<j-i;omega)
  rw[WL h27];refine Gz 8 ?_;exact aG ⟨i,q⟩ ⟨hie,by have:¬ q<e:=fun h=>h27 (hqe.2 h);omega,by omega,rfl⟩ (by show q-i<j-i;omega)
 have hie:i=e:=by omega
 subst hie;refine Gz 13 ?_;refine cL (TY (T1 rfl rfl) (by omega)) ?_;refine Gz 3 ?_;refine cW (SY aY rfl rfl hv.non (by omega)) ?_;refine cW (S2 aF rfl (hv.gz 0 i rfl hel)) ?_;refine Gz 1 ?_;refine cW (TY (TU rfl rfl) hed) ?_;refine Gz 18 ?_;exact⟨_,rfl,by rw[hpe],rfl⟩
theorem KQ(D:Nat→Prop)(p:Nat)(E:Int)(xs:By)(W:World)(hP:WrL D W.heap p E xs)(hb:xs.length≤1099511627776) :
 CA 82 [pT p] W fun v w'=>v=iV (dJ E xs).length∧aA nob W w':=by
 refine cS 6 [(0,_)] Tryz.func82 ?_;refine cA 8 BY (gW D p E xs W hP hb) ?_;rintro _ w1 ⟨o1,c1,rfl,ho1,hfr1,hf1⟩;refine Gz 6 ?_;exact⟨_,rfl,rfl,hf1⟩
theorem Wz{cs:Int→Value→List Value}{T:TypeId}{A:Nat→Prop}{W w':World}{p:Nat}{E:Int}{xs:By}(h:WrO cs T (fun k=>A k∨W.heap.size≤k) w'.heap p E xs):WrO cs T (Nx A W w') w'.heap p E xs:=
 h.bound (fun k hk hl=>hk.imp id (fun h=>⟨h,hl⟩))
theorem vF(A:Nat→Prop)(p:Nat)(xs:By)(x n:Int)(W:World)(hx:¬ eX x n)(hP:WrL A W.heap p 0 xs)(hb:xs.length≤1099511627776) :
 CA 76 [pT p,iV x,iV n] W fun v w'=>WrL (Nx A W w') w'.heap p 0 (xs++le x n.toNat)∧aA A W w':=by
 refine(pQ (fun k=>A k∨W.heap.size≤k) p 0 xs x n W (WrO.mono hP (fun k h=>.inl h)) (fun k h=>.inr h) hb).mono ?_;rintro e w' ⟨v,rfl,h1,h2⟩;have h0:dU 0 x n=0:=bC hx;rw[h0,iQ h0] at h1;exact⟨_,rfl,Wz h1,h2.nx⟩
theorem Cp(A:Nat→Prop)(p:Nat)(xs:By)(yo:Option Addr)(yc:Nat)(ys:By)(W:World)(hP:WrL A W.heap p 0 xs)(hv:Vw b8 W.heap yo yc ys)(hb:xs.length≤1099511627776)(hb2:ys.length≤1099511627776) :
 CA 81 [pT p,.slice yo ys.length yc] W fun v w'=>WrL (Nx A W w') w'.heap p 0 (xs++ys)∧aA A W w':=by
 refine(oF (fun k=>A k∨W.heap.size≤k) p 0 xs yo yc ys W (WrO.mono hP (fun k h=>.inl h)) (fun k h=>.inr h) hv hb hb2).mono ?_;rintro e w' ⟨v,rfl,h1,h2⟩;exact⟨_,rfl,Wz h1,h2.nx⟩
theorem Fo(F:Nat→Int)(hm:gH F)(j:Nat)(hj:j<10)(b:Int)(hb:(suL.getD j fdZ).b=b)(A:Nat→Prop)(p:Nat)(W:World)(hP:WrL A W.heap p 0 (suE F j)) :
 CA 76 [pT p,iV (F (suL.getD j fdZ).o),iV b] W fun v w'=>WrL (Nx A W w') w'.heap p 0 (suE F (j+1))∧aA A W w':=by
 subst hb;rw[CG F hj];exact vF A p _ _ _ W (FV hm hj) hP (by have:=Fv F j;omega)
theorem H4(tp:Nat)(F:Nat→Int)(W:World)(ht:TbV W.heap tp) :
 CA 29 [pT tp,.agg (cM F).toArray] W (sP W (eU F)):=by
 refine cS 51 [(0,_),(1,_)] Tryz.func29 ?_;refine Gz 2 ?_;refine To rfl rfl ?_;intro w1 hg1 hs1 hf1;have hg1:w1.heap[W.heap.size]?=some (.cells (cM F).toArray 44 (0,0)):=hg1;obtain⟨g,eg⟩:∃ g,g=W.heap.size:=⟨_,rfl⟩
 rw[←eg] at hg1 ⊢;refine Gz 7 ?_;refine cL (Tf (cs:=cM F) dT rfl (bI hg1 0 rfl)) ?_;refine cA 0 OZ (CC F w1) ?_;rintro _ w2 ⟨rfl,hf2⟩;have hg2:=hf2.obj hg1 id;have hW2:=hf1.trans hf2;obtain⟨p,ep⟩:∃ p,p=w2.heap.size:=⟨_,rfl⟩
 by_cases h12:gH F
 ·rw[WO h12];refine cL (Tj rfl) ?_;refine Gz 7 ?_;refine S5 zV rfl ?_;intro w3 hg3 hs3 hf3;rw[←ep] at hg3 ⊢;have hP3:WrL (· = p) w3.heap p 0 []:=We hg3 rfl;refine Gz 4 ?_;refine Tu aH (cs:=(suM.map b8).toArray) zc5 rfl rfl rfl (by kernel_rfl) rfl ?_;intro w5 hg5 hs5 hf5;have ho5:=iB (e:=5) (enc:=b8) (xs:=suM) hg5 (by decide);refine UY aH ty5 (xs:=suM) rfl hg5 ho5.vw rfl ?_;intro w6 hv6 hs6 hf6;have hz3:=hf3.size;have hf36:aA nob w3 w6:=hf5.tw hf6;have hF6:=hf3.trans hf36;refine SZ JI rfl (Cp (· = p) p [] _ _ suM w6 (hP3.WG hf36) hv6 (by simp) (by decide)) rfl ?_;rintro _ u0 ⟨hP0,hQ0⟩;have hz6:=hF6.size;have hA0:∀ k,Nx (· = p) w6 u0 k→p≤k∧k<u0.heap.size:=fun k hk=>hk.elim (fun h=>by have h:k=p:=h;have:=hP0.lt;omega) (fun h=>by omega);generalize Nx (· = p) w6 u0=A0 at hP0 hA0;have hP0:WrL A0 u0.heap p 0 (suE F 0):=hP0;have hF0:aA nob w2 u0:=hF6.tw hQ0;have hg0:=hF0.obj hg2 id;have hg_lt:=(WS.1 hg2).1;refine cA 5 O2 (Ad g u0) ?_;rintro _ w7 ⟨l,rfl,ho7,hl1,hl2,hf7⟩;have hF7:=hF0.trans hf7;refine Gz 5 ?_;refine S4 (β:=Nat×(Nat→Prop)) (fun⟨i,A⟩=>[(0,pT tp),(3,pT g),(6,pT p),(17,.slice (some ⟨l,0,none⟩) oW.length 7),(18,iV (oW.length:Nat)),(19,iV i)]) (fun⟨i,A⟩ w=>i≤7∧WrL A w.heap p 0 (suE F i)∧(∀ k,A k→p≤k∧k<w.heap.size∧k≠l)∧w.heap[g]?=some (.cells (cM F).toArray 44 (0,0))∧Own (ptO g) 72 w.heap (some ⟨l,0,none⟩) 7 oW∧aA nob w2 w∧w7.heap.size≤w.heap.size) (fun⟨i,A⟩=>7-i) ⟨0,A0⟩ ⟨rfl,rfl,rfl,rfl,rfl,rfl,trivial⟩ ⟨by decide,hP0.WG hf7,fun k hk=>by have h1:=hA0 k hk;have h2:=hf7.size;omega,hf7.obj hg0 id,ho7,hF7,WT _⟩ ?_;rintro⟨i,A⟩ w8 ⟨hi,hP8,hA,hg8,how,hF8,hz8⟩;refine fK 2 ?_ ?_<;>intro h20
  ·have hi7:i<7:=by have:(i:Int)<(oW.length:Nat):=h20;have e:oW.length=7:=rfl;omega
   refine Gz 10 ?_;refine cL (SY Bt rfl rfl how.vw.non (by have e:oW.length=7:=rfl;omega)) ?_;refine cL (S2 Al rfl (how.vw.gz 0 i rfl (by show i<7;exact hi7))) ?_;rw[(FN hi7).1];refine Gz 2 ?_;refine aW [(0,_),(3,_),(6,_),(8,_),(17,_),(18,_),(19,_),(20,_)] ?_;refine Gz 4 ?_;refine cL (S2 aF rfl (aT hg8 (CB F (CF (by omega))))) ?_;refine SZ yC rfl (Fo F h12 i (by omega) 4 (FN hi7).2 A p w8 hP8) rfl ?_;rintro _ w9 ⟨hP9,hQ9⟩;have hz9:=hQ9.size;have hz8b:=hF8.size;have hF9:aA nob w2 w9:=hF8.WD hQ9 (fun k hk=>.inr (by have:=(hA k hk).1;omega));have hA9:∀ k,Nx A w8 w9 k→p≤k∧k<w9.heap.size∧k≠l:=fun k hk=>hk.elim (fun h=>by have:=hA k h;omega) (fun h=>by omega);refine Gz 7 ?_;exact aG ⟨i+1,Nx A w8 w9⟩ ⟨by omega,hP9,hA9,hQ9.obj hg8 (fun h=>by have:=(hA _ h).1;omega),how.WH hQ9 (fun a ha h=>by cases ha;exact(hA _ h).2.2 rfl),hF9,by omega⟩ (by show 7-(i+1)<7-i;omega)
  have hi7:i=7:=by have h20:¬ (i:Int)<(oW.length:Nat):=h20;have e:oW.length=7:=rfl;omega
  subst hi7;refine cA 12 O1 (uA g w8) ?_;rintro _ w10 ⟨l2,rfl,ho10,hm1,hm2,hf10⟩;have hF10:=hF8.trans hf10;refine Gz 5 ?_;refine S4 (β:=Nat×(Nat→Prop)) (fun⟨i,A⟩=>[(0,pT tp),(3,pT g),(6,pT p),(28,.slice (some ⟨l2,0,none⟩) oN.length 3),(29,iV (oN.length:Nat)),(30,iV i)]) (fun⟨i,A⟩ w=>i≤3∧WrL A w.heap p 0 (suE F (7+i))∧(∀ k,A k→p≤k∧k<w.heap.size∧k≠l2)∧w.heap[g]?=some (.cells (cM F).toArray 44 (0,0))∧Own (ptO g) 72 w.heap (some ⟨l2,0,none⟩) 3 oN∧aA nob w2 w∧w10.heap.size≤w.heap.size) (fun⟨i,A⟩=>3-i) ⟨0,A⟩ ⟨rfl,rfl,rfl,rfl,rfl,rfl,trivial⟩ ⟨by decide,hP8.WG hf10,fun k hk=>by have h1:=hA k hk;have h2:=hf10.size;omega,hf10.obj hg8 id,ho10,hF10,WT _⟩ ?_;rintro⟨i,A⟩ w8 ⟨hi,hP8,hA,hg8,how,hF8,hz8⟩;refine fK 2 ?_ ?_<;>intro h31
  ·have hi3:i<3:=by have:(i:Int)<(oN.length:Nat):=h31;have e:oN.length=3:=rfl;omega
   refine Gz 10 ?_;refine cL (SY Bt rfl rfl how.vw.non (by have e:oN.length=3:=rfl;omega)) ?_;refine cL (S2 Al rfl (how.vw.gz 0 i rfl (by show i<3;exact hi3))) ?_;rw[(FO hi3).1];refine Gz 2 ?_;refine aW [(0,_),(3,_),(6,_),(10,_),(28,_),(29,_),(30,_),(31,_)] ?_;refine Gz 4 ?_;refine cL (S2 aF rfl (aT hg8 (CB F (CF (by omega))))) ?_;refine SZ yC rfl (Fo F h12 (7+i) (by omega) 2 (FO hi3).2 A p w8 hP8) rfl ?_;rintro _ w9 ⟨hP9,hQ9⟩;have hz9:=hQ9.size;have hz8b:=hF8.size;have hF9:aA nob w2 w9:=hF8.WD hQ9 (fun k hk=>.inr (by have:=(hA k hk).1;omega));have hA9:∀ k,Nx A w8 w9 k→p≤k∧k<w9.heap.size∧k≠l2:=fun k hk=>hk.elim (fun h=>by have:=hA k h;omega) (fun h=>by omega);refine Gz 7 ?_;exact aG ⟨i+1,Nx A w8 w9⟩ ⟨by omega,hP9,hA9,hQ9.obj hg8 (fun h=>by have:=(hA _ h).1;omega),how.WH hQ9 (fun a ha h=>by cases ha;exact(hA _ h).2.2 rfl),hF9,by omega⟩ (by show 3-(i+1)<3-i;omega)
  have hi3:i=3:=by have h31:¬ (i:Int)<(oN.length:Nat):=h31;have e:oN.length=3:=rfl;omega
  subst hi3;refine Gz 12 ?_;refine SZ BY rfl (gW A p 0 (suH F) w8 hP8 (by rw[qN];decide)) rfl ?_;rintro _ w11 ⟨o11,c11,rfl,ho11,hfr11,hf11⟩;have ho11:Own b8 5 w11.heap o11 c11 (suH F):=ho11;have hF11:=hF8.trans hf11;have hP11:=hP8.WG hf11;refine cA 0 N1 (Ee tp o11 c11 (suH F) w11 ((hW2.trans hF11).obj ht id) ho11.vw) ?_;rintro _ wq ⟨rfl,hwq⟩;subst wq;refine cL (Td (n:=((gD (suH F):Nat):Int)) Hi ty3 rfl (cN (by have:=mG (suH F);omega))) ?_;refine SZ yC rfl (vF A p (suH F) _ 4 w11 (fX (m:=4294967295) (by decide) (by decide) (Yv _) (by have:=mG (suH F);omega) (by decide)) hP11 (by rw[qN];decide)) rfl ?_;rintro _ u11 ⟨hP12,hQ12⟩;have hF12:aA nob w2 u11:=hF11.WD hQ12 (fun k hk=>.inr (by have:=(hA k hk).1;omega));have hz11:=hF11.size;have hA12:∀ k,Nx A w11 u11 k→p≤k:=fun k hk=>hk.elim (fun h=>(hA k h).1) (fun h=>by omega);generalize Nx A w11 u11=A12 at hP12 hA12;have hP12:WrL A12 u11.heap p 0 (suX F 0):=by rw[show suX F 0=suH F++le (gD (suH F):Nat) 4 by unfold suX;simp];exact hP12
  refine Gz 1 ?_;refine aW [(0,_),(3,_),(6,_),(28,_),(29,_),(30,_),(31,_)] ?_;refine Gz 3 ?_;refine SZ R5 rfl (KQ A12 p 0 (suX F 0) u11 hP12 (by rw[jN];decide)) rfl ?_;rintro _ w13 ⟨rfl,hf13⟩;rw[show (dJ 0 (suX F 0)).length=42 from jN F 0];have hP13:=hP12.WG hf13;have hF13:=hF12.trans hf13;refine cL (S3 (u:=iV 22) (TV rfl rfl (by decide)) rfl) ?_;refine Ud b8 (0:UInt8) aH z5 rfl rfl rfl (by decide) (by decide) (by decide) (by decide) rfl ?_;intro w14 ho14 hs14 hf14;have ho14:Own b8 5 w14.heap (some ⟨w13.heap.size,0,none⟩) 22 (Xe 22 0):=ho14;have hF14:=hF13.trans hf14;refine SZ JI rfl (Cp A12 p (suX F 0) (some ⟨w13.heap.size,0,none⟩) 22 (Xe 22 0) w14 (hP13.WG hf14) ho14.vw (by rw[jN];decide) (by decide)) rfl ?_;rintro _ w15 ⟨hP15,hQ15⟩;have hF15:aA nob w2 w15:=hF14.WD hQ15 (fun k hk=>.inr (by have:=hA12 k hk;omega));generalize Nx A12 w14 w15=A15 at hP15;have hP15:WrL A15 w15.heap p 0 (suX F 22):=by rw[show suX F 22=suX F 0++Xe 22 0 by unfold suX;simp];exact hP15
  refine Gz 4 ?_;refine SZ BY rfl (gW A15 p 0 (suX F 22) w15 hP15 (by rw[jN];decide)) rfl ?_;rintro _ w16 ⟨o16,c16,rfl,ho16,hfr16,hf16⟩;have ho16:Own b8 5 w16.heap o16 c16 (suX F 22):=ho16;have hP16:=hP15.WG hf16;refine cA 1 Dv (qB A15 p 0 (suX F 22) w16 hP16) ?_;rintro _ wq ⟨rfl,hwq⟩;subst wq;refine Gz 6 ?_
  first
  |exact⟨_,rfl,none,0,by rw[show eU F=([],1) from WI h12];rfl,by rw[show eU F=([],1) from WI h12];exact V8,V6,hW2⟩
  |(have e:eU F=(suX F 22,0):=WJ h12;rw[e];exact⟨_,rfl,o16,c16,rfl,ho16,hfr16.mono (by have:=hF15.size;have:=hW2.size;omega),(hW2.trans hF15).trans hf16⟩)
 rw[WL h12];refine cL (Tj rfl) ?_;refine Gz 12 ?_
 first
 |exact⟨_,rfl,none,0,by rw[show eU F=([],1) from WI h12];rfl,by rw[show eU F=([],1) from WI h12];exact V8,V6,hW2⟩
 |(have e:eU F=(suX F 22,0):=WJ h12;rw[e];exact⟨_,rfl,o16,c16,rfl,ho16,hfr16.mono (by have:=hF15.size;have:=hW2.size;omega),(hW2.trans hF15).trans hf16⟩)
theorem HR(A:Nat→Prop)(p:Nat)(xs s:By)(W:World)(hs:s.length≤255)(hP:WrL A W.heap p 0 xs)(hb:xs.length≤549755813888) :
 CA 128 [pT p,.string (bs s)] W fun v w'=>WrL (Nx A W w') w'.heap p 0 (xs++(W4 s.length::s))∧aA A W w':=by
 refine(qJ (fun k=>A k∨W.heap.size≤k) p 0 xs s W (WrO.mono hP (fun k h=>.inl h)) (fun k h=>.inr h) hb).mono ?_;rintro e w' ⟨v,rfl,h1,h2⟩;have e1:gX 0 s=0:=by unfold gX;rw[WI (by decide),WI (by omega)]
 have e2:jF 0 xs s=xs++(W4 s.length::s):=by unfold jF;rw[WI (by omega)]
 rw[e1,e2] at h1;exact⟨_,rfl,Wz h1,h2.nx⟩
theorem J6(lo:Option Addr)(lc:Nat)(L:List Ent)(W:World)(hv:VwM 3 nE W.heap lo lc L)(hsm:∀ x∈L,x.1.length≤maxLen)(hll:L.length≤1073741824) :
 CA 121 [.slice lo L.length lc] W (sP W (gE L)):=by
 have h63:=hv.WF;refine cS 33 [(0,_)] Tryz.func121 ?_;refine Gz 8 ?_;refine S5 zV rfl ?_;intro w1 hg1 hs1 hf1;obtain⟨p,ep⟩:∃ p,p=W.heap.size:=⟨_,rfl⟩
 rw[←ep] at hg1 ⊢;have hP1:WrL (· = p) w1.heap p 0 []:=We hg1 rfl;have hpl:=(WS.1 hg1).1;refine Gz 16 ?_;refine S4 (β:=Nat×By×(Nat→Prop)) (fun⟨i,last,A⟩=>[(4,pT p),(5,.string (bs last)),(8,.slice lo L.length lc),(9,iV L.length),(10,iV i)]) (fun⟨i,last,A⟩ w=>i≤L.length∧bM [] (L.take i)∧last=(if i=0 then [] else (L.getD (i-1) yG).1)∧WrL A w.heap p 0 (bK (L.take i))∧(∀ k,A k→p≤k∧k<w.heap.size)∧aA nob W w) (fun⟨i,last,A⟩=>L.length-i) ⟨0,[],(· = p)⟩ ⟨rfl,rfl,rfl,rfl,rfl,trivial⟩ ⟨WU _,trivial,rfl,hP1,fun k hk=>by have h:k=p:=hk;omega,hf1⟩ ?_;rintro⟨i,last,A⟩ w2 ⟨hi,hch,hla,hP2,hA,hF2⟩;refine fK 2 ?_ ?_<;>intro h11
 ·have hil:i<L.length:=by omega
  obtain⟨x,hx⟩:∃ x,L[i]?=some x:=⟨_,WK hil⟩
  have hxm:=hsm x (WQ hx);have hv2:=hv.WG hF2;have hchl:=mR hch;have htl:(L.take i).length=i:=by rw[WR];omega
  have hnext:bM [] L→jI x (if i=0 then [] else (L.getD (i-1) yG).1):=fun h=>tT h hx;have hz2:=hF2.size;refine Gz 10 ?_;refine cL (S1 qQ rfl rfl hv2.non (by omega)) ?_;refine cL (Tf (cs:=nE x) yX rfl (fun j v hj=>hv2.rowZ i rfl hx j v hj)) ?_;refine S5 zU rfl ?_;intro w3 hg3 hs3 hf3;obtain⟨q,eq⟩:∃ q,q=w2.heap.size:=⟨_,rfl⟩
  rw[←eq] at hg3 ⊢;refine sA rfl yX (by exact DF _) hg3 ?_;intro w4 hg4 hs4 hf4;have hF24:aA nob w2 w4:=hf3.tw hf4;have hF4:=hF2.trans hF24;have hz24:=hF24.size;refine Gz 1 ?_;refine aW [(4,_),(5,_),(7,_),(8,_),(9,_),(10,_),(11,_)] ?_;refine Gz 4 ?_;refine cL (Tf (cs:=nE x) yX rfl (bI hg4 0 rfl)) ?_;refine cA 1 Px (J7 x last w4 hxm) ?_;rintro _ w5 ⟨rfl,hf5⟩;have hg5:=hf5.obj hg4 id;have hF5:=hF4.trans hf5;have hF25:=hF24.trans hf5;have hz5:=hf5.size;by_cases h16:jI x last
  ·rw[WO h16];have hfit:=lS h16;refine cL (Tj rfl) ?_;refine Gz 9 ?_;refine SZ Gi rfl (HR A p (bK (L.take i)) x.1 w5 hfit.1 (hP2.WG hF25) (by omega)) rfl ?_;rintro _ w6 ⟨hP6,hQ6⟩;have hA6:∀ k,Nx A w5 w6 k→p≤k∧k<w6.heap.size∧k≠q:=fun k hk=>hk.elim (fun h=>by have:=hA k h;have:=hQ6.size;omega) (fun h=>by omega);generalize Nx A w5 w6=A6 at hP6 hA6;have hg6:=hQ6.obj hg5 (fun h=>by have:=(hA _ h).2;omega);have hF6:aA nob W w6:=hF5.WD hQ6 (fun k hk=>.inr (by have:=(hA k hk).1;omega));refine Gz 6 ?_;refine SZ yC rfl (vF A6 p (bK (L.take i)++(W4 x.1.length::x.1)) x.2.1 1 w6 (N8 hfit) hP6 (by simp only[WM,W7];have:=hfit.1;omega)) rfl ?_;rintro _ w7 ⟨hP7,hQ7⟩;have hA7:∀ k,Nx A6 w6 w7 k→p≤k∧k<w7.heap.size∧k≠q:=fun k hk=>hk.elim (fun h=>by have:=hA6 k h;have:=hQ7.size;omega) (fun h=>by have:=hQ6.size;omega);generalize Nx A6 w6 w7=A7 at hP7 hA7;have hg7:=hQ7.obj hg6 (fun h=>(hA6 _ h).2.2 rfl);have hF7:aA nob W w7:=hF6.WD hQ7 (fun k hk=>.inr (by have:=(hA6 k hk).1;omega));refine Gz 6 ?_;refine SZ yC rfl (vF A7 p (bK (L.take i)++(W4 x.1.length::x.1)++le x.2.1 1) x.2.2 4 w7 (N7 hfit) hP7 (by simp only[WM,W7,bB];have:=hfit.1;omega)) rfl ?_;rintro _ w8 ⟨hP8,hQ8⟩;have hA8:∀ k,Nx A7 w7 w8 k→p≤k∧k<w8.heap.size:=fun k hk=>hk.elim (fun h=>by have:=hA7 k h;have:=hQ8.size;omega) (fun h=>by have:=hQ7.size;have:=hQ6.size;omega);have hg8:=hQ8.obj hg7 (fun h=>(hA7 _ h).2.2 rfl);have hF8:aA nob W w8:=hF7.WD hQ8 (fun k hk=>.inr (by have:=(hA7 k hk).1;omega));refine Gz 13 ?_;refine aG ⟨i+1,x.1,Nx A7 w7 w8⟩ ⟨by omega,?_,?_,?_,hA8,hF8⟩ (by show L.length-(i+1)<L.length-i;omega)
   · rw[kD hx,lB]
     refine⟨hch,?_⟩;rw[hla] at h16;by_cases hi0:i=0
     ·rw[WJ hi0] at h16;rw[WJ (by rw[hi0];rfl)];exact h16
     ·rw[WI hi0] at h16;rw[WI (fun e=>by rw[e] at htl;simp at htl;omega),pV (by omega) (by omega)];exact h16
   ·rw[WI (by omega),WW,show i+1-1=i by omega,hx];rfl
   · rw[kD hx,qC]
     have e:bK (L.take i)++lG x=bK (L.take i)++(W4 x.1.length::x.1)++le x.2.1 1++le x.2.2 4:=by unfold lG;simp only[W9]
     rw[e];exact hP8
  rw[WL h16];have hno:¬ bM [] L:=fun h=>h16 (by rw[hla];exact hnext h);refine cL (Tj rfl) ?_;refine Gz 17 ?_;have e:gE L=([],1):=WI hno;rw[e];exact⟨_,rfl,none,0,rfl,V8,V6,hF5⟩
 have hie:i=L.length:=by omega
 subst hie;rw[Xl] at hP2 hch;refine Gz 11 ?_;refine SZ BY rfl (gW A p 0 (bK L) w2 hP2 (by have:=mR hch;omega)) rfl ?_;rintro _ w3 ⟨o3,c3,rfl,ho3,hfr3,hf3⟩;have ho3:Own b8 5 w3.heap o3 c3 (bK L):=ho3;refine cA 1 Dv (qB A p 0 (bK L) w3 (hP2.WG hf3)) ?_;rintro _ wq ⟨rfl,hwq⟩;subst wq;refine Gz 3 ?_;refine aW [(2,_),(3,_),(4,_),(5,_),(8,_),(9,_),(10,_),(11,_)] ?_;refine Gz 3 ?_;have e:gE L=(bK L,0):=WJ hch;rw[e];exact⟨_,rfl,o3,c3,rfl,ho3,hfr3.mono hF2.size,hF2.trans hf3⟩
section
open Go Go.RowKit Go.Maps
section
variable {qs:List (NdH×Nd)}{ids:List Int}{files:List Ino}
theorem JF{s:BSt}{X:List Xa}(h:bdR s)(hb:bdB (bT s X).2):bdR (bT s X).2:=by
 revert hb
 unfold bT
 split
 ·exact fun _=>h
 · split
   ·exact fun _=>h
   · intro hb
     refine⟨h.1,fun y hy=>?_⟩;rcases Xj.1 hy with hy|hy
     ·exact h.2 y hy
     · rw[Xg] at hy
       subst hy;have h3:=hb.2.2.1;simp only[WM] at h3;have:=wV (T:=s.fur) (o:=s.fur.length) (by omega);exact⟨Yv _,by show ((bJ s.fur s.fur.length:Nat):Int)≤_;omega⟩
theorem rY{k:Int}{i:Ino}{s:BSt}(h:bdR s)(hb:bdB (eW qs ids k i s)):bdR (eW qs ids k i s):=by
 have h2:=JF h ((rX (qs:=qs) (ids:=ids) k i s).bd hb);refine⟨fun z hz=>?_,h2.2⟩;have hz:z∈(bT s (ndB qs k).xs).2.refs.set (ndB qs k).ino.toNat _:=hz;rcases Zk hz with hz|hz
 ·exact h2.1 z hz
 · have h3:=((rX (qs:=qs) (ids:=ids) k i s).bd hb).1
   have:=wV (T:=(bT s (ndB qs k).xs).2.ino) (o:=(bT s (ndB qs k).xs).2.ino.length) (by omega);omega
theorem Fc{wr:Int→BSt→BSt}(hw:∀ k s,bdR s→bdB (wr k s)→bdR (wr k s))(hl:∀ k s,leB s (wr k s)):∀ (ys:List Int) (s:BSt),bdR s→bdB (wrK wr qs ys s).1→bdR (wrK wr qs ys s).1
|[],s,h,_=>h
|j::r,s,h,hb=>Fc hw hl r (wr j s) (hw j s h ((vZ hl r (wr j s)).bd hb)) hb
theorem Ff:∀ (n:Nat) (k:Int) (s:BSt),bdR s→bdB (wrB qs ids files n k s)→bdR (wrB qs ids files n k s)
|0,k,s,h,_=>h
|n+1,k,s,h,hb=>by
   revert hb
   unfold wrB
   split
   ·exact fun _=>h
   · split
     ·exact fun hb=>rY h hb
     · split
       ·exact fun hb=>rY h hb
       · split
         · intro hb
           have h1:=(kP _ _ _).bd hb;have h2:=Fc (Ff n) (pI n) _ s h ((BN _ _).bd h1);exact rY (show bdR { (wrK (wrB qs ids files n) qs (bP qs (ndB qs k).names qs.length) s).1 with lst:=_ } from h2) hb
         ·exact fun hb=>rY h hb
theorem Nk(G:GdB qs files){n:Nat}{k:Int}{s:BSt}(h:okS qs s)(hb:bdB (wrB qs ids files n k s)):okS qs (wrB qs ids files n k s):=⟨by rw[(pI n k s).r];exact h.r,Ff n k s h.b hb,D5 G n k s h.h⟩
structure GdP (qs:List (NdH×Nd))(ids:List Int)(files:List Ino):Prop where
 B:GdB qs files
 xs:∀ q∈qs,dV q.2.xs
 tg:∀ q∈qs,q.2.kind≠3→q.2.tgt=[]
 kd:∀ q∈qs,q.2.kind=1∨q.2.kind=2∨q.2.kind=3
 fo:∀ q∈qs,q.2.kind=2→(files.getD q.2.ino.toNat cI).1 0=2
 fz:∀ q∈qs,q.2.kind≠2→(files.getD q.2.ino.toNat cI).1 0≠2
 ft:∀ f∈files,f.2=[]
 ir:ids.Pairwise (· < ·)
 io:∀ q∈qs,q.2.ud∈ids∧q.2.gd∈ids
 il:ids.length≤1099511627776
theorem GdP.ft0(G:GdP qs ids files)(m:Nat):(files.getD m cI).2=[]:=by
 rw[WW];cases h:files[m]? with
|none=>rfl
|some f=>exact G.ft f (WQ h)
theorem JX(k:Int)(f:Ino)(t:By)(s:BSt)(h:f.2=t):eW qs ids k ((fl0 f).1,t) s=eW qs ids k f s:=by subst h;rfl
end
theorem zS.put{m:List (I6×Value)}{refs:List Int}(h:zS m refs)(x:I6){v:Nat}(hx:1≤x.1)(hl:x.1.toNat<refs.length):zS (cX m x (iV (v:Int))) (refs.set x.1.toNat ((v:Int)+1)):=by
 intro a ha;rw[kF];by_cases e:a=x
 · subst e
   rw[WJ rfl,WW,Xx hl];show _=if 0<(v:Int)+1 then _ else _
   rw[WJ (by omega)];show _=some (Value.int .i64 ((v:Int)+1-1));rw[show (v:Int)+1-1=v by omega]
 · have hne:¬ a.1.toNat=x.1.toNat:=fun h=>e (Subtype.ext (by omega))
   rw[WI e,h a ha];have e2:(refs.set x.1.toNat ((v:Int)+1)).getD a.1.toNat 0=refs.getD a.1.toNat 0:=by
    rw[WW,List.getElem?_set_ne (fun h=>hne h.symm)];rfl
   rw[e2]
theorem Dy{l:List Int}{m:Nat}{v:Int}(h:m<l.length)(h0:0<l.getD m 0)(hv:0<v):((l.set m v).filter (fun r=>decide (0<r))).length=(l.filter (fun r=>decide (0<r))).length:=by
 have e:l=l.take m++l.getD m 0::l.drop (m+1):=by
  rw[show l.getD m 0=l[m] by simp[WW,h],←XI h,Xn]
 have e2:l.set m v=l.take m++v::l.drop (m+1):=List.set_eq_take_append_cons_drop .. |>.trans (by rw[WJ h]);rw[e2]
 conv=>rhs;rw[e]
 rw[X2,X2,Yt (by simpa using hv),Yt (by simpa using h0)];simp
theorem Ak{α:Type}[DecidableEq α]{a:α}{v v0:Value}:∀ {l:List (α×Value)},cQ l a=some v0→(cX l a v).length=l.length
|[],h=>by cases h
|p::r,h=>by
   unfold cQ at h;unfold cX;by_cases e:p.1=a
   ·rw[WJ e];rfl
   · rw[WI e] at h ⊢
     rw[W7,W7,Ak h]
theorem zS.len{m:List (I6×Value)}{refs:List Int}(h:zS m refs)(hn:m.length=(refs.filter (fun r=>decide (0<r))).length)(x:I6){v:Int}(u:Value)(hx:1≤x.1)(hl:x.1.toNat<refs.length)(hv:0<v):(cX m x u).length=((refs.set x.1.toNat v).filter (fun r=>decide (0<r))).length:=by
 have hg:=h x hx;by_cases h0:0<refs.getD x.1.toNat 0
 · rw[WJ h0] at hg
   rw[Ak hg,hn,Dy hl h0 hv]
 · rw[WI h0] at hg
   rw[iM _ hg,WM,hn,yF hl (by omega) hv];rfl
theorem mpQ:tW Tryz.prog 58 3 3 (iV 0):=⟨by kernel_rfl,by kernel_rfl⟩
theorem mpF:tW Tryz.prog 59 3 88 (BT cI):=⟨by kernel_rfl,by kernel_rfl⟩
def PwS(a:PiA)(g tp:Nat)(qs:List (NdH×Nd))(ids:List Int)(files:List Ino)(n:Nat):Prop:=∀ (ow:Nat→Nat) (s:BSt) (k:Int) (W:World),PiX 0 a ow W.heap g tp qs ids files s→(∀ k,W.heap.size≤k→ow k=0)→(0≤k∧k<qs.length)→17≤(ndB qs k).names.length+n→okS qs s→bdB (wrB qs ids files n k s) →
 CA 23 [pT g,iV k] W fun v w'=>v=iV ((wrB qs ids files n k s).refs.getD (ndB qs k).ino.toNat 0-1)∧lI a ow W g tp qs ids files (wrB qs ids files n k s) w'
theorem IR(a:PiA)(g tp:Nat)(qs:List (NdH×Nd))(ids:List Int)(files:List Ino)(G:GdP qs ids files)(n:Nat)(ih:PwS a g tp qs ids files n)(ow:Nat→Nat)(s:BSt)(q:NdH×Nd)(W:World)(hM:PiX 0 a ow W.heap g tp qs ids files s)(hn:∀ k,W.heap.size≤k→ow k=0)(hqv:NdV (fun k=>ow k=4) W.heap q)(hdp:16≤q.2.names.length+n)(hok:okS qs s)
 (K:BSt×List Ent)(hK:wrK (wrB qs ids files n) qs (bP qs q.2.names qs.length) s=K)(hbd:bdB { K.1 with lst:=K.1.lst++(gE K.2).1 }) :
 CA 70 [pT g,.agg (aE q).toArray] W fun v w'=>v=.tuple [iV (bJ K.1.lst K.1.lst.length:Nat),iV (gE K.2).1.length].toArray∧okS qs K.1∧lI a ow W g tp qs ids files { K.1 with lst:=K.1.lst++(gE K.2).1 } w':=by
 obtain⟨hvn,hvd,hvx⟩:=id hqv;have hqn:q.1.names.n=q.2.names.length:=hvn.1;have hn1024:=G.B.n;have hgl:=(WS.1 hM.1.1).1;have hbK:=(BN _ _).bd hbd;refine cS 62 [(0,_),(1,_)] Tryz.func70 ?_;refine Gz 2 ?_;refine To rfl rfl ?_;intro w1 hg1 hs1 hf1;have hg1:w1.heap[W.heap.size]?=some (.cells (aE q).toArray 37 (0,0)):=hg1;obtain⟨b,eb⟩:∃ b,b=W.heap.size:=⟨_,rfl⟩
 rw[←eb] at hg1 ⊢;have hM1:=hM.WG hf1;have hbl:ow b=0:=hn b (by omega);have hg2:=hM1.1.1;refine Gz 11 ?_;refine Tc 9 (fun H=>H[g]?=some (.cells (piC a qs.length ids.length).toArray 62 (0,0))∧H[b]?=some (.cells (aE q).toArray 37 (0,0))) [6] [0,1,2,3,4,5,8,6,7] aI (by kernel_rfl) (⟨hg2,hg1⟩) ?_;refine Gz 5 ?_;refine xC rfl (S3 (u:=.slice q.1.names.a q.2.names.length q.1.names.c) (S9 dW rfl (fun H hH=>aD hH.2 rfl)) (by rw[←hqn];rfl)) ?_;refine Gz 1 ?_;refine S7 rfl rfl (SZ PU rfl (LY a.lo a.lc qs q.1.names.a q.1.names.c q.2.names (w1.drewN 1) (show aO _ w1.heap a.lo a.lc qs from hM1.2.1.1) ((hvn.2.1.WG hf1).WG (V2 1)) (by omega)) rfl ?_);rintro _ w5 ⟨ko,kc,ys,rfl,hoy,hfy,hky,hf5⟩;have hf5:=hf5.WE;refine Tg (by exact⟨hf5.obj hg2 id,hf5.obj hg1 id⟩) ?_;have hfy:Fr w1.heap.size ko:=hfy;have hky:=G.B.k _ _ hky;rw[←hky] at hK;have hysl:ys.length≤qs.length:=by rw[hky];exact vJ _
 have hyv:=hoy.vw;have hy63:=hyv.WF;have hz5:=hf5.size;have hz1:=hf1.size;have hb5:=hf5.obj hg1 id;have hF5:=hf1.trans hf5;have hM5:=hM1.WG hf5;have hlk5:=hoy.lt;have hq5:=hqv.WG hF5;have hb5l:=(WS.1 hb5).1;refine Gz 4 ?_;refine S4 (β:=(Nat×BSt)×((Nat→Nat)×(Option Addr×(Nat×List Ent)))) (fun⟨⟨j,s9⟩,⟨ow9,⟨lo9,⟨lc9,L9⟩⟩⟩⟩=>[(0,pT g),(3,pT b),(6,.slice lo9 L9.length lc9),(18,.slice ko ys.length kc),(19,iV ys.length),(20,iV j)]) (fun⟨⟨j,s9⟩,⟨ow9,⟨lo9,⟨lc9,L9⟩⟩⟩⟩ w=>j≤ys.length∧L9.length=j∧K=((wrK (wrB qs ids files n) qs (ys.drop j) s9).1,L9++(wrK (wrB qs ids files n) qs (ys.drop j) s9).2)∧PiX 0 a ow9 w.heap g tp qs ids files s9∧okS qs s9∧(∀ k,k<w5.heap.size→ow9 k=ow k)∧(∀ k,w.heap.size≤k→ow9 k=0)∧bL 3 nE 157 w.heap lo9 lc9 L9∧(∀ k,blk lo9 k→w5.heap.size≤k∧ow9 k=0)∧(∀ x∈L9,x.1.length≤255)∧aA (Lb ow) w5 w) (fun⟨⟨j,s9⟩,⟨ow9,⟨lo9,⟨lc9,L9⟩⟩⟩⟩=>ys.length-j) ⟨⟨0,s⟩,⟨ow,⟨none,⟨0,[]⟩⟩⟩⟩ ⟨rfl,rfl,rfl,rfl,rfl,rfl,trivial⟩ ⟨WU _,rfl,hK.symm,hM5,hok,fun _ _=>rfl,fun k hk=>hn k (by omega),Wc,(fun k ⟨a,ha,e⟩=>by cases ha),(by simp),VZ _ _⟩ ?_;rintro⟨⟨j,s9⟩,⟨ow9,⟨lo9,⟨lc9,L9⟩⟩⟩⟩ w9 ⟨hj,hLj,hwk,hM9,hok9,hl9,hn9,ho9,hb9l,hL9,hF9⟩;refine fK 2 ?_ ?_<;>intro h21
 ·have hjl:j<ys.length:=by omega
  obtain⟨z,hz⟩:∃ z,ys[j]?=some z:=⟨_,WK hjl⟩
  have hzd:ys.getD j 0=z:=by rw[WW,hz];rfl
  have hzm:=WQ hz;rw[hky] at hzm;obtain⟨i,rfl,hil,hkq⟩:=dZ.1 hzm;obtain⟨r,hr⟩:∃ r,qs[i]?=some r:=⟨_,WK hil⟩
  rw[kM hr] at hkq;obtain⟨hrne,hrdl⟩:=lW.1 hkq;have hrl:r.2.names.length=q.2.names.length+1:=by have h0:=W5.2 hrne;rw[←hrdl,Yd];omega
  have hnr:=eI hr;obtain⟨⟨hr1,hr2⟩,hrnl,hrnc,hrtl,hrxl⟩:=G.B.q r (WQ hr);obtain⟨mr,hmr⟩:=XB (show 0≤r.2.ino by omega);have hdr:ys.drop j=(i:Int)::ys.drop (j+1):=by obtain⟨h,e⟩:=WN.1 hz;rw[←e];exact XI h
  rw[hdr] at hwk;have hb9:bdB (wrB qs ids files n (i:Int) s9):=(vZ (qs:=qs) (pI n) (ys.drop (j+1)) _).bd (by have h:=hbK;rw[hwk] at h;exact h);have hvy9:=hyv.WH hF9 (fun a ha h=>by have h1:=hfy a ha;have h2:=hlk5 a ha;have h:(ow a.block≠0∧ow a.block≠4):=h;exact h.1 (hn _ (by omega)));have hN9:=hM9.2.1.1;refine Gz 10 ?_;refine cL (SY aY rfl rfl hvy9.non (by omega)) ?_;refine cL (S2 aF rfl (hvy9.gz 0 j rfl hjl)) ?_;rw[hzd];refine Gz 2 ?_;refine aW [(0,_),(3,_),(6,_),(8,_),(18,_),(19,_),(20,_),(21,_)] ?_;refine Gz 6 ?_;refine cL (S2 wN rfl (aD hM9.1.1 rfl)) ?_;refine Gz 1 ?_;refine cL (S1 aQ rfl rfl hN9.1.non (by omega)) ?_;refine cL (Tf (cs:=aE r) aZ rfl (fun a v hv=>hN9.1.rowZ i rfl hr a v hv)) ?_;refine S5 eY rfl ?_;intro w11 hg11 hs11 hf11;obtain⟨d,ed⟩:∃ d,d=w9.heap.size:=⟨_,rfl⟩
  rw[←ed] at hg11 ⊢;refine Te (vs:=aE r) aZ rfl rfl (aB r).2 hg11 rfl ?_;intro w12 hd12 hs12 hf12;have hf912:aA nob w9 w12:=hf11.tw hf12;have hM12:=hM9.WG hf912;obtain⟨hrn,_⟩:=hM12.2.1.1.2 r (WQ hr);have hrnn:r.1.names.n=r.2.names.length:=hrn.1;have hb12:=(hF9.trans hf912.any).obj hb5 (fun h=>h.1 hbl);have hz12:=hf912.size;have hz9:=hF9.size;have hn12:∀ k,w12.heap.size≤k→ow9 k=0:=fun k hk=>hn9 k (by omega);have hdl:=hn9 d (by omega);have hl9lt:=ho9.lt;refine Gz 2 ?_;refine Tc 17 (fun H=>H[d]?=some (.cells (aE r).toArray 37 (0,0))∧H[b]?=some (.cells (aE q).toArray 37 (0,0))∧Vw gY H r.1.names.a r.1.names.c r.2.names) [12,14,15] [0,1,2,3,4,5,6,7,8,9,10,11,12,13,14,15,16] aI (by kernel_rfl) (⟨hd12,hb12,hrn.2.1⟩) ?_;refine Gz 2 ?_;refine xC rfl (S3 (u:=.slice r.1.names.a r.2.names.length r.1.names.c) (S9 dW rfl (fun H hH=>aD hH.1 rfl)) (by rw[←hrnn];rfl)) ?_;refine Gz 1 ?_;refine xC rfl (S3 (u:=.slice q.1.names.a q.2.names.length q.1.names.c) (S9 dW rfl (fun H hH=>aD hH.2.1 rfl)) (by rw[←hqn];rfl)) ?_;refine Gz 1 ?_;refine xC rfl (SY jH rfl rfl hrn.2.1.non (by omega)) ?_;refine xC rfl (S9 eG rfl (fun H hH=>hH.2.2.gz [] q.2.names.length rfl (by omega))) ?_;refine Gz 4 ?_;refine S7 rfl rfl (SZ O8 rfl (ih ow9 s9 (i:Int) (w12.drewN 1) hM12 hn12 ⟨by omega,by omega⟩ (by rw[hnr,hrl];omega) hok9 hb9) rfl ?_);rintro _ w13 ⟨rfl,ow13,hM13,hl13,hn13,hf13⟩;have hf13:aA (Lb ow9) w12 w13:=hf13.WE;have hl13:∀ k,k<w12.heap.size→ow13 k=ow9 k:=hl13;have hr13:=hrn.2.1.WH hf13 (fun x hx h=>by have h1:=hrn.2.2 hrne _ ⟨x,hx,rfl⟩;have h:(ow9 x.block≠0∧ow9 x.block≠4):=h;exact h.2 h1);have hd13:=hf13.obj hd12 (fun h=>h.1 hdl);have hb13:=hf13.obj hb12 (fun h=>h.1 (by rw[hl9 b (by omega)];exact hbl));rw[hnr,hmr,Xm];refine Tg (by exact⟨hd13,hb13,hr13⟩) ?_;obtain⟨s10,es10⟩:∃ t,t=wrB qs ids files n (i:Int) s9:=⟨_,rfl⟩
  obtain⟨e,ee⟩:∃ e:Ent,e=(aU r.2.names,r.2.kind,s10.refs.getD mr 0-1):=⟨_,rfl⟩
  have hok10:okS qs s10:=by rw[es10];exact Nk G.B hok9 hb9
  have hwk2:K=((wrK (wrB qs ids files n) qs (ys.drop (j+1)) s10).1,(L9++[e])++(wrK (wrB qs ids files n) qs (ys.drop (j+1)) s10).2):=by
   rw[hwk];show ((wrK (wrB qs ids files n) qs (ys.drop (j+1)) (wrB qs ids files n (i:Int) s9)).1,L9++((aU (ndB qs i).names,(ndB qs i).kind,(wrB qs ids files n (i:Int) s9).refs.getD (ndB qs i).ino.toNat 0-1)::(wrK (wrB qs ids files n) qs (ys.drop (j+1)) (wrB qs ids files n (i:Int) s9)).2))=_;rw[hnr,hmr,Xm,←es10,←ee,W9];rfl
  rw[←es10] at hM13 ⊢;have hz13:=hf13.size;have ho13:=(ho9.WG hf912).WH hf13 (fun x hx h=>h.1 (hb9l _ ⟨x,hx,rfl⟩).2);have hln:r.2.names.getD q.2.names.length []=aU r.2.names:=by unfold aU;rw[hrl];rfl
  rw[hln];refine xC rfl (bU (nE (aU r.2.names,r.2.kind,s10.refs.getD mr 0-1)) IW zU) ?_;rw[←ee];refine S7 rfl rfl (Tu qQ (cs:=(nE e).toArray) zU rfl rfl rfl (by kernel_rfl) rfl ?_);intro w14 hg14 hs14 hf14;have ho14:=bS (e:=157) (xs:=[e]) dQ (by simpa using hg14) (by show 1≤maxLen;decide);refine Tg (by exact⟨hf14.obj hd13 id,hf14.obj hb13 id,hr13.WG hf14⟩) ?_;refine S7 rfl rfl (Th dQ rfl qQ rfl rfl (ho13.WG hf14) (ho14.vw dQ) (by simp only[WP];omega) (by simp only[WP];unfold maxLen;omega) rfl ?_);intro lo15 lc15 w15 ho15 hf15 hr15 hn15;have hz14:=hf14.size;have hz15:=hf15.size;have hn9l:∀ k,blk lo9 k→ow13 k=0∧k<w9.heap.size:=fun k hk=>by
   have hk2:k<w9.heap.size:=by obtain⟨x,hx,hxe⟩:=hk;have:=hl9lt x hx;omega
   exact⟨by rw[hl13 k (by omega)];exact(hb9l k hk).2,hk2⟩
  refine Tg (by exact⟨hf15.obj (hf14.obj hd13 id) (fun h=>by have:=(hn9l d h).2;omega),hf15.obj (hf14.obj hb13 id) (fun h=>by have:=(hb9l b h).1;omega),(hr13.WG hf14).WH hf15 (fun x hx h=>by have h1:=hrn.2.2 hrne _ ⟨x,hx,rfl⟩;have h1:ow9 x.block=4:=h1;have:=(hb9l _ h).2;omega)⟩) ?_;have hM15:=(hM13.WG hf14).step hf15 0 (by decide) (fun k hk=>.inr (hn9l k hk).1) (fun _ _=>rfl);have hF15:aA (Lb ow) w5 w15:=((lA hl9 (hF9.trans hf912.any) hf13).trans hf14.any).WD hf15 (fun k h=>.inr (hb9l k h).1);have hb15:∀ k,blk lo15 k→w5.heap.size≤k∧ow13 k=0:=fun k hk=>by
   obtain⟨x,hx,hxe⟩:=hk;rcases hr15 x hx with h|h
   ·exact⟨(hb9l k ⟨x,h,hxe⟩).1,(hn9l k ⟨x,h,hxe⟩).1⟩
   ·exact⟨by omega,hn13 k (by omega)⟩
  refine Gz 8 ?_;exact aG ⟨⟨j+1,s10⟩,⟨ow13,⟨lo15,⟨lc15,L9++[e]⟩⟩⟩⟩ ⟨by omega,by rw[WM,hLj];rfl,hwk2,hM15,hok10,fun k hk=>by rw[hl13 k (by omega)];exact hl9 k hk,fun k hk=>hn13 k (by omega),ho15,hb15,fun x hx=>by
   rcases Xj.1 hx with hx|hx
   ·exact hL9 x hx
   ·rw[Xg] at hx;subst hx;rw[ee];exact uI hrnc,hF15⟩ (by show ys.length-(j+1)<ys.length-j;omega)
 have hje:ys.drop j=[]:=XU (by omega);rw[hje] at hwk;have hwk:K=(s9,L9):=by rw[hwk];show (s9,L9++[])=(s9,L9);rw[XP]
 subst hwk;have hL9n:L9.length≤1024:=by omega
 refine Gz 12 ?_;refine SZ PT rfl (J6 lo9 lc9 L9 w9 (ho9.vw dQ) (fun x hx=>Xf (hL9 x hx) (by decide)) (by omega)) rfl ?_;rintro _ w10 ⟨o10,c10,rfl,ho10,hfr10,hf10⟩;have hz10:=hf10.size;have hz9:=hF9.size;have hM10:=hM9.WG hf10;refine Gz 6 ?_;refine aW [(0,_),(3,_),(6,_),(10,_),(18,_),(19,_),(20,_),(21,_)] ?_;refine Gz 7 ?_;refine cL (S2 wM rfl (by rw[uO];exact aD (i:=1) hM10.1.1 rfl)) ?_;refine Gz 1 ?_;refine SZ L8 rfl (GY o10 c10 (gE L9).1 w10 hM10 (fun k hk=>hn9 k (by omega)) ho10.vw (by have h:=hbd.2.1;simp only[WM] at h;omega)) rfl ?_;rintro _ w11 ⟨rfl,hP11⟩;refine Gz 8 ?_;refine⟨_,rfl,rfl,hok9,?_⟩;refine lI.trans (W:=W) (s1:=s9) (ow1:=ow9) (w1:=w10) (fun k hk=>hl9 k (by omega)) ((hF5.any.trans hF9).trans hf10.any) hP11
theorem Ey(a:PiA)(g tp:Nat)(qs:List (NdH×Nd))(ids:List Int)(files:List Ino)(G:GdP qs ids files)(n:Nat)(ih:PwS a g tp qs ids files n):PwS a g tp qs ids files (n+1):=by
 intro ow s k W hM hn hk hdp hok hbd;obtain⟨kn,rfl⟩:=XB hk.1;have hkl:kn<qs.length:=by omega
 obtain⟨q,hq⟩:∃ q,qs[kn]?=some q:=⟨_,WK hkl⟩
 have hqm:=WQ hq;have hnd:=eI hq;obtain⟨⟨hi1,hi2⟩,hnl,hnc,htl,hxl⟩:=G.B.q q hqm;obtain⟨m,hm⟩:=XB (show 0≤q.2.ino by omega);have hwr:=D6 (ids:=ids) (files:=files) n s hq hm;obtain⟨⟨hg,hg6⟩,⟨⟨nd1,ndq⟩,nd2⟩,_,_,_,_,_,⟨r5,r1⟩,⟨f7,f1⟩,_⟩:=id hM;obtain⟨mr,hmr,hRM,hmrl⟩:=r1 (by decide);obtain⟨mf,hmf,hFM⟩:=f1 (by decide);have hn1024:=G.B.n;have hlr:=hok.r;have hqv:=ndq q hqm;have hib : -9223372036854775808≤q.2.ino∧q.2.ino≤9223372036854775807:=by omega
 have hrv:=hRM ⟨q.2.ino,hib⟩ hi1;have hfv:=hFM ⟨q.2.ino,hib⟩ hi1;have htn:q.2.ino.toNat=m:=by omega
 rw[show (⟨q.2.ino,hib⟩:I6).1.toNat=m from htn] at hrv hfv;obtain⟨R0,hR0⟩:∃ R0:Ino,R0=if (files.getD m cI).1 0=2 then fl0 (files.getD m cI) else cI:=⟨_,rfl⟩
 have hfe:(cQ mf ⟨q.2.ino,hib⟩).getD (BT cI)=BT R0:=by rw[hfv,hR0];split<;>rfl
 have hR02:R0.2=[]:=by rw[hR0];split;exact G.ft0 m;rfl
 have hfz:=fun h=>G.fz q hqm h;have hfo:=fun h=>G.fo q hqm h;rw[htn] at hfz hfo
 have hi8:q.2.kind≠1→wrB qs ids files (n+1) (kn:Int) s=if 0<s.refs.getD m 0 then s else eW qs ids kn (R0.1,q.2.tgt) s:=fun h=>by
  rw[hwr]
  split
  ·rfl
  · rcases G.kd q hqm with h1|h1|h1
    ·exact absurd h1 h
    · rw[WJ h1,hR0,WJ (hfo h1)]
      exact(JX _ _ _ _ (by rw[G.ft0 m,G.tg q hqm (by omega)])).symm
    ·rw[WI (by omega),WJ h1,hR0,WI (hfz (by omega))];rfl
 refine cS 114 [(0,_),(1,_)] Tryz.func23 ?_;refine Gz 12 ?_;refine cL (S1 aQ rfl rfl nd1.non (by omega)) ?_;refine cL (Tf (cs:=aE q) aZ rfl (fun j v hj=>nd1.rowZ kn rfl hq j v hj)) ?_;refine S5 eY rfl ?_;intro w1 hg1 hs1 hf1;obtain⟨b,eb⟩:∃ b,b=W.heap.size:=⟨_,rfl⟩
 rw[←eb] at hg1 ⊢;refine Te (vs:=aE q) aZ rfl rfl (aB q).2 hg1 rfl ?_;intro w2 hb2 hs2 hf2;have hF2:aA nob W w2:=hf1.tw hf2;have hs1b:w1.heap.size=W.heap.size+1:=hs1;have hs2b:w2.heap.size=w1.heap.size:=hs2;have hg2:=hF2.obj hg id;have hmf2:=hmf.WH hF2 id;refine Gz 4 ?_;refine Tc 12 (fun H=>H[g]?=some (.cells (piC a qs.length ids.length).toArray 62 (0,0))∧H[b]?=some (.cells (aE q).toArray 37 (0,0))∧dM enI H a.r mr) [] [0,1,2,3,4,5,6,7,8,9,10,11] aI (by kernel_rfl) (⟨hg2,hb2,hmr.WH hF2 id⟩) ?_;refine Gz 6 ?_;refine xC rfl (TR mpQ uU (a:=⟨q.2.ino,hib⟩) rfl rfl (fun H hH=>hH.2.2)) ?_;refine Gz 9 ?_;refine TE (Tm (Ta rfl)) rfl (fun h29=>?_) (fun h29=>?_)
 ·have h29:=of_decide_eq_true h29;have hpos:0<s.refs.getD m 0:=WV fun hc=>by rw[hrv,WI hc] at h29;cases h29
  have hgv:(cQ mr ⟨q.2.ino,hib⟩).getD (iV 0)=iV (s.refs.getD m 0-1):=by rw[hrv,WJ hpos];rfl
  rw[hgv];rw[WJ hpos] at hwr;refine Gz 12 ?_;exact⟨_,rfl,by rw[hwr,hnd,htn],by rw[hwr];exact⟨ow,hM.WG (hF2.draws 1),fun _ _=>rfl,fun k hk=>hn k (by have hk:w2.heap.size≤k:=hk;omega),(hF2.draws 1).any⟩⟩
 have hpos:¬ 0<s.refs.getD m 0:=fun hc=>h29 (WO (by rw[hrv,WJ hc];rfl));rw[WI hpos] at hwr;refine Gz 6 ?_;refine Tc 8 (fun H=>H[g]?=some (.cells (piC a qs.length ids.length).toArray 62 (0,0))∧H[b]?=some (.cells (aE q).toArray 37 (0,0))∧dM enI H a.f mf) [7,8] [0,1,2,3,4,5,6,7,8] aI (by kernel_rfl) (⟨hg2,hb2,hmf2⟩) ?_;refine Gz 6 ?_;refine xC rfl (S3 (u:=BT R0) (Uk mpF uU (a:=⟨q.2.ino,hib⟩) rfl rfl (fun H hH=>hH.2.2)) hfe) ?_;refine S7 rfl rfl (S5 Cn rfl ?_);intro w3 hg3 hs3 hf3;have hf3:=hf3.WE.WE;obtain⟨c,ec⟩:∃ c,c=w2.heap.size:=⟨_,rfl⟩
 rw[show ((w2.drewN 1).drewN 1).heap.size=c from ec.symm] at hg3 ⊢;refine Tg (by exact⟨hf3.obj hg2 id,hf3.obj hb2 id,hmf2.WH hf3 id⟩) ?_;refine S7 rfl rfl (Te (vs:=oY R0) lD rfl rfl (lY _ _) hg3 rfl ?_);intro w4 hc4 hs4 hf4;refine Tx rfl ?_;have hf4:aA (· = c) w3 w4:=hf4;have hf24:aA nob w2 w4:=hf3.tw hf4;have hF4:=hF2.trans hf24;have hs3b:w3.heap.size=w2.heap.size+1:=hs3;have hs4b:w4.heap.size=w3.heap.size:=hs4;have hb4:=hf24.obj hb2 id;have hM4:=hM.WG hF4;have hg4:=hF4.obj hg id;have hbl:ow b=0:=hn b (by omega);have hcl:ow c=0:=hn c (by omega);have hn4:∀ k,w4.heap.size≤k→ow k=0:=fun k hk=>hn k (by omega);have hbc:b≠c:=by omega
 have hc4:w4.heap[c]?=some (.cells (bN R0.1 []).toArray 88 (0,0)):=by rw[←hR02];exact hc4
 refine Gz 2 ?_;refine Tw (β:=(BSt×Ino)×(Nat→Nat)) (fun⟨⟨s8,i8⟩,ow8⟩=>[(0,pT g),(1,iV (kn:Int)),(5,pT b),(8,pT c)]) (fun⟨⟨s8,i8⟩,ow8⟩ w=>PiX 0 a ow8 w.heap g tp qs ids files s8∧w.heap[b]?=some (.cells (aE q).toArray 37 (0,0))∧w.heap[c]?=some (.cells (bN i8.1 []).toArray 88 (0,0))∧wrB qs ids files (n+1) (kn:Int) s=eW qs ids kn i8 s8∧i8.2=q.2.tgt∧okS qs s8∧s8.refs.getD m 0=s8.refs.getD m 0∧(∀ k,k<w4.heap.size→ow8 k=ow k)∧(∀ k,w.heap.size≤k→ow8 k=0)∧aA (fun k=>Lb ow k∨k=c) w4 w) ?_ ?_
 ·refine fK 4 ?_ ?_<;>intro h40
  ·obtain⟨K,hK⟩:∃ K,wrK (wrB qs ids files n) qs (bP qs q.2.names qs.length) s=K:=⟨_,rfl⟩
   rw[WI (by omega),WI (by omega),WJ h40,hK] at hwr;have hbK:bdB { K.1 with lst:=K.1.lst++(gE K.2).1 }:=(kP (qs:=qs) (ids:=ids) _ _ _).bd (show bdB _ from hwr ▸ hbd);rw[hR0,WI (hfz (by omega))] at hc4;refine Gz 5 ?_;refine cL (Tf (cs:=aE q) aZ rfl (bI hb4 0 rfl)) ?_;refine SZ Sb rfl (IR a g tp qs ids files G n ih ow s q w4 hM4 hn4 (hqv.WG hF4) (by rw[hnd] at hdp;omega) hok K hK hbK) rfl ?_;rintro _ w5 ⟨rfl,hokK,ow5,hM5,hl5,hn5,hf5⟩;have hz5:=hf5.size;have hb5:=hf5.obj hb4 (fun h=>h.1 hbl);have hc5:=hf5.obj hc4 (fun h=>h.1 hcl);have hc5l:ow5 c=0:=by rw[hl5 c (by omega)];exact hcl
   refine Gz 4 ?_;refine S6 aF rfl rfl rfl hc5 rfl ?_;intro w6 hc6 hs6 hf6;have hb6:=hf6.obj hb5 hbc;have hM6:=hM5.step hf6 0 (by decide) (fun k hk=>.inr (by have h:k=c:=hk;rw[h];exact hc5l)) (fun _ _=>rfl);have hs6b:w6.heap.size=w5.heap.size:=hs6;refine Gz 1 ?_;refine S6 aF rfl rfl rfl hc6 rfl ?_;intro w7 hc7 hs7 hf7;have hb7:=hf7.obj hb6 hbc;have hM7:=hM6.step hf7 0 (by decide) (fun k hk=>.inr (by have h:k=c:=hk;rw[h];exact hc5l)) (fun _ _=>rfl);have hs7b:w7.heap.size=w6.heap.size:=hs7;refine Gz 1 ?_;refine aC ⟨⟨{ K.1 with lst:=K.1.lst++(gE K.2).1 },EX K.1 (gE K.2).1⟩,ow5⟩ ⟨hM7,hb7,hc7,hwr,(G.tg q hqm (by omega)).symm,⟨hokK.r,hokK.b,hokK.h⟩,rfl,fun k hk=>hl5 k hk,fun k hk=>hn5 k (by omega),?_⟩;exact(hf5.mono (fun k h=>.inl h)).trans ((hf6.mono (fun k h=>.inr h)).trans (hf7.mono (fun k h=>.inr h)))
  have h8:=hi8 h40;rw[WI hpos] at h8;refine Gz 4 ?_;exact aC ⟨⟨s,(R0.1,q.2.tgt)⟩,ow⟩ ⟨hM4,hb4,hc4,h8,rfl,hok,rfl,fun _ _=>rfl,hn4,VZ _ _⟩
 rintro⟨⟨s8,i8⟩,ow8⟩ w8 ⟨hM8,hb8,hc8,hw8,ht8,hok8,_,hl8,hn8,hF8⟩;refine Gz 1 ?_;refine Tc 20 (fun H=>H[b]?=some (.cells (aE q).toArray 37 (0,0))∧H[g]?=some (.cells (piC a qs.length ids.length).toArray 62 (0,0))) [12,14,16,18,20] [0,1,2,3,4,5,6,7,8,9,10,11,13,12,14,15,16,17,18,19,20] aI (by kernel_rfl) (⟨hb8,hM8.1.1⟩) ?_;refine Gz 1 ?_;have hz8:=hF8.size;have hcs:c<w4.heap.size:=by omega
 have hbs:b<w4.heap.size:=by omega
 have hc8l:ow8 c=0:=by rw[hl8 c hcs];exact hcl
 have hb8l:ow8 b=0:=by rw[hl8 b hbs];exact hbl
 have kc:∀ {w w2:World},PiX 0 a ow8 w.heap g tp qs ids files s8→aA (· = c) w w2→PiX 0 a ow8 w2.heap g tp qs ids files s8:=fun hM hf=>hM.step hf 0 (by decide) (fun k hk=>.inr (by have h:k=c:=hk;rw[h];exact hc8l)) (fun _ _=>rfl);obtain⟨R,hR⟩:∃ R,R=bT s8 q.2.xs:=⟨_,rfl⟩
 have hfix:eW qs ids (kn:Int) i8 s8 = { R.2 with ino:=R.2.ino++(iO (inB qs ids kn i8 R.1).1 (inB qs ids kn i8 R.1).2).1,refs:=R.2.refs.set m ((bJ R.2.ino R.2.ino.length:Nat)+1),many:=R.2.many+1 }:=by unfold eW;rw[hnd,←hR,hm,Xm]
 have hbF:bdB R.2:=by have h:=(rX (qs:=qs) (ids:=ids) kn i8 s8).bd (by rw[←hw8];exact hbd);rw[hnd,←hR] at h;exact h
 have hbT:R.2.ino.length+(iO (inB qs ids kn i8 R.1).1 (inB qs ids kn i8 R.1).2).1.length≤137438953472:=by have h:=hbd.1;rw[hw8,hfix] at h;simp only[WM] at h;exact h
 refine Gz 3 ?_;refine xC rfl (S9 aF rfl (fun H hH=>aD (i:=3) hH.1 rfl)) ?_;refine Gz 8 ?_;refine S7 rfl rfl (SZ Sa rfl (Jh a.lo a.lc qs kn (w8.drewN 1) (show aO _ w8.heap a.lo a.lc qs from hM8.2.1.1)) rfl ?_);rintro _ w9 ⟨rfl,hf9⟩;have hf9:=hf9.WE;refine Tg (by exact⟨hf9.obj hb8 id,hf9.obj hM8.1.1 id⟩) ?_;have hz9:=hf9.size;have hc9:=hf9.obj hc8 id;have hb9:=hf9.obj hb8 id;have hg9:=hf9.obj hM8.1.1 id;have hgc:g≠c:=fun e=>by have h:=hM8.1.2;rw[e,hc8l] at h;cases h
 have hM9:=hM8.WG hf9;refine S7 rfl rfl (S6 aF rfl rfl rfl hc9 rfl ?_);intro w10 hc10 hs10 hf10;have hb10:=hf10.obj hb9 hbc;have hg10:=hf10.obj hg9 hgc;refine Tg (by exact⟨hb10,hg10⟩) ?_;have hs10b:w10.heap.size=w9.heap.size:=hs10;refine Gz 1 ?_;refine S7 rfl rfl (S6 aF rfl rfl rfl hc10 rfl ?_);intro w11 hc11 hs11 hf11;have hb11:=hf11.obj hb10 hbc;have hg11:=hf11.obj hg10 hgc;refine Tg (by exact⟨hb11,hg11⟩) ?_;have hs11b:w11.heap.size=w10.heap.size:=hs11;refine Gz 1 ?_;refine S7 rfl rfl (S6 eG rfl rfl rfl hc11 rfl ?_);intro w12 hc12 hs12 hf12;have hb12:=hf12.obj hb11 hbc;have hg12:=hf12.obj hg11 hgc;refine Tg (by exact⟨hb12,hg12⟩) ?_;have hs12b:w12.heap.size=w11.heap.size:=hs12;refine Gz 1 ?_;refine S7 rfl rfl (S6 aF rfl rfl rfl hc12 rfl ?_);intro w13 hc13 hs13 hf13;refine Tx rfl ?_;have hs13b:w13.heap.size=w12.heap.size:=hs13;have hM13:=kc (kc (kc (kc hM9 hf10) hf11) hf12) hf13;have hb13:=hf13.obj (hf12.obj (hf11.obj (hf10.obj hb9 hbc) hbc) hbc) hbc;refine Gz 3 ?_;refine Tc 13 (fun H=>H[g]?=some (.cells (piC a qs.length ids.length).toArray 62 (0,0))∧H[b]?=some (.cells (aE q).toArray 37 (0,0))) [7,12] [0,1,2,3,4,5,6,7,8,9,10,11,12] aI (by kernel_rfl) (⟨hM13.1.1,hb13⟩) ?_;refine Gz 6 ?_;refine xC rfl (S9 aF rfl (fun H hH=>aD (i:=4) hH.2 rfl)) ?_;refine S7 rfl rfl (SZ OV rfl (Kz a.io a.ic ids q.2.ud (w13.drewN 1) (show Vw i64 w13.heap a.io a.ic ids from hM13.2.2.1.1) G.ir (G.io q hqm).1 G.il) rfl ?_);rintro _ w14 ⟨rfl,hw⟩;subst hw;refine Tg (by exact⟨hM13.1.1,hb13⟩) ?_;refine Gz 4 ?_;refine S7 rfl rfl (S6 aF rfl rfl rfl hc13 rfl ?_);intro w15 hc15 hs15 hf15;have hf15:=hf15.WE;have hb15:=hf15.obj hb13 hbc;refine Tg (by exact⟨hf15.obj hM13.1.1 hgc,hb15⟩) ?_;have hM15:=kc hM13 hf15;have hs15b:w15.heap.size=w13.heap.size:=hs15;refine Gz 3 ?_;refine Tc 13 (fun H=>H[g]?=some (.cells (piC a qs.length ids.length).toArray 62 (0,0))∧H[b]?=some (.cells (aE q).toArray 37 (0,0))) [7,12] [0,1,2,3,4,5,6,7,8,9,10,11,12] aI (by kernel_rfl) (⟨hM15.1.1,hb15⟩) ?_;refine Gz 6 ?_;refine xC rfl (S9 aF rfl (fun H hH=>aD (i:=5) hH.2 rfl)) ?_;refine S7 rfl rfl (SZ OV rfl (Kz a.io a.ic ids q.2.gd (w15.drewN 1) (show Vw i64 w15.heap a.io a.ic ids from hM15.2.2.1.1) G.ir (G.io q hqm).2 G.il) rfl ?_);rintro _ w16 ⟨rfl,hw⟩;subst hw;refine Tg (by exact⟨hM15.1.1,hb15⟩) ?_;refine Gz 4 ?_;refine S7 rfl rfl (S6 aF rfl rfl rfl hc15 rfl ?_);intro w17 hc17 hs17 hf17;have hf17:=hf17.WE;have hb17:=hf17.obj hb15 hbc;refine Tg (by exact⟨hf17.obj hM15.1.1 hgc,hb17⟩) ?_;have hM17:=kc hM15 hf17;have hs17b:w17.heap.size=w15.heap.size:=hs17;have hn17:∀ k,w17.heap.size≤k→ow8 k=0:=fun k hk=>hn8 k (by omega);refine Gz 5 ?_;refine cL (Tf (cs:=aE q) aZ rfl (bI hb17 0 rfl)) ?_;refine SZ R9 rfl (IX a ow8 g tp qs ids files s8 q w17 hM17 hn17 (hM17.2.1.1.2 q hqm) (G.xs q hqm) (by have h:=(vL s8 q.2.xs).f;rw[←hR] at h;have:=hbF.2.2.1;omega) hok8.b.2) rfl ?_;rw[←hR];rintro _ w18 ⟨rfl,ow18,hM18,hl18,hn18,hf18⟩;have hz18:=hf18.size;have hb18:=hf18.obj hb17 (fun h=>h.1 hb8l);have hc18:=hf18.obj hc17 (fun h=>h.1 hc8l);have hc18l:ow18 c=0:=by rw[hl18 c (by omega)];exact hc8l
 have hb18l:ow18 b=0:=by rw[hl18 b (by omega)];exact hb8l
 refine Gz 1 ?_;refine S6 aF rfl rfl rfl hc18 rfl ?_;intro w19 hc19 hs19 hf19;have hs19b:w19.heap.size=w18.heap.size:=hs19;have hb19:=hf19.obj hb18 hbc;have hM19:=hM18.step hf19 0 (by decide) (fun k hk=>.inr (by have h:k=c:=hk;rw[h];exact hc18l)) (fun _ _=>rfl);have hcF:w19.heap[c]?=some (.cells (bN (inB qs ids kn i8 R.1).1 (inB qs ids kn i8 R.1).2).toArray 88 (0,0)):=by unfold inB;rw[hnd,ht8];exact hc19
 refine Gz 4 ?_;refine cL (Tf (cs:=bN (inB qs ids kn i8 R.1).1 (inB qs ids kn i8 R.1).2) lD rfl (bI hcF 0 rfl)) ?_;refine SZ R8 rfl (Nv (inB qs ids kn i8 R.1).1 (inB qs ids kn i8 R.1).2 w19 (by show i8.2.length≤maxLen;rw[ht8];unfold maxLen;omega)) rfl ?_;rintro _ w20 ⟨o20,c20,rfl,ho20,hfr20,hf20⟩;have hz20:=hf20.size;have hb20:=hf20.obj hb19 id;have hM20:=hM19.WG hf20;refine Gz 13 ?_;refine cL (S2 wM rfl (by rw[uO];exact aD (i:=0) hM20.1.1 rfl)) ?_;refine Gz 1 ?_;refine SZ L8 rfl (GZ o20 c20 (iO (inB qs ids kn i8 R.1).1 (inB qs ids kn i8 R.1).2).1 w20 hM20 (fun k hk=>hn18 k (by omega)) ho20.vw (by omega)) rfl ?_;rintro _ w21 ⟨rfl,ow21,hM21,hl21,hn21,hf21⟩;have hz21:=hf21.size;have hb21:=hf21.obj hb20 (fun h=>h.1 hb18l);obtain⟨s21,es21⟩:∃ t:BSt,t = { R.2 with ino:=R.2.ino++(iO (inB qs ids kn i8 R.1).1 (inB qs ids kn i8 R.1).2).1 }:=⟨_,rfl⟩
 have zr:s21.refs=R.2.refs:=by rw[es21]
 have zm:s21.many=R.2.many:=by rw[es21]
 rw[←es21] at hM21;obtain⟨⟨hg21,_⟩,_,_,_,_,_,_,⟨r521,r121⟩,_⟩:=id hM21;obtain⟨mr21,hmr21,hRM21,hmrl21⟩:=r121 (by decide);refine Gz 4 ?_;refine Tc 7 (fun H=>H[g]?=some (.cells (piC a qs.length ids.length).toArray 62 (0,0))∧H[b]?=some (.cells (aE q).toArray 37 (0,0))) [7] [0,1,2,3,4,5,6,7] aI (by kernel_rfl) (⟨hg21,hb21⟩) ?_;refine Gz 7 ?_;refine S7 rfl rfl (TH mpQ uU (a:=(⟨q.2.ino,hib⟩:I6)) rfl rfl rfl hmr21 ?_);intro w22 hm22 hs22 hf22;refine Tx rfl ?_;have hf22:aA (· = a.r) w21 w22:=hf22.WE;refine Gz 10 ?_;have hRl:R.2.refs.length=qs.length+1:=by rw[hR,(vL s8 q.2.xs).r];exact hok8.r
 rw[hw8,hfix];refine⟨_,rfl,?_,?_⟩
 · rw[hnd,htn]
   show _=Value.int .i64 ((R.2.refs.set m (((bJ R.2.ino R.2.ino.length:Nat):Int)+1)).getD m 0-1);rw[WW,Xx (by omega)];show _=Value.int .i64 (((bJ R.2.ino R.2.ino.length:Nat):Int)+1-1);rw[show ((bJ R.2.ino R.2.ino.length:Nat):Int)+1-1=(bJ R.2.ino R.2.ino.length:Nat) by omega]
 · have hst:=hM21.step hf22 5 (by decide) (fun k hk=>.inl (by have h:k=a.r:=hk;rw[h];exact r521)) (fun _ _=>rfl)
   obtain⟨c0,c1,c2,c3,c4,c5,c6,⟨c7,_⟩,c8,c9⟩:=hst;subst es21;have h1l:R.2.refs.length=qs.length+1:=hRl;have hp1:=hRM21.put ⟨q.2.ino,hib⟩ (v:=bJ R.2.ino R.2.ino.length) hi1 (by show q.2.ino.toNat<R.2.refs.length;omega);have hp2:=zS.len hRM21 hmrl21 ⟨q.2.ino,hib⟩ (v:=((bJ R.2.ino R.2.ino.length:Nat):Int)+1) (iV ((bJ R.2.ino R.2.ino.length:Nat):Int)) hi1 (by show q.2.ino.toNat<R.2.refs.length;omega) (by omega);rw[show (⟨q.2.ino,hib⟩:I6).1.toNat=m from htn] at hp1 hp2;have hz22:=hf22.size;have A8:aA (Lb ow) W w8:=(hF4.any (S:=Lb ow)).WD hF8 (fun k h=>h.elim .inl (fun h=>.inr (by omega)));have A13:aA (Lb ow) W w13:=((((A8.trans hf9.any).tw hf10).tw hf11).tw hf12).tw hf13;have A17:aA (Lb ow) W w17:=(A13.tw hf15).tw hf17;have l8:∀ k,k<W.heap.size→ow8 k=ow k:=fun k hk=>hl8 k (by omega);have l18:∀ k,k<W.heap.size→ow18 k=ow k:=fun k hk=>by rw[hl18 k (by omega),l8 k hk]
   have l21:∀ k,k<W.heap.size→ow21 k=ow k:=fun k hk=>by rw[hl21 k (by omega),l18 k hk]
   have A19:aA (Lb ow) W w19:=(lA l8 A17 hf18).tw hf19;have A21:aA (Lb ow) W w21:=lA l18 (A19.trans hf20.any) hf21;refine⟨ow21,⟨c0,c1,c2,c3,fun _=>c4 (by decide),fun _=>c5 (by decide),fun _=>c6 (by decide),⟨c7,fun _=>⟨_,hm22,hp1,hp2⟩⟩,c8.imp id (fun h _=>h (by decide)),c9.imp id (fun h _=>h (by decide))⟩,l21,fun k hk=>hn21 k (by omega),A21.WD hf22 (fun k h=>?_)⟩;have h:k=a.r:=h;by_cases hk:k<W.heap.size
   · refine .inl ?_
     rw[h] at hk ⊢;show ow a.r≠0∧ow a.r≠4;rw[r5];decide
   ·exact .inr (by omega)
theorem Ax(a:PiA)(g tp:Nat)(qs:List (NdH×Nd))(ids:List Int)(files:List Ino)(G:GdP qs ids files):∀ (n:Nat),PwS a g tp qs ids files n
|0=>fun ow s k W hM hn hk hdp hok hbd=>by
   exfalso;obtain⟨kn,rfl⟩:=XB hk.1;obtain⟨q,hq⟩:∃ q,qs[kn]?=some q:=⟨_,WK (by omega)⟩
   have h:=(G.B.q q (WQ hq)).2.1;rw[eI hq] at hdp;omega
|n+1=>Ey a g tp qs ids files G n (Ax a g tp qs ids files G n)
end
section
open Go Go.RowKit Go.Maps
theorem AH{α:Type}[DecidableEq α]:∀ (l m:List α),l.Nodup→(∀ x∈l,x∈m)→l.length≤m.length
|[],_,_,_=>WU _
|x::r,m,hn,h=>by
   have hx:=h x (by simp);have h1:=List.nodup_cons.1 hn;have h2:=AH r (m.erase x) h1.2 (fun y hy=>(List.mem_erase_of_ne (fun e=>h1.1 (by rw[←e];exact hy))).2 (h y (by simp[hy])));rw[List.length_erase_of_mem hx] at h2;have:=List.length_pos_of_mem hx;rw[W7];omega
theorem oO{qs:List (NdH×Nd)}{ids:List Int}(h:mX qs ids):ids.length≤2*qs.length:=by
 have:=AH ids (iP qs) (h.1.imp (fun h=>by omega)) (fun x hx=>(h.2 x).1 hx);rw[qY] at this;exact this
theorem FH{ids:List Int}{z:Int}(h:z∈ids):0≤nO ids z∧nO ids z<ids.length∧ids.getD (nO ids z).toNat 0=z:=by
 unfold nO;cases hf:ids.findIdx? (fun x=>decide (x=z)) with
|none=>
   rw[X8] at hf;have:=hf z h;simp at this
|some i=>
   rw[XN] at hf;obtain⟨hi,h1,_⟩:=hf;have h1:ids[i]=z:=by simpa using h1
   refine⟨Yv _,by show (i:Int)<_;omega,?_⟩;show ids.getD ((i:Int)).toNat 0=z;rw[Xm,WW,WK hi];exact h1
theorem vE{qs:List (NdH×Nd)}{q:NdH×Nd}(h:q∈qs):q.2.ud∈iP qs∧q.2.gd∈iP qs:=by
 obtain⟨i,hi⟩:=W8 h;have hl:=(WN.1 hi).1;have hz:=qY qs;have g:∀ j,j<2*qs.length→(iP qs).getD j 0∈iP qs:=fun j hj=>by
  rw[WW,WK (by omega)];exact XE _
 obtain⟨k0,k1⟩:=BG qs i q hi;refine⟨?_,?_⟩
 · have:=g (2*i) (by omega)
   rw[k0] at this;exact this
 · have:=g (2*i+1) (by omega)
   rw[k1] at this;exact this
theorem Mq{qs:List (NdH×Nd)}{q:NdH×Nd}(h:q∈qs):1≤kR qs q.2.ino:=by
 unfold kR;have:0<qs.countP (fun p=>decide (p.2.ino=q.2.ino)):=List.countP_pos_iff.2 ⟨q,h,by simp⟩;omega
section
variable {qs:List (NdH×Nd)}{ids:List Int}{fs:FSt}(G:GdT qs)(I:mX qs ids)(F:FI (nds qs) (qs.length+1) fs)
include G
theorem GdT.one{k:Nat}{q:NdH×Nd}(hq:qs[k]?=some q)(hk:q.2.kind=1):kR qs q.2.ino=1:=by
 have hl:=(WN.1 hq).1;have hz:∀ L:List (NdH×Nd),(∀ p∈L,p.2.ino≠q.2.ino)→L.countP (fun p=>decide (p.2.ino=q.2.ino))=0:=fun L h=>List.countP_eq_zero.2 (fun p hp=>by simpa using h p hp);have e:qs=qs.take k++q::qs.drop (k+1):=by rw[←(WN.1 hq).2,List.getElem_cons_drop,Xn]
 unfold kR;have h1:(qs.take k).countP (fun p=>decide (p.2.ino=q.2.ino))=0:=hz _ (fun p hp he=>by
  obtain⟨j,hj⟩:=W8 hp;rw[List.getElem?_take] at hj
  split at hj
  · rename_i hlt
    exact(G.lnk k j q p (by omega) hq hj he.symm).1 hk
  ·cases hj)
 have h2:(qs.drop (k+1)).countP (fun p=>decide (p.2.ino=q.2.ino))=0:=hz _ (fun p hp he=>by
  obtain⟨j,hj⟩:=W8 hp;rw[X1] at hj;exact(G.lnk k (k+1+j) q p (by omega) hq hj he.symm).1 hk)
 have h3:qs.countP (fun p=>decide (p.2.ino=q.2.ino))=(qs.take k).countP (fun p=>decide (p.2.ino=q.2.ino))+(1+(qs.drop (k+1)).countP (fun p=>decide (p.2.ino=q.2.ino))):=by
  conv=>lhs;rw[e]
  rw[List.countP_append,List.countP_cons_of_pos (by simp)];omega
 rw[h3,h1,h2];rfl
theorem GdT.same{q x:NdH×Nd}(hq:q∈qs)(hx:x∈qs)(e:x.2.ino=q.2.ino):Alk x.2 q.2:=by
 obtain⟨i,hi⟩:=W8 hx;obtain⟨j,hj⟩:=W8 hq;by_cases h:i=j
 ·subst h;rw[hi] at hj;cases hj;exact Wk _
 ·exact(G.lnk i j x q h hi hj e).2
include F in
theorem Mf {q:NdH×Nd} (hq:q∈qs) (hk:q.2.kind=2):FOk fs.ds.B fs.tails q.2.data (fs.files.getD q.2.ino.toNat cI):=by
 have hi:=G.ino q hq;have hl:=F.l;obtain⟨f,hf⟩:∃ f,fs.files[q.2.ino.toNat]?=some f:=⟨_,WK (by omega)⟩
 have hd:fs.files.getD q.2.ino.toNat cI=f:=by rw[WW,hf];rfl
 have ha:=F.a q.2 (Xq.2 ⟨q,hq,rfl⟩) hk;rw[hd] at ha ⊢;rcases F.f _ f hf with e|⟨x,hx,h1,h2,h3⟩
 ·rw[e] at ha;exact absurd (show (0:Int)=2 from ha) (by decide)
 · obtain⟨p,hp,rfl⟩:=Xq.1 hx
   have:=G.ino p hp;have e:=G.same hq hp (by omega);rw[←e.2.2.2.2.1];exact h3
omit G in
theorem ME {B:By} {L:List By} {d:By} {f:Ino} (h:FOk B L d f) (hL:zR L):∃ st fr off:Nat,f=(fun j=>[2,0,0,0,0,0,(st:Int),(d.length:Int),(fr:Int),(off:Int)].getD j 0,[])∧st≤64+B.length∧fr≤L.length∧(0<fr↔0<d.length%128)∧off<128∧(0<fr∨off=0)∧E6 B d st∧TlS L (cO d) fr off:=by
 obtain⟨st,fr,off,h1,h2,h3⟩:=h;have ht:(cO d).length=d.length%128:=by unfold cO;rw[WX];omega
 have hs:st≤64+B.length:=by
  rcases h2 with⟨_,e⟩|⟨_,pre,rest,e1,e2⟩
  ·omega
  ·rw[e1,e2,WM];omega
 refine⟨st,fr,off,h1,hs,?_⟩;have h3':=h3;rcases h3 with⟨e1,e2,e3⟩|⟨e0,n,a,z,e1,e2,e3,e4⟩
 · rw[e1] at ht
   have ht:0=d.length%128:=ht;exact⟨by omega,by omega,by omega,.inr e3,h2,h3'⟩
 · have hb:=hL (L.getD n []) (by rw[WW,WK e1];exact XE _)
   rw[e4,WM,WM] at hb;exact⟨by omega,by omega,by omega,.inl (by omega),h2,h3'⟩
include I F in
theorem BL {k:Nat} {q:NdH×Nd} (hq:qs[k]?=some q) {i:Ino} {xr:Int} (hx:0≤xr∧xr≤4294967295)
 (h2:q.2.kind=2→i=fs.files.getD q.2.ino.toNat cI) (h3:q.2.kind=3→i=(zF,q.2.tgt)) (h1:q.2.kind=1→∃ a n:Nat,i=(fun j=>if j=6 then (a:Int) else if j=7 then (n:Int) else 0,[])∧a≤4294967295∧n≤1048576) :
 jS (inB qs ids k i xr).1 (inB qs ids k i xr).2:=by
 have hm:=WQ hq;have hkl:=(WN.1 hq).1;obtain⟨⟨k1,k3⟩,_,m1,m2,m3,m4,m5,m6,_⟩:=G.may q hm;have hn:=G.n;have hil:=oO I;obtain⟨o1,o2⟩:=vE hm;obtain⟨u1,u2,_⟩:=FH ((I.2 _).2 o1);obtain⟨g1,g2,_⟩:=FH ((I.2 _).2 o2);have hl:rK qs (k:Int)=kR qs q.2.ino:=vH ⟨by omega,by omega⟩ (by rw[Xm];exact hq);have hc:=EZ qs q.2.ino;have hc1:=Mq hm;have hnd:=eI hq;have f0:(inB qs ids k i xr).1 0=q.2.kind:=by unfold inB;rw[hnd];rfl
 have f1:(inB qs ids k i xr).1 1=q.2.md:=by unfold inB;rw[hnd];rfl
 have f2:(inB qs ids k i xr).1 2=nO ids q.2.ud:=by unfold inB;rw[hnd];rfl
 have f3:(inB qs ids k i xr).1 3=nO ids q.2.gd:=by unfold inB;rw[hnd];rfl
 have f4:(inB qs ids k i xr).1 4=kR qs q.2.ino:=by rw[←hl];rfl
 have f5:(inB qs ids k i xr).1 5=xr:=rfl;have f6:(inB qs ids k i xr).1 6=i.1 6:=rfl;have f7:(inB qs ids k i xr).1 7=i.1 7:=rfl;have f8:(inB qs ids k i xr).1 8=i.1 8:=rfl;have f9:(inB qs ids k i xr).1 9=i.1 9:=rfl;have ft:(inB qs ids k i xr).2=i.2:=rfl;unfold jS bH;rw[f0,f1,f2,f3,f4,f5,f6,f7,f8,f9,ft];by_cases c2:q.2.kind=2
 · have hf:=Mf G F hm c2
   rw[←h2 c2] at hf;obtain⟨st,fr,off,rfl,a1,a2,a3,a4,a5,_,_⟩:=ME hf F.t;have hB:=F.b;have hT:=F.tn;rw[W2] at hB hT;refine⟨⟨by omega,by omega,by omega,by omega,by omega,by omega,by omega,by omega,by omega,by omega,.inl ⟨c2,?_⟩⟩,fun h=>by omega⟩;show 0≤((q.2.data.length:Nat):Int)∧((q.2.data.length:Nat):Int)≤4096∧0≤((fr:Nat):Int)∧((fr:Nat):Int)≤1024∧(0<((fr:Nat):Int)↔0<((q.2.data.length:Nat):Int)%128)∧0≤((st:Nat):Int)∧((st:Nat):Int)≤4294967295∧0≤((off:Nat):Int)∧((off:Nat):Int)<128∧(0<((fr:Nat):Int)∨((off:Nat):Int)=0)∧([]:By).length=0;refine⟨by omega,by omega,by omega,by omega,by omega,by omega,by omega,by omega,by omega,by omega,rfl⟩
 · by_cases c3:q.2.kind=3
   · unfold okT at m6
     rw[WJ c3] at m6;have hp:=W5.2 m6.1;rw[h3 c3];refine⟨⟨by omega,by omega,by omega,by omega,by omega,by omega,by omega,by omega,by omega,by omega,.inr (.inr ⟨c3,by show 1≤q.2.tgt.length;omega,m6.2.1,rfl,rfl,rfl,rfl⟩)⟩,fun _=>m6.2.2⟩
   · have c1:q.2.kind=1:=by omega
     obtain⟨a,n,rfl,ha,hn2⟩:=h1 c1;have h11:=G.one hq c1;refine⟨⟨by omega,by omega,by omega,by omega,by omega,by omega,by omega,by omega,by omega,by omega,.inr (.inl ⟨c1,?_⟩)⟩,fun h=>by omega⟩;show 0≤((a:Nat):Int)∧((a:Nat):Int)≤4294967295∧0≤((n:Nat):Int)∧((n:Nat):Int)≤1048576∧kR qs q.2.ino=1∧(0:Int)=0∧(0:Int)=0∧([]:By).length=0;exact⟨by omega,by omega,by omega,by omega,h11,rfl,rfl,rfl⟩
end
theorem nG.many41{qs:List (NdH×Nd)}{ids:List Int}{files:List Ino}{s:BSt}(h:nG qs ids files s)(hn:qs.length≤40):s.many≤41:=by
 have h1:=YY (fun r:Int=>decide (0<r)) s.refs;rw[h.many];unfold uT;rw[h.rl] at h1;omega
theorem nG.ref_le{qs:List (NdH×Nd)}{ids:List Int}{files:List Ino}{s:BSt}(h:nG qs ids files s)(hn:qs.length≤40){m:Nat}(hm:0<s.refs.getD m 0):s.refs.getD m 0-1≤4294967295:=by
 obtain⟨_,_,_,_,o,_,_,e,_,ha,_⟩:=h.std m hm;have h1:=ha.le;have h2:=h.bi;have h3:=h.many41 hn;have h4:=tK s.ino (o/128);rw[e];unfold bJ;omega
section
variable {qs:List (NdH×Nd)}{ids:List Int}{files:List Ino}(G:GdT qs)
include G
theorem AY{s:BSt}(h:nG qs ids files s){S:List By}:∀ (ys:List Int) (last:By),(∀ z∈ys,z∈bP qs S qs.length)→ys.Pairwise (· < ·)→Ek qs s ys→(∀ z∈ys,Xd last (aU (ndB qs z).names)=true)→bM last (nD qs s ys)
|[],_,_,_,_,_=>trivial
|z::r,last,hk,hp,hs,hl=>by
   obtain⟨k,q,rfl,hq,hn⟩:=xS (hk z (by simp));have hnd:=eI hq;have hm:=WQ hq;obtain⟨⟨k1,k3⟩,_⟩:=G.may q hm;have hpos:=hs (k:Int) (by simp);have hrl:=h.ref_le G.n.2 hpos;have hp2:=List.pairwise_cons.1 hp;refine⟨⟨?_,hl _ (by simp),?_,?_,?_,?_⟩,?_⟩
   · show dN (aU (ndB qs k).names)=0
     rw[hnd];refine G.nmv q hm _ ?_;rw[hn];simp[aU]
   ·show 1≤(ndB qs k).kind;rw[hnd];exact k1
   ·show (ndB qs k).kind≤3;rw[hnd];exact k3
   ·show 0≤s.refs.getD _ 0-1;omega
   ·show s.refs.getD _ 0-1≤4294967295;exact hrl
   · refine AY h r _ (fun z hz=>hk z (by simp[hz])) hp2.2 (fun z hz=>hs z (by simp[hz])) (fun z hz=>?_)
     obtain⟨j,p,rfl,hj,hnj⟩:=xS (hk z (by simp[hz]));have hlt:=hp2.1 _ hz;have hless:=G.lt k j q p (by omega) hq hj;rw[eI hj];show Xd (aU (ndB qs k).names) _=true;rw[hnd];have hkq:iH q.2.names S:=lW.2 ⟨by rw[hn];simp,by rw[hn];simp⟩;have hkp:iH p.2.names S:=lW.2 ⟨by rw[hnj];simp,by rw[hnj];simp⟩;unfold cC at hless;have h5:=of_decide_eq_true hless;rw[BR hkq hkp] at h5;exact Cb.1 h5
theorem J2{s:BSt}{S:List By}:(bK (nD qs s (bP qs S qs.length))).length≤10440:=by
 have key:∀ ys:List Int,(∀ z∈ys,z∈bP qs S qs.length)→(bK (nD qs s ys)).length≤261*ys.length:=by
  intro ys
  induction ys with
 |nil=>intro _;exact WT _
 |cons z r ih=>
    intro h;obtain⟨k,q,rfl,hq,hn⟩:=xS (h z (by simp));have h2:=ih (fun y hy=>h y (by simp[hy]));have h3:(aU (ndB qs k).names).length≤255:=by
     rw[eI hq];refine(jM (G.nmv q (WQ hq) _ ?_)).1;rw[hn];simp[aU]
    have e:bK (nD qs s ((k:Int)::r))=lG (aU (ndB qs k).names,(ndB qs k).kind,s.refs.getD (ndB qs k).ino.toNat 0-1)++bK (nD qs s r):=rfl;rw[e,WM,sC,W7];show (aU (ndB qs k).names).length+6+_≤_;omega
 have h1:=key _ (fun z hz=>hz);have h2:=nS (ps:=qs) (s:=S) qs.length;have h3:=G.n.2;omega
end
end
end Go.Proofs.YthmmmagklhiiiaaGreatDoor
