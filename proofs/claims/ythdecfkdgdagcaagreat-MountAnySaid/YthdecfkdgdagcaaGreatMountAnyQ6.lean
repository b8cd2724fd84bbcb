/- lamella: what the law needs. No condition beyond the bounds that each states. -/
import Derived.Test.YthdecfkdgdagcaaGreatMountAnyQ5
namespace Go.Proofs.YthdecfkdgdagcaaGreat
open Go Go.RowKit
set_option linter.unusedVariables false
set_option linter.unusedSectionVars false
set_option maxHeartbeats 64000000
open List (length_append length_nil mem_singleton)
theorem ImR.recs{H:Array Obj}{y:Nat}{x:Img}(h:ImR H y x):∃ (bo:Option Addr) (bc:Nat) (pv iv:Value) (lo:Option Addr) (lc n:Nat) (qs:List QT),H[y]?=some (.cells (miC bo x.im.length bc x.F pv iv (.slice lo qs.length lc) n).toArray 134 (0,0))∧VwM 15 eL H lo lc qs∧∀ q∈qs,0≤q.1.1.ref∧q.1.1.ref≤4294967295:=by
 obtain⟨ow,n,hM,hp,hmq,hl8,hio,hnw⟩:=h;obtain⟨bo,bc,po,pc,io,ic,lo,lc,qs,hg,_,_,_,ho,hl,hq,hqs,o1⟩:=hM;refine⟨bo,bc,_,_,lo,lc,n,qs,hg,ho.vw eG,fun q hm=>?_⟩;have hq:qs.map (·.1)=x.recs:=hq;have h2:q.1∈x.recs:=by rw[←hq];exact List.mem_map.2 ⟨q,hm,rfl⟩
 exact(hp.2.1 q.1 h2).1
theorem M9(bo:Option Addr)(bc:Nat)(b:By)(lo:Option Addr)(lc ln:Nat)(io:Option Addr)(ic il:Nat)(W:World)(hb:Vw b8 W.heap bo bc b)(hbl:b.length≤1073741824)(hm:mnt b=none) :
 CA 22 [.slice bo b.length bc,.slice lo ln lc,.slice io il ic] W fun v w'=>v=.bool true∧aA nob W w':=by
 refine cS 90 [(0,_),(1,_),(2,_)] Tryz.func22 ?_;refine Gz 7 ?_;refine VZ b8 aF rfl ?_;intro w1 ho1 hs1 hf1;obtain⟨a1,ea⟩:∃ a,a=W.heap.size:=⟨_,rfl⟩
 rw[←ea] at ho1 ⊢;refine Gz 1 ?_;refine VN aP aF rfl rfl ho1 (hb.Y7 hf1) (by simp only[length_nil];omega) (by simp only[length_nil];unfold maxLen;omega) rfl ?_;intro o2 c2 w2 ho2 hf2 hr2 hn2;have ho2:Own b8 5 w2.heap o2 c2 b:=ho2;have hF2:aA nob W w2:=hf1.Y4 hf2 (fun k hk=>.inr (by obtain⟨a,ha,e⟩:=hk;cases ha;have e:a1=k:=e;omega));refine cA 0 OH (uE o2 c2 b w2 ho2.vw hbl) ?_;intro v w3 h3;obtain⟨hf3,h3⟩:=h3.of;obtain⟨rfl,_⟩:=h3.resolve_right (fun⟨x,g,_,h,_⟩=>by rw[hm] at h;cases h);have hF3:=hF2.trans hf3;refine cA 10 Ry (BJ bo bc b w3 (hb.Y7 hF3) hbl) ?_;rintro v w4 ⟨hf4,h4⟩;obtain⟨rfl,_⟩:=h4.resolve_right (fun⟨x,g,_,h,_⟩=>by rw[hm] at h;cases h);have hF4:=hF3.trans hf4;refine Gz 12 ?_;refine cL (Wu (Wq rfl rfl) (fun h=>h rfl)) ?_;refine Gz 2 ?_;refine cW (Wk Lp rfl rfl) ?_;refine Gz 1 ?_;refine cW (Wk CW rfl rfl) ?_;refine cW (Wz ty4 rfl rfl) ?_;refine Gz 10 ?_;refine cL (Wk CW rfl rfl) ?_;refine Gz 11 ?_;exact⟨_,rfl,rfl,hF4⟩
theorem M8(bo:Option Addr)(bc:Nat)(b:By)(lo:Option Addr)(lc:Nat)(L:List Ent)(io:Option Addr)(ic:Nat)(I:List Int)(W:World)(x:Img)(hb:Vw b8 W.heap bo bc b)(hbl:b.length≤1073741824)(hm:mnt b=some x)(hl:VwM 3 bH W.heap lo lc L)
 (hL:∀ q∈L,(-9223372036854775808≤q.2.1∧q.2.1≤9223372036854775807)∧(-9223372036854775808≤q.2.2∧q.2.2≤9223372036854775807))(hi:Vw i64 W.heap io ic I)(hI:∀ z∈I,-9223372036854775808≤z∧z≤9223372036854775807) :
 CA 22 [.slice bo b.length bc,.slice lo L.length lc,.slice io I.length ic] W fun v w'=>v=.bool true∧aA nob W w':=by
 refine cS 90 [(0,_),(1,_),(2,_)] Tryz.func22 ?_;refine Gz 7 ?_;refine VZ b8 aF rfl ?_;intro w1 ho1 hs1 hf1;obtain⟨a1,ea⟩:∃ a,a=W.heap.size:=⟨_,rfl⟩
 rw[←ea] at ho1 ⊢;refine Gz 1 ?_;refine VN aP aF rfl rfl ho1 (hb.Y7 hf1) (by simp only[length_nil];omega) (by simp only[length_nil];unfold maxLen;omega) rfl ?_;intro o2 c2 w2 ho2 hf2 hr2 hn2;have ho2:Own b8 5 w2.heap o2 c2 b:=ho2;have hF2:aA nob W w2:=hf1.Y4 hf2 (fun k hk=>.inr (by obtain⟨a,ha,e⟩:=hk;cases ha;have e:a1=k:=e;omega));refine cA 0 OH (uE o2 c2 b w2 ho2.vw hbl) ?_;intro v w3 h3;obtain⟨hf3,h3⟩:=h3.of;obtain⟨x2,g,rfl,hx2,_,_,hx⟩:=h3.resolve_left (fun⟨_,h⟩=>by rw[hm] at h;cases h);rw[hm] at hx2;cases hx2;have hF3:=hF2.trans hf3;refine cA 10 Ry (BJ bo bc b w3 (hb.Y7 hF3) hbl) ?_;rintro v w4 ⟨hf4,h4⟩;obtain⟨x2,y,rfl,hx2,_,_,hy⟩:=h4.resolve_left (fun⟨_,h⟩=>by rw[hm] at h;cases h);rw[hm] at hx2;cases hx2;have hF4:=hF3.trans hf4;have hx4:=hx.Y7 hf4;obtain⟨bo2,bc2,pv,iv,ro,rc,nn,qs,hgy,hvq,hqr⟩:=hy.recs;have hq63:=hvq.Y6;refine Gz 12 ?_;refine cL (Wu (Wq rfl rfl) (fun h=>h rfl)) ?_;refine Gz 2 ?_;refine cW (Wk Lp rfl rfl) ?_;refine Gz 1 ?_;refine cW (Wk CW rfl rfl) ?_;refine cW (Wz ty4 rfl rfl) ?_;refine Gz 10 ?_;refine cL (Wk CW rfl rfl) ?_;refine Gz 12 ?_;refine VM (β:=Nat) (fun j=>[(1,.slice lo L.length lc),(2,.slice io I.length ic),(7,pT g),(9,pT y),(11,iV j)]) (fun j w=>j≤qs.length∧aA nob w4 w) (fun j=>qs.length-j) 0 ⟨rfl,rfl,rfl,rfl,rfl,trivial⟩ ⟨Nat.zero_le _,YJ 0⟩ ?_;rintro j w6 ⟨hj,hF⟩;refine Gz 7 ?_;refine cL (VH oR rfl (aD (hF.obj hgy id) rfl)) ?_;refine fK 1 ?_ ?_<;>intro h45
 ·have hjl:j<qs.length:=by omega
  obtain⟨q,hq⟩:∃ q,qs[j]?=some q:=⟨_,List.getElem?_eq_getElem hjl⟩
  have hqb:=hqr q (List.mem_of_getElem? hq);have hv0:=hvq.Y7 hF;refine Gz 14 ?_;refine cL (VH oR rfl (aD (hF.obj hgy id) rfl)) ?_;refine Gz 1 ?_;refine cL (VG pW rfl rfl hv0.non (by omega)) ?_;refine Gz 1 ?_;refine cL (VH aE rfl (hv0.rowZ j rfl hq 0 _ rfl)) ?_;refine Gz 1 ?_;refine VE Rx rfl (EO g y x q.1.1.ref lo lc L w6 (hx4.Y7 hF) (hy.Y7 hF) (hl.Y7 (hF4.trans hF)) (by constructor<;>omega) hL) rfl ?_;rintro _ w5 ⟨rfl,hf5⟩;refine Gz 6 ?_;refine cL (Wa rfl) ?_;refine Gz 11 ?_;exact aG (j+1) ⟨by omega,hF.trans hf5⟩ (by show qs.length-(j+1)<qs.length-j;omega)
 refine Gz 15 ?_;refine VM (β:=Nat) (fun k=>[(1,.slice lo L.length lc),(2,.slice io I.length ic),(7,pT g),(9,pT y),(13,iV k)]) (fun k w=>k≤I.length∧aA nob w6 w) (fun k=>I.length-k) 0 ⟨rfl,rfl,rfl,rfl,rfl,trivial⟩ ⟨Nat.zero_le _,YI _ _⟩ ?_;rintro k w7 ⟨hk,hF2b⟩;refine fK 6 ?_ ?_<;>intro h65
 ·have hkl:k<I.length:=by omega
  obtain⟨z,hz⟩:∃ q,I[k]?=some q:=⟨_,List.getElem?_eq_getElem hkl⟩
  have hzb:=hI z (List.mem_of_getElem? hz);have hzd:I.getD k 0=z:=by rw[List.getD,hz];rfl
  have hv0:=hi.Y7 (hF4.trans (hF.trans hF2b));refine fW 2 ?_ ?_<;>intro h68
  ·refine Gz 14 ?_;refine cL (VF bO rfl rfl hv0.non (by omega)) ?_;refine cL (VH aE rfl (hv0.gz 0 k rfl hkl)) ?_;rw[hzd];refine cA 1 Rx (EO g y x z lo lc L w7 (hx4.Y7 (hF.trans hF2b)) (hy.Y7 (hF.trans hF2b)) (hl.Y7 (hF4.trans (hF.trans hF2b))) hzb hL) ?_;rintro _ w8 ⟨rfl,hf8⟩;refine Gz 6 ?_;refine cL (Wa rfl) ?_;refine Gz 11 ?_;exact aG (k+1) ⟨by omega,hF2b.trans hf8⟩ (by show I.length-(k+1)<I.length-k;omega)
  refine Gz 10 ?_;refine VS 9 (fun H=>H[y]?=some (.cells (miC bo2 x.im.length bc2 x.F pv iv (.slice ro qs.length rc) nn).toArray 134 (0,0))) [1] [0,2,3,4,5,6,1,7,8] aK (by kernel_rfl) (((hF.trans hF2b).obj hgy id)) ?_;refine Gz 5 ?_;refine xC rfl (VP aE rfl (fun H hH=>aD (i:=10) hH rfl)) ?_;refine VL rfl rfl (VE QB rfl (vY g x (w7.drewN 1) ((hx4.Y7 (hF.trans hF2b)).Y7 (YJ 1))) rfl ?_);rintro _ w9 ⟨rfl,hw⟩;subst hw;refine VQ (by exact((hF.trans hF2b).obj hgy id)) ?_;refine xC rfl (WJ (WI rfl rfl) rfl) ?_;refine Gz 5 ?_;exact⟨_,rfl,rfl,hF4.trans ((hF.trans hF2b).draws 1)⟩
 refine Gz 13 ?_;refine VS 9 (fun H=>H[y]?=some (.cells (miC bo2 x.im.length bc2 x.F pv iv (.slice ro qs.length rc) nn).toArray 134 (0,0))) [1] [0,2,3,4,5,6,1,7,8] aK (by kernel_rfl) (((hF.trans hF2b).obj hgy id)) ?_;refine Gz 5 ?_;refine xC rfl (VP aE rfl (fun H hH=>aD (i:=10) hH rfl)) ?_;refine VL rfl rfl (VE QB rfl (vY g x (w7.drewN 1) ((hx4.Y7 (hF.trans hF2b)).Y7 (YJ 1))) rfl ?_);rintro _ w9 ⟨rfl,hw⟩;subst hw;refine VQ (by exact((hF.trans hF2b).obj hgy id)) ?_;refine xC rfl (WJ (WI rfl rfl) rfl) ?_;refine Gz 5 ?_;exact⟨_,rfl,rfl,hF4.trans ((hF.trans hF2b).draws 1)⟩
theorem O2(bo:Option Addr)(bc:Nat)(b:By)(lo:Option Addr)(lc:Nat)(L:List Ent)(io:Option Addr)(ic:Nat)(I:List Int)(W:World)(hb:Vw b8 W.heap bo bc b)(hbl:b.length≤1073741824)(hl:VwM 3 bH W.heap lo lc L)
 (hL:∀ q∈L,(-9223372036854775808≤q.2.1∧q.2.1≤9223372036854775807)∧(-9223372036854775808≤q.2.2∧q.2.2≤9223372036854775807))(hi:Vw i64 W.heap io ic I)(hI:∀ z∈I,-9223372036854775808≤z∧z≤9223372036854775807) :
 CA 22 [.slice bo b.length bc,.slice lo L.length lc,.slice io I.length ic] W fun v w'=>v=.bool true∧aA nob W w':=by
 cases hm:mnt b with
|none=>exact M9 bo bc b lo lc L.length io ic I.length W hb hbl hm
|some x=>exact M8 bo bc b lo lc L io ic I W x hb hbl hm hl hL hi hI
section
open Go Go.RowKit Go.Maps
variable {D:Nat→Prop}
theorem IL{qs:List (NdH×Nd)}{ids:List Int}(G:GdT qs)(I:Dv qs ids)(h1:qs.length=1):64+((gZ (aH qs ids) ids).length:Int)≤1048576:=by
 have F:=Di (qs:=qs) (fun q hq=>⟨G.ino q hq,(G.may q hq).2.2.2.2.2.2.1⟩);obtain⟨S,e,hI,hB,_⟩:=wM G I F;have e:(aH qs ids).s=S:=e;have hA:=Io G I;have hm:S.many≤2:=by
  have h1:=List.length_filter_le (fun r:Int=>decide (0<r)) S.refs;rw[hI.many];unfold uB;rw[hI.rl] at h1;omega
 have h2:=hI.bi;have h3:S.lst.length≤10440*S.many:=hB;have h4:=hI.bf;have hT:=F.tn;have hFB:=F.b;rw[List.length_map] at hT hFB;have hb:=Kv F.t (bW qs).ds;have n4:=hA.n4;have n2:=hA.n2;have d1:=sC (aH qs ids).s.ino;have d2:=sC (aH qs ids).s.lst;have d3:=sC (aL (aH qs ids).pl 4).1;have d4:=sC (aL ids 2).1;have d5:=sC (aH qs ids).s.fur;rw[e] at d1 d2 d5;have l1:(mR (aH qs ids)).length=(fV (bW qs).tails (bW qs).ds).1.B.length:=rfl;have l2:(jP (aH qs ids)).length=(mR (aH qs ids)).length+(dnW (aH qs ids).s.ino).length:=length_append;have l3:(jD (aH qs ids)).length=(jP (aH qs ids)).length+(dnW (aH qs ids).s.lst).length:=length_append;have l4:(iN (aH qs ids)).length=(jD (aH qs ids)).length+(dnW (aL (aH qs ids).pl 4).1).length:=length_append;have l5:(iA (aH qs ids) ids).length=(iN (aH qs ids)).length+(dnW (aL ids 2).1).length:=length_append;have l6:(gZ (aH qs ids) ids).length=(iA (aH qs ids) ids).length+(dnW (aH qs ids).s.fur).length:=length_append;rw[e] at l2 l3 l6;omega
theorem NQ{D:Nat→Prop}(H:Array Obj):NdV D H gU:=
 ⟨⟨rfl,YO 0 (Nat.zero_le _),fun h=>absurd rfl h⟩,⟨rfl,YO 0 (Nat.zero_le _),fun h=>absurd rfl h⟩,⟨rfl,[],⟨Nat.zero_le _,Nat.zero_le _,fun h=>absurd rfl h,fun i x hx=>by simp at hx⟩,rfl,fun h=>absurd rfl h,fun i x y hx=>by simp at hx⟩⟩
theorem Of:mnt []=none:=by
 have h:aI []=(zF,2):=by unfold aI;rw[if_neg (fun h=>by have:=h.1;simp at this)]
 unfold mnt;rw[h,if_pos (by decide)]
theorem IU{qs:List (NdH×Nd)}{ids:List Int}(M:ImB qs ids)(h1:qs.length=1){s:MSt}(hs:MI qs ids (kD qs 17 0) s):fB ⟨imB qs ids,cC qs ids (aH qs ids),plB qs ids,ids,s.1⟩ ((cC qs ids (aH qs ids)) 9)=([],0):=by
 obtain⟨r,hr,hrn,hrk⟩:=M.G.root;have hF9:(cC qs ids (aH qs ids)) 9=rfB qs ids r.2:=by
  show (stB qs ids).refs.getD (ndB qs ((0:Nat):Int)).ino.toNat 0-1=_;rw[bS hr];rfl
 have hR:=(M.rk hr).2;have hk:bY qs r.2.names qs.length=[]:=by
  apply List.eq_nil_iff_forall_not_mem.2;intro z hz;obtain⟨k,q,rfl,hq,hn⟩:=jF hz;have hk:=(List.getElem?_eq_some_iff.1 hq).1;obtain rfl:k=0:=by omega
  rw[hr] at hq;cases hq;have:=congrArg List.length hn;simp at this
 unfold fB;rw[hF9,M.known hs hr];simp only;rw[hR.kd,hrk,if_neg (fun h=>h rfl),hR.ls,hk];rfl
theorem Jt(W:World):Calls Tryz.prog 8 #[] W (Ret fun v w'=>v=.bool true∧aA nob W w'):=by
 refine cS 48 [] Tryz.func8 ?_;refine Gz 7 ?_;refine VE OH rfl (uE none 0 [] W (YO 0 (Nat.zero_le _)) (by decide)) rfl ?_;intro v w1 h1;obtain⟨hf1,h1⟩:=h1.of;obtain⟨rfl,_⟩:=h1.resolve_right (fun⟨x,g,_,h,_⟩=>by rw[Of] at h;cases h);refine Gz 9 ?_;refine cL (bU (cT gU) Q5 A0) ?_;refine We cY (cs:=(cT gU).toArray) A0 rfl rfl rfl (by kernel_rfl) rfl ?_;intro w2 hg2 hs2 hf2;have ho2:bN 10 cT 68 w2.heap (some ⟨w1.heap.size,0,none⟩) 1 [gU]:=dG (xs:=[gU]) aJ (by simpa using hg2) (by show 1≤maxLen;decide);refine VE fn9 rfl (Je (some ⟨w1.heap.size,0,none⟩) 1 [gU] w2 ⟨ho2.vw aJ,by simp only[mem_singleton];rintro p rfl;exact NQ _⟩ (by simp only[mem_singleton];rintro p rfl;exact NP) (by decide)) rfl ?_;rintro _ w3 hB;obtain⟨hz,ids,o3,c3,hIds,rfl,ho3,hfr3,hf3⟩:=hB.resolve_left (fun h=>h.1 FE);have hG:=Mh FE (by decide);have hl1:(jJ [gU]).length=1:=FJ [gU];have M:ImB (jJ [gU]) ids:=⟨hG,hIds,IL hG hIds hl1⟩
 rw[M.img] at ho3 ⊢;obtain⟨s,hs1,hs2⟩:=M.mnt;have himl:(imB (jJ [gU]) ids).length≤1048576:=by unfold imB;rw[length_append,rG];have:=M.sz;omega
 refine Gz 10 ?_;refine VE OH rfl (uE o3 c3 (imB (jJ [gU]) ids) w3 ho3.vw (by omega)) rfl ?_;intro v w4 h4;obtain⟨hf4,h4⟩:=h4.of;obtain⟨x,g,rfl,hx,_,_,hI⟩:=h4.resolve_left (fun⟨_,h⟩=>by rw[hs1] at h;cases h);rw[hs1] at hx;cases hx;refine Gz 11 ?_;refine cL (Wk Lp rfl rfl) ?_;refine Gz 9 ?_;refine VE QB rfl (vY g _ w4 hI) rfl ?_;rintro _ w5 ⟨rfl,hw⟩;subst hw;have hb9 : -9223372036854775808≤(cC (jJ [gU]) ids (aH (jJ [gU]) ids)) 9∧(cC (jJ [gU]) ids (aH (jJ [gU]) ids)) 9≤9223372036854775807:=by have h:=M.may;have:=h.2.2.2.2.2.2.2.1;have:=h.2.2.2.2.2.2.2.2;omega
 refine VE QA rfl (vZ g _ ((cC (jJ [gU]) ids (aH (jJ [gU]) ids)) 9) w5 hI hb9) rfl ?_;rintro v6 w6 ⟨hL,_⟩;rw[IU M hl1 hs2] at hL;obtain⟨o6,c6,rfl,ho6,hfr6,hf6⟩:=hL;refine Gz 10 ?_;refine cL (WJ (WI rfl rfl) rfl) ?_;refine Gz 2 ?_;refine cW (WJ (WI rfl rfl) rfl) ?_;refine Gz 4 ?_;refine cW (WJ (WI rfl rfl) rfl) ?_;refine Gz 3 ?_;refine cW (WJ (WI rfl rfl) rfl) ?_;refine Gz 6 ?_;exact⟨_,rfl,rfl,(((hf1.trans hf2).trans hf3).trans hf4).trans hf6⟩
def Nc:Ent:=([97],0,9)
theorem EN(a0:Option Addr)(cap0:Nat)(x0:By)(a1:Option Addr)(cap1:Nat)(x1:List Int)(W:World)(hv0:Vw b8 W.heap a0 cap0 x0)(hv1:Vw i64 W.heap a1 cap1 x1)(hw1:∀ z∈x1,-9223372036854775808≤z∧z≤9223372036854775807) :
 CA 7 [.slice a0 x0.length cap0,.slice a1 x1.length cap1] W fun v w'=>v=.bool true∧aA nob W w':=by
 have h63:=hv0.Y6;have hle:=hv0.le;refine cS 22 [(0,_),(1,_)] Tryz.func7 ?_;refine cA 7 fn8 (Jt W) ?_;rintro _ w1 ⟨rfl,hf1⟩;refine Gz 3 ?_;refine V6 (β:=By) (fun b=>[(0,.slice a0 b.length cap0),(1,.slice a1 x1.length cap1),(5,.bool true)]) (fun b w=>Vw b8 w.heap a0 cap0 b∧b.length≤2000∧w=w1) ?_ ?_
 ·refine fK 4 ?_ ?_<;>intro h10
  ·refine Gz 5 ?_;refine cL (VK (u:=.slice a0 (x0.take 2000).length cap0) (Wc aF rfl rfl (by omega)) (by rw[cE,List.length_take,Nat.min_eq_left (by omega)];rfl)) ?_;have hvb:=(hv0.Y7 hf1).take 2000;refine Gz 2 ?_;exact aC (x0.take 2000) ⟨hvb,by rw[List.length_take];omega,rfl⟩
  have hvb:=hv0.Y7 hf1;have hx0:x0.length≤2000:=by omega
  refine Gz 4 ?_;exact aC x0 ⟨hvb,hx0,rfl⟩
 rintro b w ⟨hvb,hbl,hw⟩;subst w;refine Gz 3 ?_;refine cL (bU (bH Nc) Q6 QO) ?_;refine We DW (cs:=(bH Nc).toArray) QO rfl rfl rfl (by kernel_rfl) rfl ?_;intro w2 hg2 hs2 hf2;have ho2:bN 3 bH 64 w2.heap (some ⟨w1.heap.size,0,none⟩) 1 [Nc]:=dG (xs:=[Nc]) aU (by simpa using hg2) (by show 1≤maxLen;decide);refine Gz 1 ?_;refine VE Vo rfl (O2 a0 cap0 b (some ⟨w1.heap.size,0,none⟩) 1 [Nc] a1 cap1 x1 w2 (hvb.Y7 hf2) (by omega) (ho2.vw aU) (by simp only[mem_singleton];rintro q rfl;decide) ((hv1.Y7 hf1).Y7 hf2) hw1) rfl ?_;rintro _ w3 ⟨rfl,hf3⟩;refine Gz 14 ?_;exact⟨_,rfl,rfl,(hf1.trans hf2).trans hf3⟩
end
end Go.Proofs.YthdecfkdgdagcaaGreat
