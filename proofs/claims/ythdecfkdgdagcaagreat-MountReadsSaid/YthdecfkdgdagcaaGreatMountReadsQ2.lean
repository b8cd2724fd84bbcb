/- lamella: what the law needs. No condition beyond the bounds that each states. -/
import Derived.Test.YthdecfkdgdagcaaGreatMountReadsQ1
namespace Go.Proofs.YthdecfkdgdagcaaGreat
open Go Go.RowKit
set_option linter.unusedVariables false
set_option linter.unusedSectionVars false
set_option maxHeartbeats 64000000
open List renaming getElem?_eq_getElem → ZQ, length_append → ZR, length_take → ZT, length_singleton → ZU, length_drop → ZX, getD → Z2, take_of_length_le → Z4, append_assoc → Z6, length_nil → Z7, eq_nil_of_length_eq_zero → Z9, mem_singleton → ai, length_cons → al, take_succ_eq_append_getElem → am, mem_append → an, nil_append → aq, getElem?_take → ar, getElem?_append_left → au, mem_cons → aw, take_append_drop → ay, take_length → be, replicate → bg, getElem_mem → bm, append_nil → bp, getElem?_eq_none → bq, not_mem_nil → bv, length_pos_iff → bw, drop_drop → ca, ext_getElem? → cd, getElem_of_mem → cf, drop_left' → ct, foldl_append → cy, getElem?_append_right → da, map_cons → db, getElem?_drop → dc, cons_append → df, take_zero → dm, take_take → dq, map_append → dr, foldl_cons → dt, forall_mem_cons → dv, mem_cons_of_mem → gk
open Classical renaming byContradiction → ZY
open _root_.Nat renaming zero_le → ZZ, le_refl → Z0, le_trans → aj, min_eq_left → cn, zero_add → cx, strongRecOn → dw, add_zero → gp, min_eq_right → je
open _root_.Array renaming getElem?_eq_some_iff → Z1
open Decidable renaming not_not → Z5
open Go.Op renaming bytesLess → Z8
open UInt8 renaming ofNat → af, toNat_lt → dl, toNat_inj → dn
open _root_.Bool renaming and_eq_true → ag, false_eq_true → fz
open _root_.Int renaming toNat_natCast → ak, eq_ofNat_of_zero_le → az, le_refl → fx
theorem uF{D:Nat→Prop}(p:Nat)(E:Int)(ys:By)(W:World)(hP:RdL D W.heap p E ys) :
 CA 72 [pT p] W fun v w'=>v=iV E∧w'=W:=by
 obtain⟨ao,c,hobj,hv,hap⟩:=hP;refine cS 7 [(0,_)] Tryz.func72 ?_;refine Gz 16 ?_;exact⟨_,rfl,rfl,rfl⟩
def ctC(po:Option Addr)(n pc:Nat)(s:Nat)(st:Bool)(nx:Int):List Value:=[.slice po n pc,.int .u32 (s:Int),.bool st,iV nx]
theorem fM(po:Option Addr)(n pc:Nat)(s:Nat)(st:Bool)(nx:Int):∀ v∈ctC po n pc s st nx,v.oneCell'=true:=by simp[ctC,Value.oneCell']
def FnP(W:World)(im:By)(a:Int):Value→World→Prop:=fun v w'=>aA nob W w'∧match cQ im a with
|none=>v=.tuple #[.agg (ctC none 0 0 0 false 0).toArray,.int .i64 2]
|some (x,s,st)=>∃ po pc,v=.tuple #[.agg (ctC po x.length pc s st (a+eH x)).toArray,.int .i64 0]∧Own b8 5 w'.heap po pc x∧Fr W.heap.size po
theorem nB{W w':World}{im:By}{a:Int}(h:cQ im a=none)(hf:aA nob W w'):FnP W im a (.tuple #[.agg (ctC none 0 0 0 false 0).toArray,iV 2]) w':=by
 unfold FnP;rw[h];exact⟨hf,rfl⟩
theorem OD{a b:Nat}(h:a<256):a ||| b*256=a+256*b:=by
 have:=Nat.two_pow_add_eq_or_of_lt (i:=8) h b;rw[show (2:Nat) ^ 8=256 from rfl] at this;rw[Nat.or_comm,Nat.mul_comm b,←this];omega
theorem Uc{n:Nat}(h:n<65536):n &&& 32768=if 32768≤n then 32768 else 0:=by
 apply Nat.eq_of_testBit_eq;intro i;rw[Nat.testBit_and,show (32768:Nat)=2 ^ 15 from rfl,Nat.testBit_two_pow];by_cases hi:15=i
 · subst hi
   rw[Nat.testBit_eq_decide_div_mod_eq];by_cases hn:2 ^ 15≤n
   ·rw[ZP hn,Z3 (by omega)];rfl
   ·rw[ZO hn,ZV (by omega)];rfl
 · rw[ZV hi,Bool.and_false]
   split
   ·rw[Nat.testBit_two_pow,ZV hi]
   ·simp
theorem yD{r:By}{m:Nat}(h3:3≤r.length):(dE (dE 0 (r.drop 3) 4) (rF 0 (r.drop 3) 4) m≠0↔r.length<7+m) ∧
 (¬ r.length<7+m→fD 0 (r.drop 3) 4=(r.drop 3).take 4∧fD (dE 0 (r.drop 3) 4) (rF 0 (r.drop 3) 4) m=(r.drop 7).take m):=by
 have hl:(r.drop 3).length=r.length-3:=ZX ..;by_cases h7:r.length<7
 · have e:dE 0 (r.drop 3) 4=2:=by rw[mM (by omega) (by omega)];rfl
   rw[e];refine⟨⟨fun _=>by omega,fun _=>by rw[lS (by decide)];decide⟩,fun h=>by omega⟩
 · have e:dE 0 (r.drop 3) 4=0:=dQ (by omega) (by omega)
   obtain⟨e1,e2⟩:=cF e;have e3:(r.drop 3).drop (Int.toNat 4)=r.drop 7:=by rw[ca];rfl
   rw[e,e1,e2,e3];have hl7:(r.drop 7).length=r.length-7:=ZX ..;by_cases hm:r.length<7+m
   ·refine⟨⟨fun _=>hm,fun _=>by rw[mM (by omega) (by omega)];decide⟩,fun h=>absurd hm h⟩
   · have e4:dE 0 (r.drop 7) m=0:=dQ (by omega) (by omega)
     refine⟨⟨fun h=>absurd e4 h,fun h=>absurd h hm⟩,fun _=>⟨rfl,?_⟩⟩;rw[(cF e4).1];rfl
theorem Nw{H:Array Obj}{ad:Addr}{cap:Nat}{l:By}(h:Vw b8 H (some ad) cap l):∀ j v,(l.map b8)[j]?=some v→bK H (ad.add j)=some v:=by
 intro j v hj;rw[List.getElem?_map,Option.map_eq_some_iff] at hj;obtain⟨x,hx,rfl⟩:=hj;exact h.get j x hx
theorem ID(io:Option Addr)(ic:Nat)(im:By)(a:Int)(W:World)(hv:Vw b8 W.heap io ic im)(hb:im.length≤1099511627776)(ha:a≤9223372036854775807) :
 CA 145 [.slice io im.length ic,iV a] W (FnP W im a):=by
 have hle:=hv.le;refine cS 94 [(0,_),(1,_)] Tryz.func145 ?_;refine Gz 2 ?_;refine Wn nO rfl ?_;intro w1 hg1 hs1 hf1;have hg1:w1.heap[W.heap.size]?=some (.cells (ctC none 0 0 0 false 0).toArray 253 (0,0)):=hg1;refine fK 7 ?_ ?_<;>intro h12
 ·have hno:cQ im a=none:=by unfold cQ;rw[ZP (by omega)]
  have hf9:aA nob w1 w1:=Zn _ _;refine Gz 11 ?_;refine cL (bU (ctC none 0 0 0 false 0) pC nO) ?_;refine sA rfl cI (by exact fM _ _ _ _ _ _) (hf9.obj hg1 id) ?_;intro w20 hg20 hs20 hf20;refine Gz 5 ?_;refine rC hg20 cI ?_;exact⟨_,rfl,nB hno ((hf1.trans hf9).tw hf20)⟩
 refine fW 4 ?_ ?_<;>intro h17
 ·have hno:cQ im a=none:=by unfold cQ;rw[ZP (by omega)]
  have hf9:aA nob w1 w1:=Zn _ _;refine Gz 6 ?_;refine cL (bU (ctC none 0 0 0 false 0) pC nO) ?_;refine sA rfl cI (by exact fM _ _ _ _ _ _) (hf9.obj hg1 id) ?_;intro w20 hg20 hs20 hf20;refine Gz 5 ?_;refine rC hg20 cI ?_;exact⟨_,rfl,nB hno ((hf1.trans hf9).tw hf20)⟩
 obtain⟨q,rfl⟩:∃ q:Nat,a=q:=⟨a.toNat,by omega⟩
 have hcs:cQ im (q:Int)=jU (im.drop q):=by unfold cQ;rw[ZO (by omega)];rfl
 obtain⟨r,hr⟩:∃ r,r=im.drop q:=⟨_,rfl⟩
 have hrl:r.length=im.length-q:=by rw[hr,ZX]
 have hvr:Vw b8 W.heap (aO io ic q 1) (ic-q) r:=by have:=hv.cut (l:=q) (h:=im.length) (m:=ic) (by omega) (Z0 _) hle (Z0 _);rw[Z4 (by simp)] at this;rw[hr];exact this
 rw[←hr] at hcs;refine Gz 10 ?_;refine cL (Wm (u:=.slice (aO io ic q 1) r.length (ic-q)) (WR aH rfl rfl (by omega)) (by rw[hrl];rfl)) ?_;refine Wh MU rfl (qO (aO io ic q 1) (ic-q) r w1 (hvr.ZM hf1) (by omega)) rfl ?_;rintro _ w2 ⟨p,rfl,hp1,hP2,hf2⟩;have hlp:=hP2.lt;refine Gz 6 ?_;refine Wh G8 rfl (pA p 0 r 3 w2 hP2 (by omega)) rfl ?_;rintro _ w3 ⟨h3,hc3,rfl,ho3,hfr3,hP3,hf3⟩;have hz3:=hf3.size;have hF3:aA nob w1 w3:=hf2.tw hf3;refine Gz 9 ?_;refine Wh G7 rfl (uF p _ _ w3 hP3) rfl ?_;rintro _ wq ⟨rfl,hwq⟩;subst wq;refine fK 0 ?_ ?_<;>intro h30
 ·have hsh:r.length<3:=ZY fun h=>h30 (dQ (by omega) (by omega));have hno:cQ im (q:Int)=none:=by rw[hcs];unfold jU;rw[ZP hsh]
  have hf9:=hF3;refine Gz 5 ?_;refine cL (bU (ctC none 0 0 0 false 0) pC nO) ?_;refine sA rfl cI (by exact fM _ _ _ _ _ _) (hf9.obj hg1 id) ?_;intro w20 hg20 hs20 hf20;refine Gz 5 ?_;refine rC hg20 cI ?_;exact⟨_,rfl,nB hno ((hf1.trans hf9).tw hf20)⟩
 have hE3:dE 0 r 3=0:=Z5.1 h30;obtain⟨z1,z2,z3⟩:=jC hE3;have z3r:3≤r.length:=by omega
 obtain⟨cb,cr⟩:=cF hE3;rw[cb] at ho3;rw[hE3,cr] at hP3;have hl3:(r.take (Int.toNat 3)).length=3:=by rw[ZT];omega
 rw[cb];obtain⟨B,hB⟩:∃ B,B=r.take (Int.toNat 3):=⟨_,rfl⟩
 rw[←hB] at ho3 hl3 ⊢;have hg0:B.getD 0 0=r.getD 0 0:=by rw[hB,Z2,Z2,ar];rfl
 have hg1b:B.getD 1 0=r.getD 1 0:=by rw[hB,Z2,Z2,ar];rfl
 obtain⟨b0,hb0⟩:∃ x,x=(r.getD 0 0).toNat:=⟨_,rfl⟩
 obtain⟨b1,hb1⟩:∃ x,x=(r.getD 1 0).toNat:=⟨_,rfl⟩
 have hb0l:b0<256:=by have:=(r.getD 0 0).toNat_lt;omega
 have hb1l:b1<256:=by have:=(r.getD 1 0).toNat_lt;omega
 have hcp:jU r=_:=rfl
 conv at hcp=>rhs;unfold jU
 rw[←hb0,←hb1,ZO (show ¬ r.length<3 by omega),show r.take 3=B from hB.symm] at hcp;obtain⟨n,hn⟩:∃ n,n=b0+256*b1:=⟨_,rfl⟩
 rw[←hn] at hcp;have hnl:n<65536:=by omega
 obtain⟨a3,ha3⟩:∃ x,h3=some x:=Option.ne_none_iff_exists'.1 (ho3.vw.non (by omega));subst ha3;refine Gz 6 ?_;refine Ww 11 [0,1,2,3,4,5,6,7,8,9,10] aK (by kernel_rfl) ?_;refine Gz 1 ?_;refine xC rfl (Wi aH rfl rfl ho3.vw.non (by omega)) ?_;refine xC rfl (Wk eC rfl (ho3.vw.gz 0 0 rfl (by omega))) ?_;refine xC rfl (Wr (n:=(b0:Int)) is5 ty3 rfl (by rw[hg0,←hb0];exact aU (by omega))) ?_;refine Gz 1 ?_;refine xC rfl (Wi aH rfl rfl ho3.vw.non (by omega)) ?_;refine xC rfl (Wk eC rfl (ho3.vw.gz 0 1 rfl (by omega))) ?_;refine xC rfl (Wr (n:=(b1:Int)) is5 ty3 rfl (by rw[hg1b,←hb1];exact aU (by omega))) ?_;refine xC rfl (Wm (u:=iV ((b1*256:Nat):Int)) (X9 rfl rfl (by omega) (by show _≤(b1:Int)*256∧(b1:Int)*256≤_;omega)) (by show Value.int .i64 ((b1:Int)*256)=_;simp)) ?_;refine xC rfl (Wm (u:=iV ((n:Nat):Int)) (YM rfl rfl (by omega) (by omega)) (by rw[OD hb0l,hn])) ?_;refine Gz 4 ?_;refine Wv 7 (fun H=>Vw b8 H (some a3) hc3 B) [1] [0,2,3,4,1,5,6] aK (by kernel_rfl) (ho3.vw) ?_;refine Gz 2 ?_;refine xC rfl (Yo Tryz.underlying268 rfl (by omega)) ?_;refine xC rfl (W9 (cs:=B.map b8) (by rw[List.length_map,hl3];exact Bc) rfl (fun H hH=>Nw hH)) ?_;refine Wo rfl rfl (Wh St rfl (O6 n _ hnl) rfl ?_);rintro _ w4 ⟨rfl,hf4⟩;have hf4:=hf4.ZK.ZK;refine Wu (by exact ho3.vw.ZM hf4) ?_;refine xC rfl (Yn Tryz.underlying268 (by kernel_rfl) Tryz.underlying5 (by kernel_rfl) (by kernel_rfl) (by rw[←MH];rfl) rfl (lH n) hl3) ?_;refine Gz 6 ?_;refine cL (Wm (u:=iV ((if 32768≤n then 32768 else 0:Nat):Int)) (Zb (b:=32768) rfl rfl (by omega) (by decide)) (by rw[Uc hnl])) ?_;refine cL (Wm (u:=.bool (decide (32768≤n))) (W4 rfl rfl) (by congr 1;by_cases h:32768≤n<;>simp[h])) ?_;refine Gz 2 ?_;refine cL (bU (ctC none 0 0 0 (decide (32768≤n)) ((q:Int)+3)) pC nO) ?_;refine Wn nO rfl ?_;intro w5 hg5 hs5 hf5;refine sA rfl cI (by exact fM _ _ _ _ _ _) hg5 ?_;intro w6 hg6 hs6 hf6;obtain⟨c,hc⟩:∃ c,c=w4.heap.size:=⟨_,rfl⟩
 rw[←hc] at hg6 ⊢;have hz4:=hf4.size;have hF36:aA nob w3 w6:=(hf4.trans hf5).tw hf6;have hP6:=hP3.ZM hF36;have hF6:=hF3.trans hF36;have hz6:=hF6.size;obtain⟨m,hm⟩:∃ m,m=n%32768:=⟨_,rfl⟩
 rw[←hm] at hcp;refine Gz 5 ?_;refine cL (Wm (u:=iV (m:Nat)) (Ye rfl rfl hnl) (by rw[hm])) ?_;refine Gz 7 ?_;refine WF (WX rfl) rfl (fun h57=>?_) (fun h57=>?_)
 ·have hne:B≠hdB n:=fun h=>by rw[h] at h57;simp at h57
  have hno:cQ im (q:Int)=none:=by rw[hcs,hcp,ZP hne]
  have hf9:=hF6;refine Gz 17 ?_;refine cL (bU (ctC none 0 0 0 false 0) pC nO) ?_;refine sA rfl cI (by exact fM _ _ _ _ _ _) (hf9.obj hg1 id) ?_;intro w20 hg20 hs20 hf20;refine Gz 5 ?_;refine rC hg20 cI ?_;exact⟨_,rfl,nB hno ((hf1.trans hf9).tw hf20)⟩
 have heq:B=hdB n:=ZY fun h=>h57 (ZV (fun e=>h e.symm));rw[ZO (fun h=>h heq)] at hcp;refine fW 2 ?_ ?_<;>intro h60
 ·have hno:cQ im (q:Int)=none:=by rw[hcs,hcp,ZP (by omega)]
  have hf9:=hF6;refine Gz 14 ?_;refine cL (bU (ctC none 0 0 0 false 0) pC nO) ?_;refine sA rfl cI (by exact fM _ _ _ _ _ _) (hf9.obj hg1 id) ?_;intro w20 hg20 hs20 hf20;refine Gz 5 ?_;refine rC hg20 cI ?_;exact⟨_,rfl,nB hno ((hf1.trans hf9).tw hf20)⟩
 refine fW 3 ?_ ?_<;>intro h64
 ·refine Gz 2 ?_;refine WV rfl rfl (WK (Wk Jc rfl (aB hg6 rfl))) rfl (fun h67=>?_) (fun h67=>?_)
  ·have h67:32768≤n:=of_decide_eq_true h67;have hno:cQ im (q:Int)=none:=by rw[hcs,hcp,ZP (by omega)]
   have hf9:=hF6;refine Gz 7 ?_;refine cL (bU (ctC none 0 0 0 false 0) pC nO) ?_;refine sA rfl cI (by exact fM _ _ _ _ _ _) (hf9.obj hg1 id) ?_;intro w20 hg20 hs20 hf20;refine Gz 5 ?_;refine rC hg20 cI ?_;exact⟨_,rfl,nB hno ((hf1.trans hf9).tw hf20)⟩
  have h67:¬ 32768≤n:=fun h=>h67 (Z3 h);refine fK 11 ?_ ?_<;>intro h72
  ·rw[ZO (by omega),ZO (by omega)] at hcp;obtain⟨tc1,tc2⟩:=yD (r:=r) (m:=m) z3r;refine Gz 6 ?_;refine Wh AO rfl (iF p 0 (r.drop 3) 4 w6 hP6 (by rw[ZX];omega)) rfl ?_;rintro _ w7 ⟨rfl,hP7,hf7⟩;rw[fH (by decide) (by decide)] at hP7 ⊢;have hg7:=hf7.obj hg6 (by omega);have hR7:=cC 0 (r.drop 3) 4;rw[ZX] at hR7;have hvs:=lU (bs:=fD 0 (r.drop 3) 4) (AW _ _ _);refine cL (Wr (n:=((bV (fD 0 (r.drop 3) 4):Nat):Int)) is3 IX rfl (kZ hvs)) ?_;refine Gz 1 ?_;refine Wl Em rfl rfl rfl hg7 rfl ?_;intro w8 hg8 hs8 hf8;have hP8:=hP7.ZN hf8 (fun k hk h=>by have h:k=c:=h;omega);refine Gz 6 ?_;refine Wh G8 rfl (pA p _ _ m w8 hP8 (by omega)) rfl ?_;rintro _ w9 ⟨x9,xc9,rfl,ho9,hfr9,hP9,hf9a⟩;have hg9:=hf9a.obj hg8 (fun h=>by have h:c=p:=h;omega);refine Gz 1 ?_;refine Wl aX rfl rfl rfl hg9 rfl ?_;intro w10 hg10 hs10 hf10;have hP10:=hP9.ZN hf10 (fun k hk h=>by have h:k=c:=h;omega);have ho10:=ho9.ZN hf10 (fun a ha h=>by have:=hfr9 a ha;have h:a.block=c:=h;omega);refine Gz 9 ?_;refine Wl aF rfl rfl rfl hg10 rfl ?_;intro w11 hg11 hs11 hf11;have hP11:=hP10.ZN hf11 (fun k hk h=>by have h:k=c:=h;omega);have ho11:=ho10.ZN hf11 (fun a ha h=>by have:=hfr9 a ha;have h:a.block=c:=h;omega);have hF11:aA nob w1 w11:=((((hF6.tw hf7).tw hf8).tw hf9a).tw hf10).tw hf11;refine Gz 8 ?_;refine Wh G7 rfl (uF p _ _ w11 hP11) rfl ?_;rintro _ wq ⟨rfl,hwq⟩;subst wq;refine fK 0 ?_ ?_<;>intro h91
   ·have hsh:=tc1.1 h91;rw[ZP hsh] at hcp;have hno:cQ im (q:Int)=none:=by rw[hcs,hcp]
    have hf9:=hF11;refine Gz 5 ?_;refine cL (bU (ctC none 0 0 0 false 0) pC nO) ?_;refine sA rfl cI (by exact fM _ _ _ _ _ _) (hf9.obj hg1 id) ?_;intro w20 hg20 hs20 hf20;refine Gz 5 ?_;refine rC hg20 cI ?_;exact⟨_,rfl,nB hno ((hf1.trans hf9).tw hf20)⟩
   have hsh:¬ r.length<7+m:=fun h=>h91 (tc1.2 h);rw[ZO hsh] at hcp;obtain⟨c1,c2⟩:=tc2 hsh;rw[c1,c2] at hg11;rw[c2] at ho11;have hxl:((r.drop 7).take m).length=m:=by rw[ZT,ZX];omega
   refine Gz 7 ?_;refine cL (Ws (cs:=ctC x9 ((r.drop 7).take m).length xc9 (bV ((r.drop 3).take 4)) (decide (32768≤n)) ((q:Int)+3+(4+m))) cI rfl (fun j v hj=>aB hg11 hj)) ?_;refine sA rfl cI (by exact fM _ _ _ _ _ _) (hF11.obj hg1 id) ?_;intro w20 hg20 hs20 hf20;refine Gz 4 ?_;refine rC hg20 cI ?_;refine⟨_,rfl,(hf1.trans hF11).tw hf20,?_⟩;rw[hcs,hcp];refine⟨x9,xc9,?_,ho11.ZN hf20 (fun a ha h=>by have:=hfr9 a ha;have h:a.block=W.heap.size:=h;omega),fun a ha=>by have:=hfr9 a ha;omega⟩;rw[show (q:Int)+eH ((r.drop 7).take m)=(q:Int)+3+(4+m) by unfold eH;rw[hxl,ZO (by omega)];omega]
  rw[ZO (by omega),ZP (by omega)] at hcp;refine Gz 11 ?_;refine Wh G7 rfl (uF p _ _ w6 hP6) rfl ?_;rintro _ wq ⟨rfl,hwq⟩;subst wq;refine cL (W8 (W4 rfl rfl) (fun h=>h rfl)) ?_;refine Gz 7 ?_;refine cL (Ws (cs:=ctC none 0 0 0 (decide (32768≤n)) ((q:Int)+3)) cI rfl (fun j v hj=>aB hg6 hj)) ?_;refine sA rfl cI (by exact fM _ _ _ _ _ _) (hF6.obj hg1 id) ?_;intro w20 hg20 hs20 hf20;refine Gz 4 ?_;refine rC hg20 cI ?_;have hmz:decide (32768≤n)=false:=ZV (by omega);refine⟨_,rfl,(hf1.trans hF6).tw hf20,?_⟩;rw[hcs,hcp,hmz];exact⟨none,0,rfl,Zu,Zs⟩
 refine fK 14 ?_ ?_<;>intro h72
 ·rw[ZO (by omega),ZO (by omega)] at hcp;obtain⟨tc1,tc2⟩:=yD (r:=r) (m:=m) z3r;refine Gz 6 ?_;refine Wh AO rfl (iF p 0 (r.drop 3) 4 w6 hP6 (by rw[ZX];omega)) rfl ?_;rintro _ w7 ⟨rfl,hP7,hf7⟩;rw[fH (by decide) (by decide)] at hP7 ⊢;have hg7:=hf7.obj hg6 (by omega);have hz7:=hf7.size;have hR7:=cC 0 (r.drop 3) 4;rw[ZX] at hR7;have hvs:=lU (bs:=fD 0 (r.drop 3) 4) (AW _ _ _);refine cL (Wr (n:=((bV (fD 0 (r.drop 3) 4):Nat):Int)) is3 IX rfl (kZ hvs)) ?_;refine Gz 1 ?_;refine Wl Em rfl rfl rfl hg7 rfl ?_;intro w8 hg8 hs8 hf8;have hP8:=hP7.ZN hf8 (fun k hk h=>by have h:k=c:=h;omega);refine Gz 6 ?_;refine Wh G8 rfl (pA p _ _ m w8 hP8 (by omega)) rfl ?_;rintro _ w9 ⟨x9,xc9,rfl,ho9,hfr9,hP9,hf9a⟩;have hg9:=hf9a.obj hg8 (fun h=>by have h:c=p:=h;omega);refine Gz 1 ?_;refine Wl aX rfl rfl rfl hg9 rfl ?_;intro w10 hg10 hs10 hf10;have hP10:=hP9.ZN hf10 (fun k hk h=>by have h:k=c:=h;omega);have ho10:=ho9.ZN hf10 (fun a ha h=>by have:=hfr9 a ha;have h:a.block=c:=h;omega);refine Gz 9 ?_;refine Wl aF rfl rfl rfl hg10 rfl ?_;intro w11 hg11 hs11 hf11;have hP11:=hP10.ZN hf11 (fun k hk h=>by have h:k=c:=h;omega);have ho11:=ho10.ZN hf11 (fun a ha h=>by have:=hfr9 a ha;have h:a.block=c:=h;omega);have hF11:aA nob w1 w11:=((((hF6.tw hf7).tw hf8).tw hf9a).tw hf10).tw hf11;refine Gz 8 ?_;refine Wh G7 rfl (uF p _ _ w11 hP11) rfl ?_;rintro _ wq ⟨rfl,hwq⟩;subst wq;refine fK 0 ?_ ?_<;>intro h91
  ·have hsh:=tc1.1 h91;rw[ZP hsh] at hcp;have hno:cQ im (q:Int)=none:=by rw[hcs,hcp]
   have hf9:=hF11;refine Gz 5 ?_;refine cL (bU (ctC none 0 0 0 false 0) pC nO) ?_;refine sA rfl cI (by exact fM _ _ _ _ _ _) (hf9.obj hg1 id) ?_;intro w20 hg20 hs20 hf20;refine Gz 5 ?_;refine rC hg20 cI ?_;exact⟨_,rfl,nB hno ((hf1.trans hf9).tw hf20)⟩
  have hsh:¬ r.length<7+m:=fun h=>h91 (tc1.2 h);rw[ZO hsh] at hcp;obtain⟨c1,c2⟩:=tc2 hsh;rw[c1,c2] at hg11;rw[c2] at ho11;have hxl:((r.drop 7).take m).length=m:=by rw[ZT,ZX];omega
  refine Gz 7 ?_;refine cL (Ws (cs:=ctC x9 ((r.drop 7).take m).length xc9 (bV ((r.drop 3).take 4)) (decide (32768≤n)) ((q:Int)+3+(4+m))) cI rfl (fun j v hj=>aB hg11 hj)) ?_;refine sA rfl cI (by exact fM _ _ _ _ _ _) (hF11.obj hg1 id) ?_;intro w20 hg20 hs20 hf20;refine Gz 4 ?_;refine rC hg20 cI ?_;refine⟨_,rfl,(hf1.trans hF11).tw hf20,?_⟩;rw[hcs,hcp];refine⟨x9,xc9,?_,ho11.ZN hf20 (fun a ha h=>by have:=hfr9 a ha;have h:a.block=W.heap.size:=h;omega),fun a ha=>by have:=hfr9 a ha;omega⟩;rw[show (q:Int)+eH ((r.drop 7).take m)=(q:Int)+3+(4+m) by unfold eH;rw[hxl,ZO (by omega)];omega]
 rw[ZO (by omega),ZP (by omega)] at hcp;refine Gz 11 ?_;refine Wh G7 rfl (uF p _ _ w6 hP6) rfl ?_;rintro _ wq ⟨rfl,hwq⟩;subst wq;refine cL (W8 (W4 rfl rfl) (fun h=>h rfl)) ?_;refine Gz 7 ?_;refine cL (Ws (cs:=ctC none 0 0 0 (decide (32768≤n)) ((q:Int)+3)) cI rfl (fun j v hj=>aB hg6 hj)) ?_;refine sA rfl cI (by exact fM _ _ _ _ _ _) (hF6.obj hg1 id) ?_;intro w20 hg20 hs20 hf20;refine Gz 4 ?_;refine rC hg20 cI ?_;have hmz:decide (32768≤n)=false:=ZV (by omega);refine⟨_,rfl,(hf1.trans hF6).tw hf20,?_⟩;rw[hcs,hcp,hmz];exact⟨none,0,rfl,Zu,Zs⟩
theorem Iw{W w':World}{im:By}{a:Int}{v:Value}(h:FnP W im a v w'):∃ po pc x s st nx e,v=.tuple #[.agg (ctC po x.length pc s st nx).toArray,iV e]∧Own b8 5 w'.heap po pc x∧Fr W.heap.size po∧aA nob W w' ∧
 (e≠0→e=2∧nx=0∧cQ im a=none)∧(e=0→cQ im a=some (x,s,st)∧nx=a+eH x):=by
 obtain⟨hf,h⟩:=h
 split at h
 · rename_i hc
   exact⟨none,0,[],0,false,0,2,h,Zu,Zs,hf,fun _=>⟨rfl,rfl,hc⟩,fun h=>by cases h⟩
 · rename_i x s st hc
   obtain⟨po,pc,h1,h2,h3⟩:=h;exact⟨po,pc,x,s,st,_,0,h1,h2,h3,hf,fun h=>absurd rfl h,fun _=>⟨hc,rfl⟩⟩
def KE(W:World)(r:By×Int×Int):Value→World→Prop:=fun v w'=>∃ o c,v=.tuple #[.slice o r.1.length c,iV r.2.1,iV r.2.2]∧Own b8 5 w'.heap o c r.1∧Fr W.heap.size o∧aA nob W w'
theorem zJ{im:By}{a:Int}(h:cQ im a=none):bD im a=([],0,2):=by unfold bD dA;rw[h];rfl
section
variable {im:List UInt8}{a:Int}{x:List UInt8}{s:Nat}{st:Bool}(h:cQ im a=some (x,s,st))
include h
theorem xH(h0:x.length=0):bD im a=([],a+eH x,0):=by
 unfold bD dA;rw[h];simp only;rw[ZP h0];simp[eH,h0]
theorem BH(h0:¬ x.length=0)(h1:eU x≠s):bD im a=([],0,2):=by
 unfold bD dA;rw[h];simp only;rw[ZO h0,ZP h1];rfl
theorem tS(h0:¬ x.length=0)(h1:¬ eU x≠s)(h2:st=true):bD im a=(x,a+eH x,0):=by
 unfold bD dA;rw[h];simp only;rw[ZO h0,ZO h1,ZP h2];rfl
theorem rO(h0:¬ x.length=0)(h1:¬ eU x≠s)(h2:¬ st=true)(h3:(up 128 x []).2≠0∨(up 128 x []).1.length=0):bD im a=([],0,2):=by
 unfold bD dA;rw[h];simp only;rw[ZO h0,ZO h1,ZO h2,ZP h3];rfl
theorem D6(h0:¬ x.length=0)(h1:¬ eU x≠s)(h2:¬ st=true)(h3:¬ ((up 128 x []).2≠0∨(up 128 x []).1.length=0)):bD im a=((up 128 x []).1,a+eH x,0):=by
 unfold bD dA;rw[h];simp only;rw[ZO h0,ZO h1,ZO h2,ZO h3];rfl
end
theorem Hx(x:By):upS x 128=up 128 x []:=by unfold upS;rw[ZO (by decide)]
theorem Nk{r x:By}{s:Nat}{st:Bool}(h:jU r=some (x,s,st)):x.length≤128∧s<4294967296:=by
 unfold jU at h
 split at h
 ·cases h
 · split at h
   ·cases h
   · split at h
     ·cases h
     · split at h
       ·cases h;simp
       · split at h
         ·cases h
         · cases h
           exact⟨by rw[ZT];omega,lU (by rw[ZT];omega)⟩
theorem rE{im:By}{a:Int}{x:By}{s:Nat}{st:Bool}(h:cQ im a=some (x,s,st)):x.length≤128∧s<4294967296:=by
 unfold cQ at h
 split at h
 ·cases h
 ·exact Nk h
theorem AM(p:Nat)(io:Option Addr)(ic:Nat)(im:By)(a:Int)(W:World)(ht:TbV W.heap p)(hv:Vw b8 W.heap io ic im)(hb:im.length≤1099511627776)(ha:a≤9223372036854775807) :
 CA 123 [pT p,.slice io im.length ic,iV a] W (KE W (bD im a)):=by
 refine cS 58 [(0,_),(1,_),(2,_)] Tryz.func123 ?_;refine cA 11 P9 (ID io ic im a W hv hb ha) ?_;intro _ w1 hR;obtain⟨po,pc,x,s,st,nx,e,rfl,ho1,hfr1,hf1,hE0,hE1⟩:=Iw hR;refine Gz 3 ?_;refine Wn nO rfl ?_;intro w2 hg2 hs2 hf2;refine sA rfl cI (by exact fM _ _ _ _ _ _) hg2 ?_;intro w3 hg3 hs3 hf3;obtain⟨q,hq⟩:∃ q,q=w1.heap.size:=⟨_,rfl⟩
 rw[←hq] at hg3 ⊢;have hz1:=hf1.size;have hF3:aA nob W w3:=(hf1.trans hf2).tw hf3;have ho3:=(ho1.ZM hf2).ZN hf3 (fun b hb h=>by have:=ho1.lt b hb;have h:b.block=w1.heap.size:=h;omega);have ht3:TbV w3.heap p:=hF3.obj ht id;refine fK 8 ?_ ?_<;>intro h18
 ·obtain⟨he2,hnx,hcs⟩:=hE0 h18;have hT:=zJ hcs;refine Gz 16 ?_;rw[hT];exact⟨_,rfl,none,0,by rw[he2];rfl,Zu,Zs,hF3⟩
 have he:e=0:=Z5.1 h18;obtain⟨hcs,hnx⟩:=hE1 he;obtain⟨hxl,hsl⟩:=rE hcs;refine fK 9 ?_ ?_<;>intro h24
 ·have hT:=xH hcs (by omega);refine Gz 5 ?_;refine Ww 5 [0,1,2,3,4] aK (by kernel_rfl) ?_;refine Gz 1 ?_;refine xC rfl (Wk aF rfl (aB hg3 rfl)) ?_;refine Gz 9 ?_;rw[hT];exact⟨_,rfl,none,0,by rw[hnx];rfl,Zu,Zs,hF3.draws 1⟩
 have hx0:¬ x.length=0:=by omega
 refine Gz 5 ?_;refine Wv 8 (fun H=>H[q]?=some (.cells (ctC po x.length pc s st nx).toArray 253 (0,0))) [3] [0,1,2,4,5,3,6,7] aK (by kernel_rfl) (hg3) ?_;refine Gz 5 ?_;refine Wo rfl rfl (Wh R4 rfl (K3 p po pc x _ ht3 ho3.vw) rfl ?_);rintro _ wq ⟨rfl,hwq⟩;subst wq;refine Wu (by exact hg3) ?_;refine xK 0 ?_ ?_<;>intro h34
 ·have hT:=BH hcs hx0 (fun h=>h34 (by rw[h]));refine Gz 15 ?_;rw[hT];exact⟨_,rfl,none,0,rfl,Zu,Zs,hF3.draws 1⟩
 have hsum:¬ eU x≠s:=fun h=>h34 (fun h2=>h (by omega));refine Gz 7 ?_;refine WF (WK (Wk Jc rfl (aB hg3 rfl))) rfl (fun h37=>?_) (fun h37=>?_)
 ·have hT:=tS hcs hx0 hsum h37;refine Gz 5 ?_;refine Ww 7 [0,1,2,3,4,5,6] aK (by kernel_rfl) ?_;refine Gz 1 ?_;refine xC rfl (Wk aX rfl (aB hg3 rfl)) ?_;refine Gz 1 ?_;refine xC rfl (Wk aF rfl (aB hg3 rfl)) ?_;refine Gz 9 ?_;rw[hT];exact⟨_,rfl,po,pc,by rw[hnx],ho3,hfr1,(hF3.draws 1).draws 1⟩
 refine Gz 11 ?_;refine Wh SJ rfl (IW po pc x 128 _ ho3.vw (by omega) (by decide)) rfl ?_;rw[Hx];rintro _ w5 ⟨o5,c5,rfl,ho5,hfr5,hf5⟩;have hf5:=hf5.ZK;have hg5:=hf5.obj hg3 id;refine fK 11 ?_ ?_<;>intro h49
 ·have hT:=rO hcs hx0 hsum h37 (.inl h49);refine Gz 18 ?_;rw[hT];exact⟨_,rfl,none,0,rfl,Zu,Zs,hF3.trans hf5⟩
 have hu0:(up 128 x []).2=0:=Z5.1 h49;refine fW 3 ?_ ?_<;>intro h53
 ·have hT:=rO hcs hx0 hsum h37 (.inr (by omega));refine Gz 14 ?_;rw[hT];exact⟨_,rfl,none,0,rfl,Zu,Zs,hF3.trans hf5⟩
 have hT:=D6 hcs hx0 hsum h37 (by rintro(h|h);exact h hu0;omega);refine Gz 7 ?_;refine Ww 6 [0,1,2,3,4,5] aK (by kernel_rfl) ?_;refine Gz 2 ?_;refine xC rfl (Wk aF rfl (aB hg5 rfl)) ?_;refine Gz 7 ?_;rw[hT];exact⟨_,rfl,o5,c5,by rw[hnx],ho5,fun b hb=>aj hF3.size (hfr5 b hb),(hF3.trans hf5).draws 1⟩
theorem zP{im:By}{a:Int}(h:cQ im a=none):dO im a=(0,2):=by unfold dO;rw[h]
theorem zO{im:By}{a:Int}{x:By}{s:Nat}{st:Bool}(h:cQ im a=some (x,s,st)):dO im a=(a+eH x,0):=by unfold dO;rw[h]
theorem Fz(io:Option Addr)(ic:Nat)(im:By)(a:Int)(W:World)(hv:Vw b8 W.heap io ic im)(hb:im.length≤1099511627776)(ha:a≤9223372036854775807) :
 CA 122 [.slice io im.length ic,iV a] W fun v w'=>v=.tuple #[iV (dO im a).1,iV (dO im a).2]∧aA nob W w':=by
 refine cS 16 [(0,_),(1,_)] Tryz.func122 ?_;refine cA 10 P9 (ID io ic im a W hv hb ha) ?_;intro _ w1 hR;obtain⟨po,pc,x,s,st,nx,e,rfl,ho1,hfr1,hf1,hE0,hE1⟩:=Iw hR;have hsk:dO im a=(nx,e):=by
  by_cases he:e=0
  · obtain⟨hcs,hnx⟩:=hE1 he
    rw[zO hcs,hnx,he]
  · obtain⟨he2,hnx,hcs⟩:=hE0 he
    rw[zP hcs,hnx,he2]
 refine Gz 3 ?_;refine Wn nO rfl ?_;intro w2 hg2 hs2 hf2;refine sA rfl cI (by exact fM _ _ _ _ _ _) hg2 ?_;intro w3 hg3 hs3 hf3;refine Gz 14 ?_;rw[hsk];exact⟨_,rfl,rfl,(hf1.trans hf2).ZJ hf3 (fun k hk=>.inr (by have h:k=w1.heap.size:=hk;have:=hf1.size;omega))⟩
theorem Ub:∀ x,x<256→255-x=255 ^^^ x:=by decide +kernel
theorem Vh{x:Nat}(h:x<256):IntKind.u8.wrap (255-(x:Int))=((255 ^^^ x:Nat):Int):=by
 rw[←Ub x h,show (255:Int)-(x:Int)=((255-x:Nat):Int) by omega,KK (by omega)]
theorem uE(n:Nat)(W:World)(hn:n<65536):CA 101 [iV n] W fun v w'=>∃ o c,v=.slice o (hdB n).length c∧Own b8 5 w'.heap o c (hdB n)∧Fr W.heap.size o∧aA nob W w':=by
 refine cS 17 [(0,_)] Tryz.func101 ?_;refine Gz 8 ?_;refine cL (Wr (n:=((n%256:Nat):Int)) is3 ty5 rfl (zB n)) ?_;refine Gz 6 ?_;refine cL (Wm (u:=iV ((n/256:Nat):Int)) (X4 rfl rfl (by omega)) (by rw[MG])) ?_;refine cL (Wr (n:=((n/256%256:Nat):Int)) is3 ty5 rfl (zB _)) ?_;refine Gz 9 ?_;refine cL (XR rfl rfl (by omega) (by omega)) ?_;refine cL (Wm (u:=.int .u8 ((255 ^^^ ((n%256) ^^^ (n/256%256)):Nat):Int)) (Ys rfl rfl) (by rw[Vh (rK (by omega) (by omega))])) ?_;refine WD aH (cs:=(hdV n).toArray) zc5 rfl rfl rfl (by kernel_rfl) rfl ?_;intro w1 hg1 hs1 hf1;rw[MH] at hg1;refine Gz 5 ?_;exact⟨_,rfl,_,3,rfl,kJ (xs:=hdB n) hg1 (by rw[lH];unfold maxLen;decide),cX _,hf1⟩
theorem nX(ao:Option Addr)(c:Nat)(b:By)(W:World)(hv:Vw b8 W.heap ao c b) :
 CA 54 [.slice ao b.length c] W (xB W (dB b)):=by
 refine cS 42 [(0,_)] Tryz.func54 ?_;refine fK 11 ?_ ?_<;>intro h9
 ·have e:dB b=([],3):=by unfold dB;rw[ZP (by omega)]
  refine Gz 12 ?_;rw[e];exact⟨_,rfl,none,0,rfl,Zu,Zs,Zn _ _⟩
 refine Gz 7 ?_;refine cL (WA sR mQ rfl rfl) ?_;refine Wn mQ rfl ?_;intro w1 hg1 hs1 hf1;refine sA rfl tJ (by simp[Value.oneCell']) hg1 ?_;intro w2 hg2 hs2 hf2;have hF2:aA nob W w2:=hf1.tw hf2;have hP2:WrR (fun k=>W.heap.size≤k) w2.heap W.heap.size 0 []:=ZC hg2 (Z0 _);have hz2:=hF2.size;refine fK 7 ?_ ?_<;>intro h13
 ·have e:dB b=(frS [] 0,0):=by unfold dB;rw[ZO (by omega),ZP (by omega)]
  refine Gz 5 ?_;refine Wh IB rfl (uE 0 w2 (by decide)) rfl ?_;rintro _ w3 ⟨o3,c3,rfl,ho3,hfr3,hf3⟩;refine Gz 7 ?_;rw[e];exact⟨_,rfl,o3,c3,rfl,ho3,hfr3.mono hz2,hF2.trans hf3⟩
 have hb0:0<b.length:=by omega
 have hltA:=KO hv hb0;refine cA 8 Tb (Lp ao c b w2 (hv.ZM hF2)) ?_;rw[OA (by omega)];intro _ w3 hP;have hP:Wd _ (pkS b) 0 _ w3:=hP;obtain⟨o3,c3,rfl,ho3,hfr3,hf3⟩:=hP;have hP3:=hP2.shrink hf3;have hF3:=hF2.trans hf3;have hz3:=hf3.size;have hp0:=LW hb0;obtain⟨D3,hD3⟩:∃ D3:Nat→Prop,D3=fun k=>W.heap.size≤k∧(k<w2.heap.size∨w3.heap.size≤k):=⟨_,rfl⟩
 rw[←hD3] at hP3;have hD3a:∀ k,w3.heap.size≤k→D3 k:=fun k hk=>by rw[hD3];exact⟨by omega,.inr hk⟩
 have hD3b:∀ k,D3 k→W.heap.size≤k:=fun k hk=>by rw[hD3] at hk;exact hk.1
 have hD3c:∀ k,blk o3 k→¬ D3 k:=fun k ⟨a,ha,hk⟩ h=>by rw[hD3] at h;have h2:=h.2;have h3:=hfr3 a ha;have h4:=ho3.lt a ha;omega
 refine Gz 7 ?_;refine WL (β:=Nat×By×Option Addr×Nat) (fun⟨n,x,xo,xc⟩=>[(4,pT W.heap.size),(5,.slice xo x.length xc)]) (fun⟨n,x,xo,xc⟩ w=>dB b=(hdB n++le (eU x:Nat) 4++x,0)∧WrR D3 w.heap W.heap.size 0 (hdB n)∧Vw b8 w.heap xo xc x∧(∀ k,blk xo k→¬ D3 k)∧x.length≤128∧w3.heap.size≤w.heap.size∧aA nob W w) ?_ ?_
 ·refine fK 6 ?_ ?_<;>intro h24
  ·have e:dB b=(hdB (pkS b).length++le (eU (pkS b):Nat) 4++pkS b,0):=by
    have h0:¬ (pkS b).length=0:=by omega
    unfold dB frS;rw[ZO (by omega),ZO (by omega),ZP (by omega),ZO h0,gp,Z6]
   refine Gz 6 ?_;refine Wh IB rfl (uE (pkS b).length w3 (by omega)) rfl ?_;rintro _ w4 ⟨o4,c4,rfl,ho4,hfr4,hf4⟩;refine Wh MV rfl (oB D3 W.heap.size 0 [] o4 c4 (hdB (pkS b).length) w4 (hP3.ZM hf4) (fun k hk=>hD3a k (aj hf4.size hk)) ho4.vw (by simp) (by simp[lH])) rfl ?_;rintro _ w5 ⟨hP5,hf5⟩;rw[GN,aq] at hP5;refine Gz 1 ?_;exact aC ⟨(pkS b).length,pkS b,o3,c3⟩ ⟨e,hP5,(ho3.vw.ZM hf4).ZN hf5 (fun a ha h=>hD3c _ ⟨a,ha,rfl⟩ h),hD3c,by omega,aj hf4.size hf5.size,(hF3.trans hf4).ZJ hf5 (fun k h=>.inr (hD3b k h))⟩
  have e:dB b=(hdB (b.length+32768)++le (eU b:Nat) 4++b,0):=by
   have h0:¬ b.length=0:=by omega
   unfold dB frS;rw[ZO (by omega),ZO (by omega),ZO (by omega),ZO h0,Z6]
  refine Gz 13 ?_;rw[show (32768+(b.length:Int))=((b.length+32768:Nat):Int) by omega];refine Wh IB rfl (uE (b.length+32768) w3 (by omega)) rfl ?_;rintro _ w4 ⟨o4,c4,rfl,ho4,hfr4,hf4⟩;refine Wh MV rfl (oB D3 W.heap.size 0 [] o4 c4 (hdB (b.length+32768)) w4 (hP3.ZM hf4) (fun k hk=>hD3a k (aj hf4.size hk)) ho4.vw (by simp) (by simp[lH])) rfl ?_;rintro _ w5 ⟨hP5,hf5⟩;rw[GN,aq] at hP5;refine Gz 1 ?_;exact aC ⟨b.length+32768,b,ao,c⟩ ⟨e,hP5,hv.ZM ((hF3.trans hf4).ZJ hf5 (fun k h=>.inr (hD3b k h))),fun k hk h=>by have:=hltA k hk;have:=hD3b k h;omega,by omega,aj hf4.size hf5.size,(hF3.trans hf4).ZJ hf5 (fun k h=>.inr (hD3b k h))⟩
 rintro⟨n,x,xo,xc⟩ w6 ⟨e,hP6,hvx,hxD,hxl,hz6,hF6⟩;refine Gz 3 ?_;have hs:=rP x;refine cA 0 Q9 (C7 xo xc x w6 hvx) ?_;rintro _ wq ⟨rfl,hwq⟩;subst wq;refine cL (Wr (n:=((eU x:Nat):Int)) MB ty3 rfl (aU (by omega))) ?_;refine Wh iJ rfl (eB D3 W.heap.size 0 (hdB n) (eU x:Nat) 4 w6 hP6 (fun k hk=>hD3a k (aj hz6 hk)) (by rw[lH];decide)) rfl ?_;rintro _ w7 ⟨hP7,hf7⟩;obtain⟨s1,s2⟩:=JE (E:=0) (hdB n) hs rfl;rw[s1,s2] at hP7;have hz7:=hf7.size;have hvx7:=hvx.ZN hf7 (fun a ha h=>hxD _ ⟨a,ha,rfl⟩ h);refine Gz 5 ?_;refine Wh MV rfl (oB D3 W.heap.size 0 _ xo xc x w7 hP7 (fun k hk=>hD3a k (by omega)) hvx7 (by simp only[ZR,lH,bC];omega) (by omega)) rfl ?_;rintro _ w8 ⟨hP8,hf8⟩;rw[GN] at hP8;refine Gz 4 ?_;refine Wh Dx rfl (jH D3 W.heap.size 0 _ w8 hP8 (by simp only[ZR,lH,bC];omega)) rfl ?_;rintro _ w9 ⟨o9,c9,rfl,ho9,hfr9,hf9⟩;rw[Pk] at ho9 ⊢;refine Gz 6 ?_;rw[e];have hF8:aA nob W w8:=(hF6.ZJ hf7 (fun k h=>.inr (hD3b k h))).ZJ hf8 (fun k h=>.inr (hD3b k h));exact⟨_,rfl,o9,c9,rfl,ho9,hfr9.mono hF8.size,hF8.trans hf9⟩
def RcP(W:World)(im:By)(a:Int):Value→World→Prop:=fun v w'=>∃ o c x s st nx e,v=.tuple #[.slice o x.length c,iV ((s:Nat):Int),.bool st,iV nx,iV e]∧Own b8 5 w'.heap o c x∧Fr W.heap.size o∧aA nob W w' ∧
 (e≠0→e=2∧nx=0∧cQ im a=none)∧(e=0→cQ im a=some (x,s,st)∧nx=a+eH x)
theorem mV{W w':World}{im:By}{a:Int}(h:cQ im a=none)(hf:aA nob W w'):RcP W im a (.tuple #[sN,iV 0,.bool false,iV 0,iV 2]) w':=
 ⟨none,0,[],0,false,0,2,rfl,Zu,Zs,hf,fun _=>⟨rfl,rfl,h⟩,fun h=>by cases h⟩
theorem HU(io:Option Addr)(ic:Nat)(im:By)(a:Int)(W:World)(hv:Vw b8 W.heap io ic im)(hb:im.length≤1099511627776)(ha:a≤9223372036854775807) :
 CA 173 [.slice io im.length ic,iV a] W (RcP W im a):=by
 have hle:=hv.le;refine cS 77 [(0,_),(1,_)] Tryz.func173 ?_;refine fK 13 ?_ ?_<;>intro h16
 ·have hno:cQ im a=none:=by unfold cQ;rw[ZP (by omega)]
  have hf9:aA nob W W:=Zn _ _;refine Gz 20 ?_;refine Xd rfl rfl rfl rfl rfl rfl ?_;exact⟨_,rfl,mV hno hf9⟩
 refine fW 4 ?_ ?_<;>intro h21
 ·have hno:cQ im a=none:=by unfold cQ;rw[ZP (by omega)]
  have hf9:aA nob W W:=Zn _ _;refine Gz 15 ?_;refine Xd rfl rfl rfl rfl rfl rfl ?_;exact⟨_,rfl,mV hno hf9⟩
 obtain⟨q,rfl⟩:∃ q:Nat,a=q:=⟨a.toNat,by omega⟩
 have hcs:cQ im (q:Int)=jU (im.drop q):=by unfold cQ;rw[ZO (by omega)];rfl
 obtain⟨r,hr⟩:∃ r,r=im.drop q:=⟨_,rfl⟩
 have hrl:r.length=im.length-q:=by rw[hr,ZX]
 have hvr:Vw b8 W.heap (aO io ic q 1) (ic-q) r:=by have:=hv.cut (l:=q) (h:=im.length) (m:=ic) (by omega) (Z0 _) hle (Z0 _);rw[Z4 (by simp)] at this;rw[hr];exact this
 rw[←hr] at hcs;refine Gz 10 ?_;refine cL (Wm (u:=.slice (aO io ic q 1) r.length (ic-q)) (WR aH rfl rfl (by omega)) (by rw[hrl];rfl)) ?_;refine cL (WA (cs:=#[.slice (aO io ic q 1) r.length (ic-q),iV 0]) wJ pK rfl (by kernel_rfl)) ?_;refine Wn pK rfl ?_;intro w1 hg1 hs1 hf1;refine sA rfl xA (by simp[Value.oneCell']) hg1 ?_;intro w2 hg2 hs2 hf2;obtain⟨p,hp⟩:∃ p,p=W.heap.size:=⟨_,rfl⟩
 have hF2:aA nob W w2:=hf1.tw hf2;rw[←hp] at hg2 ⊢;have hP2:RdR (fun k=>k=p∨blk (aO io ic q 1) k) w2.heap p 0 r:=⟨aO io ic q 1,ic-q,hg2,hvr.ZM hF2,.inl rfl,fun h0=>⟨fun h=>by have:=KO hvr h0 _ h;omega,fun k hk=>.inr hk⟩⟩
 refine Gz 4 ?_;refine Wh FD rfl (qH p 0 r 3 w2 hP2 (by omega)) rfl ?_;rintro _ w3 ⟨h3,hc3,rfl,ho3,hfr3,hP3,hf3⟩;have hz3:=hf3.size;have hF3:aA nob W w3:=hF2.tw hf3;refine Gz 7 ?_;have hP3o:=hP3;obtain⟨ra,rc,hobj3,hrv3,hrap3⟩:=hP3o;refine fK 1 ?_ ?_<;>intro h30
 ·have hsh:r.length<3:=ZY fun h=>h30 (dQ (by omega) (by omega));have hno:cQ im (q:Int)=none:=by rw[hcs];unfold jU;rw[ZP hsh]
  have hf9:=hF3;refine Gz 14 ?_;refine Xd rfl rfl rfl rfl rfl rfl ?_;exact⟨_,rfl,mV hno hf9⟩
 have hE3:dE 0 r 3=0:=Z5.1 h30;obtain⟨z1,z2,z3⟩:=jC hE3;have z3r:3≤r.length:=by omega
 obtain⟨cb,cr⟩:=cF hE3;rw[cb] at ho3;rw[hE3,cr] at hP3;have hl3:(r.take (Int.toNat 3)).length=3:=by rw[ZT];omega
 rw[cb];obtain⟨B,hB⟩:∃ B,B=r.take (Int.toNat 3):=⟨_,rfl⟩
 rw[←hB] at ho3 hl3 ⊢;have hg0:B.getD 0 0=r.getD 0 0:=by rw[hB,Z2,Z2,ar];rfl
 have hg1b:B.getD 1 0=r.getD 1 0:=by rw[hB,Z2,Z2,ar];rfl
 obtain⟨b0,hb0⟩:∃ x,x=(r.getD 0 0).toNat:=⟨_,rfl⟩
 obtain⟨b1,hb1⟩:∃ x,x=(r.getD 1 0).toNat:=⟨_,rfl⟩
 have hb0l:b0<256:=by have:=(r.getD 0 0).toNat_lt;omega
 have hb1l:b1<256:=by have:=(r.getD 1 0).toNat_lt;omega
 have hcp:jU r=_:=rfl
 conv at hcp=>rhs;unfold jU
 rw[←hb0,←hb1,ZO (show ¬ r.length<3 by omega),show r.take 3=B from hB.symm] at hcp;obtain⟨n,hn⟩:∃ n,n=b0+256*b1:=⟨_,rfl⟩
 rw[←hn] at hcp;have hnl:n<65536:=by omega
 refine Gz 6 ?_;refine Ww 11 [0,1,2,3,4,5,6,7,8,9,10] aK (by kernel_rfl) ?_;refine Gz 1 ?_;refine xC rfl (Wi aH rfl rfl ho3.vw.non (by omega)) ?_;refine xC rfl (Wk eC rfl (ho3.vw.gz 0 0 rfl (by omega))) ?_;refine xC rfl (Wr (n:=(b0:Int)) is5 ty3 rfl (by rw[hg0,←hb0];exact aU (by omega))) ?_;refine Gz 1 ?_;refine xC rfl (Wi aH rfl rfl ho3.vw.non (by omega)) ?_;refine xC rfl (Wk eC rfl (ho3.vw.gz 0 1 rfl (by omega))) ?_;refine xC rfl (Wr (n:=(b1:Int)) is5 ty3 rfl (by rw[hg1b,←hb1];exact aU (by omega))) ?_;refine xC rfl (WN rfl rfl (by omega)) ?_;refine xC rfl (Wm (u:=iV ((n:Nat):Int)) (W5 rfl rfl (by omega)) (by congr 1;omega)) ?_;refine Gz 5 ?_;refine Wv 6 (fun H=>Own b8 5 H h3 hc3 B) [1,2] [0,3,4,1,2,5] aK (by kernel_rfl) (ho3) ?_;refine Gz 2 ?_;refine xC rfl (XS aH ty5 ty9 rfl (fun H hH=>hH.vw)) ?_;refine Wo rfl rfl (Wh IB rfl (uE n _ hnl) rfl ?_);rintro _ w4 ⟨o4,c4,rfl,ho4,hfr4,hf4⟩;have hf4:=hf4.ZK.ZK;refine Wu (by exact ho3.ZM hf4) ?_;refine Wo rfl rfl (XG (WG aH ty5 ty9 rfl ho4.vw) rfl ?_);refine Wu (by exact ho3.ZM hf4) ?_;refine xK 0 ?_ ?_<;>intro h46
 ·have hno:cQ im (q:Int)=none:=by rw[hcs,hcp,ZP (fun h=>h46 h.symm)]
  have hf9:=(hF3.trans hf4).draws 0;refine Gz 14 ?_;refine Xd rfl rfl rfl rfl rfl rfl ?_;exact⟨_,rfl,mV hno hf9⟩
 have heq:B=hdB n:=(Z5.1 h46).symm;rw[ZO (fun h=>h heq)] at hcp;have hF4:=hF3.trans hf4;have hP4:=hP3.ZM hf4;have hz4:=hf4.size;obtain⟨m,hm⟩:∃ m,m=n%32768:=⟨_,rfl⟩
 rw[←hm] at hcp;refine Gz 8 ?_;refine cL (XB rfl rfl) ?_;refine Gz 6 ?_;refine cL (Wm (u:=iV (m:Nat)) (W7 rfl rfl (by omega) (by decide)) (by rw[hm];rfl)) ?_;refine fK 7 ?_ ?_<;>intro h52
 ·have hno:cQ im (q:Int)=none:=by rw[hcs,hcp,ZP (by omega)]
  have hf9:=hF4;refine Gz 21 ?_;refine Xd rfl rfl rfl rfl rfl rfl ?_;exact⟨_,rfl,mV hno hf9⟩
 refine fW 2 ?_ ?_<;>intro h55
 ·refine Gz 1 ?_;refine WV rfl rfl (WK (WU rfl)) rfl (fun h57=>?_) (fun h57=>?_)
  ·have h57:=of_decide_eq_true h57;have hno:cQ im (q:Int)=none:=by rw[hcs,hcp,ZP (by omega)]
   have hf9:=hF4;refine Gz 16 ?_;refine Xd rfl rfl rfl rfl rfl rfl ?_;exact⟨_,rfl,mV hno hf9⟩
  have h57:¬ (32768:Int)≤n:=fun h=>h57 (Z3 h);refine fK 11 ?_ ?_<;>intro h61
  ·rw[ZO (by omega),ZP (by omega)] at hcp;refine Gz 16 ?_;refine Xd rfl rfl rfl rfl rfl rfl ?_;exact⟨_,rfl,none,0,[],0,false,_,0,rfl,Zu,Zs,hF4,fun h=>absurd rfl h,fun _=>⟨by rw[hcs,hcp],rfl⟩⟩
  rw[ZO (by omega),ZO (by omega)] at hcp;obtain⟨tc1,tc2⟩:=yD (r:=r) (m:=m) z3r;refine Gz 7 ?_;refine Wh eD rfl (bT p 0 (r.drop 3) 4 w4 hP4 (by rw[ZX];omega)) rfl ?_;rintro _ w7 ⟨rfl,hP7,hf7⟩;rw[fH (by decide) (by decide)] at hP7 ⊢;have hz7:=hf7.size;have hR7:=cC 0 (r.drop 3) 4;rw[ZX] at hR7;refine Gz 6 ?_;refine Wh FD rfl (qH p _ _ m w7 hP7 (by omega)) rfl ?_;rintro _ w9 ⟨x9,xc9,rfl,ho9,hfr9,hP9,hf9a⟩;have hF9:aA nob W w9:=(hF4.tw hf7).tw hf9a;refine Gz 7 ?_;have hP9o:=hP9;obtain⟨ra9,rc9,hobj9,hrv9,hrap9⟩:=hP9o;refine fK 1 ?_ ?_<;>intro h69
  ·have hsh:=tc1.1 h69;rw[ZP hsh] at hcp;have hno:cQ im (q:Int)=none:=by rw[hcs,hcp]
   have hf9:=hF9;refine Gz 14 ?_;refine Xd rfl rfl rfl rfl rfl rfl ?_;exact⟨_,rfl,mV hno hf9⟩
  have hsh:¬ r.length<7+m:=fun h=>h69 (tc1.2 h);rw[ZO hsh] at hcp;obtain⟨c1,c2⟩:=tc2 hsh;rw[c2] at ho9;rw[c1,c2];have hxl:((r.drop 7).take m).length=m:=by rw[ZT,ZX];omega
  refine Gz 22 ?_;refine Xd rfl rfl rfl rfl rfl rfl ?_;refine⟨_,rfl,x9,xc9,(r.drop 7).take m,bV ((r.drop 3).take 4),decide (32768≤n),_,0,?_,ho9,fun b hb=>by have:=hfr9 b hb;omega,hF9,fun h=>absurd rfl h,fun _=>⟨by rw[hcs,hcp],rfl⟩⟩;rw[show (q:Int)+eH ((r.drop 7).take m)=(q:Int)+7+m by unfold eH;rw[hxl,ZO (by omega)];omega,show decide ((32768:Int)≤n)=decide (32768≤n) by congr 1;simp;omega]
 refine fK 13 ?_ ?_<;>intro h61
 ·rw[ZO (by omega),ZP (by omega)] at hcp;refine Gz 16 ?_;refine Xd rfl rfl rfl rfl rfl rfl ?_;exact⟨_,rfl,none,0,[],0,false,_,0,rfl,Zu,Zs,hF4,fun h=>absurd rfl h,fun _=>⟨by rw[hcs,hcp],rfl⟩⟩
 rw[ZO (by omega),ZO (by omega)] at hcp;obtain⟨tc1,tc2⟩:=yD (r:=r) (m:=m) z3r;refine Gz 7 ?_;refine Wh eD rfl (bT p 0 (r.drop 3) 4 w4 hP4 (by rw[ZX];omega)) rfl ?_;rintro _ w7 ⟨rfl,hP7,hf7⟩;rw[fH (by decide) (by decide)] at hP7 ⊢;have hz7:=hf7.size;have hR7:=cC 0 (r.drop 3) 4;rw[ZX] at hR7;refine Gz 6 ?_;refine Wh FD rfl (qH p _ _ m w7 hP7 (by omega)) rfl ?_;rintro _ w9 ⟨x9,xc9,rfl,ho9,hfr9,hP9,hf9a⟩;have hF9:aA nob W w9:=(hF4.tw hf7).tw hf9a;refine Gz 7 ?_;have hP9o:=hP9;obtain⟨ra9,rc9,hobj9,hrv9,hrap9⟩:=hP9o;refine fK 1 ?_ ?_<;>intro h69
 ·have hsh:=tc1.1 h69;rw[ZP hsh] at hcp;have hno:cQ im (q:Int)=none:=by rw[hcs,hcp]
  have hf9:=hF9;refine Gz 14 ?_;refine Xd rfl rfl rfl rfl rfl rfl ?_;exact⟨_,rfl,mV hno hf9⟩
 have hsh:¬ r.length<7+m:=fun h=>h69 (tc1.2 h);rw[ZO hsh] at hcp;obtain⟨c1,c2⟩:=tc2 hsh;rw[c2] at ho9;rw[c1,c2];have hxl:((r.drop 7).take m).length=m:=by rw[ZT,ZX];omega
 refine Gz 22 ?_;refine Xd rfl rfl rfl rfl rfl rfl ?_;refine⟨_,rfl,x9,xc9,(r.drop 7).take m,bV ((r.drop 3).take 4),decide (32768≤n),_,0,?_,ho9,fun b hb=>by have:=hfr9 b hb;omega,hF9,fun h=>absurd rfl h,fun _=>⟨by rw[hcs,hcp],rfl⟩⟩;rw[show (q:Int)+eH ((r.drop 7).take m)=(q:Int)+7+m by unfold eH;rw[hxl,ZO (by omega)];omega,show decide ((32768:Int)≤n)=decide (32768≤n) by congr 1;simp;omega]
theorem rR(io:Option Addr)(ic:Nat)(im:By)(a:Int)(W:World)(hv:Vw b8 W.heap io ic im)(hb:im.length≤1099511627776)(ha:a≤9223372036854775807) :
 CA 156 [.slice io im.length ic,iV a] W (KE W (bD im a)):=by
 refine cS 53 [(0,_),(1,_)] Tryz.func156 ?_;refine cA 11 PY (HU io ic im a W hv hb ha) ?_;rintro _ w1 ⟨po,pc,x,s,st,nx,e,rfl,ho1,hfr1,hf1,hE0,hE1⟩;refine fK 17 ?_ ?_<;>intro h23
 ·obtain⟨he2,hnx,hcs⟩:=hE0 h23;have hT:=zJ hcs;refine Gz 20 ?_;rw[hT];exact⟨_,rfl,none,0,by rw[he2,hnx];rfl,Zu,Zs,hf1⟩
 have he:e=0:=Z5.1 h23;obtain⟨hcs,hnx⟩:=hE1 he;obtain⟨hxl,hsl⟩:=rE hcs;refine fW 3 ?_ ?_<;>intro h27
 ·have hT:=xH hcs (by omega);refine Gz 16 ?_;rw[hT];exact⟨_,rfl,none,0,by rw[hnx,he];rfl,Zu,Zs,hf1⟩
 have hx0:¬ x.length=0:=by omega
 refine Gz 11 ?_;have hsx:=rP x;refine cA 0 Q9 (C7 po pc x w1 ho1.vw) ?_;rintro _ wq ⟨rfl,hwq⟩;subst wq;refine cL (Wr (n:=((eU x:Nat):Int)) MB ty3 rfl (aU (by omega))) ?_;refine fK 0 ?_ ?_<;>intro h35
 ·have hT:=BH hcs hx0 (fun h=>h35 (by rw[h]));refine Gz 13 ?_;rw[hT];exact⟨_,rfl,none,0,rfl,Zu,Zs,hf1⟩
 have hsum:¬ eU x≠s:=fun h=>h35 (fun h2=>h (by omega));refine Gz 8 ?_;refine WF (WK (WU rfl)) rfl (fun h36=>?_) (fun h36=>?_)
 ·have hT:=tS hcs hx0 hsum h36;refine Gz 15 ?_;rw[hT];exact⟨_,rfl,po,pc,by rw[hnx],ho1,hfr1,hf1⟩
 refine Gz 8 ?_;refine Wh Sq rfl (Gr po pc x 128 w1 ho1.vw (by omega) (by decide)) rfl ?_;rw[Hx];rintro _ w5 ⟨o5,c5,rfl,ho5,hfr5,hf5⟩;refine fK 11 ?_ ?_<;>intro h45
 ·have hT:=rO hcs hx0 hsum h36 (.inl h45);refine Gz 18 ?_;rw[hT];exact⟨_,rfl,none,0,rfl,Zu,Zs,hf1.trans hf5⟩
 have hu0:(up 128 x []).2=0:=Z5.1 h45;refine fW 3 ?_ ?_<;>intro h49
 ·have hT:=rO hcs hx0 hsum h36 (.inr (by omega));refine Gz 14 ?_;rw[hT];exact⟨_,rfl,none,0,rfl,Zu,Zs,hf1.trans hf5⟩
 have hT:=D6 hcs hx0 hsum h36 (by rintro(h|h);exact h hu0;omega);refine Gz 17 ?_;rw[hT];exact⟨_,rfl,o5,c5,by rw[hnx],ho5,fun b hb=>aj hf1.size (hfr5 b hb),hf1.trans hf5⟩
theorem BX(io:Option Addr)(ic:Nat)(im:By)(a:Int)(W:World)(hv:Vw b8 W.heap io ic im)(hb:im.length≤1099511627776)(ha:a≤9223372036854775807) :
 CA 155 [.slice io im.length ic,iV a] W fun v w'=>v=.tuple #[iV (dO im a).1,iV (dO im a).2]∧aA nob W w':=by
 refine cS 22 [(0,_),(1,_)] Tryz.func155 ?_;refine cA 10 PY (HU io ic im a W hv hb ha) ?_;rintro _ w1 ⟨po,pc,x,s,st,nx,e,rfl,ho1,hfr1,hf1,hE0,hE1⟩;have hsk:dO im a=(nx,e):=by
  by_cases he:e=0
  · obtain⟨hcs,hnx⟩:=hE1 he
    rw[zO hcs,hnx,he]
  · obtain⟨he2,hnx,hcs⟩:=hE0 he
    rw[zP hcs,hnx,he2]
 refine Gz 23 ?_;rw[hsk];exact⟨_,rfl,rfl,hf1⟩
theorem vT{b:By}(h:b.length≤128)(pre rest:By):bD (pre++((dB b).1++rest)) pre.length=(b,(pre.length:Int)+(dB b).1.length,0)∧dO (pre++((dB b).1++rest)) pre.length=((pre.length:Int)+(dB b).1.length,0):=by
 obtain⟨h1,_,h3⟩:=Gg h rest;have hc:cQ (pre++((dB b).1++rest)) (pre.length:Int)=jU ((dB b).1++rest):=by
  unfold cQ;rw[ZO (by rw[ZR];omega),show ((pre.length:Nat):Int).toNat=pre.length from rfl,ct rfl]
 refine⟨?_,?_⟩
 · unfold bD
   rw[hc,h1];rfl
 · unfold dO
   rw[hc]
   split at h3
   · rename_i hn
     rw[hn] at h1;unfold dA at h1;simp only[Prod.mk.injEq] at h1;omega
   · rename_i x s st hn
     simp only[h3]
def bd(z:Int):Prop:=-9223372036854775808≤z∧z≤9223372036854775807
theorem Qo(most:Int):∀ (k:Nat) (b out:By),b.length=k→(out.length:Int)≤most→((up most b out).1.length:Int)≤most:=by
 intro k
 induction k using dw with
|ind k ih=>
   intro b out hk ho;by_cases h0:0<b.length
   · have hm:(0:Int)≤most:=by omega
     obtain⟨t,ht⟩:∃ t,t=(b.getD 0 0).toNat:=⟨_,rfl⟩
     have ht2:=(b.getD 0 0).toNat_lt;by_cases h:t<128
     · rw[zD h0 ht h]
       split
       ·simpa using hm
       · split
         ·simpa using hm
         · refine ih _ ?_ (b.drop (t+2)) _ rfl ?_
           ·rw[ZX];omega
           ·rw[ZR,ZT,ZX];omega
     · rw[zE h0 ht rfl h]
       split
       ·simpa using hm
       · split
         ·simpa using hm
         · split
           ·simpa using hm
           · refine ih _ ?_ (b.drop 2) _ rfl ?_
             ·rw[ZX];omega
             ·rw[tG];omega
   · have:b=[]:=Z9 (by omega)
     subst this;rw[qA];exact ho
theorem vU(im:By)(a:Int):(bD im a).1.length≤128:=by
 unfold bD dA;simp only
 split
 ·simp
 · rename_i x s st h
   have h1:=(rE h).1;have h2:=Qo 128 _ x [] rfl (by simp)
   split
   ·simp
   · split
     ·simp
     · split
       ·exact h1
       · split
         ·simp
         ·simp only;omega
def bI(f t:By):By×By:=if 128≤t.length then bI (f++(dB (t.take 128)).1) (t.drop 128) else (f,t)
termination_by t.length
decreasing_by rw[ZX];omega
def pQ(f t:By):By:=if t.length=0 then f else f++(dB t).1
theorem dZ{f t:By}(h:t.length<128):bI f t=(f,t):=by unfold bI;rw[ZO (by omega)]
theorem oP{f t:By}(h:128≤t.length):bI f t=bI (f++(dB (t.take 128)).1) (t.drop 128):=by rw[bI,ZP h]
theorem jB(f t:By):(bI f t).2.length<128:=by
 by_cases h:128≤t.length
 ·rw[oP h];exact jB _ _
 ·rw[dZ (by omega)];show t.length<128;omega
termination_by t.length
decreasing_by rw[ZX];omega
theorem vL(f t b:By):bI f (t++b)=bI (bI f t).1 ((bI f t).2++b):=by
 by_cases h:128≤t.length
 · rw[oP h,oP (t:=t++b) (by rw[ZR];omega),List.take_append_of_le_length h,List.drop_append_of_le_length h]
   exact vL _ _ _
 ·rw[dZ (t:=t) (by omega)]
termination_by t.length
decreasing_by rw[ZX];omega
theorem xG{t:By}(h:128≤t.length):(t.take 128).length=128:=by rw[ZT];omega
theorem vK(f t:By):(bI f t).1.length+2*(bI f t).2.length≤f.length+2*t.length:=by
 by_cases h:128≤t.length
 · have h1:=vK (f++(dB (t.take 128)).1) (t.drop 128)
   have h2:=iG (b:=t.take 128) (by rw[xG h];omega);rw[xG h] at h2;rw[ZR,ZX] at h1;rw[oP h];omega
 ·rw[dZ (by omega)];exact Z0 _
termination_by t.length
decreasing_by rw[ZX];omega
theorem Kq{f t:By}(h:t.length=128):bI f t=(f++(dB t).1,[]):=by
 rw[oP (by omega),Z4 (by omega),List.drop_of_length_le (by omega),dZ (by simp)]
def chW(T:By)(q:Nat):By:=(T.drop (128*q)).take 128
def frW(T:By):Nat→By
|0=>[]
|q+1=>frW T q++(dB (chW T q)).1
def nF(T:By):Nat:=(T.length+127)/128
def aR(T:By)(o:Nat):Nat:=256*(frW T (o/128)).length+o%128
theorem rX(T:By)(q:Nat):(chW T q).length=min 128 (T.length-128*q):=by unfold chW;rw[ZT,ZX]
theorem DE(T:By)(q:Nat):(chW T q).length≤128:=by rw[rX];omega
theorem Dw(T:By)(q:Nat):∀ k,∃ z,frW T (q+k)=frW T q++z
|0=>⟨[],by simp⟩
|k+1=>by
   obtain⟨z,hz⟩:=Dw T q k;exact⟨z++(dB (chW T (q+k))).1,by rw[←Nat.add_assoc];show frW T (q+k)++_=_;rw[hz,Z6]⟩
theorem Kc{T:By}{q n:Nat}(h:q<n):∃ z,frW T n=frW T q++((dB (chW T q)).1++z):=by
 obtain⟨z,hz⟩:=Dw T (q+1) (n-(q+1));rw[show q+1+(n-(q+1))=n by omega] at hz;exact⟨z,by rw[hz];show (frW T q++_)++z=_;rw[Z6]⟩
theorem AN{T:By}{q n:Nat}(h:q≤n):(frW T q).length≤(frW T n).length:=by
 obtain⟨z,hz⟩:=Dw T q (n-q);rw[show q+(n-q)=n by omega] at hz;rw[hz,ZR];omega
theorem wS(T:By):∀ q,(frW T q).length≤135*q
|0=>by simp[frW]
|q+1=>by
   have:=wS T q;have h1:=iG (DE T q);have h2:=DE T q;show (frW T q++_).length≤_;rw[ZR];omega
theorem Q7{T:By}(q:Nat):(frW T q).length<(frW T (q+1)).length:=by
 have h1:=iG (DE T q);show _<(frW T q++_).length;rw[ZR];omega
theorem Nu{T:By}{o q:Nat}(h:128*q+128≤o):chW (T.take o) q=chW T q:=by
 unfold chW;rw[List.drop_take,dq,cn (by omega)]
theorem FA{T:By}{o:Nat}:∀ q,128*q≤o→frW (T.take o) q=frW T q
|0,_=>rfl
|q+1,h=>by
   show frW (T.take o) q++_=frW T q++_;rw[FA q (by omega),Nu (by omega)]
theorem FL(T:By)(q:Nat)(h:128*q≤T.length):bI (frW T q) (T.drop (128*q))=(frW T (T.length/128),T.drop (128*(T.length/128))):=by
 by_cases h1:128≤(T.drop (128*q)).length
 · have h2:=h1
   rw[ZX] at h2;rw[oP h1,ca];exact FL T (q+1) (by omega)
 · rw[dZ (by omega)]
   rw[ZX] at h1;rw[show T.length/128=q by omega]
termination_by T.length-128*q
decreasing_by rw[ZX] at h1;omega
theorem FM(T:By):bI [] T=(frW T (T.length/128),T.drop (128*(T.length/128))):=FL T 0 (by omega)
theorem CE(T:By):pQ (bI [] T).1 (bI [] T).2=frW T (nF T):=by
 rw[FM];unfold pQ nF;simp only[ZX];by_cases h:T.length-128*(T.length/128)=0
 ·rw[ZP h,show (T.length+127)/128=T.length/128 by omega]
 · rw[ZO h,show (T.length+127)/128=T.length/128+1 by omega]
   show _=frW T _++_;unfold chW;rw[Z4 (by rw[ZX];omega)]
theorem EC(T:By):aR T T.length=256*(bI [] T).1.length+(bI [] T).2.length:=by
 rw[FM];unfold aR;simp only[ZX];omega
theorem BY{T:By}{o:Nat}(h:o≤T.length):aR T o=aR (T.take o) (T.take o).length:=by
 unfold aR;rw[ZT,cn h,FA _ (by omega)]
theorem LC{T:By}{o:Nat}(h:o≤1099511627776):aR T o≤1152921504606846976:=by
 have:=wS T (o/128);unfold aR;omega
def dX(im:By)(fr to:Int):Bool:=decide (0≤fr) && decide (fr≤to) && decide (to≤im.length)
def bO(im:By)(fr to at_:Int):Option (By×Int):=
 if to-fr<at_ then none else
 if (bD im (fr+at_)).2.2≠0∨to<(bD im (fr+at_)).2.1∨(bD im (fr+at_)).1.length=0 then none else
 some ((bD im (fr+at_)).1,(bD im (fr+at_)).2.1-fr)
def rdL(im:By)(fr to:Int)(n:Nat)(at_:Int)(i:Nat)(out:By):By×Int×Int:=
 if out.length<n then
  match bO im fr to at_ with
 |none=>([],0,2)
 |some (b,nx)=>if b.length≤i then ([],0,2) else
    if i+((b.drop i).take (n-out.length)).length=128 then rdL im fr to n nx 0 (out++(b.drop i).take (n-out.length)) else
    if (out++(b.drop i).take (n-out.length)).length<n then ([],0,2) else
    rdL im fr to n at_ (i+((b.drop i).take (n-out.length)).length) (out++(b.drop i).take (n-out.length))
 else (out,256*at_+i,0)
termination_by n-out.length
decreasing_by
 all_goals (rw[ZR,ZT,ZX];omega)
def aD(im:By)(fr to ref n:Int):By×Int×Int:=
 if ref<0∨n<0 then ([],0,1) else if dX im fr to=false then ([],0,2) else rdL im fr to n.toNat (ref/256) (ref%256).toNat []
section
variable {im:List UInt8}{fr to:Int}{n:Nat}{at_:Int}{i:Nat}{out b:List UInt8}{nx:Int}
theorem jJ(h:¬ out.length<n):rdL im fr to n at_ i out=(out,256*at_+i,0):=by unfold rdL;rw[ZO h]
theorem jI(h:out.length<n)(hh:bO im fr to at_=none):rdL im fr to n at_ i out=([],0,2):=by
 unfold rdL;rw[ZP h,hh]
theorem lD(h:out.length<n)(hh:bO im fr to at_=some (b,nx))(hi:b.length≤i):rdL im fr to n at_ i out=([],0,2):=by
 unfold rdL;rw[ZP h,hh];simp only;rw[ZP hi]
theorem fR(h:out.length<n)(hh:bO im fr to at_=some (b,nx))(hi:¬ b.length≤i)(h1:i+((b.drop i).take (n-out.length)).length=128) :
 rdL im fr to n at_ i out=rdL im fr to n nx 0 (out++(b.drop i).take (n-out.length)):=by
 rw[rdL,ZP h,hh];simp only;rw[ZO hi,ZP h1]
theorem lE(h:out.length<n)(hh:bO im fr to at_=some (b,nx))(hi:¬ b.length≤i)(h1:¬ i+((b.drop i).take (n-out.length)).length=128)
 (h2:(out++(b.drop i).take (n-out.length)).length<n):rdL im fr to n at_ i out=([],0,2):=by
 rw[rdL,ZP h,hh];simp only;rw[ZO hi,ZO h1,ZP h2]
theorem mB(h:out.length<n)(hh:bO im fr to at_=some (b,nx))(hi:¬ b.length≤i)(h1:¬ i+((b.drop i).take (n-out.length)).length=128)
 (h2:¬ (out++(b.drop i).take (n-out.length)).length<n):rdL im fr to n at_ i out=rdL im fr to n at_ (i+((b.drop i).take (n-out.length)).length) (out++(b.drop i).take (n-out.length)):=by
 rw[rdL,ZP h,hh];simp only;rw[ZO hi,ZO h1,ZO h2]
theorem qC{a:Int}(h:(bD im a).2.2=0):a+3≤(bD im a).2.1:=by
 have e:(bD im a).2.1=if (dA (cQ im a)).2.2=0 then a+(dA (cQ im a)).2.1 else 0:=rfl
 have e2:(dA (cQ im a)).2.2=0:=h;rw[e,ZP e2]
 have:3≤(dA (cQ im a)).2.1:=by
  unfold dA at e2 ⊢
  split
  ·rename_i hn;rw[hn] at e2;simp at e2
  · rename_i x s st hn
    rw[hn] at e2;simp only at e2;by_cases h0:x.length=0
    ·rw[ZP h0];exact Z0 _
    · rw[ZO h0] at e2 ⊢
      by_cases h1:eU x≠s
      ·rw[ZP h1] at e2;simp at e2
      · rw[ZO h1] at e2 ⊢
        have hl:3≤eH x:=by unfold eH;rw[ZO h0];omega
        split
        ·exact hl
        · rename_i hst
          rw[ZO hst] at e2
          split
          ·rename_i hb;rw[ZP hb] at e2;simp at e2
          ·exact hl
 omega
theorem dU(h:bO im fr to at_=some (b,nx)):at_≤to-fr∧(bD im (fr+at_)).2.2=0∧b=(bD im (fr+at_)).1∧nx=(bD im (fr+at_)).2.1-fr∧nx≤to-fr∧at_+3≤nx∧0<b.length∧b.length≤128:=by
 unfold bO at h
 split at h
 ·cases h
 · split at h
   ·cases h
   · rename_i h1 h2
     have h3:(bD im (fr+at_)).2.2=0:=ZY fun hn=>h2 (.inl hn);have h4:=qC h3;have h5:=vU im (fr+at_);cases h;exact⟨by omega,h3,rfl,rfl,by omega,by omega,by omega,h5⟩
end
theorem iM{im:By}{fr to:Int}{x:Bool}(h:x=true↔0≤fr∧fr≤to∧to≤im.length):x=dX im fr to:=by
 rw[Bool.eq_iff_iff,h];unfold dX;simp only[ag,decide_eq_true_eq];omega
section
variable (T pre post:List UInt8)
def imW:By:=pre++(frW T (nF T)++post)
def toW:Int:=(pre.length:Int)+(frW T (nF T)).length
theorem Mo:dX (imW T pre post) pre.length (toW T pre)=true:=by
 unfold dX imW toW;simp only[ZR,ag,decide_eq_true_eq];omega
theorem Qr{q:Nat}(h:q<nF T):bD (imW T pre post) ((pre.length:Int)+(frW T q).length)=(chW T q,(pre.length:Int)+(frW T (q+1)).length,0)∧dO (imW T pre post) ((pre.length:Int)+(frW T q).length)=((pre.length:Int)+(frW T (q+1)).length,0):=by
 obtain⟨z,hz⟩:=Kc (T:=T) h;have h1:=vT (DE T q) (pre++frW T q) (z++post);have e:imW T pre post=(pre++frW T q)++((dB (chW T q)).1++(z++post)):=by unfold imW;rw[hz];simp[Z6]
 have e2:(((pre++frW T q).length:Nat):Int)=(pre.length:Int)+(frW T q).length:=by rw[ZR];omega
 have e3:(frW T (q+1)).length=(frW T q).length+(dB (chW T q)).1.length:=by show (frW T q++_).length=_;rw[ZR]
 rw[←e,e2] at h1;rw[e3];refine⟨h1.1.trans ?_,h1.2.trans ?_⟩
 ·congr 2;omega
 ·congr 1;omega
theorem Dr{q:Nat}(h:q<nF T):bO (imW T pre post) pre.length (toW T pre) (frW T q).length=some (chW T q,((frW T (q+1)).length:Int)):=by
 obtain⟨h1,_⟩:=Qr T pre post h;have h2:=AN (T:=T) (Nat.le_of_lt h);have h3:=AN (T:=T) (show q+1≤nF T from h);have h4:0<(chW T q).length:=by rw[rX];unfold nF at h;omega
 unfold bO toW;rw[ZO (by omega),h1];simp only;rw[ZO (by omega)];congr 2;omega
theorem Ka:bO (imW T pre post) pre.length (toW T pre) (frW T (nF T)).length=none:=by
 unfold bO
 split
 ·rfl
 · by_cases h:(bD (imW T pre post) ((pre.length:Int)+(frW T (nF T)).length)).2.2=0
   · have:=qC h
     rw[ZP (.inr (.inl (by unfold toW;omega)))]
   ·rw[ZP (.inl h)]
theorem Nv{o:Nat}(h:o<T.length):o/128<nF T∧o%128<(chW T (o/128)).length:=by
 rw[rX];unfold nF;omega
theorem Hg(l:By)(a b c:Nat)(h:a+b=c):(l.drop a).drop b=l.drop c:=by rw[ca,h]
theorem Vj(m:Nat):∀ (o:Nat) (out:By),o+m≤T.length →
 rdL (imW T pre post) pre.length (toW T pre) (out.length+m) (frW T (o/128)).length (o%128) out=(out++(T.drop o).take m,((aR T (o+m):Nat):Int),0):=by
 induction m using dw with
|ind m ih=>
   intro o out h;by_cases h0:m=0
   · subst h0
     rw[jJ (by omega)];unfold aR;simp
   · obtain⟨c1,c2⟩:=Nv T (o:=o) (by omega)
     have hh:=Dr T pre post c1;have hlen:=rX T (o/128);have hp:((chW T (o/128)).drop (o%128)).take (out.length+m-out.length)=(T.drop o).take (min (128-o%128) m):=by
      unfold chW;rw[List.drop_take,Hg T (128*(o/128)) (o%128) o (by omega),dq];congr 1;omega
     have hpl:((T.drop o).take (min (128-o%128) m)).length=min (128-o%128) m:=by rw[ZT,ZX];omega
     have key:(out++(T.drop o).take (min (128-o%128) m))++(T.drop (o+min (128-o%128) m)).take (m-min (128-o%128) m)=out++(T.drop o).take m:=by
      rw[Z6];congr 1;have:=ay (min (128-o%128) m) ((T.drop o).take m);rw[dq,List.drop_take,ca,cn (by omega)] at this;exact this
     by_cases hk:o%128+min (128-o%128) m=128
     · rw[fR (by omega) hh (by omega) (by rw[hp,hpl];exact hk),hp]
       have e:=ih (m-min (128-o%128) m) (by omega) (o+min (128-o%128) m) (out++(T.drop o).take (min (128-o%128) m)) (by omega);rw[key,ZR,hpl,show out.length+min (128-o%128) m+(m-min (128-o%128) m)=out.length+m by omega,show (o+min (128-o%128) m)/128=o/128+1 by omega,show (o+min (128-o%128) m)%128=0 by omega,
        show o+min (128-o%128) m+(m-min (128-o%128) m)=o+m by omega] at e
       exact e
     · have hm:min (128-o%128) m=m:=by omega
       rw[mB (by omega) hh (by omega) (by rw[hp,hpl];exact hk) (by rw[hp,ZR,hpl];omega),hp,hpl,hm];rw[jJ (by rw[ZR,ZT,ZX];omega)];congr 2;unfold aR;rw[show (o+m)/128=o/128 by omega];omega
theorem GG{o m:Nat}(h:o+m≤T.length):aD (imW T pre post) pre.length (toW T pre) (aR T o:Nat) (m:Nat)=((T.drop o).take m,((aR T (o+m):Nat):Int),0):=by
 unfold aD;have e1:((aR T o:Nat):Int)/256=(frW T (o/128)).length:=by unfold aR;omega
 have e2:(((aR T o:Nat):Int)%256).toNat=o%128:=by unfold aR;omega
 rw[ZO (by omega),ZO (by rw[Mo];simp),e1,e2,ak];have:=Vj T pre post m o [] h;rw[Z7,cx,aq] at this;exact this
theorem Ou(m:Nat):∀ (o:Nat) (out:By),o≤T.length→T.length<o+m →
 rdL (imW T pre post) pre.length (toW T pre) (out.length+m) (frW T (o/128)).length (o%128) out=([],0,2):=by
 induction m using dw with
|ind m ih=>
   intro o out ho h;by_cases hT:o=T.length
   · by_cases h0:o%128=0
     · rw[show o/128=nF T by unfold nF;omega]
       exact jI (by omega) (Ka T pre post)
     ·exact lD (by omega) (Dr T pre post (q:=o/128) (by unfold nF;omega)) (by rw[rX];omega)
   · obtain⟨c1,c2⟩:=Nv T (o:=o) (by omega)
     have hh:=Dr T pre post c1;have hlen:=rX T (o/128);obtain⟨x,hx⟩:∃ x,x=((chW T (o/128)).drop (o%128)).take (out.length+m-out.length):=⟨_,rfl⟩
     have hxl:x.length=min ((chW T (o/128)).length-o%128) m:=by rw[hx,ZT,ZX];omega
     by_cases hk:o%128+x.length=128
     · rw[fR (by omega) hh (by omega) (by rw[←hx];exact hk),←hx]
       have e:=ih (m-x.length) (by omega) (o+x.length) (out++x) (by omega) (by omega);rw[ZR,show out.length+x.length+(m-x.length)=out.length+m by omega,show (o+x.length)/128=o/128+1 by omega,show (o+x.length)%128=0 by omega] at e;exact e
     ·exact lE (by omega) hh (by omega) (by rw[←hx];exact hk) (by rw[←hx,ZR];omega)
theorem Jp{o m:Nat}(ho:o≤T.length)(h:T.length<o+m):aD (imW T pre post) pre.length (toW T pre) (aR T o:Nat) (m:Nat)=([],0,2):=by
 unfold aD;have e1:((aR T o:Nat):Int)/256=(frW T (o/128)).length:=by unfold aR;omega
 have e2:(((aR T o:Nat):Int)%256).toNat=o%128:=by unfold aR;omega
 rw[ZO (by omega),ZO (by rw[Mo];simp),e1,e2,ak];have:=Ou T pre post m o [] ho h;rw[Z7,cx] at this;exact this
end
theorem yP(T:By):imW T [] []=frW T (nF T):=by unfold imW;simp
theorem yE(T:By):toW T []=(frW T (nF T)).length:=by unfold toW;simp
section
variable {im:List UInt8}{fr to:Int}
theorem HT(n:Nat)(B:Int)(hB:256*(to-fr)+128≤B)(m:Nat):∀ (at_:Int) (i:Nat) (out:By),n-out.length=m→0≤at_→256*at_+i≤B →
 rdL im fr to n at_ i out=([],0,2)∨((rdL im fr to n at_ i out).2.2=0∧(out.length≤n→(rdL im fr to n at_ i out).1.length=n)∧(∃ z,(rdL im fr to n at_ i out).1=out++z)∧0≤(rdL im fr to n at_ i out).2.1∧(rdL im fr to n at_ i out).2.1≤B):=by
 induction m using dw with
|ind m ih=>
   intro at_ i out hm h0 hb;by_cases h:out.length<n
   · cases hh:bO im fr to at_ with
    |none=>exact .inl (jI h hh)
    |some p=>
       obtain⟨b,nx⟩:=p;by_cases hi:b.length≤i
       ·exact .inl (lD h hh hi)
       · obtain⟨s1,s2,s3,s4,s5,s6,s7,s8⟩:=dU hh
         obtain⟨x,hx⟩:∃ x,x=(b.drop i).take (n-out.length):=⟨_,rfl⟩
         have hxl:x.length=min (b.length-i) (n-out.length):=by rw[hx,ZT,ZX];omega
         have hal:(out++x).length=out.length+x.length:=ZR;by_cases h1:i+x.length=128
         · rw[fR h hh hi (by rw[←hx];exact h1),←hx]
           rcases ih (n-(out++x).length) (by omega) nx 0 (out++x) rfl (by omega) (by omega) with h2|⟨h2,h3,⟨z,h4⟩,h5⟩
           ·exact .inl h2
           ·exact .inr ⟨h2,fun _=>h3 (by omega),⟨x++z,by rw[h4,Z6]⟩,h5⟩
         · by_cases h2:(out++x).length<n
           ·exact .inl (lE h hh hi (by rw[←hx];exact h1) (by rw[←hx];exact h2))
           · rw[mB h hh hi (by rw[←hx];exact h1) (by rw[←hx];exact h2),←hx]
             rcases ih (n-(out++x).length) (by omega) at_ (i+x.length) (out++x) rfl h0 (by omega) with h3|⟨h3,h4,⟨z,h5⟩,h6⟩
             ·exact .inl h3
             ·exact .inr ⟨h3,fun _=>h4 (by omega),⟨x++z,by rw[h5,Z6]⟩,h6⟩
   · rw[jJ h]
     exact .inr ⟨rfl,fun h3=>by show out.length=n;omega,⟨[],by simp⟩,by show 0≤256*at_+i;omega,hb⟩
theorem Cj(h:dX im fr to=true):0≤fr∧fr≤to∧to≤im.length:=by
 unfold dX at h;simp only[ag,decide_eq_true_eq] at h;omega
theorem wH(ref n:Int):aD im fr to ref n=([],0,1)∨aD im fr to ref n=([],0,2) ∨
 ((aD im fr to ref n).2.2=0∧0≤ref∧0≤n∧dX im fr to=true∧((aD im fr to ref n).1.length:Int)=n∧0≤(aD im fr to ref n).2.1∧(aD im fr to ref n).2.1≤max ref (256*im.length+128)):=by
 by_cases h1:ref<0∨n<0
 ·left;unfold aD;rw[ZP h1]
 · by_cases h2:dX im fr to=false
   ·right;left;unfold aD;rw[ZO h1,ZP h2]
   · have h3:dX im fr to=true:=by simpa using h2
     obtain⟨m1,m2,m3⟩:=Cj h3;have e:aD im fr to ref n=rdL im fr to n.toNat (ref/256) (ref%256).toNat []:=by unfold aD;rw[ZO h1,ZO h2]
     rw[e];rcases HT (im:=im) (fr:=fr) (to:=to) n.toNat (max ref (256*im.length+128)) (by omega) _ (ref/256) (ref%256).toNat [] rfl (by omega) (by omega) with h|⟨h,h4,_,h5,h6⟩
     ·exact .inr (.inl h)
     ·exact .inr (.inr ⟨h,by omega,by omega,h3,by rw[h4 (ZZ _)];omega,h5,h6⟩)
theorem cJ{ref n:Int}(h:(aD im fr to ref n).2.2=0):0≤ref∧0≤n∧dX im fr to=true∧((aD im fr to ref n).1.length:Int)=n∧0≤(aD im fr to ref n).2.1∧(aD im fr to ref n).2.1≤max ref (256*im.length+128):=by
 rcases wH (im:=im) (fr:=fr) (to:=to) ref n with e|e|e
 ·rw[e] at h;cases h
 ·rw[e] at h;cases h
 ·exact e.2
theorem sQ{ref:Int}(h:0≤ref)(hm:dX im fr to=true):aD im fr to ref 0=([],ref,0):=by
 unfold aD;rw[ZO (by omega),ZO (by rw[hm];simp),jJ (by simp)];congr 2;omega
theorem xL{ref n:Int}(h:(aD im fr to ref n).2.2=0)(hn:0<n):∃ b nx,bO im fr to (ref/256)=some (b,nx)∧(aD im fr to ref n).1.getD 0 0=b.getD (ref%256).toNat 0:=by
 obtain⟨h1,h2,h3,h4,_⟩:=cJ h;obtain⟨m1,m2,m3⟩:=Cj h3;have e:aD im fr to ref n=rdL im fr to n.toNat (ref/256) (ref%256).toNat []:=by unfold aD;rw[ZO (by omega),ZO (by rw[h3];simp)]
 rw[e] at h h4 ⊢;have h0:([]:By).length<n.toNat:=by simp;omega
 cases hh:bO im fr to (ref/256) with
|none=>rw[jI h0 hh] at h;cases h
|some p=>
   obtain⟨b,nx⟩:=p;by_cases hi:b.length≤(ref%256).toNat
   ·rw[lD h0 hh hi] at h;cases h
   · refine⟨b,nx,rfl,?_⟩
     obtain⟨s1,s2,s3,s4,s5,s6,s7,s8⟩:=dU hh;obtain⟨x,hx⟩:∃ x,x=(b.drop (ref%256).toNat).take (n.toNat-([]:By).length):=⟨_,rfl⟩
     have hxl:x.length=min (b.length-(ref%256).toNat) n.toNat:=by rw[hx,ZT,ZX];simp only[Z7];omega
     have hx0:∀ z:By,(x++z).getD 0 0=b.getD (ref%256).toNat 0:=fun z=>by
      rw[Z2,Z2,au (by omega),hx,ar,ZP (by simp;omega),dc,gp]
     by_cases h5:(ref%256).toNat+x.length=128
     · rw[fR h0 hh hi (by rw[←hx];exact h5),←hx] at h ⊢
       rcases HT (im:=im) (fr:=fr) (to:=to) n.toNat (256*(to-fr)+256) (by omega) _ nx 0 ([]++x) rfl (by omega) (by omega) with e2|⟨_,_,⟨z,e2⟩,_⟩
       ·rw[e2] at h;cases h
       ·rw[e2,aq];exact hx0 z
     · by_cases h6:([]++x).length<n.toNat
       ·rw[lE h0 hh hi (by rw[←hx];exact h5) (by rw[←hx];exact h6)] at h;cases h
       · rw[mB h0 hh hi (by rw[←hx];exact h5) (by rw[←hx];exact h6),←hx]
         rw[jJ h6];show ([]++x).getD 0 0=_;rw[aq];have:=hx0 [];rwa[bp] at this
theorem GH{ref n m:Int}(h:(aD im fr to ref n).2.2=0)(h':(aD im fr to ref m).2.2=0)(hn:0<n)(hm:0<m):(aD im fr to ref n).1.getD 0 0=(aD im fr to ref m).1.getD 0 0:=by
 obtain⟨b,nx,e1,e2⟩:=xL h hn;obtain⟨b',nx',e3,e4⟩:=xL h' hm;rw[e1] at e3;cases e3;rw[e2,e4]
end
def aN(F:Nat→Int)(T:By):List Value:=[iV (F 0),iV (F 1),iV (F 2),iV (F 3),iV (F 4),iV (F 5),iV (F 6),iV (F 7),iV (F 8),iV (F 9),.string (bs T)]
theorem bY(F:Nat→Int)(T:By):∀ v∈aN F T,v.oneCell'=true:=by simp[aN,Value.oneCell']
theorem AH(F:Nat→Int)(T:By){o:Nat}(h:o<10):(aN F T)[o]?=some (iV (F o)):=by
 match o,h with
|0,_|1,_|2,_|3,_|4,_|5,_|6,_|7,_|8,_|9,_=>rfl
def upd(F:Nat→Int)(o:Nat)(z:Int):Nat→Int:=fun q=>if q=o then z else F q
theorem AG(F:Nat→Int)(T:By){o:Nat}(h:o<10)(z:Int):(aN F T).set o (iV z)=aN (upd F o z) T:=by
 match o,h with
|0,_|1,_|2,_|3,_|4,_|5,_|6,_|7,_|8,_|9,_=>simp[aN,upd]
theorem ME{F G:Nat→Int}{T U:By}(h:aN F T=aN G U):(∀ o,o<10→F o=G o)∧T=U:=by
 refine⟨fun o ho=>?_,?_⟩
 · have h1:=AH F T ho
   rw[h,AH G U ho] at h1;simpa using h1.symm
 · simp only[aN,List.cons.injEq,Value.string.injEq,and_true] at h
   exact NC h.2.2.2.2.2.2.2.2.2.2
theorem O4{F G:Nat→Int}{T U:By}(h:∀ o,o<10→F o=G o)(h2:T=U):aN F T=aN G U:=by
 subst h2;simp only[aN,h 0 (by decide),h 1 (by decide),h 2 (by decide),h 3 (by decide),h 4 (by decide),h 5 (by decide),h 6 (by decide),h 7 (by decide),h 8 (by decide),h 9 (by decide)]
theorem MF{F G:Nat→Int}{T U:By}(h:∀ o,o<11→(aN F T)[o]?=(aN G U)[o]?):aN F T=aN G U:=by
 apply cd;intro i;by_cases hi:i<11
 ·exact h i hi
 ·rw[bq (by simp[aN];omega),bq (by simp[aN];omega)]
structure Fd where
 f:Nat
 o:Nat
 b:Int
 m:Int
def fdV(x:Fd):List Value:=[.func (.func x.f) #[] #[],iV x.b,iV x.m]
theorem fY:iT 3 fdV:=fun x=>⟨rfl,by simp[fdV,Value.oneCell']⟩
def rG:List Fd:=[⟨175,1,2,511⟩,⟨176,2,2,2047⟩,⟨177,3,2,2047⟩,⟨178,4,2,1024⟩,⟨179,5,4,4294967295⟩]
def xZ:List Fd:=[⟨158,6,4,4294967295⟩,⟨159,7,2,4096⟩,⟨160,8,2,1024⟩,⟨161,9,1,127⟩]
def vJ:List Fd:=[⟨158,6,4,4294967295⟩,⟨159,7,4,1048576⟩]
def fC(k:Int):List Fd:=if k=2 then xZ else if k=1 then vJ else []
def aY(k:Int):List Fd:=rG++fC k
def fd0:Fd:=⟨175,1,2,511⟩
theorem M3{k:Int}{x:Fd}(h:x∈fC k):x∈xZ∨x∈vJ:=by
 unfold fC at h
 split at h
 ·exact .inl h
 · split at h
   ·exact .inr h
   ·cases h
theorem LE{k:Int}{x:Fd}(h:x∈aY k):x∈rG∨x∈xZ∨x∈vJ:=by
 rcases an.1 h with h|h
 ·exact .inl h
 ·exact .inr (M3 h)
theorem mA(k:Int):(aY k).length≤9:=by
 unfold aY fC
 split
 ·decide
 ·split<;>decide
theorem uH{k:Int}{i:Nat}(h:i<(aY k).length):(aY k).getD i fd0∈aY k:=by
 rw[Z2,ZQ h];exact bm h
def Bw(f o:Nat):Prop:=fnB Tryz.prog f=true∧o<10∧0<o∧∀ (b:Nat) (W:World),Calls Tryz.prog f [pT b].toArray W (Ret fun v w'=>v=.pointer (some ⟨b,o,none⟩)∧w'=W)
theorem lG(b o:Nat):Value.pointer (some ((⟨b,0,none⟩:Addr).add o))=.pointer (some ⟨b,o,none⟩):=by rw[Addr.add_lit,cx]
theorem QR:Bw 175 1:=by
 refine⟨So,by decide,by decide,fun b W=>?_⟩;refine cS 6 [(0,_)] Tryz.func175 ?_;refine Gz 15 ?_;exact⟨_,rfl,lG b 1,rfl⟩
theorem QQ:Bw 176 2:=by
 refine⟨Sn,by decide,by decide,fun b W=>?_⟩;refine cS 6 [(0,_)] Tryz.func176 ?_;refine Gz 15 ?_;exact⟨_,rfl,lG b 2,rfl⟩
theorem QP:Bw 177 3:=by
 refine⟨Sm,by decide,by decide,fun b W=>?_⟩;refine cS 6 [(0,_)] Tryz.func177 ?_;refine Gz 15 ?_;exact⟨_,rfl,lG b 3,rfl⟩
theorem QO:Bw 178 4:=by
 refine⟨Sk,by decide,by decide,fun b W=>?_⟩;refine cS 6 [(0,_)] Tryz.func178 ?_;refine Gz 15 ?_;exact⟨_,rfl,lG b 4,rfl⟩
theorem QN:Bw 179 5:=by
 refine⟨Sj,by decide,by decide,fun b W=>?_⟩;refine cS 6 [(0,_)] Tryz.func179 ?_;refine Gz 15 ?_;exact⟨_,rfl,lG b 5,rfl⟩
theorem L0:Bw 158 6:=by
 refine⟨SD,by decide,by decide,fun b W=>?_⟩;refine cS 6 [(0,_)] Tryz.func158 ?_;refine Gz 15 ?_;exact⟨_,rfl,lG b 6,rfl⟩
theorem LZ:Bw 159 7:=by
 refine⟨SC,by decide,by decide,fun b W=>?_⟩;refine cS 6 [(0,_)] Tryz.func159 ?_;refine Gz 15 ?_;exact⟨_,rfl,lG b 7,rfl⟩
theorem QM:Bw 160 8:=by
 refine⟨SB,by decide,by decide,fun b W=>?_⟩;refine cS 6 [(0,_)] Tryz.func160 ?_;refine Gz 15 ?_;exact⟨_,rfl,lG b 8,rfl⟩
theorem QL:Bw 161 9:=by
 refine⟨SA,by decide,by decide,fun b W=>?_⟩;refine cS 6 [(0,_)] Tryz.func161 ?_;refine Gz 15 ?_;exact⟨_,rfl,lG b 9,rfl⟩
theorem iE{k:Int}{x:Fd}(h:x∈aY k):Bw x.f x.o∧1≤x.b∧x.b≤4∧0≤x.m∧x.m<2 ^ (8*x.b).toNat:=by
 rcases LE h with h|h|h
 · simp only[rG,aw,bv,or_false] at h
   rcases h with rfl|rfl|rfl|rfl|rfl
   ·exact⟨QR,by decide,by decide,by decide,by decide⟩
   ·exact⟨QQ,by decide,by decide,by decide,by decide⟩
   ·exact⟨QP,by decide,by decide,by decide,by decide⟩
   ·exact⟨QO,by decide,by decide,by decide,by decide⟩
   ·exact⟨QN,by decide,by decide,by decide,by decide⟩
 · simp only[xZ,aw,bv,or_false] at h
   rcases h with rfl|rfl|rfl|rfl
   ·exact⟨L0,by decide,by decide,by decide,by decide⟩
   ·exact⟨LZ,by decide,by decide,by decide,by decide⟩
   ·exact⟨QM,by decide,by decide,by decide,by decide⟩
   ·exact⟨QL,by decide,by decide,by decide,by decide⟩
 · simp only[vJ,aw,bv,or_false] at h
   rcases h with rfl|rfl
   ·exact⟨L0,by decide,by decide,by decide,by decide⟩
   ·exact⟨LZ,by decide,by decide,by decide,by decide⟩
def FdP(W:World)(L:List Fd):Value→World→Prop:=fun v w'=>∃ ao c,v=.slice ao L.length c∧bJ 3 fdV 242 w'.heap ao c L∧Fr W.heap.size ao∧aA nob W w'
theorem CK(W:World):CA 162 [] W (FdP W rG):=by
 refine cS 7 [] Tryz.func162 ?_;refine Gz 7 ?_;refine cL (bU (fdV ⟨175,1,2,511⟩) mC kL) ?_;refine cL (bU (fdV ⟨176,2,2,2047⟩) mC kL) ?_;refine cL (bU (fdV ⟨177,3,2,2047⟩) mC kL) ?_;refine cL (bU (fdV ⟨178,4,2,1024⟩) mC kL) ?_;refine cL (bU (fdV ⟨179,5,4,4294967295⟩) mC kL) ?_;refine WD tX (cs:=(rG.flatMap fdV).toArray) kL rfl rfl rfl (by kernel_rfl) rfl ?_;intro w1 ho1 hs1 hf1;refine Gz 5 ?_;exact⟨_,rfl,_,_,rfl,bS fY ho1 (by decide),cX _,hf1⟩
theorem wT(k:Int)(W:World):CA 138 [iV k] W (FdP W (fC k)):=by
 refine cS 22 [(0,_)] Tryz.func138 ?_;refine fK 24 ?_ ?_<;>intro h7
 ·refine Gz 7 ?_;refine cL (bU (fdV ⟨158,6,4,4294967295⟩) mC kL) ?_;refine Gz 1 ?_;refine cL (bU (fdV ⟨159,7,2,4096⟩) mC kL) ?_;refine cL (bU (fdV ⟨160,8,2,1024⟩) mC kL) ?_;refine cL (bU (fdV ⟨161,9,1,127⟩) mC kL) ?_;refine WD tX (cs:=(xZ.flatMap fdV).toArray) kL rfl rfl rfl (by kernel_rfl) rfl ?_;intro w1 ho1 hs1 hf1;refine Gz 7 ?_;have e:fC k=xZ:=by unfold fC;rw[ZP h7]
  rw[e];exact⟨_,rfl,_,_,rfl,bS fY ho1 (by decide),cX _,hf1⟩
 refine fK 6 ?_ ?_<;>intro h16
 ·refine Gz 7 ?_;refine cL (bU (fdV ⟨158,6,4,4294967295⟩) mC kL) ?_;refine Gz 1 ?_;refine cL (bU (fdV ⟨159,7,4,1048576⟩) mC kL) ?_;refine WD tX (cs:=(vJ.flatMap fdV).toArray) kL rfl rfl rfl (by kernel_rfl) rfl ?_;intro w1 ho1 hs1 hf1;refine Gz 7 ?_;have e:fC k=vJ:=by unfold fC;rw[ZO h7,ZP h16]
  rw[e];exact⟨_,rfl,_,_,rfl,bS fY ho1 (by decide),cX _,hf1⟩
 refine Gz 14 ?_;have e:fC k=[]:=by unfold fC;rw[ZO h7,ZO h16]
 rw[e];exact⟨_,rfl,none,0,rfl,Zy,Zs,Zn _ _⟩
def cK(wide:Int)(s:Int×By)(z:Int):Int×By:=(iP s.1 z wide,nJ s.1 s.2 z wide)
def iY(l:List Int)(wide:Int):Int×By:=l.foldl (cK wide) (0,[])
theorem gU(E:Int)(xs:By)(x n:Int):(nJ E xs x n).length≤xs.length+4:=by
 by_cases h:iS x n
 ·unfold nJ;rw[ZP (.inr h)];omega
 ·exact EX E xs x n h
theorem Cd(wide:Int):∀ (l:List Int) (s:Int×By),(l.foldl (cK wide) s).2.length≤s.2.length+4*l.length
|[],s=>by simp
|z::r,s=>by
   have h1:=Cd wide r (cK wide s z);have h2:=gU s.1 s.2 z wide;simp only[dt,al];have:(cK wide s z).2.length≤s.2.length+4:=h2;omega
theorem Ak(l:List Int)(wide:Int)(k:Nat)(h:k<l.length):iY (l.take (k+1)) wide=cK wide (iY (l.take k) wide) (l.getD k 0):=by
 unfold iY;rw[am h,cy];simp[Z2,h]
theorem L1(l:List Int)(wide:Int)(k:Nat):(iY (l.take k) wide).2.length≤4*l.length:=by
 have:=Cd wide (l.take k) (0,[]);simp only[Z7,ZT] at this;unfold iY;omega
def aL(l:List Int)(wide:Int):By×Int:=
 if wide=2∨wide=4 then (jY (iY l wide).1 (iY l wide).2,(iY l wide).1) else ([],1)
theorem Pf(wide:Int)(W:World):CA 115 [iV wide] W fun v w'=>v=.bool (decide (wide=2∨wide=4))∧w'=W:=by
 refine cS 9 [(0,_)] Tryz.func115 ?_;refine fK 8 ?_ ?_<;>intro h4
 ·refine Gz 9 ?_;exact⟨_,rfl,by congr 1;symm;first|exact Z3 (by omega)|exact ZV (by omega),rfl⟩
 refine fW 2 ?_ ?_<;>intro h7
 ·refine Gz 6 ?_;exact⟨_,rfl,by congr 1;symm;first|exact Z3 (by omega)|exact ZV (by omega),rfl⟩
 refine Gz 6 ?_;exact⟨_,rfl,by congr 1;symm;first|exact Z3 (by omega)|exact ZV (by omega),rfl⟩
theorem Dy{α:Type}{l:List α}{k:Nat}(h1:k≤l.length)(h2:¬ ((k:Int)<(l.length:Int))):l.take k=l:=Z4 (by omega)
theorem xJ(lo:Option Addr)(lc:Nat)(l:List Int)(wide:Int)(W:World)(hv:Vw i64 W.heap lo lc l)(hb:l.length≤137438953472) :
 CA 28 [.slice lo l.length lc,iV wide] W (xB W (aL l wide)):=by
 have hlen:=L1 l wide;refine cS 33 [(0,_),(1,_)] Tryz.func28 ?_;refine fK 10 ?_ ?_<;>intro h9
 ·refine fW 2 ?_ ?_<;>intro h12
  ·refine Gz 13 ?_;have hw:¬ (wide=2∨wide=4):=by omega
   have e:aL l wide=([],1):=by unfold aL;rw[ZO hw]
   rw[e];exact⟨_,rfl,none,0,rfl,Zu,Zs,Zn _ _⟩
  refine Gz 8 ?_;refine cL (WA sR mQ rfl rfl) ?_;refine Wn mQ rfl ?_;intro w1 hg1 hs1 hf1;refine sA rfl tJ (by simp[Value.oneCell']) hg1 ?_;intro w1b hg1b hs1b hf1b;have hw:wide=2∨wide=4:=by omega
  have hF1:aA nob W w1b:=hf1.ZJ hf1b (fun k hk=>.inr (by omega));refine Gz 9 ?_;refine Wp (β:=Nat) (fun k=>[(0,.slice lo l.length lc),(1,iV wide),(6,pT W.heap.size),(7,iV k)]) (fun k w=>k≤l.length∧WrR (fun k=>W.heap.size≤k) w.heap W.heap.size (iY (l.take k) wide).1 (iY (l.take k) wide).2∧aA nob W w) (fun k=>l.length-k) 0 ⟨rfl,rfl,rfl,rfl,trivial⟩ ⟨ZZ _,ZC hg1b (Z0 _),hF1⟩ ?_;rintro k w2 ⟨hk,hP2,hF2⟩;refine fK 6 ?_ ?_<;>intro h18
  ·refine Gz 10 ?_;refine cL (Wi bP rfl rfl hv.non (by omega)) ?_;refine cL (Wk aF rfl ((hv.ZM hF2).gz 0 k rfl (by omega))) ?_;refine Gz 1 ?_;refine Wh iJ rfl (eB (fun k=>W.heap.size≤k) W.heap.size _ _ (l.getD k 0) wide w2 hP2 (fun k hk=>aj hF2.size hk) (by have:=hlen k;omega)) rfl ?_;rintro _ w3 ⟨hP3,hF3⟩;refine Gz 8 ?_;refine aG (k+1) ?_ (by show l.length-(k+1)<l.length-k;omega);exact⟨by omega,by rw[Ak l wide k (by omega)];exact hP3,(hF2.any.trans hF3).fresh (fun k hk=>hk)⟩
  refine Gz 12 ?_;rw[Dy hk (by assumption)] at *;have hPP:=hP2;obtain⟨ao,c,hobj,hown,hap,hDp,hDa⟩:=hP2;refine fK 1 ?_ ?_<;>intro h29
  ·refine Gz 4 ?_;refine Ww 4 [0,1,2,3] aK (by kernel_rfl) ?_;refine Gz 1 ?_;refine xC rfl (Wk sH rfl (aB hobj rfl)) ?_;refine Gz 7 ?_;have e:aL l wide=([],(iY l wide).1):=by unfold aL jY;rw[ZP hw,ZP (by omega)]
   rw[e];exact⟨_,rfl,none,0,rfl,Zu,Zs,hF2.draws 1⟩
  refine Gz 7 ?_;refine Wh Dx rfl (jH _ W.heap.size _ _ w2 hPP (by have:=hlen l.length;rw[be] at this;omega)) rfl ?_;rintro _ w3 ⟨ao3,c3,rfl,ho3,hfr3,hf3⟩;refine Gz 6 ?_;have e:aL l wide=(jY (iY l wide).1 (iY l wide).2,0):=by unfold aL;rw[ZP hw];congr 1;omega
  rw[e];exact⟨_,rfl,ao3,c3,rfl,ho3,hfr3.mono hF2.size,hF2.trans hf3⟩
 refine Gz 11 ?_;refine cL (WA sR mQ rfl rfl) ?_;refine Wn mQ rfl ?_;intro w1 hg1 hs1 hf1;refine sA rfl tJ (by simp[Value.oneCell']) hg1 ?_;intro w1b hg1b hs1b hf1b;have hw:wide=2∨wide=4:=by omega
 have hF1:aA nob W w1b:=hf1.ZJ hf1b (fun k hk=>.inr (by omega));refine Gz 9 ?_;refine Wp (β:=Nat) (fun k=>[(0,.slice lo l.length lc),(1,iV wide),(6,pT W.heap.size),(7,iV k)]) (fun k w=>k≤l.length∧WrR (fun k=>W.heap.size≤k) w.heap W.heap.size (iY (l.take k) wide).1 (iY (l.take k) wide).2∧aA nob W w) (fun k=>l.length-k) 0 ⟨rfl,rfl,rfl,rfl,trivial⟩ ⟨ZZ _,ZC hg1b (Z0 _),hF1⟩ ?_;rintro k w2 ⟨hk,hP2,hF2⟩;refine fK 6 ?_ ?_<;>intro h18
 ·refine Gz 10 ?_;refine cL (Wi bP rfl rfl hv.non (by omega)) ?_;refine cL (Wk aF rfl ((hv.ZM hF2).gz 0 k rfl (by omega))) ?_;refine Gz 1 ?_;refine Wh iJ rfl (eB (fun k=>W.heap.size≤k) W.heap.size _ _ (l.getD k 0) wide w2 hP2 (fun k hk=>aj hF2.size hk) (by have:=hlen k;omega)) rfl ?_;rintro _ w3 ⟨hP3,hF3⟩;refine Gz 8 ?_;refine aG (k+1) ?_ (by show l.length-(k+1)<l.length-k;omega);exact⟨by omega,by rw[Ak l wide k (by omega)];exact hP3,(hF2.any.trans hF3).fresh (fun k hk=>hk)⟩
 refine Gz 12 ?_;rw[Dy hk (by assumption)] at *;have hPP:=hP2;obtain⟨ao,c,hobj,hown,hap,hDp,hDa⟩:=hP2;refine fK 1 ?_ ?_<;>intro h29
 ·refine Gz 4 ?_;refine Ww 4 [0,1,2,3] aK (by kernel_rfl) ?_;refine Gz 1 ?_;refine xC rfl (Wk sH rfl (aB hobj rfl)) ?_;refine Gz 7 ?_;have e:aL l wide=([],(iY l wide).1):=by unfold aL jY;rw[ZP hw,ZP (by omega)]
  rw[e];exact⟨_,rfl,none,0,rfl,Zu,Zs,hF2.draws 1⟩
 refine Gz 7 ?_;refine Wh Dx rfl (jH _ W.heap.size _ _ w2 hPP (by have:=hlen l.length;rw[be] at this;omega)) rfl ?_;rintro _ w3 ⟨ao3,c3,rfl,ho3,hfr3,hf3⟩;refine Gz 6 ?_;have e:aL l wide=(jY (iY l wide).1 (iY l wide).2,0):=by unfold aL;rw[ZP hw];congr 1;omega
 rw[e];exact⟨_,rfl,ao3,c3,rfl,ho3,hfr3.mono hF2.size,hF2.trans hf3⟩
theorem L5(s:By)(W:World)(hs:s.length≤maxLen):CA 88 [.string (bs s)] W fun v w'=>v=.bool (decide ((0:UInt8)∈s))∧w'=W:=by
 have hl:(s.length:Int)≤9223372036854775807:=by unfold maxLen at hs;omega
 refine cS 14 [(0,_)] Tryz.func88 ?_;refine Gz 12 ?_;refine Wp (β:=Nat) (fun k=>[(0,.string (bs s)),(3,iV k)]) (fun k w=>k≤s.length∧(∀ i,i<k→s.getD i 0≠0)∧w=W) (fun k=>s.length-k) 0 ⟨rfl,rfl,trivial⟩ ⟨ZZ _,by intro i hi;omega,rfl⟩ ?_;rintro k w2 ⟨hk,hgood,hw2⟩;subst hw2;refine Gz 5 ?_;refine cL (WM ty9 rfl) ?_;refine fK 0 ?_ ?_<;>intro h7
 ·refine Gz 11 ?_;refine cL (XQ ty9 rfl rfl (by omega)) ?_;refine fK 0 ?_ ?_<;>intro h13
  ·refine Gz 15 ?_;refine⟨_,rfl,?_,rfl⟩;rw[Z3];have e:s.getD k 0=0:=dn.1 (by have:((s.getD ((k:Int)).toNat 0).toNat:Int)=0:=h13;have e2:((k:Int)).toNat=k:=rfl;rw[e2] at this;show _=0;omega);have hk2:k<s.length:=by omega
   rw[Z2,ZQ hk2] at e;rw[←e];exact bm hk2
  refine Gz 11 ?_;refine aG (k+1) ?_ (by show s.length-(k+1)<s.length-k;omega);refine⟨by omega,fun i hi=>?_,rfl⟩;by_cases hik:i=k
  ·subst hik;intro e;exact h13 (by rw[show ((i:Int)).toNat=i from rfl,e];rfl)
  ·exact hgood i (by omega)
 refine Gz 15 ?_;refine⟨_,rfl,?_,rfl⟩;rw[ZV];intro h0;obtain⟨i,hi,e⟩:=cf h0;exact hgood i (by omega) (by simp[Z2,hi,e])
theorem uC(xo:Option Addr)(xc:Nat)(X:List Xa)(W:World)(hv:XaV W.heap xo xc X) :
 CA 89 [.slice xo X.length xc] W fun v w'=>v=.bool (decide (fB X))∧aA nob W w':=by
 have hl:=hv.ZL;refine cS 56 [(0,_)] Tryz.func89 ?_;refine Gz 12 ?_;refine Wp (β:=Nat) (fun k=>[(0,.slice xo X.length xc),(3,iV k)]) (fun k w=>k≤X.length∧(∀ i,i<k→Fv X i)∧aA nob W w) (fun k=>X.length-k) 0 ⟨rfl,rfl,trivial⟩ ⟨ZZ _,by intro i hi;omega,Zn _ _⟩ ?_;rintro k w2 ⟨hk,hgood,hF2⟩;refine fK 6 ?_ ?_<;>intro h9
 ·refine Gz 11 ?_;obtain⟨xa,xc2,hrow,hxv,hnl⟩:=(hv.ZM hF2).at (i:=k) rfl (by omega);refine cL (Wj iC rfl rfl hv.non (by omega)) ?_;refine cL (Ws (cs:=[.string (bs (X.getD k x0).1),.slice xa (X.getD k x0).2.length xc2]) DK rfl hrow) ?_;refine Wn Bz rfl ?_;intro w3 hg3 hs3 hf3;refine sA rfl DK (by simp[Value.oneCell']) hg3 ?_;intro w4 hg4 hs4 hf4;have hF4:aA nob W w4:=hF2.trans (hf3.ZJ hf4 (fun k hk=>.inr (by omega)));refine Gz 6 ?_;refine Wh RY rfl (L5 _ w4 hnl) rfl ?_;rintro _ w5 ⟨rfl,hw5⟩;subst w5;refine Gz 4 ?_;refine Ww 34 [0,1,2,3,4,5,6,7,8,9,10,11,12,13,14,15,16,17,18,19,20,21,22,23,24,25,26,27,28,29,30,31,32,33] aK (by kernel_rfl) ?_;refine Gz 1 ?_;refine xC rfl (Wk gH rfl (aB hg4 rfl)) ?_;refine xC rfl (WM ty9 rfl) ?_;refine xK 0 ?_ ?_<;>intro h22
  ·have hbad:¬ fB X:=fun h=>by have:=(h.1 k (by omega)).1;have:=bw.2 (OZ this);omega
   refine Gz 45 ?_;exact⟨_,rfl,by rw[ZV hbad],hF4.draws 1⟩
  refine Gz 2 ?_;refine xV rfl (Wk gH rfl (aB hg4 rfl)) ?_;refine xV rfl (WM ty9 rfl) ?_;refine xW 0 ?_ ?_<;>intro h27
  ·have hbad:¬ fB X:=fun h=>by have:=(h.1 k (by omega)).2.1;omega
   refine Gz 40 ?_;exact⟨_,rfl,by rw[ZV hbad],hF4.draws 1⟩
  refine Gz 2 ?_;refine Xk rfl rfl rfl rfl (WK (WU rfl)) rfl (fun h30=>?_) (fun h30=>?_)
  ·have hbad:¬ fB X:=fun h=>(h.1 k (by omega)).2.2.1 (of_decide_eq_true h30);refine Gz 37 ?_;exact⟨_,rfl,by rw[ZV hbad],hF4.draws 1⟩
  have g3:(0:UInt8)∉(X.getD k x0).1:=fun h=>h30 (Z3 h);refine Gz 3 ?_;refine xV rfl (Wk aX rfl (aB hg4 rfl)) ?_;refine xW 1 ?_ ?_<;>intro h36
  ·have hbad:¬ fB X:=fun h=>by have:=(h.1 k (by omega)).2.2.2;omega
   refine Gz 31 ?_;exact⟨_,rfl,by rw[ZV hbad],hF4.draws 1⟩
  refine xW 3 ?_ ?_<;>intro h40
  ·refine Gz 4 ?_;obtain⟨k,rfl⟩:∃ q,k=q+1:=⟨k-1,by omega⟩
   obtain⟨pa,pc2,prow,pxv,pnl⟩:=(hv.ZM hF4).at (i:=k) (z:=((k+1:Nat):Int)-1) (by omega) (by omega);refine xV rfl (Wj iC rfl rfl hv.non (by omega)) ?_;refine Gz 1 ?_;refine xV rfl (Wk gH rfl (prow 0 _ rfl)) ?_;refine Gz 1 ?_;refine xV rfl (Wk gH rfl (aB hg4 rfl)) ?_;refine Xk rfl rfl rfl rfl (WK (Yb rfl rfl)) rfl (fun h50=>?_) (fun h50=>?_)
   ·have hbad:¬ fB X:=fun h=>by have:Z8 (X.getD k x0).1 (X.getD (k+1) x0).1=true:=(h.1 (k+1) (by omega)).1;rw[this] at h50;cases h50
    refine xV rfl (Xq rfl rfl) ?_;refine Gz 16 ?_;exact⟨_,rfl,by rw[ZV hbad],hF4.draws 1⟩
   have g1:Z8 (X.getD k x0).1 (X.getD (k+1) x0).1=true:=by revert h50;cases Z8 (X.getD k x0).1 (X.getD (k+1) x0).1<;>simp
   refine xV rfl (Xq rfl rfl) ?_;refine Gz 12 ?_;refine aG (k+1+1) ?_ (by show X.length-(k+1+1)<X.length-(k+1);omega);refine⟨by omega,fun i hi=>?_,hF4.draws 1⟩;by_cases hik:i=k+1
   ·subst hik;exact⟨g1,by omega,g3,by omega⟩
   ·exact hgood i (by omega)
  refine Gz 10 ?_;refine xV rfl (Xt rfl rfl) ?_;refine Gz 12 ?_;refine aG (k+1) ?_ (by show X.length-(k+1)<X.length-k;omega);refine⟨by omega,fun i hi=>?_,hF4.draws 1⟩;by_cases hik:i=k
  · subst hik;have hi0:i=0:=by omega
    subst hi0;exact⟨(Ax _).2 (by intro e;rw[e] at h22;simp at h22),by omega,g3,by omega⟩
  ·exact hgood i (by omega)
 refine Gz 12 ?_;refine cL (XL rfl rfl) ?_;refine Gz 5 ?_;refine⟨_,rfl,?_,hF2⟩;have hk2:k=X.length:=by omega
 subst hk2;congr 1;exact decide_eq_decide.2 ⟨fun h=>⟨hgood,by omega⟩,fun h=>by have:=h.2;omega⟩
theorem OR(xo:Option Addr)(xc:Nat)(X:List Xa)(W:World)(hv:XaV W.heap xo xc X) :
 CA 142 [.slice xo X.length xc] W fun v w'=>v=.bool (decide (fB X))∧aA nob W w':=by
 have hl:=hv.ZL;refine cS 40 [(0,_)] Tryz.func142 ?_;refine Gz 19 ?_;refine Wp (β:=Nat) (fun k=>[(0,.slice xo X.length xc),(3,.string (bs (HZ X k))),(6,.slice xo X.length xc),(7,iV X.length),(8,iV k)]) (fun k w=>k≤X.length∧(∀ i,i<k→Fv X i)∧aA nob W w) (fun k=>X.length-k) 0 ⟨rfl,rfl,rfl,rfl,rfl,trivial⟩ ⟨ZZ _,by intro i hi;omega,Zn _ _⟩ ?_;rintro k w2 ⟨hk,hgood,hF2⟩;refine fK 2 ?_ ?_<;>intro h9
 ·refine Gz 10 ?_;obtain⟨xa,xc2,hrow,hxv,hnl⟩:=(hv.ZM hF2).at (i:=k) rfl (by omega);refine cL (Wj iC rfl rfl hv.non (by omega)) ?_;refine cL (Ws (cs:=[.string (bs (X.getD k x0).1),.slice xa (X.getD k x0).2.length xc2]) DK rfl hrow) ?_;refine Wn Bz rfl ?_;intro w3 hg3 hs3 hf3;refine sA rfl DK (by simp[Value.oneCell']) hg3 ?_;intro w4 hg4 hs4 hf4;have hF4:aA nob W w4:=hF2.trans (hf3.ZJ hf4 (fun k hk=>.inr (by omega)));refine Gz 8 ?_;refine WF (WK (YN rfl rfl)) rfl (fun h15=>?_) (fun h15=>?_)
  ·have hbad:¬ fB X:=fun h=>by have:=(h.1 k (by omega)).1;rw[iI] at h15;rw[this] at h15;cases h15
   refine Gz 34 ?_;exact⟨_,rfl,by rw[ZV hbad],hF4⟩
  have g1:Z8 (HZ X k) (X.getD k x0).1=true:=by rw[iI] at h15;revert h15;cases Z8 (HZ X k) (X.getD k x0).1<;>simp
  refine Gz 3 ?_;refine cW (WM ty9 rfl) ?_;refine fW 0 ?_ ?_<;>intro h20
  ·have hbad:¬ fB X:=fun h=>by have:=(h.1 k (by omega)).2.1;omega
   refine Gz 29 ?_;exact⟨_,rfl,by rw[ZV hbad],hF4⟩
  refine Gz 4 ?_;refine Wy rfl rfl P3 rfl (MA _ 0 w4) rfl ?_;rintro _ w5 ⟨rfl,hw5⟩;subst w5;refine fW 0 ?_ ?_<;>intro h26
  ·have hbad:¬ fB X:=fun h=>(h.1 k (by omega)).2.2.1 (H4 h26);refine Gz 23 ?_;exact⟨_,rfl,by rw[ZV hbad],hF4⟩
  have g3:=H5 (Int.not_le.1 h26);refine fW 5 ?_ ?_<;>intro h32
  ·have hbad:¬ fB X:=fun h=>by have:=(h.1 k (by omega)).2.2.2;omega
   refine Gz 17 ?_;exact⟨_,rfl,by rw[ZV hbad],hF4⟩
  refine Gz 17 ?_;refine aG (k+1) ?_ (by show X.length-(k+1)<X.length-k;omega);refine⟨by omega,fun i hi=>?_,hF4⟩;by_cases hik:i=k
  ·subst hik;exact⟨g1,by omega,g3,by omega⟩
  ·exact hgood i (by omega)
 refine Gz 13 ?_;refine cL (XL rfl rfl) ?_;refine Gz 5 ?_;refine⟨_,rfl,?_,hF2⟩;have hk2:k=X.length:=by omega
 subst hk2;congr 1;exact decide_eq_decide.2 ⟨fun h=>⟨hgood,by omega⟩,fun h=>by have:=h.2;omega⟩
def bG(F:Nat→Int)(n:Nat):Prop:=
 0≤F 1∧F 1≤511∧0≤F 2∧F 2≤2047∧0≤F 3∧F 3≤2047∧1≤F 4∧F 4≤1024∧0≤F 5∧F 5≤4294967295 ∧
 ((F 0=2∧0≤F 7∧F 7≤4096∧0≤F 8∧F 8≤1024∧(0<F 8↔0<F 7%128)∧0≤F 6∧F 6≤4294967295∧0≤F 9∧F 9<128∧(0<F 8∨F 9=0)∧n=0) ∨
  (F 0=1∧0≤F 6∧F 6≤4294967295∧0≤F 7∧F 7≤1048576∧F 4=1∧F 8=0∧F 9=0∧n=0) ∨
  (F 0=3∧1≤n∧n≤200∧F 6=0∧F 7=0∧F 8=0∧F 9=0))
def fI(F:Nat→Int)(T:By):Prop:=bG F T.length∧(F 0=3→(0:UInt8)∉T)
instance (F:Nat→Int)(T:By):Decidable (fI F T):=by unfold fI bG;exact inferInstance
def okF(F:Nat→Int)(x:Fd):Prop:=0≤F x.o∧F x.o≤x.m
theorem Oq{F:Nat→Int}(h:∀ x∈aY (F 0),okF F x) :
 (0≤F 1∧F 1≤511∧0≤F 2∧F 2≤2047∧0≤F 3∧F 3≤2047∧0≤F 4∧F 4≤1024∧0≤F 5∧F 5≤4294967295) ∧
 (F 0=2→0≤F 6∧F 6≤4294967295∧0≤F 7∧F 7≤4096∧0≤F 8∧F 8≤1024∧0≤F 9∧F 9≤127) ∧
 (F 0=1→0≤F 6∧F 6≤4294967295∧0≤F 7∧F 7≤1048576):=by
 refine⟨?_,fun e=>?_,fun e=>?_⟩
 · have h2:∀ x∈rG,okF F x:=fun x hx=>h x (an.2 (.inl hx))
   simp only[rG,dv,okF] at h2;omega
 · have h2:∀ x∈xZ,okF F x:=fun x hx=>h x (an.2 (.inr (by unfold fC;rw[ZP e];exact hx)))
   simp only[xZ,dv,okF] at h2;omega
 · have h2:∀ x∈vJ,okF F x:=fun x hx=>h x (an.2 (.inr (by unfold fC;rw[ZO (by omega),ZP e];exact hx)))
   simp only[vJ,dv,okF] at h2;omega
theorem uG{F:Nat→Int}{T:By}(h:fI F T):∀ x∈aY (F 0),okF F x:=by
 intro x hx;have h1:=h.1;unfold bG at h1;unfold okF;rcases an.1 hx with hx|hx
 · simp only[rG,aw,bv,or_false] at hx
   rcases hx with rfl|rfl|rfl|rfl|rfl<;>(simp only;omega)
 · unfold fC at hx
   split at hx
   · simp only[xZ,aw,bv,or_false] at hx
     rcases hx with rfl|rfl|rfl|rfl<;>(simp only;omega)
   · split at hx
     · simp only[vJ,aw,bv,or_false] at hx
       rcases hx with rfl|rfl<;>(simp only;omega)
     ·cases hx
def fJ(F:Nat→Int)(L:List Fd):Nat→Int:=fun o=>if o∈L.map (·.o) then F o else 0
def sI(G:Nat→Int)(U:By)(F:Nat→Int)(T:By):Prop:=(∀ o,o<10→G o=F o)∧U=T
instance (G:Nat→Int)(U:By)(F:Nat→Int)(T:By):Decidable (sI G U F T):=by unfold sI;exact inferInstance
theorem xM(F:Nat→Int)(L:List Fd)(x:Fd):upd (fJ F L) x.o (F x.o)=fJ F (L++[x]):=by
 funext q;unfold upd fJ;by_cases h:q=x.o
 ·subst h;simp
 · by_cases h2:q∈L.map (·.o)
   ·rw[ZO h,ZP h2,ZP (by simp at h2 ⊢;exact .inl h2)]
   ·rw[ZO h,ZO h2,ZO (by simp at h2 ⊢;exact⟨h2,h⟩)]
theorem AC(F:Nat→Int):fJ F []=fun _=>0:=by funext q;simp[fJ]
theorem sY(F:Nat→Int)(U T:By):sI (upd (fJ F (aY (F 0))) 0 (F 0)) U F T↔(F 0≠2→F 8=0∧F 9=0)∧(F 0≠2→F 0≠1→F 6=0∧F 7=0)∧U=T:=by
 unfold sI;have hcom:∀ o,(o=1∨o=2∨o=3∨o=4∨o=5)→fJ F (aY (F 0)) o=F o:=fun o ho=>by
  unfold fJ aY;rw[ZP];rw[dr,an];left;simp[rG];omega
 have hval:∀ o,6≤o→(fJ F (aY (F 0)) o=if o∈(fC (F 0)).map (·.o) then F o else 0):=fun o ho=>by
  unfold fJ aY;congr 1;rw[dr,an];simp[rG];omega
 constructor
 · rintro⟨h,hU⟩
   have g:∀ o,6≤o→o<10→(if o∈(fC (F 0)).map (·.o) then F o else 0)=F o:=fun o h6 h10=>by
    have:=h o h10;unfold upd at this;rw[ZO (by omega),hval o h6] at this;exact this
   have g6:=g 6 (by decide) (by decide);have g7:=g 7 (by decide) (by decide);have g8:=g 8 (by decide) (by decide);have g9:=g 9 (by decide) (by decide);refine⟨fun h2=>?_,fun h2 h1=>?_,hU⟩
   · by_cases h1:F 0=1
     ·simp[fC,h1,vJ] at g8 g9;omega
     ·simp[fC,h1,h2] at g8 g9;omega
   ·simp[fC,h1,h2] at g6 g7;omega
 · rintro⟨h8,h6,hU⟩
   refine⟨fun o ho=>?_,hU⟩;unfold upd;by_cases h0:o=0
   ·rw[ZP h0,h0]
   · rw[ZO h0]
     by_cases h5:o<6
     ·exact hcom o (by omega)
     · rw[hval o (by omega)]
       by_cases h2:F 0=2
       ·rw[ZP];simp[fC,h2,xZ];omega
       · have h8':=h8 h2
         by_cases h1:F 0=1
         · by_cases h7:o<8
           ·rw[ZP];simp[fC,h1,vJ];omega
           · rw[ZO (by simp[fC,h1,vJ];omega)]
             have:o=8∨o=9:=by omega
             rcases this with rfl|rfl<;>omega
         · have h6':=h6 h2 h1
           rw[ZO (by simp[fC,h1,h2])];have:o=6∨o=7∨o=8∨o=9:=by omega
           rcases this with rfl|rfl|rfl|rfl<;>omega
section
variable {N:Nt}{l:SF}{ty:TypeId}{pos:String}{aft:Array Edge}{CH:Array Obj→Prop}{x y:Operand}{t':TypeId}{g:Option (Nat×Bool)}{dd:Option Nat}
theorem QZ(G:Nat→Int)(U:By)(F:Nat→Int)(T:By)(w:World):(Op.equalIn 10000 84 (.agg (aN G U).toArray) (.agg (aN F T).toArray)).run Tryz.prog w=.ok (decide (sI G U F T)) w:=by
 have h0:=run_equalIn_struct (P:=Tryz.prog) w 9999 84 (aN G U).toArray (aN F T).toArray (by kernel_rfl) (by kernel_rfl);refine h0.trans ?_;obtain⟨r,hr,hr2⟩:=rB (P:=Tryz.prog) w (d:=9998) (d1:=9999) rfl (xs:=(aN G U).toArray) (ys:=(aN F T).toArray) (Tryz.prog.fieldsOf 84).toList (by
  unfold Program.fieldsOf;rw[Tryz.underlying84];simp only[dv];refine⟨⟨by decide,_,_,rfl,rfl,?_,?_⟩,⟨by decide,_,_,rfl,rfl,?_,?_⟩,⟨by decide,_,_,rfl,rfl,?_,?_⟩,⟨by decide,_,_,rfl,rfl,?_,?_⟩,⟨by decide,_,_,rfl,rfl,?_,?_⟩,⟨by decide,_,_,rfl,rfl,?_,?_⟩,⟨by decide,_,_,rfl,rfl,?_,?_⟩,⟨by decide,_,_,rfl,rfl,?_,?_⟩,⟨by decide,_,_,rfl,rfl,?_,?_⟩,⟨by decide,_,_,rfl,rfl,?_,?_⟩,⟨by decide,_,_,rfl,rfl,?_,?_⟩,by simp⟩<;>first|(unfold okV;rw[ty3];exact(rfl:IntKind.i64=IntKind.i64))|(unfold okV;rw[ty9];exact trivial))
 suffices hsf:r=decide (sI G U F T) by rw[←hsf];exact hr
 rw[Bool.eq_iff_iff,hr2,decide_eq_true_iff];unfold Program.fieldsOf;rw[Tryz.underlying84];constructor
 · intro h
   have h2:aN G U=aN F T:=by
    simp only[dv] at h;obtain⟨a0,a1,a2,a3,a4,a5,a6,a7,a8,a9,a10,_⟩:=h;apply MF;intro o ho
    match o,ho with
   |0,_=>simpa using a0
   |1,_=>simpa using a1
   |2,_=>simpa using a2
   |3,_=>simpa using a3
   |4,_=>simpa using a4
   |5,_=>simpa using a5
   |6,_=>simpa using a6
   |7,_=>simpa using a7
   |8,_=>simpa using a8
   |9,_=>simpa using a9
   |10,_=>simpa using a10
   exact ME h2
 · rintro⟨h1,h2⟩ f _
   rw[O4 h1 h2]
theorem Yz{G F:Nat→Int}{U T:By}(hx:evL l x=some (.agg (aN G U).toArray))(hy:evL l y=some (.agg (aN F T).toArray)):Cm Tryz.prog N CH l ⟨dd,.binOp .neq 84 x y t',ty,pos,aft,g⟩ (.bool (decide (¬ sI G U F T))):=fun a w ha _=>by
 have h1:=run_eqGuard_agg (P:=Tryz.prog) w .neq 84 x y (aN G U).toArray (aN F T).toArray (by kernel_rfl);have h2:=run_neq_struct (P:=Tryz.prog) w 84 (aN G U).toArray (aN F T).toArray;rw[QZ] at h2;simp only[execOp,ha.ev hx,ha.ev hy,Sem.run_bind,h1,h2,Result.andThen_ok,Sem.run_pure];simp
end
theorem tD{L:List Fd}{k:Nat}(h:k<L.length):L.take (k+1)=L.take k++[L.getD k fd0]:=by
 rw[am h];simp[Z2,h]
theorem Hc{H:Array Obj}{ao:Option Addr}{c:Nat}{L:List Fd}(h:VwM 3 fdV H ao c L){k:Nat}{z:Int}(hz:z=k)(hk:k<L.length) :
 ∀ j v,(fdV (L.getD k fd0))[j]?=some v→bK H ((adr ao (z.toNat*3)).add j)=some v:=by
 have e:L[k]?=some (L.getD k fd0):=by simp[Z2,hk]
 exact h.rowZ k hz e
theorem cY{p:Prop}[Decidable p](h:¬ p):Value.bool false=.bool (decide p):=by rw[ZV h]
theorem Bj{p:Prop}[Decidable p](h:p):Value.bool true=.bool (decide p):=by rw[Z3 h]
theorem QU(F:Nat→Int)(T:By)(W:World)(hT:T.length≤maxLen) :
 CA 164 [.agg (aN F T).toArray] W fun v w'=>v=.bool (decide (fI F T))∧aA nob W w':=by
 refine cS 100 [(0,_)] Tryz.func164 ?_;refine Gz 2 ?_;refine WO rfl rfl ?_;intro w1 hg1 hs1 hf1;have hg1:w1.heap[W.heap.size]?=some (.cells (aN F T).toArray 84 (0,0)):=hg1;refine Gz 4 ?_;refine Wv 6 (fun H=>H[W.heap.size]?=some (.cells (aN F T).toArray 84 (0,0))) [0,3,4] [1,2,0,3,4,5] aK (by kernel_rfl) (hg1) ?_;refine Gz 2 ?_;refine Wo rfl rfl (Wh P4 rfl (CK _) rfl ?_);rintro _ w2 ⟨ao2,c2,rfl,ho2,hfr2,hf2⟩;refine Wu (by exact hf2.obj hg1 id) ?_;refine Wo rfl rfl (Wh M1 rfl (wT (F 0) w2) rfl ?_);rintro _ w3 ⟨ao3,c3,rfl,ho3,hfr3,hf3⟩;refine Wu (by exact hf3.obj (hf2.obj hg1 id) id) ?_;refine Wo rfl rfl (Wx fY rfl tX rfl rfl (ho2.ZM hf3) (ho3.vw fY) (by have:=mA (F 0);unfold aY at this;rw[ZR] at this;omega) (by have:=mA (F 0);unfold aY at this;rw[ZR] at this;unfold maxLen;omega) rfl ?_);intro ao4 c4 w4 ho4 hf4 hr4 hn4;have hfr2:Fr w1.heap.size ao2:=hfr2;have hg4:=hf4.obj (hf3.obj (hf2.obj hg1 id) id) (fun⟨a,ha,hb⟩=>by have:=hfr2 a ha;omega);have hF3:aA nob W w3:=(hf1.trans hf2.ZK).trans hf3;have hF4:aA nob W w4:=hF3.ZJ hf4 (fun k ⟨a,ha,hb⟩=>.inr (by have:=hfr2 a ha;omega));refine Wu (by exact hg4) ?_;refine Gz 5 ?_;refine Wn mO rfl ?_;intro w5 hg5 hs5 hf5;have hg5:w5.heap[w4.heap.size]?=some (.cells (aN (fun _=>0) []).toArray 84 (0,0)):=hg5;have hlt4:W.heap.size<w4.heap.size:=by have:=hf2.size;have:=hf3.size;have:=hf4.size;have:w1.heap.size≤w2.heap.size:=hf2.ZK.size;omega
 have hF5:=hF4.trans hf5;have hp5:=hf5.obj hg4 id;have hL5:VwM 3 fdV w5.heap ao4 c4 (aY (F 0)):=(ho4.vw fY).ZM hf5;have hLlen:=mA (F 0);have hne4:∀ a,ao4=some a→a.block<w4.heap.size:=fun a ha=>ho4.lt a ha;refine Gz 11 ?_;refine Wp (β:=Nat) (fun k=>[(1,pT W.heap.size),(4,pT w4.heap.size),(14,.slice ao4 (aY (F 0)).length c4),(15,iV (aY (F 0)).length),(16,iV k)]) (fun k w=>k≤(aY (F 0)).length∧w.heap[w4.heap.size]?=some (.cells (aN (fJ F ((aY (F 0)).take k)) []).toArray 84 (0,0))∧(∀ x∈(aY (F 0)).take k,okF F x)∧w.heap[W.heap.size]?=some (.cells (aN F T).toArray 84 (0,0))∧VwM 3 fdV w.heap ao4 c4 (aY (F 0))∧w4.heap.size<w.heap.size∧aA nob W w) (fun k=>(aY (F 0)).length-k) 0 ⟨rfl,rfl,rfl,rfl,rfl,trivial⟩ ⟨ZZ _,by rw[dm,AC];exact hg5,by simp,hp5,hL5,by omega,hF5⟩ ?_;rintro k w6 ⟨hk,hq,hall,hp,hL,hlt6,hF6⟩;refine fK 2 ?_ ?_<;>intro h17
 ·refine Gz 10 ?_;have hkL:k<(aY (F 0)).length:=by omega
  have hrow:=Hc hL (k:=k) rfl hkL;have hmem:=uH hkL;obtain⟨⟨hfn,ho10,ho0,hcall⟩,hb1,hb4,hm0,hmb⟩:=iE hmem;obtain⟨x,hx⟩:∃ x,x=(aY (F 0)).getD k fd0:=⟨_,rfl⟩
  rw[←hx] at hrow hmem hfn ho10 ho0 hcall hb1 hb4 hm0;refine cL (Wj tX rfl rfl hL.non (by omega)) ?_;refine cL (Ws (cs:=fdV x) wZ rfl hrow) ?_;refine Wn kL rfl ?_;intro w7 hg7 hs7 hf7;refine sA rfl wZ (by simp[fdV,Value.oneCell']) hg7 ?_;intro w8 hg8 hs8 hf8;have hF8:aA nob w6 w8:=hf7.ZJ hf8 (fun k hk=>.inr (by omega));have hp8:=hF8.obj hp id;have hq8:=hF8.obj hq id;refine Gz 6 ?_;refine Xu hfn rfl rfl (hcall W.heap.size w8) rfl ?_;rintro _ w9 ⟨rfl,hw9⟩;subst w9;refine Gz 1 ?_;refine cL (Wk aF rfl (cN hp8 (AH F T ho10))) ?_;refine fK 7 ?_ ?_<;>intro h26
  ·have hbad:¬ fI F T:=fun h=>by have:=uG h x hmem;unfold okF at this;omega
   refine Gz 22 ?_;exact⟨_,rfl,cY hbad,(hF6.trans hF8)⟩
  refine fW 4 ?_ ?_<;>intro h31
  ·have hbad:¬ fI F T:=fun h=>by have:=uG h x hmem;unfold okF at this;omega
   refine Gz 17 ?_;exact⟨_,rfl,cY hbad,(hF6.trans hF8)⟩
  refine Gz 9 ?_;refine Xu hfn rfl rfl (hcall w4.heap.size w8) rfl ?_;rintro _ w9 ⟨rfl,hw9⟩;subst w9;refine Gz 2 ?_;refine Wl aF rfl rfl rfl hq8 (by simp[aN];omega) ?_;intro w10 hg10 hs10 hf10;rw[AG _ _ ho10,xM,hx,←tD hkL] at hg10;refine Gz 7 ?_;refine aG (k+1) ?_ (by show (aY (F 0)).length-(k+1)<(aY (F 0)).length-k;omega);have hF10:aA (· = w4.heap.size) w6 w10:=(hF8.mono (fun _ h=>h.elim)).trans hf10;refine⟨by omega,hg10,fun y hy=>?_,hF10.obj hp (by omega),hL.ZN hF10 (fun a ha e=>by have:=hne4 a ha;omega),by have:=hF10.size;omega,(hF6.trans hF8).ZJ hf10 (fun k hk=>.inr (by omega))⟩;rw[tD hkL,←hx] at hy;rcases an.1 hy with hy|hy
  ·exact hall y hy
  ·rw[ai] at hy;subst hy;unfold okF;omega
 refine Gz 12 ?_;have hfin:=Dy hk (by assumption);rw[hfin] at hq hall;obtain⟨k0,k2,k1⟩:=Oq hall;refine Gz 2 ?_;refine Wl aF rfl rfl rfl hq rfl ?_;intro w11 hg11 hs11 hf11;have hg11:w11.heap[w4.heap.size]?=some (.cells (aN (upd (fJ F (aY (F 0))) 0 (F 0)) []).toArray 84 (0,0)):=by rw[←AG _ _ (by decide)];exact hg11
 have hp11:=hf11.obj hp (by omega);have hF11:aA nob W w11:=hF6.ZJ hf11 (fun k hk=>.inr (by omega));refine Gz 2 ?_;refine WL (β:=By) (fun U=>[(1,pT W.heap.size),(4,pT w4.heap.size)]) (fun U w=>(if F 0=3 then T else [])=U∧w.heap[w4.heap.size]?=some (.cells (aN (upd (fJ F (aY (F 0))) 0 (F 0)) U).toArray 84 (0,0))∧w.heap[W.heap.size]?=some (.cells (aN F T).toArray 84 (0,0))∧aA nob W w) ?_ ?_
 ·refine fK 4 ?_ ?_<;>intro h44
  ·refine Gz 7 ?_;refine Wl gH rfl rfl rfl hg11 rfl ?_;intro w12 hg12 hs12 hf12;have hp12:=hf12.obj hp11 (show ¬ (W.heap.size=w4.heap.size) by omega);have hF12:aA nob W w12:=hF11.tw hf12;refine Gz 1 ?_;refine aC (if F 0=3 then T else []) ?_;exact⟨rfl,by rw[ZP h44];exact hg12,hp12,hF12⟩
  refine Gz 4 ?_;refine aC (if F 0=3 then T else []) ?_;exact⟨rfl,by rw[ZO h44];exact hg11,hp11,hF11⟩
 rintro U w13 ⟨hU,hqz,hpz,hFz⟩;refine Gz 3 ?_;refine cL (Ws (cs:=aN (upd (fJ F (aY (F 0))) 0 (F 0)) U) bM rfl (fun j v hj=>aB hqz hj)) ?_;refine cL (Ws (cs:=aN F T) bM rfl (fun j v hj=>aB hpz hj)) ?_;refine WF (Yz rfl rfl) rfl (fun h50=>?_) (fun h50=>?_)
 ·rw[sY,←hU] at h50;have hbad:¬ fI F T:=fun h=>by have:=h.1;unfold bG at this;apply h50;refine⟨fun _=>by omega,fun _ _=>by omega,?_⟩;by_cases h3:F 0=3;rw[ZP h3];rw[ZO h3];exact(Z9 (by omega)).symm
  refine Gz 16 ?_;exact⟨_,rfl,cY hbad,hFz⟩
 have hsame:=(sY F U T).1 (Z5.1 h50);obtain⟨s8,s6,sU⟩:=hsame;have sT:F 0≠3→T.length=0:=fun h3=>by rw[←sU,←hU,ZO h3];rfl
 refine fW 3 ?_ ?_<;>intro h54
 ·have hbad:¬ fI F T:=fun h=>by have:=h.1;unfold bG at this;omega
  refine Gz 12 ?_;exact⟨_,rfl,cY hbad,hFz⟩
 refine fK 16 ?_ ?_<;>intro h59
 ·refine Gz 8 ?_;refine cL (W7 rfl rfl (by omega) (by decide)) ?_;refine fK 0 ?_ ?_<;>intro h63
  ·refine fK 7 ?_ ?_<;>intro h66
   ·refine Gz 1 ?_;refine cL (Xy ty4 rfl rfl) ?_;refine Gz 15 ?_;exact⟨_,rfl,Bj ⟨by unfold bG;omega,fun h3=>by first|exact hnul|omega⟩,hFz⟩
   refine Gz 1 ?_;refine cL (Xy ty4 rfl rfl) ?_;refine Gz 15 ?_;exact⟨_,rfl,cY (fun h=>by have:=h.1;unfold bG at this;omega),hFz⟩
  refine fK 7 ?_ ?_<;>intro h66
  ·refine Gz 1 ?_;refine cL (Xy ty4 rfl rfl) ?_;refine Gz 15 ?_;exact⟨_,rfl,cY (fun h=>by have:=h.1;unfold bG at this;omega),hFz⟩
  refine Gz 1 ?_;refine cL (Xy ty4 rfl rfl) ?_;refine fW 5 ?_ ?_<;>intro h74
  ·refine Gz 9 ?_;exact⟨_,rfl,Bj ⟨by unfold bG;omega,fun h3=>by first|exact hnul|omega⟩,hFz⟩
  refine Gz 9 ?_;exact⟨_,rfl,cY (fun h=>by have:=h.1;unfold bG at this;omega),hFz⟩
 refine fK 6 ?_ ?_<;>intro h78
 ·refine fK 8 ?_ ?_<;>intro h81
  ·refine Gz 7 ?_;exact⟨_,rfl,Bj ⟨by unfold bG;omega,fun h3=>by first|exact hnul|omega⟩,hFz⟩
  refine Gz 7 ?_;exact⟨_,rfl,cY (fun h=>by have:=h.1;unfold bG at this;omega),hFz⟩
 refine fK 6 ?_ ?_<;>intro h83
 ·refine Gz 8 ?_;refine cL (WM ty9 rfl) ?_;refine fK 0 ?_ ?_<;>intro h87
  ·refine Gz 3 ?_;refine cW (WM ty9 rfl) ?_;refine fW 0 ?_ ?_<;>intro h92
   ·refine Gz 4 ?_;refine Wy rfl rfl P3 rfl (MA _ 0 w13) rfl ?_;rintro _ w14 ⟨rfl,hw14⟩;subst w14;refine fW 0 ?_ ?_<;>intro h98
    ·have hnul:=H5 h98;refine Gz 8 ?_;exact⟨_,rfl,Bj ⟨by unfold bG;omega,fun h3=>by first|exact hnul|omega⟩,hFz⟩
    have hnul:=H4 (Int.not_lt.1 h98);refine Gz 8 ?_;exact⟨_,rfl,cY (fun h=>h.2 (by omega) hnul),hFz⟩
   refine Gz 14 ?_;exact⟨_,rfl,cY (fun h=>by have:=h.1;unfold bG at this;omega),hFz⟩
  refine Gz 19 ?_;exact⟨_,rfl,cY (fun h=>by have:=h.1;unfold bG at this;omega),hFz⟩
 refine Gz 14 ?_;exact⟨_,rfl,cY (fun h=>by have:=h.1;unfold bG at this;omega),hFz⟩
theorem Lu(F:Nat→Int)(T:By)(W:World)(hT:T.length≤maxLen) :
 CA 107 [.agg (aN F T).toArray] W fun v w'=>v=.bool (decide (fI F T))∧aA nob W w':=by
 have hTl:(T.length:Int)≤9223372036854775807:=by unfold maxLen at hT;omega
 refine cS 201 [(0,_)] Tryz.func107 ?_;refine Gz 2 ?_;refine WO rfl rfl ?_;intro w1 hg1 hs1 hf1;have hg1:w1.heap[W.heap.size]?=some (.cells (aN F T).toArray 84 (0,0)):=hg1;refine fK 8 ?_ ?_<;>intro h6
 ·refine Gz 56 ?_;exact⟨_,rfl,cY (fun h=>by have:=h.1;unfold bG at this;omega),hf1⟩
 refine fW 3 ?_ ?_<;>intro h10
 ·refine Gz 52 ?_;exact⟨_,rfl,cY (fun h=>by have:=h.1;unfold bG at this;omega),hf1⟩
 refine fW 4 ?_ ?_<;>intro h15
 ·refine Gz 47 ?_;exact⟨_,rfl,cY (fun h=>by have:=h.1;unfold bG at this;omega),hf1⟩
 refine fW 4 ?_ ?_<;>intro h20
 ·refine Gz 42 ?_;exact⟨_,rfl,cY (fun h=>by have:=h.1;unfold bG at this;omega),hf1⟩
 refine fW 4 ?_ ?_<;>intro h25
 ·refine Gz 37 ?_;exact⟨_,rfl,cY (fun h=>by have:=h.1;unfold bG at this;omega),hf1⟩
 refine fW 4 ?_ ?_<;>intro h30
 ·refine Gz 32 ?_;exact⟨_,rfl,cY (fun h=>by have:=h.1;unfold bG at this;omega),hf1⟩
 refine fW 4 ?_ ?_<;>intro h35
 ·refine Gz 27 ?_;exact⟨_,rfl,cY (fun h=>by have:=h.1;unfold bG at this;omega),hf1⟩
 refine fW 4 ?_ ?_<;>intro h40
 ·refine Gz 22 ?_;exact⟨_,rfl,cY (fun h=>by have:=h.1;unfold bG at this;omega),hf1⟩
 refine fW 4 ?_ ?_<;>intro h45
 ·refine Gz 17 ?_;exact⟨_,rfl,cY (fun h=>by have:=h.1;unfold bG at this;omega),hf1⟩
 refine fW 4 ?_ ?_<;>intro h50
 ·refine Gz 12 ?_;exact⟨_,rfl,cY (fun h=>by have:=h.1;unfold bG at this;omega),hf1⟩
 refine fK 16 ?_ ?_<;>intro h55
 ·refine fK 9 ?_ ?_<;>intro h58
  ·refine Gz 38 ?_;exact⟨_,rfl,cY (fun h=>by have:=h.1;unfold bG at this;omega),hf1⟩
  refine fW 3 ?_ ?_<;>intro h62
  ·refine Gz 34 ?_;exact⟨_,rfl,cY (fun h=>by have:=h.1;unfold bG at this;omega),hf1⟩
  refine fW 4 ?_ ?_<;>intro h67
  ·refine Gz 29 ?_;exact⟨_,rfl,cY (fun h=>by have:=h.1;unfold bG at this;omega),hf1⟩
  refine fW 4 ?_ ?_<;>intro h72
  ·refine Gz 24 ?_;exact⟨_,rfl,cY (fun h=>by have:=h.1;unfold bG at this;omega),hf1⟩
  refine fW 4 ?_ ?_<;>intro h77
  ·refine Gz 2 ?_;refine cW (W7 rfl rfl (by omega) (by decide)) ?_;refine fW 0 ?_ ?_<;>intro h81
   ·refine cW (Xf ty4 rfl rfl) ?_;refine fK 10 ?_ ?_<;>intro h86
    ·refine fW 3 ?_ ?_<;>intro h90
     ·refine fW 4 ?_ ?_<;>intro h95
      ·refine fW 4 ?_ ?_<;>intro h100
       ·refine fW 4 ?_ ?_<;>intro h105
        ·refine fW 9 ?_ ?_<;>intro h115
         ·have hT0:T.length=0:=by rw[h115];rfl
          refine Gz 8 ?_;exact⟨_,rfl,Bj ⟨by unfold bG;omega,fun h3=>by omega⟩,hf1⟩
         have hT0:T.length≠0:=fun e=>h115 (Z9 e);refine Gz 8 ?_;exact⟨_,rfl,cY (fun h=>by have:=h.1;unfold bG at this;omega),hf1⟩
        refine fW 3 ?_ ?_<;>intro h109
        ·refine fW 5 ?_ ?_<;>intro h115
         ·refine Gz 8 ?_;exact⟨_,rfl,Bj ⟨by unfold bG;omega,fun h3=>by omega⟩,hf1⟩
         refine Gz 8 ?_;exact⟨_,rfl,cY (fun h=>by have:=h.1;unfold bG at this;omega),hf1⟩
        refine Gz 14 ?_;exact⟨_,rfl,cY (fun h=>by have:=h.1;unfold bG at this;omega),hf1⟩
       refine Gz 23 ?_;exact⟨_,rfl,cY (fun h=>by have:=h.1;unfold bG at this;omega),hf1⟩
      refine Gz 28 ?_;exact⟨_,rfl,cY (fun h=>by have:=h.1;unfold bG at this;omega),hf1⟩
     refine Gz 33 ?_;exact⟨_,rfl,cY (fun h=>by have:=h.1;unfold bG at this;omega),hf1⟩
    refine Gz 37 ?_;exact⟨_,rfl,cY (fun h=>by have:=h.1;unfold bG at this;omega),hf1⟩
   refine cW (Xf ty4 rfl rfl) ?_;refine Gz 14 ?_;exact⟨_,rfl,cY (fun h=>by have:=h.1;unfold bG at this;omega),hf1⟩
  refine Gz 2 ?_;refine cW (W7 rfl rfl (by omega) (by decide)) ?_;refine fW 0 ?_ ?_<;>intro h81
  ·refine cW (Xf ty4 rfl rfl) ?_;refine Gz 14 ?_;exact⟨_,rfl,cY (fun h=>by have:=h.1;unfold bG at this;omega),hf1⟩
  refine cW (Xf ty4 rfl rfl) ?_;refine fK 10 ?_ ?_<;>intro h86
  ·refine fW 3 ?_ ?_<;>intro h90
   ·refine fW 4 ?_ ?_<;>intro h95
    ·refine fW 4 ?_ ?_<;>intro h100
     ·refine fW 4 ?_ ?_<;>intro h105
      ·refine fW 9 ?_ ?_<;>intro h115
       ·refine Gz 8 ?_;exact⟨_,rfl,Bj ⟨by unfold bG;omega,fun h3=>by omega⟩,hf1⟩
       refine Gz 8 ?_;exact⟨_,rfl,cY (fun h=>by have:=h.1;unfold bG at this;omega),hf1⟩
      refine fW 3 ?_ ?_<;>intro h109
      ·refine fW 5 ?_ ?_<;>intro h115
       ·have hT0:T.length=0:=by rw[h115];rfl
        refine Gz 8 ?_;exact⟨_,rfl,Bj ⟨by unfold bG;omega,fun h3=>by omega⟩,hf1⟩
       have hT0:T.length≠0:=fun e=>h115 (Z9 e);refine Gz 8 ?_;exact⟨_,rfl,cY (fun h=>by have:=h.1;unfold bG at this;omega),hf1⟩
      refine Gz 14 ?_;exact⟨_,rfl,cY (fun h=>by have:=h.1;unfold bG at this;omega),hf1⟩
     refine Gz 23 ?_;exact⟨_,rfl,cY (fun h=>by have:=h.1;unfold bG at this;omega),hf1⟩
    refine Gz 28 ?_;exact⟨_,rfl,cY (fun h=>by have:=h.1;unfold bG at this;omega),hf1⟩
   refine Gz 33 ?_;exact⟨_,rfl,cY (fun h=>by have:=h.1;unfold bG at this;omega),hf1⟩
  refine Gz 37 ?_;exact⟨_,rfl,cY (fun h=>by have:=h.1;unfold bG at this;omega),hf1⟩
 refine fK 6 ?_ ?_<;>intro h118
 ·refine fK 8 ?_ ?_<;>intro h121
  ·refine fW 3 ?_ ?_<;>intro h125
   ·refine fW 4 ?_ ?_<;>intro h130
    ·refine fW 4 ?_ ?_<;>intro h135
     ·refine fW 4 ?_ ?_<;>intro h140
      ·refine fW 4 ?_ ?_<;>intro h145
       ·refine fW 4 ?_ ?_<;>intro h150
        ·refine fW 4 ?_ ?_<;>intro h155
         ·have hT0:T.length=0:=by rw[h155];rfl
          refine Gz 8 ?_;exact⟨_,rfl,Bj ⟨by unfold bG;omega,fun h3=>by omega⟩,hf1⟩
         have hT0:T.length≠0:=fun e=>h155 (Z9 e);refine Gz 8 ?_;exact⟨_,rfl,cY (fun h=>by have:=h.1;unfold bG at this;omega),hf1⟩
        refine Gz 13 ?_;exact⟨_,rfl,cY (fun h=>by have:=h.1;unfold bG at this;omega),hf1⟩
       refine Gz 18 ?_;exact⟨_,rfl,cY (fun h=>by have:=h.1;unfold bG at this;omega),hf1⟩
      refine Gz 23 ?_;exact⟨_,rfl,cY (fun h=>by have:=h.1;unfold bG at this;omega),hf1⟩
     refine Gz 28 ?_;exact⟨_,rfl,cY (fun h=>by have:=h.1;unfold bG at this;omega),hf1⟩
    refine Gz 33 ?_;exact⟨_,rfl,cY (fun h=>by have:=h.1;unfold bG at this;omega),hf1⟩
   refine Gz 38 ?_;exact⟨_,rfl,cY (fun h=>by have:=h.1;unfold bG at this;omega),hf1⟩
  refine Gz 42 ?_;exact⟨_,rfl,cY (fun h=>by have:=h.1;unfold bG at this;omega),hf1⟩
 refine fK 6 ?_ ?_<;>intro h158
 ·refine Gz 11 ?_;refine Wp (β:=Nat) (fun k=>[(1,pT W.heap.size),(3,iV k)]) (fun k w=>k≤T.length∧(∀ i,i<k→T.getD i 0≠0)∧w=w1) (fun k=>T.length-k) 0 ⟨rfl,rfl,trivial⟩ ⟨ZZ _,by intro i hi;omega,rfl⟩ ?_;rintro k w2 ⟨hk,hgood,hw2⟩;subst hw2;refine Gz 6 ?_;refine cL (WM ty9 rfl) ?_;refine fK 0 ?_ ?_<;>intro h163
  ·refine Gz 12 ?_;refine cL (XQ ty9 rfl rfl (by omega)) ?_;refine fK 0 ?_ ?_<;>intro h170
   ·have hnul:(0:UInt8)∈T:=by
     have e:T.getD k 0=0:=dn.1 (by have:((T.getD ((k:Int)).toNat 0).toNat:Int)=0:=h170;have e2:((k:Int)).toNat=k:=rfl;rw[e2] at this;show _=0;omega);have hk2:k<T.length:=by omega
     rw[Z2,ZQ hk2] at e;rw[←e];exact bm hk2
    refine Gz 17 ?_;exact⟨_,rfl,cY (fun h=>h.2 (by omega) hnul),hf1⟩
   refine Gz 11 ?_;refine aG (k+1) ?_ (by show T.length-(k+1)<T.length-k;omega);refine⟨by omega,fun i hi=>?_,rfl⟩;by_cases hik:i=k
   ·subst hik;intro e;exact h170 (by rw[show ((i:Int)).toNat=i from rfl,e];rfl)
   ·exact hgood i (by omega)
  refine Gz 12 ?_;refine cL (WM ty9 rfl) ?_;refine fK 0 ?_ ?_<;>intro h174
  ·refine Gz 3 ?_;refine cW (WM ty9 rfl) ?_;refine fW 0 ?_ ?_<;>intro h179
   ·refine fW 4 ?_ ?_<;>intro h184
    ·refine fW 4 ?_ ?_<;>intro h189
     ·refine fW 4 ?_ ?_<;>intro h194
      ·refine fW 4 ?_ ?_<;>intro h199
       ·refine Gz 8 ?_;exact⟨_,rfl,Bj ⟨by unfold bG;omega,fun h3 h0=>by obtain⟨i,hi,e⟩:=cf h0;exact hgood i (by omega) (by simp[Z2,hi,e])⟩,hf1⟩
       refine Gz 8 ?_;exact⟨_,rfl,cY (fun h=>by have:=h.1;unfold bG at this;omega),hf1⟩
      refine Gz 13 ?_;exact⟨_,rfl,cY (fun h=>by have:=h.1;unfold bG at this;omega),hf1⟩
     refine Gz 18 ?_;exact⟨_,rfl,cY (fun h=>by have:=h.1;unfold bG at this;omega),hf1⟩
    refine Gz 23 ?_;exact⟨_,rfl,cY (fun h=>by have:=h.1;unfold bG at this;omega),hf1⟩
   refine Gz 28 ?_;exact⟨_,rfl,cY (fun h=>by have:=h.1;unfold bG at this;omega),hf1⟩
  refine Gz 33 ?_;exact⟨_,rfl,cY (fun h=>by have:=h.1;unfold bG at this;omega),hf1⟩
 refine Gz 14 ?_;exact⟨_,rfl,cY (fun h=>by have:=h.1;unfold bG at this;omega),hf1⟩
def zH(s:Int×By)(t:By):Int×By:=(nE s.1 t,oX s.1 s.2 t)
def xF(s:Int×By)(x:Xa):Int×By:=zH (zH s x.1) x.2
def xSt(X:List Xa)(k:Nat):Int×By:=(X.take k).foldl xF (cK 1 (0,[]) X.length)
theorem yZ(X:List Xa)(k:Nat)(h:k<X.length):xSt X (k+1)=xF (xSt X k) (X.getD k x0):=by
 unfold xSt;rw[am h,cy];simp[Z2,h]
theorem lL{s:Int×By}{t:By}(h:s.1=0)(ht:t.length≤255):(zH s t).1=0∧(zH s t).2.length=s.2.length+1+t.length:=by
 refine⟨by show nE s.1 t=0;rw[nP (.inr (by omega)),h],?_⟩;show (oX s.1 s.2 t).length=_;unfold oX;rw[ZO (by omega)];simp only[ZR,al];omega
theorem DM{X:List Xa}(h:fB X):∀ k,k≤X.length→(xSt X k).1=0∧(xSt X k).2.length≤1+300*k
|0,_=>by
   have hb:=nT (n:=X.length) (by have:=h.2;omega);have h1:iP 0 X.length 1=0:=dT hb;refine⟨h1,?_⟩;show (nJ 0 [] X.length 1).length≤_;rw[lR h1,ZR,bC];simp
|k+1,hk=>by
   obtain⟨h1,h2⟩:=DM h k (by omega);obtain⟨_,g2,_,g4⟩:=h.1 k (by omega);rw[yZ X k (by omega)];obtain⟨a1,a2⟩:=lL (s:=xSt X k) (t:=(X.getD k x0).1) h1 (by omega);obtain⟨b1,b2⟩:=lL (s:=zH (xSt X k) (X.getD k x0).1) (t:=(X.getD k x0).2) a1 (by omega);exact⟨b1,by show (zH (zH (xSt X k) (X.getD k x0).1) (X.getD k x0).2).2.length≤_;omega⟩
def kX(X:List Xa):By×Int:=if X.length=0∨¬ fB X then ([],1) else ((xSt X X.length).2,0)
theorem Lo(xo:Option Addr)(xc:Nat)(X:List Xa)(W:World)(hv:XaV W.heap xo xc X) :
 CA 106 [.slice xo X.length xc] W (xB W (kX X)):=by
 have hl:=hv.ZL;refine cS 40 [(0,_)] Tryz.func106 ?_;refine cA 9 Pd (uC xo xc X W hv) ?_;rintro _ w0 ⟨rfl,hF0⟩;refine Gz 7 ?_;refine WF (WX rfl) rfl (fun h10=>?_) (fun h10=>?_)
 ·have hm:¬ fB X:=of_decide_eq_false h10;refine Gz 17 ?_;have e:kX X=([],1):=by unfold kX;rw[ZP (.inr hm)]
  rw[e];exact⟨_,rfl,none,0,rfl,Zu,Zs,hF0⟩
 have hm:fB X:=ZY fun h=>h10 (ZV h);have hlen:=DM hm;have hm8:=hm.2;refine fW 3 ?_ ?_<;>intro h14
 ·refine Gz 13 ?_;have e:kX X=([],1):=by unfold kX;rw[ZP (.inl (by omega))]
  rw[e];exact⟨_,rfl,none,0,rfl,Zu,Zs,hF0⟩
 refine Gz 8 ?_;refine cL (WA sR mQ rfl rfl) ?_;refine Wn mQ rfl ?_;intro w1 hg1 hs1 hf1;refine sA rfl tJ (by simp[Value.oneCell']) hg1 ?_;intro w1a hg1a hs1a hf1a;have hF1a:aA nob w0 w1a:=hf1.ZJ hf1a (fun k hk=>.inr (by omega));refine Gz 6 ?_;refine Wh iJ rfl (eB (fun k=>w0.heap.size≤k) w0.heap.size 0 [] _ 1 w1a (ZC hg1a (Z0 _)) (dV hF1a (fun k hk=>hk)) (by simp)) rfl ?_;rintro _ w1b ⟨hP1,hF1⟩;refine Gz 9 ?_;refine Wp (β:=Nat) (fun k=>[(0,.slice xo X.length xc),(5,pT w0.heap.size),(6,iV k)]) (fun k w=>k≤X.length∧WrR (fun k=>w0.heap.size≤k) w.heap w0.heap.size (xSt X k).1 (xSt X k).2∧aA nob w0 w) (fun k=>X.length-k) 0 ⟨rfl,rfl,rfl,trivial⟩ ⟨ZZ _,hP1,(hF1a.any.trans hF1).fresh (fun k hk=>hk)⟩ ?_;rintro k w2 ⟨hk,hP2,hF2⟩;refine fK 6 ?_ ?_<;>intro h23
 ·refine Gz 11 ?_;obtain⟨xa,xc2,hrow0,hxv,hnl⟩:=hv.at (i:=k) rfl (by omega);obtain⟨_,q2,_,q4⟩:=hm.1 k (by omega);have hFW:=hF0.trans hF2;obtain⟨z1,z2⟩:=hlen k hk;refine cL (Wj iC rfl rfl hv.non (by omega)) ?_;refine Gz 1 ?_;refine cL (Wk gH rfl (dR (hrow0 0 _ rfl) hFW id)) ?_;refine Wh FG rfl (uB _ w0.heap.size _ _ _ w2 hP2 (dV hF2 (fun k hk=>hk)) (by omega) (by omega)) rfl ?_;rintro _ w5 ⟨hP5,hF5⟩;have hF05:aA nob w0 w5:=(hF2.any.trans hF5).fresh (fun k hk=>hk);obtain⟨a1,a2⟩:=lL (s:=xSt X k) (t:=(X.getD k x0).1) z1 (by omega);have a3:(oX (xSt X k).1 (xSt X k).2 (X.getD k x0).1).length=_:=a2;refine Gz 5 ?_;refine cL (Wj iC rfl rfl hv.non (by omega)) ?_;refine Gz 1 ?_;refine cL (Wk aX rfl (dR (hrow0 1 _ rfl) (hF0.trans hF05) id)) ?_;refine cL (WG aH ty5 ty9 rfl (hxv.ZM (hF0.trans hF05))) ?_;refine Wh FG rfl (uB _ w0.heap.size _ _ _ w5 hP5 (dV hF05 (fun k hk=>hk)) (by omega) (by omega)) rfl ?_;rintro _ w6 ⟨hP6,hF6⟩;refine Gz 8 ?_;refine aG (k+1) ?_ (by show X.length-(k+1)<X.length-k;omega);exact⟨by omega,by rw[yZ X k (by omega)];exact hP6,(hF05.any.trans hF6).fresh (fun k hk=>hk)⟩
 refine Gz 10 ?_;refine Wh Dx rfl (jH _ w0.heap.size _ _ w2 hP2 (by have:=(hlen k hk).2;have:=hm.2;omega)) rfl ?_;rintro _ w3 ⟨ao3,c3,rfl,ho3,hfr3,hf3⟩;refine Gz 6 ?_;have hk2:k=X.length:=by omega
 subst hk2;have z:=(hlen _ (Z0 _)).1;have e:kX X=(jY (xSt X X.length).1 (xSt X X.length).2,0):=by unfold kX jY;rw[ZO (by intro h;rcases h with h|h;omega;exact h hm),ZO (by omega)]
 rw[e];exact⟨_,rfl,ao3,c3,rfl,ho3,hfr3.mono (aj hF0.size hF2.size),(hF0.trans hF2).trans hf3⟩
def LN(F:Nat→Int)(s:Int×By)(x:Fd):Int×By:=cK x.b s (F x.o)
def rSt(F:Nat→Int)(k:Nat):Int×By:=((aY (F 0)).take k).foldl (LN F) (cK 1 (0,[]) (F 0))
def jK(F:Nat→Int)(T:By):Int×By:=if F 0=3 then zH (rSt F (aY (F 0)).length) T else rSt F (aY (F 0)).length
def oC(F:Nat→Int)(T:By):By×Int:=if fI F T then ((jK F T).2,0) else ([],1)
theorem EL(F:Nat→Int)(k:Nat)(h:k<(aY (F 0)).length):rSt F (k+1)=LN F (rSt F k) ((aY (F 0)).getD k fd0):=by
 unfold rSt;rw[tD h,cy];rfl
theorem mW{s:Int×By}{z n:Int}(h:s.1=0)(hb:¬ iS z n):(cK n s z).1=0∧(cK n s z).2=s.2++le z n.toNat:=by
 have h1:iP s.1 z n=0:=by rw[dT hb,h]
 exact⟨h1,lR h1⟩
theorem gN{z n m:Int}(h1:1≤n)(h4:n≤4)(h0:0≤z)(hm:z≤m)(hb:m<2 ^ (8*n).toNat):¬ iS z n:=by
 unfold iS;have h2:z/2 ^ (8*n).toNat=0:=Int.ediv_eq_zero_of_lt h0 (by omega);rw[h2];omega
theorem mG{F:Nat→Int}{T:By}(h:fI F T):F 0=1∨F 0=2∨F 0=3:=by
 have:=h.1;unfold bG at this;omega
theorem qP{F:Nat→Int}{T:By}(h:fI F T):∀ k,k≤(aY (F 0)).length→(rSt F k).1=0∧(rSt F k).2.length=1+(((aY (F 0)).take k).map (fun x=>x.b.toNat)).sum
|0,_=>by
   have hk:=mG h;obtain⟨a,b⟩:=mW (s:=(0,[])) (z:=F 0) (n:=1) rfl (gN (m:=3) (by decide) (by decide) (by omega) (by omega) (by decide));exact⟨a,by show (cK 1 (0,[]) (F 0)).2.length=_;rw[b,ZR,bC];rfl⟩
|k+1,hk=>by
   obtain⟨h1,h2⟩:=qP h k (by omega);have hm:=uH (k:=F 0) (i:=k) (by omega);obtain⟨_,b1,b4,m0,mb⟩:=iE hm;have ho:=uG h _ hm;obtain⟨a,b⟩:=mW (s:=rSt F k) (z:=F ((aY (F 0)).getD k fd0).o) (n:=((aY (F 0)).getD k fd0).b) h1 (gN b1 b4 ho.1 ho.2 mb);rw[EL F k (by omega)];refine⟨a,?_⟩;show (cK _ _ _).2.length=_;rw[b,ZR,bC,tD (by omega),dr,List.sum_append,h2];simp;omega
theorem JC{F:Nat→Int}{T:By}(h:fI F T):(jK F T).1=0:=by
 obtain⟨h1,h2⟩:=qP h _ (Z0 _);unfold jK
 split
 · rename_i h3
   have:=h.1;unfold bG at this;exact(lL h1 (by omega)).1
 ·exact h1
theorem HR(F:Nat→Int)(T:By)(W:World)(hT:T.length≤maxLen) :
 CA 60 [.agg (aN F T).toArray] W (xB W (oC F T)):=by
 refine cS 59 [(0,_)] Tryz.func60 ?_;refine Gz 2 ?_;refine WO rfl rfl ?_;intro w1 hg1 hs1 hf1;have hg1:w1.heap[W.heap.size]?=some (.cells (aN F T).toArray 84 (0,0)):=hg1;refine Gz 6 ?_;refine cL (Ws (cs:=aN F T) bM rfl (fun j v hj=>aB hg1 hj)) ?_;refine cA 0 S9 (Lu F T w1 hT) ?_;rintro _ w2 ⟨rfl,hf2⟩;refine Gz 7 ?_;refine WF (WX rfl) rfl (fun h9=>?_) (fun h9=>?_)
 ·have hm:¬ fI F T:=of_decide_eq_false h9;refine Gz 12 ?_;have e:oC F T=([],1):=by unfold oC;rw[ZO hm]
  rw[e];exact⟨_,rfl,none,0,rfl,Zu,Zs,hf1.trans hf2⟩
 have hm:fI F T:=ZY fun h=>h9 (ZV h);have hpw2:=hf2.obj hg1 id;have hF2:=hf1.trans hf2;have hE:=JC hm;have hkind:=mG hm;refine Gz 7 ?_;refine cL (WA sR mQ rfl rfl) ?_;refine Wn mQ rfl ?_;intro w3 hg3 hs3 hf3;refine sA rfl tJ (by simp[Value.oneCell']) hg3 ?_;intro v0 hgv hsv hfv;have hV0:aA nob w2 v0:=hf3.tw hfv;have hp0:=hV0.obj hpw2 id;obtain⟨s0,hs0⟩:∃ s:Int×By,s=(0,[]):=⟨_,rfl⟩
 have hQ0:WrR (fun k=>w2.heap.size≤k) v0.heap w2.heap.size s0.1 s0.2:=by rw[hs0];exact ZC hgv (Z0 _)
 have hl0:s0.2.length=0:=by rw[hs0];rfl
 refine Gz 6 ?_;refine Wh iJ rfl (eB _ w2.heap.size _ _ (F 0) 1 v0 hQ0 (dV hV0 (fun k hk=>hk)) (by omega)) rfl ?_;rintro _ v1 ⟨hQ,hv1⟩;obtain⟨s1,hs1⟩:∃ s,s=cK 1 s0 (F 0):=⟨_,rfl⟩
 have hQ1:WrR (fun k=>w2.heap.size≤k) v1.heap w2.heap.size s1.1 s1.2:=by rw[hs1];exact hQ
 have hl1:s1.2.length≤s0.2.length+4:=by rw[hs1];exact gU _ _ _ _
 have hV1:aA nob w2 v1:=(hV0.any.trans hv1).fresh (fun k hk=>hk);have hp1:=hV1.obj hpw2 id;refine Gz 6 ?_;refine Wh iJ rfl (eB _ w2.heap.size _ _ (F 1) 2 v1 hQ1 (dV hV1 (fun k hk=>hk)) (by omega)) rfl ?_;rintro _ v2 ⟨hQ,hv2⟩;obtain⟨s2,hs2⟩:∃ s,s=cK 2 s1 (F 1):=⟨_,rfl⟩
 have hQ2:WrR (fun k=>w2.heap.size≤k) v2.heap w2.heap.size s2.1 s2.2:=by rw[hs2];exact hQ
 have hl2:s2.2.length≤s1.2.length+4:=by rw[hs2];exact gU _ _ _ _
 have hV2:aA nob w2 v2:=(hV1.any.trans hv2).fresh (fun k hk=>hk);have hp2:=hV2.obj hpw2 id;refine Gz 6 ?_;refine Wh iJ rfl (eB _ w2.heap.size _ _ (F 2) 2 v2 hQ2 (dV hV2 (fun k hk=>hk)) (by omega)) rfl ?_;rintro _ v3 ⟨hQ,hv3⟩;obtain⟨s3,hs3⟩:∃ s,s=cK 2 s2 (F 2):=⟨_,rfl⟩
 have hQ3:WrR (fun k=>w2.heap.size≤k) v3.heap w2.heap.size s3.1 s3.2:=by rw[hs3];exact hQ
 have hl3:s3.2.length≤s2.2.length+4:=by rw[hs3];exact gU _ _ _ _
 have hV3:aA nob w2 v3:=(hV2.any.trans hv3).fresh (fun k hk=>hk);have hp3:=hV3.obj hpw2 id;refine Gz 6 ?_;refine Wh iJ rfl (eB _ w2.heap.size _ _ (F 3) 2 v3 hQ3 (dV hV3 (fun k hk=>hk)) (by omega)) rfl ?_;rintro _ v4 ⟨hQ,hv4⟩;obtain⟨s4,hs4⟩:∃ s,s=cK 2 s3 (F 3):=⟨_,rfl⟩
 have hQ4:WrR (fun k=>w2.heap.size≤k) v4.heap w2.heap.size s4.1 s4.2:=by rw[hs4];exact hQ
 have hl4:s4.2.length≤s3.2.length+4:=by rw[hs4];exact gU _ _ _ _
 have hV4:aA nob w2 v4:=(hV3.any.trans hv4).fresh (fun k hk=>hk);have hp4:=hV4.obj hpw2 id;refine Gz 6 ?_;refine Wh iJ rfl (eB _ w2.heap.size _ _ (F 4) 2 v4 hQ4 (dV hV4 (fun k hk=>hk)) (by omega)) rfl ?_;rintro _ v5 ⟨hQ,hv5⟩;obtain⟨s5,hs5⟩:∃ s,s=cK 2 s4 (F 4):=⟨_,rfl⟩
 have hQ5:WrR (fun k=>w2.heap.size≤k) v5.heap w2.heap.size s5.1 s5.2:=by rw[hs5];exact hQ
 have hl5:s5.2.length≤s4.2.length+4:=by rw[hs5];exact gU _ _ _ _
 have hV5:aA nob w2 v5:=(hV4.any.trans hv5).fresh (fun k hk=>hk);have hp5:=hV5.obj hpw2 id;refine Gz 6 ?_;refine Wh iJ rfl (eB _ w2.heap.size _ _ (F 5) 4 v5 hQ5 (dV hV5 (fun k hk=>hk)) (by omega)) rfl ?_;rintro _ v6 ⟨hQ,hv6⟩;obtain⟨s6,hs6⟩:∃ s,s=cK 4 s5 (F 5):=⟨_,rfl⟩
 have hQ6:WrR (fun k=>w2.heap.size≤k) v6.heap w2.heap.size s6.1 s6.2:=by rw[hs6];exact hQ
 have hl6:s6.2.length≤s5.2.length+4:=by rw[hs6];exact gU _ _ _ _
 have hV6:aA nob w2 v6:=(hV5.any.trans hv6).fresh (fun k hk=>hk);have hp6:=hV6.obj hpw2 id;refine fK 12 ?_ ?_<;>intro h32
 ·refine Gz 8 ?_;refine Wh iJ rfl (eB _ w2.heap.size _ _ (F 6) 4 v6 hQ6 (dV hV6 (fun k hk=>hk)) (by omega)) rfl ?_;rintro _ v7 ⟨hQ,hv7⟩;obtain⟨s7,hs7⟩:∃ s,s=cK 4 s6 (F 6):=⟨_,rfl⟩
  have hQ7:WrR (fun k=>w2.heap.size≤k) v7.heap w2.heap.size s7.1 s7.2:=by rw[hs7];exact hQ
  have hl7:s7.2.length≤s6.2.length+4:=by rw[hs7];exact gU _ _ _ _
  have hV7:aA nob w2 v7:=(hV6.any.trans hv7).fresh (fun k hk=>hk);have hp7:=hV7.obj hpw2 id;refine Gz 6 ?_;refine Wh iJ rfl (eB _ w2.heap.size _ _ (F 7) 2 v7 hQ7 (dV hV7 (fun k hk=>hk)) (by omega)) rfl ?_;rintro _ v8 ⟨hQ,hv8⟩;obtain⟨s8,hs8⟩:∃ s,s=cK 2 s7 (F 7):=⟨_,rfl⟩
  have hQ8:WrR (fun k=>w2.heap.size≤k) v8.heap w2.heap.size s8.1 s8.2:=by rw[hs8];exact hQ
  have hl8:s8.2.length≤s7.2.length+4:=by rw[hs8];exact gU _ _ _ _
  have hV8:aA nob w2 v8:=(hV7.any.trans hv8).fresh (fun k hk=>hk);have hp8:=hV8.obj hpw2 id;refine Gz 6 ?_;refine Wh iJ rfl (eB _ w2.heap.size _ _ (F 8) 2 v8 hQ8 (dV hV8 (fun k hk=>hk)) (by omega)) rfl ?_;rintro _ v9 ⟨hQ,hv9⟩;obtain⟨s9,hs9⟩:∃ s,s=cK 2 s8 (F 8):=⟨_,rfl⟩
  have hQ9:WrR (fun k=>w2.heap.size≤k) v9.heap w2.heap.size s9.1 s9.2:=by rw[hs9];exact hQ
  have hl9:s9.2.length≤s8.2.length+4:=by rw[hs9];exact gU _ _ _ _
  have hV9:aA nob w2 v9:=(hV8.any.trans hv9).fresh (fun k hk=>hk);have hp9:=hV9.obj hpw2 id;refine Gz 5 ?_;refine Wh iJ rfl (eB _ w2.heap.size _ _ (F 9) 1 v9 hQ9 (dV hV9 (fun k hk=>hk)) (by omega)) rfl ?_;rintro _ v10 ⟨hQ,hv10⟩;obtain⟨s10,hs10⟩:∃ s,s=cK 1 s9 (F 9):=⟨_,rfl⟩
  have hQ10:WrR (fun k=>w2.heap.size≤k) v10.heap w2.heap.size s10.1 s10.2:=by rw[hs10];exact hQ
  have hl10:s10.2.length≤s9.2.length+4:=by rw[hs10];exact gU _ _ _ _
  have hV10:aA nob w2 v10:=(hV9.any.trans hv10).fresh (fun k hk=>hk);refine Gz 5 ?_;refine Wh Dx rfl (jH _ w2.heap.size _ _ v10 hQ10 (by omega)) rfl ?_;rintro _ w13 ⟨ao13,c13,rfl,ho13,hfr13,hf13⟩;refine Gz 6 ?_;have eE:jK F T=s10:=by
   unfold jK rSt aY fC;rw[ZO (by omega),ZP (by omega)];simp only[rG,xZ,df,aq,al,Z7,List.take,List.foldl,LN,hs10,hs9,hs8,hs7,hs6,hs5,hs4,hs3,hs2,hs1,hs0]
  have e:oC F T=(jY (jK F T).1 (jK F T).2,0):=by unfold oC jY;rw[ZP hm,hE,ZO (by omega)]
  rw[e,eE];exact⟨_,rfl,ao13,c13,rfl,ho13,hfr13.mono (hF2.trans hV10).size,(hF2.trans hV10).trans hf13⟩
 refine fK 6 ?_ ?_<;>intro h46
 ·refine Gz 8 ?_;refine Wh iJ rfl (eB _ w2.heap.size _ _ (F 6) 4 v6 hQ6 (dV hV6 (fun k hk=>hk)) (by omega)) rfl ?_;rintro _ v7 ⟨hQ,hv7⟩;obtain⟨s7,hs7⟩:∃ s,s=cK 4 s6 (F 6):=⟨_,rfl⟩
  have hQ7:WrR (fun k=>w2.heap.size≤k) v7.heap w2.heap.size s7.1 s7.2:=by rw[hs7];exact hQ
  have hl7:s7.2.length≤s6.2.length+4:=by rw[hs7];exact gU _ _ _ _
  have hV7:aA nob w2 v7:=(hV6.any.trans hv7).fresh (fun k hk=>hk);have hp7:=hV7.obj hpw2 id;refine Gz 5 ?_;refine Wh iJ rfl (eB _ w2.heap.size _ _ (F 7) 4 v7 hQ7 (dV hV7 (fun k hk=>hk)) (by omega)) rfl ?_;rintro _ v8 ⟨hQ,hv8⟩;obtain⟨s8,hs8⟩:∃ s,s=cK 4 s7 (F 7):=⟨_,rfl⟩
  have hQ8:WrR (fun k=>w2.heap.size≤k) v8.heap w2.heap.size s8.1 s8.2:=by rw[hs8];exact hQ
  have hl8:s8.2.length≤s7.2.length+4:=by rw[hs8];exact gU _ _ _ _
  have hV8:aA nob w2 v8:=(hV7.any.trans hv8).fresh (fun k hk=>hk);refine Gz 5 ?_;refine Wh Dx rfl (jH _ w2.heap.size _ _ v8 hQ8 (by omega)) rfl ?_;rintro _ w13 ⟨ao13,c13,rfl,ho13,hfr13,hf13⟩;refine Gz 6 ?_;have eE:jK F T=s8:=by
   unfold jK rSt aY fC;rw[ZO (by omega),ZO (by omega),ZP (by omega)];simp only[rG,vJ,df,aq,al,Z7,List.take,List.foldl,LN,hs8,hs7,hs6,hs5,hs4,hs3,hs2,hs1,hs0]
  have e:oC F T=(jY (jK F T).1 (jK F T).2,0):=by unfold oC jY;rw[ZP hm,hE,ZO (by omega)]
  rw[e,eE];exact⟨_,rfl,ao13,c13,rfl,ho13,hfr13.mono (hF2.trans hV8).size,(hF2.trans hV8).trans hf13⟩
 refine fK 6 ?_ ?_<;>intro h54
 ·refine Gz 7 ?_;refine Wh FG rfl (uB _ w2.heap.size _ _ T v6 hQ6 (dV hV6 (fun k hk=>hk)) (by omega) (by have h9:=hm.1;unfold bG at h9;omega)) rfl ?_;rintro _ v7 ⟨hQ7,hv7⟩;have hV7:aA nob w2 v7:=(hV6.any.trans hv7).fresh (fun k hk=>hk);have hl7:(oX s6.1 s6.2 T).length≤s6.2.length+1+T.length:=by
   unfold oX;split
   ·omega
   ·simp only[ZR,al];omega
  have hTl:T.length≤200:=by have h9:=hm.1;unfold bG at h9;omega
  refine Gz 5 ?_;refine Wh Dx rfl (jH _ w2.heap.size _ _ v7 hQ7 (by omega)) rfl ?_;rintro _ w13 ⟨ao13,c13,rfl,ho13,hfr13,hf13⟩;refine Gz 6 ?_;have eE:jK F T=(nE s6.1 T,oX s6.1 s6.2 T):=by
   unfold jK rSt aY fC;rw[ZP (by omega),ZO (by omega),ZO (by omega)];simp only[rG,bp,al,Z7,List.take,List.foldl,LN,zH,hs6,hs5,hs4,hs3,hs2,hs1,hs0]
  have e:oC F T=(jY (jK F T).1 (jK F T).2,0):=by unfold oC jY;rw[ZP hm,hE,ZO (by omega)]
  rw[e,eE];exact⟨_,rfl,ao13,c13,rfl,ho13,hfr13.mono (hF2.trans hV7).size,(hF2.trans hV7).trans hf13⟩
 exact absurd h54 (by omega)
theorem HV{F:Nat→Int}{T:By}(h:fI F T):(jK F T).2.length=(if F 0=2 then 22 else if F 0=1 then 21 else 14+T.length):=by
 obtain⟨h1,h2⟩:=qP h _ (Z0 _);rw[be] at h2;have h9:=h.1;unfold bG at h9;unfold jK;by_cases h3:F 0=3
 · rw[ZP h3,ZO (by omega),ZO (by omega)]
   have h4:=(lL (s:=rSt F (aY (F 0)).length) (t:=T) h1 (by omega)).2;rw[h4,h2];unfold aY fC;rw[ZO (by omega),ZO (by omega)];simp[rG]<;>omega
 · rw[ZO h3,h2]
   by_cases h4:F 0=2
   · rw[ZP h4]
     unfold aY fC;rw[ZP h4];simp[rG,xZ]
   · rw[ZO h4,ZP (by omega)]
     unfold aY fC;rw[ZO h4,ZP (by omega)];simp[rG,vJ]
abbrev Rd:=Int×By
def gS(n:Int)(s:Rd):Rd:=(dE (cO s.1 n) s.2 n,rF (cO s.1 n) s.2 n)
def gV(n:Int)(s:Rd):Int:=bV (fD (cO s.1 n) s.2 n)
def gF(q:Rd×(Nat→Int))(x:Fd):Rd×(Nat→Int):=(gS x.b q.1,upd q.2 x.o (gV x.b q.1))
def gK(b:By):Int:=gV 1 (0,b)
def g0(b:By):Rd×(Nat→Int):=(gS 1 (0,b),upd (fun _=>0) 0 (gK b))
def gSt(b:By)(k:Nat):Rd×(Nat→Int):=((aY (gK b)).take k).foldl gF (g0 b)
def gR(b:By):Rd×(Nat→Int):=(aY (gK b)).foldl gF (g0 b)
def eW(s:Rd):Rd:=(dE (tE s.1 s.2) (tR s.1 s.2) (tN s.1 s.2),rF (tE s.1 s.2) (tR s.1 s.2) (tN s.1 s.2))
def gTx(s:Rd):By:=fD (tE s.1 s.2) (tR s.1 s.2) (tN s.1 s.2)
def pW(b:By):Rd:=if gK b=3 then eW (gR b).1 else (gR b).1
def gT(b:By):By:=if gK b=3 then gTx (gR b).1 else []
def gFn(b:By):Nat→Int:=(gR b).2
def kV(b:By):Prop:=DC (pW b).1 (pW b).2=0∧fI (gFn b) (gT b)
instance (b:By):Decidable (kV b):=by unfold kV;exact inferInstance
def tkF(b:By):Nat→Int:=if kV b then gFn b else fun _=>0
def tkT(b:By):By:=if kV b then gT b else []
def tkE(b:By):Int:=if kV b then 0 else 2
theorem pF{n:Int}{s:Rd}(h1:1≤n)(h4:n≤4)(h0:s.1=0)(hl:n≤s.2.length):gS n s=(0,s.2.drop n.toNat)∧gV n s=bV (s.2.take n.toNat):=by
 have e:dE 0 s.2 n=0:=by rw[dQ (by omega) (by omega)]
 unfold gS gV;rw[fH h1 h4,h0,e];obtain⟨a,b⟩:=cF e;rw[a,b];exact⟨rfl,rfl⟩
theorem Im{n:Int}{s:Rd}(h1:1≤n)(h4:n≤4)(h0:s.1=0)(hl:(s.2.length:Int)<n):(gS n s).1≠0:=by
 unfold gS;rw[fH h1 h4,h0,mM (by omega) hl,ZP rfl];exact(by decide:(2:Int)≠0)
theorem Io{n:Int}{s:Rd}(h:s.1≠0):(gS n s).1≠0:=by
 have:cO s.1 n=s.1:=by unfold cO;rw[ZP h]
 unfold gS;rw[this,lS h];exact h
def eZ(F:Nat→Int)(L:List Fd):By:=L.flatMap (fun x=>le (F x.o) x.b.toNat)
def Ee(L:List Fd):Nat:=(L.map (fun x=>x.b.toNat)).sum
theorem mL(F:Nat→Int):∀ L:List Fd,(eZ F L).length=Ee L
|[]=>rfl
|x::r=>by have:=mL F r;simp only[eZ,Ee] at this ⊢;simp[bC,this]
theorem Ie{ys:By}{n:Nat}(h:n≤ys.length):le (bV (ys.take n)) n=ys.take n:=by
 have:=Dn (ys.take n);rwa[ZT,cn h] at this
theorem yS:∀ (L:List Fd) (q:Rd×(Nat→Int)),(∀ x∈L,1≤x.b∧x.b≤4)→(L.map (·.o)).Nodup →
 (∀ o,o∉L.map (·.o)→(L.foldl gF q).2 o=q.2 o)∧(q.1.1≠0→(L.foldl gF q).1.1≠0) ∧
 ((L.foldl gF q).1.1=0→q.1.2=eZ (L.foldl gF q).2 L++(L.foldl gF q).1.2)∧(q.1.1=0→(L.foldl gF q).1.1≠0→q.1.2.length<Ee L)
|[],q,_,_=>⟨fun _ _=>rfl,id,fun _=>rfl,fun h0 h=>absurd h0 h⟩
|x::r,q,hb,hn=>by
   rw[db,List.nodup_cons] at hn;obtain⟨i1,i2,i3,i4⟩:=yS r (gF q x) (fun y hy=>hb y (by simp[hy])) hn.2;obtain⟨b1,b4⟩:=hb x (by simp);have eo:((x::r).foldl gF q)=r.foldl gF (gF q x):=rfl;rw[eo];obtain⟨R,hR⟩:∃ R,R=r.foldl gF (gF q x):=⟨_,rfl⟩
   rw[←hR] at i1 i2 i3 i4 ⊢;have hx:R.2 x.o=gV x.b q.1:=by rw[i1 x.o hn.1];show upd _ _ _ _=_;simp[upd]
   have he:eZ R.2 (x::r)=le (R.2 x.o) x.b.toNat++eZ R.2 r:=by simp[eZ]
   have hs:Ee (x::r)=x.b.toNat+Ee r:=by simp[Ee]
   refine⟨fun o ho=>?_,fun h=>i2 (Io h),fun h=>?_,fun h0 h=>?_⟩
   · rw[db,aw,not_or] at ho
     rw[i1 o ho.2];show upd _ _ _ _=_;simp[upd,ho.1]
   · have hq0:q.1.1=0:=ZY fun h'=>i2 (Io h') h
     have hl:x.b≤q.1.2.length:=ZY fun h'=>i2 (Im b1 b4 hq0 (by omega)) h;obtain⟨g1,g2⟩:=pF b1 b4 hq0 hl;have h3:=i3 h;have h4:(gF q x).1.2=q.1.2.drop x.b.toNat:=by show (gS x.b q.1).2=_;rw[g1]
     rw[h4] at h3;rw[he,hx,g2,Ie (by omega),Z6,←h3,ay]
   · rw[hs]
     by_cases hl:x.b≤q.1.2.length
     · obtain⟨g1,g2⟩:=pF b1 b4 h0 hl
       have h5:(gF q x).1=(0,q.1.2.drop x.b.toNat):=g1;have:=i4 (by rw[h5]) h;rw[h5] at this;simp only[ZX] at this;omega
     ·omega
theorem Ab(k:Int):((aY k).map (·.o)).Nodup:=by
 unfold aY fC
 split
 ·decide
 ·split<;>decide
theorem LF(k:Int):∀ x∈aY k,1≤x.b∧x.b≤4:=fun x hx=>by have:=iE hx;exact⟨this.2.1,this.2.2.1⟩
theorem LD(k:Int):0∉(aY k).map (·.o):=by
 unfold aY fC
 split
 ·decide
 ·split<;>decide
theorem Ir(b:By):gFn b 0=gK b:=by
 have:=(yS (aY (gK b)) (g0 b) (LF _) (Ab _)).1 0 (LD _);unfold gFn gR;rw[this];simp[g0,upd]
theorem HW{F:Nat→Int}{T:By}(h:fI F T):∀ k,k≤(aY (F 0)).length→(rSt F k).2=le (F 0) 1++eZ F ((aY (F 0)).take k)
|0,_=>by
   have hk:=mG h;obtain⟨a,b⟩:=mW (s:=(0,[])) (z:=F 0) (n:=1) rfl (gN (m:=3) (by decide) (by decide) (by omega) (by omega) (by decide));show (cK 1 (0,[]) (F 0)).2=_;rw[b];simp[eZ]
|k+1,hk=>by
   have h1:=(qP h k (by omega)).1;have h2:=HW h k (by omega);have hm:=uH (k:=F 0) (i:=k) (by omega);obtain⟨_,b1,b4,m0,mb⟩:=iE hm;have ho:=uG h _ hm;obtain⟨a,b⟩:=mW (s:=rSt F k) (z:=F ((aY (F 0)).getD k fd0).o) (n:=((aY (F 0)).getD k fd0).b) h1 (gN b1 b4 ho.1 ho.2 mb);rw[EL F k (by omega)];show (cK _ _ _).2=_;rw[b,tD (by omega),h2];simp[eZ]
theorem uK{F:Nat→Int}{T:By}(h:fI F T):(jK F T).2=le (F 0) 1++eZ F (aY (F 0))++(if F 0=3 then af T.length::T else []):=by
 have h1:=(qP h _ (Z0 _)).1;have h2:=HW h _ (Z0 _);rw[be] at h2;unfold jK;by_cases h3:F 0=3
 · rw[ZP h3,ZP h3,←h2]
   have h9:=h.1;unfold bG at h9;show oX _ _ _=_;unfold oX;rw[ZO (by omega)]
 ·rw[ZO h3,ZO h3,bp,h2]
theorem In{b:By}(h:gK b≠0):∃ c r,b=c::r∧gK b=c.toNat∧g0 b=((0,r),upd (fun _=>0) 0 (gK b)):=by
 cases b with
|nil=>exact absurd rfl h
|cons c r=>
   obtain⟨g1,g2⟩:=pF (n:=1) (s:=(0,c::r)) (by decide) (by decide) rfl (by simp;omega);refine⟨c,r,rfl,?_,?_⟩
   ·unfold gK;rw[g2];simp[bV]
   ·unfold g0;rw[g1];rfl
theorem Kk{E:Int}{ys:By}:DC E ys=0↔E=0∧ys=[]:=by
 unfold DC;by_cases hE:E=0
 · by_cases hy:0<ys.length
   · have:ys≠[]:=fun e=>by rw[e] at hy;cases hy
     simp[hE,hy,this]
   · have:ys=[]:=Z9 (by omega)
     simp[hE,this]
 ·simp[hE]
theorem D4{b:By}(h:fI (gFn b) (gT b)):DC (pW b).1 (pW b).2=0↔(jK (gFn b) (gT b)).2=b:=by
 have hk:=mG h;rw[Ir] at hk;obtain⟨c,r,hb,hc,h0⟩:=In (b:=b) (by omega);obtain⟨_,i2,i3,i4⟩:=yS (aY (gK b)) (g0 b) (LF _) (Ab _);rw[←gR,h0] at i2 i3 i4;simp only[ne_eq] at i3 i4;clear i2;have hcat:=uK h;rw[Ir,hc,Az,UInt8.ofNat_toNat,←hc] at hcat;have hmay:=h.1;unfold bG at hmay;rw[Ir] at hmay;rw[hcat,Kk];have hgF:gFn b=(gR b).2:=rfl;rw[hgF];obtain⟨s,hs⟩:∃ s,s=(gR b).1:=⟨_,rfl⟩
 obtain⟨E,hE⟩:∃ E,E=eZ (gR b).2 (aY (gK b)):=⟨_,rfl⟩
 have hEl:E.length=Ee (aY (gK b)):=by rw[hE,mL]
 rw[←hs,←hE] at i3;rw[←hs,←hEl] at i4;rw[←hE];by_cases h3:gK b=3
 · have hT:0<(gT b).length:=by omega
   have eT:gT b=gTx s:=by unfold gT;rw[ZP h3,hs]
   have eE:pW b=eW s:=by unfold pW;rw[ZP h3,hs]
   rw[ZP h3];have hn:cO s.1 1=s.1:=fH (by decide) (by decide) _;have hz:dE (tE s.1 s.2) (tR s.1 s.2) (tN s.1 s.2)=0:=ZY fun hne=>by
    rw[eT] at hT;unfold gTx at hT;rw[(mN hne).1] at hT;cases hT
   obtain⟨z1,z2,z3⟩:=jC hz;have z4:dE s.1 s.2 1=0:=by have:=z1;unfold tE at this;rwa[hn] at this
   obtain⟨y1,y2,y3⟩:=jC z4;have e3:=i3 y1;obtain⟨d,t,hd⟩:∃ d t,s.2=d::t:=by
    cases hs2:s.2 with
   |nil=>rw[hs2] at y3;simp at y3
   |cons d t=>exact⟨d,t,rfl⟩
   obtain⟨c1,c2⟩:=cF z4;have etR:tR s.1 s.2=t:=by unfold tR;rw[hn,c2,hd];rfl
   have etN:tN s.1 s.2=d.toNat:=by unfold tN;rw[hn,c1,hd];simp[bV]
   obtain⟨c3,c4⟩:=cF hz;rw[etR,etN] at c3 c4;rw[etN,etR] at z3;have eT2:gT b=t.take d.toNat:=by rw[eT];unfold gTx;rw[etR,etN,c3];rfl
   have eE2:pW b=(0,t.drop d.toNat):=by rw[eE];unfold eW;rw[hz,etR,etN,c4];rfl
   have el:(gT b).length=d.toNat:=by rw[eT2,ZT];omega
   rw[eE2,el,UInt8.ofNat_toNat,eT2,hb,e3,hd];simp only[true_and];constructor
   · intro h
     have:t.take d.toNat=t:=by have:=ay d.toNat t;rw[h,bp] at this;exact this
     rw[this];simp
   · intro h
     have h5:t.take d.toNat=t:=by simpa using h
     rw[←h5];simp
 · rw[ZO h3,bp]
   have eE:pW b=s:=by unfold pW;rw[ZO h3,hs]
   rw[eE];by_cases hs0:s.1=0
   · have e3:=i3 hs0
     have:([c]++E=b)↔(E=r):=by rw[hb];simp
     rw[this];constructor
     ·rintro⟨_,h2⟩;rw[e3,h2,bp]
     ·intro h2;refine⟨hs0,?_⟩;rw[h2] at e3;simpa using e3
   · have h4:=i4 trivial hs0
     constructor
     ·rintro⟨h5,_⟩;exact absurd h5 hs0
     · intro h5
       have:=congrArg List.length h5;rw[ZR,hb] at this;simp at this;omega
theorem QF{b:Int}(h:0≤b):(2:Int) ^ (8*b).toNat=256 ^ b.toNat:=by
 rw[show (8*b).toNat=8*b.toNat by omega,Int.pow_mul];rfl
theorem MN(F:Nat→Int):∀ (L:List Fd) (G:Nat→Int) (rest:By),(∀ x∈L,1≤x.b∧x.b≤4∧0≤F x.o∧F x.o<256 ^ x.b.toNat) →
 (L.foldl gF ((0,eZ F L++rest),G))=((0,rest),L.foldl (fun g x=>upd g x.o (F x.o)) G)
|[],G,rest,_=>rfl
|x::r,G,rest,h=>by
   obtain⟨b1,b4,f0,f1⟩:=h x (by simp);have e:eZ F (x::r)=le (F x.o) x.b.toNat++eZ F r:=by simp[eZ]
   rw[e,Z6,dt];obtain⟨g1,g2⟩:=pF (n:=x.b) (s:=(0,le (F x.o) x.b.toNat++(eZ F r++rest))) b1 b4 rfl (by simp[bC];omega);have e2:gF ((0,le (F x.o) x.b.toNat++(eZ F r++rest)),G) x=((0,eZ F r++rest),upd G x.o (F x.o)):=by
    unfold gF;rw[g1,g2];simp only;rw[ct (bC _ _),List.take_left' (bC _ _),rM _ _ f0 f1]
   rw[e2,MN F r _ rest (fun y hy=>h y (by simp[hy]))];rfl
theorem DP(F:Nat→Int):∀ (L M:List Fd),L.foldl (fun g x=>upd g x.o (F x.o)) (upd (fJ F M) 0 (F 0))=upd (fJ F (M++L)) 0 (F 0)
|[],M=>by simp
|x::r,M=>by
   rw[dt];have e:upd (upd (fJ F M) 0 (F 0)) x.o (F x.o)=upd (fJ F (M++[x])) 0 (F 0):=by
    rw[←xM];funext q;unfold upd;by_cases h1:q=x.o
    · by_cases h2:q=0
      ·rw[ZP h1,ZP h2,←h1,h2]
      ·rw[ZP h1,ZO h2,ZP h1]
    · rw[ZO h1]
      by_cases h2:q=0
      ·rw[ZP h2,ZP h2]
      ·rw[ZO h2,ZO h2,ZO h1]
   rw[e,DP F r (M++[x]),Z6];rfl
theorem DZ{F:Nat→Int}{T:By}(h:fI F T):kV (jK F T).2∧sI (gFn (jK F T).2) (gT (jK F T).2) F T:=by
 have h9:=h.1;unfold bG at h9;have hcat:=uK h;obtain⟨b,hb⟩:∃ b,b=(jK F T).2:=⟨_,rfl⟩
 obtain⟨rest,hrest⟩:∃ r,r=(if F 0=3 then af T.length::T else []):=⟨_,rfl⟩
 rw[←hb,←hrest] at hcat;rw[←hb];have e0:le (F 0) 1=[af (F 0).toNat]:=by have:=Az (F 0).toNat;rwa[show (((F 0).toNat:Nat):Int)=F 0 by omega] at this
 have hb2:b=af (F 0).toNat::(eZ F (aY (F 0))++rest):=by rw[hcat,e0];simp
 have hK:gK b=F 0:=by
  unfold gK;rw[(pF (n:=1) (s:=(0,b)) (by decide) (by decide) rfl (by rw[hb2];simp;omega)).2,hb2];simp[bV];omega
 obtain⟨c,r,hb3,hc,h0⟩:=In (b:=b) (by omega);have er:r=eZ F (aY (F 0))++rest:=by rw[hb2] at hb3;simp at hb3;exact hb3.2.symm
 have hR:gR b=((0,rest),upd (fJ F (aY (F 0))) 0 (F 0)):=by
  unfold gR;rw[h0,er,hK,MN F _ _ _ (fun x hx=>by
   obtain⟨_,b1,b4,m0,mb⟩:=iE hx;have:=uG h x hx;unfold okF at this;rw[QF (by omega)] at mb;exact⟨b1,b4,this.1,by omega⟩)]
  have:=DP F (aY (F 0)) [];rw[AC,aq] at this;rw[this]
 have hsame:∀ U,U=T→sI (gFn b) U F T:=fun U hU=>by
  unfold gFn;rw[hR];refine(sY F U T).2 ⟨fun _=>by omega,fun _ _=>by omega,hU⟩
 have hfin:pW b=(0,[])∧gT b=T:=by
  by_cases h3:F 0=3
  · rw[ZP h3] at hrest
    have hl:(af T.length).toNat=T.length:=by rw[UInt8.toNat_ofNat'];omega
    have z4:dE 0 rest 1=0:=by rw[dQ (by decide) (by rw[hrest];simp;omega)]
    obtain⟨c1,c2⟩:=cF z4;have hn:cO 0 1=0:=fH (by decide) (by decide) _;have etE:tE 0 rest=0:=by unfold tE;rw[hn,z4]
    have etR:tR 0 rest=T:=by unfold tR;rw[hn,c2,hrest];rfl
    have etN:tN 0 rest=T.length:=by unfold tN;rw[hn,c1,hrest];simp[bV];omega
    have z5:dE 0 T T.length=0:=by rw[dQ (by omega) (by omega)]
    obtain⟨c3,c4⟩:=cF z5;unfold pW gT eW gTx;rw[hK,ZP h3,ZP h3,hR];simp only;rw[etE,etR,etN,z5,c3,c4];simp
  · rw[ZO h3] at hrest
    have:T=[]:=Z9 (by omega);unfold pW gT;rw[hK,ZO h3,ZO h3,hR,hrest];exact⟨rfl,this.symm⟩
 refine⟨⟨by rw[hfin.1];rfl,?_⟩,by rw[hfin.2];exact hsame T rfl⟩;have hs:=(hsame T rfl).1;rw[hfin.2];have hc:=h;unfold fI bG at hc ⊢;rw[hs 0 (by decide),hs 1 (by decide),hs 2 (by decide),hs 3 (by decide),hs 4 (by decide),hs 5 (by decide),hs 6 (by decide),hs 7 (by decide),hs 8 (by decide),hs 9 (by decide)];exact hc
theorem LL{F:Nat→Int}{T:By}(h:fI F T):((jK F T).2.getD 0 0).toNat=(F 0).toNat:=by
 have hk:=mG h;have e0:le (F 0) 1=[af (F 0).toNat]:=by have:=Az (F 0).toNat;rwa[show (((F 0).toNat:Nat):Int)=F 0 by omega] at this
 rw[uK h,e0];simp;omega
theorem JD{F:Nat→Int}{T:By}(h:fI F T)(h3:F 0=3):((jK F T).2.getD 13 0).toNat=T.length:=by
 have h9:=h.1;unfold bG at h9;rw[uK h,ZP h3];have hl:(le (F 0) 1++eZ F (aY (F 0))).length=13:=by
  rw[ZR,bC,mL];unfold aY fC;rw[ZO (by omega),ZO (by omega)];rfl
 rw[Z2,da (by omega),hl];simp;omega
def TkP(W:World)(b:By):Value→World→Prop:=fun v w'=>v=.tuple #[.agg (aN (tkF b) (tkT b)).toArray,iV (tkE b)]∧aA nob W w'
theorem vS{b:By}(h:kV b):tkF b=gFn b∧tkT b=gT b∧tkE b=0:=by unfold tkF tkT tkE;rw[ZP h,ZP h,ZP h];exact⟨rfl,rfl,rfl⟩
theorem BF{b:By}(h:¬ kV b):tkF b=(fun _=>0)∧tkT b=[]∧tkE b=2:=by unfold tkF tkT tkE;rw[ZO h,ZO h,ZO h];exact⟨rfl,rfl,rfl⟩
theorem mK(q:Rd×(Nat→Int))(x:Fd):(gF q x).1.2.length≤q.1.2.length:=cC _ _ _
theorem AL(b:By)(k:Nat)(h:k<(aY (gK b)).length):gSt b (k+1)=gF (gSt b k) ((aY (gK b)).getD k fd0):=by
 unfold gSt;rw[tD h,cy];rfl
theorem yR(b:By):∀ k,k≤(aY (gK b)).length→(gSt b k).1.2.length≤b.length
|0,_=>cC _ _ _
|k+1,h=>by rw[AL b k (by omega)];exact aj (mK _ _) (yR b k (by omega))
theorem Dv(b:By):gSt b (aY (gK b)).length=gR b:=by unfold gSt gR;rw[be]
theorem PX(b:By):∀ k,k≤(aY (gK b)).length→(gSt b k).2 0=gK b
|0,_=>by show upd (fun _=>0) 0 (gK b) 0=_;simp[upd]
|k+1,h=>by
   have hm:=uH (k:=gK b) (i:=k) (by omega);have:=(iE hm).1.2.2.1;rw[AL b k (by omega)];show upd (gSt b k).2 _ _ 0=_;unfold upd;rw[ZO (by omega)];exact PX b k (by omega)
theorem Pp(E:Int)(ys:By)(n:Int):(fD E ys n).length≤ys.length:=by unfold fD;split<;>simp;omega
theorem MM(b:By):(gT b).length≤b.length:=by
 unfold gT
 split
 · have h1:=yR b _ (Z0 _)
   rw[Dv] at h1;have h2:=Gh (gR b).1.1 (gR b).1.2;have h3:=Pp (tE (gR b).1.1 (gR b).1.2) (tR (gR b).1.1 (gR b).1.2) (tN (gR b).1.1 (gR b).1.2);unfold gTx;omega
 ·simp
theorem NW(b:By)(ao0:Option Addr)(c0:Nat)(W:World)(hv:Vw b8 W.heap ao0 c0 b)(hb:b.length≤1099511627776) :
 CA 139 [.slice ao0 b.length c0] W (TkP W b):=by
 refine cS 48 [(0,_)] Tryz.func139 ?_;refine Gz 2 ?_;refine Wn mO rfl ?_;intro w1 hg1 hs1 hf1;have hg1:w1.heap[W.heap.size]?=some (.cells (aN (fun _=>0) []).toArray 84 (0,0)):=hg1;refine Gz 6 ?_;refine Wh MU rfl (qO ao0 c0 b w1 (hv.ZM hf1) (by omega)) rfl ?_;rintro _ w2 ⟨p,rfl,hp1,hP2,hf2⟩;have hlp:=hP2.lt;refine cA 6 AO (iF p 0 b 1 w2 hP2 hb) ?_;rintro _ w3 ⟨rfl,hP3,hf3⟩;have hP3:RdL _ w3.heap p (g0 b).1.1 (g0 b).1.2:=hP3;have hg3:=hf3.obj (hf2.obj hg1 id) (by omega);refine cL (bU (aN (g0 b).2 []) qT mO) ?_;refine Wn mO rfl ?_;intro w4 hg4 hs4 hf4;refine sA rfl bM (by intro v hv;exact bY _ _ v hv) hg4 ?_;intro w5 hg5 hs5 hf5;have hz2:=hf2.size;have hz3:=hf3.size;have hF5:aA nob w3 w5:=hf4.tw hf5;have hP5:=hP3.ZM hF5;have hg5r:=hF5.obj hg3 id;have hFW5:aA nob W w5:=(((hf1.trans hf2).any.trans hf3).fresh (fun k hk=>by have:k=p:=hk;omega)).trans hF5;refine Gz 4 ?_;refine Wv 7 (fun H=>H[w3.heap.size]?=some (.cells (aN (g0 b).2 []).toArray 84 (0,0))) [0,3,4] [1,2,6,0,3,4,5] aK (by kernel_rfl) (hg5) ?_;refine Gz 3 ?_;refine Wo rfl rfl (Wh P4 rfl (CK _) rfl ?_);rintro _ w6 ⟨ao2,c2,rfl,ho2,hfr2,hf6⟩;refine Wu (by exact hf6.obj hg5 id) ?_;refine Wo rfl rfl (Wh M1 rfl (wT (gK b) _) rfl ?_);rintro _ w7 ⟨ao3,c3,rfl,ho3,hfr3,hf7⟩;refine Wu (by exact hf7.obj (hf6.obj hg5 id) id) ?_;refine Wo rfl rfl (Wx fY rfl tX rfl rfl (ho2.ZM hf7) (ho3.vw fY) (by have:=mA (gK b);unfold aY at this;rw[ZR] at this;omega) (by have:=mA (gK b);unfold aY at this;rw[ZR] at this;unfold maxLen;omega) rfl ?_);intro ao4 c4 w8 ho4 hf8 hr4 hn4;have hfr2:Fr w5.heap.size ao2:=hfr2;have hf6:=hf6.ZK;have hz6:=hf6.size;have hz7:=hf7.size;have hF8:aA nob w5 w8:=(hf6.trans hf7).ZJ hf8 hfr2.step;have hg8:=hF8.obj hg5 id;have hz8:=hF8.size;have hLlen:=mA (gK b);refine Wu (by exact hg8) ?_;refine Gz 4 ?_;have hne4:∀ a,ao4=some a→w5.heap.size≤a.block∧a.block<w8.heap.size:=fun a ha=>⟨by rcases hr4 a ha with h|h;exact hfr2 a h;omega,ho4.lt a ha⟩
 refine Wp (β:=Nat) (fun k=>[(2,pT W.heap.size),(4,pT p),(5,pT w3.heap.size),(17,.slice ao4 (aY (gK b)).length c4),(18,iV (aY (gK b)).length),(19,iV k)]) (fun k w=>k≤(aY (gK b)).length∧RdL (fun k=>w1.heap.size≤k∧k<w2.heap.size) w.heap p (gSt b k).1.1 (gSt b k).1.2∧w.heap[w3.heap.size]?=some (.cells (aN (gSt b k).2 []).toArray 84 (0,0))∧VwM 3 fdV w.heap ao4 c4 (aY (gK b))∧w.heap[W.heap.size]?=some (.cells (aN (fun _=>0) []).toArray 84 (0,0))∧w8.heap.size≤w.heap.size∧aA nob W w) (fun k=>(aY (gK b)).length-k) 0 ⟨rfl,rfl,rfl,rfl,rfl,rfl,trivial⟩ ⟨ZZ _,hP5.ZM hF8,hg8,ho4.vw fY,hF8.obj hg5r id,Z0 _,hFW5.trans hF8⟩ ?_;rintro k w9 ⟨hk,hP9,hq,hL,hr9,hlt9,hF9⟩;refine fK 2 ?_ ?_<;>intro h20
 ·refine Gz 10 ?_;have hkL:k<(aY (gK b)).length:=by omega
  have hrow:=Hc hL (k:=k) rfl hkL;have hmem:=uH hkL;obtain⟨⟨hfn,ho10,ho0,hcall⟩,hb1,hb4,hm0,hmb⟩:=iE hmem;obtain⟨x,hx⟩:∃ x,x=(aY (gK b)).getD k fd0:=⟨_,rfl⟩
  rw[←hx] at hrow hmem hfn ho10 ho0 hcall hb1 hb4 hm0;refine cL (Wj tX rfl rfl hL.non (by omega)) ?_;refine cL (Ws (cs:=fdV x) wZ rfl hrow) ?_;refine Wn kL rfl ?_;intro w10 hg10 hs10 hf10;refine sA rfl wZ (by simp[fdV,Value.oneCell']) hg10 ?_;intro w11 hg11 hs11 hf11;have hF11:aA nob w9 w11:=hf10.tw hf11;have hq11:=hF11.obj hq id;have hP11:=hP9.ZM hF11;refine Gz 2 ?_;refine Wv 8 (fun H=>H[w3.heap.size]?=some (.cells (aN (gSt b k).2 []).toArray 84 (0,0))∧H[w9.heap.size]?=some (.cells (fdV x).toArray 242 (0,0))) [2,6,8] [0,1,3,4,5,2,6,7,8] aK (by kernel_rfl) (⟨hq11,hg11⟩) ?_;refine Gz 5 ?_;refine Wo rfl rfl (Xu hfn rfl rfl (hcall w3.heap.size _) rfl ?_);rintro _ w12 ⟨rfl,hw12⟩;subst w12;refine Wu (by exact⟨hq11,hg11⟩) ?_;refine Wo rfl rfl (Wh AO rfl (iF p _ _ x.b _ (hP11.ZM (Zn _ _).ZK) (aj (yR b k hk) hb)) rfl ?_);rintro _ w13 ⟨rfl,hP13,hf13⟩;have hf13u:=hf13.ZK;have hq13:=hf13u.obj hq11 (by omega);refine Wu (by exact⟨hf13.ZK.obj hq11 (by omega),hf13.ZK.obj hg11 (by omega)⟩) ?_;refine Gz 1 ?_;refine Wo rfl rfl (Wl aF rfl rfl rfl hq13 (by simp[aN];omega) ?_);intro w14 hg14 hs14 hf14;refine WW rfl ?_;rw[AG _ _ ho10] at hg14;refine Gz 7 ?_;refine aG (k+1) ?_ (by show (aY (gK b)).length-(k+1)<(aY (gK b)).length-k;omega);have hz13:=hf13u.size;have hS:=AL b k hkL;rw[←hx] at hS;refine⟨by omega,?_,?_,((hL.ZM hF11).ZN hf13u (fun a ha h=>by have:=hne4 a ha;have h2:a.block=p:=h;omega)).ZN hf14 (fun a ha h=>by have:=hne4 a ha;have h2:a.block=w3.heap.size:=h;omega),hf14.obj (hf13u.obj (hF11.obj hr9 id) (by omega)) (by omega),by omega,((hF9.trans hF11).tw hf13u).tw hf14⟩
  ·rw[hS];exact hP13.ZN hf14 (fun k hk h=>by omega)
  ·rw[hS];exact hg14
 refine Gz 9 ?_;refine WL (β:=Unit) (fun _u=>[(2,pT W.heap.size),(4,pT p),(5,pT w3.heap.size)]) (fun _u w=>RdL (fun k=>w1.heap.size≤k∧k<w2.heap.size) w.heap p (pW b).1 (pW b).2∧w.heap[w3.heap.size]?=some (.cells (aN (gFn b) (gT b)).toArray 84 (0,0))∧w.heap[W.heap.size]?=some (.cells (aN (fun _=>0) []).toArray 84 (0,0))∧aA nob W w) ?_ ?_
 ·refine Gz 3 ?_;have hkk:k=(aY (gK b)).length:=by omega
  subst hkk;have e0:=PX b _ (Z0 _);rw[Dv] at hP9 hq e0;refine fK 1 ?_ ?_<;>intro h34
  ·have h3:gK b=3:=by omega
   have eE:pW b=eW (gR b).1:=by unfold pW;rw[ZP h3]
   have eT:gT b=gTx (gR b).1:=by unfold gT;rw[ZP h3]
   refine Gz 5 ?_;refine Wh Qa rfl (B3 p _ _ w9 hP9 (by have:=yR b _ (Z0 _);rw[Dv] at this;omega)) rfl ?_;rintro _ w15 ⟨rfl,hP15,hf15⟩;have hq15:=hf15.obj hq (by omega);refine Gz 1 ?_;refine Wl gH rfl rfl rfl hq15 rfl ?_;intro w16 hg16 hs16 hf16;have hg16:w16.heap[w3.heap.size]?=some (.cells (aN (gFn b) (gTx (gR b).1)).toArray 84 (0,0)):=hg16;have hr16:=hf16.obj (hf15.obj hr9 (by omega)) (fun h=>by have h:W.heap.size=w3.heap.size:=h;omega);have hP16:=hP15.ZN hf16 (fun k hk h=>by have h:k=w3.heap.size:=h;omega);have hF16:=(hF9.tw hf15).tw hf16;refine Gz 1 ?_;refine aC () ?_;exact⟨by rw[eE];exact hP16,by rw[eT];exact hg16,hr16,hF16⟩
  have h3:¬ gK b=3:=by omega
  have eE:pW b=(gR b).1:=by unfold pW;rw[ZO h3]
  have eT:gT b=[]:=by unfold gT;rw[ZO h3]
  refine Gz 4 ?_;refine aC () ?_;exact⟨by rw[eE];exact hP9,by rw[eT];exact hq,hr9,hF9⟩
 rintro _ w17 ⟨hP17,hq17,hr17,hF17⟩;have hTl:(gT b).length≤maxLen:=by have:=MM b;unfold maxLen;omega
 refine Gz 4 ?_;refine Wh Sz rfl (LG p _ _ w17 hP17) rfl ?_;rintro _ w18 ⟨rfl,hf18⟩;have hq18:=hf18.obj hq17 (by omega);have hr18:=hf18.obj hr17 (by omega);have hF18:=hF17.tw hf18;refine fK 0 ?_ ?_<;>intro h40
 ·have hno:¬ kV b:=fun h=>h40 h.1;have hf19:aA nob w18 w18:=Zn _ _;refine Gz 10 ?_;refine cL (bU (aN (fun _=>0) []) qT mO) ?_;refine sA rfl bM (by intro v hv;exact bY _ _ v hv) (hf19.obj hr18 id) ?_;intro w20 hg20 hs20 hf20;refine Gz 5 ?_;refine rC hg20 bM ?_;obtain⟨e1,e2,e3⟩:=BF hno;exact⟨_,rfl,by rw[e1,e2,e3],(hF18.trans hf19).tw hf20⟩
 refine Gz 1 ?_;refine cW (Ws (cs:=aN (gFn b) (gT b)) bM rfl (fun j v hj=>aB hq18 hj)) ?_;refine Wy rfl rfl Sw rfl (QU (gFn b) (gT b) w18 hTl) rfl ?_;rintro _ w19 ⟨rfl,hf19⟩;refine WV rfl rfl (WX rfl) rfl (fun h44=>?_) (fun h44=>?_)
 ·have hno:¬ kV b:=fun h=>of_decide_eq_false h44 h.2;refine Gz 6 ?_;refine cL (bU (aN (fun _=>0) []) qT mO) ?_;refine sA rfl bM (by intro v hv;exact bY _ _ v hv) (hf19.obj hr18 id) ?_;intro w20 hg20 hs20 hf20;refine Gz 5 ?_;refine rC hg20 bM ?_;obtain⟨e1,e2,e3⟩:=BF hno;exact⟨_,rfl,by rw[e1,e2,e3],(hF18.trans hf19).tw hf20⟩
 have hyes:kV b:=⟨Z5.1 h40,ZY fun h=>h44 (ZV h)⟩
 refine Gz 8 ?_;refine cL (Ws (cs:=aN (gFn b) (gT b)) bM rfl (fun j v hj=>aB (hf19.obj hq18 id) hj)) ?_;refine sA rfl bM (by intro v hv;exact bY _ _ v hv) (hf19.obj hr18 id) ?_;intro w20 hg20 hs20 hf20;refine Gz 4 ?_;refine rC hg20 bM ?_;obtain⟨e1,e2,e3⟩:=vS hyes;exact⟨_,rfl,by rw[e1,e2,e3],(hF18.trans hf19).tw hf20⟩
def dK(h:By):Int:=if ((h.getD 0 0).toNat:Int)=2 then 22 else if ((h.getD 0 0).toNat:Int)=1 then 21 else if ((h.getD 0 0).toNat:Int)=3 then 14+(h.getD 13 0).toNat else 13
def gY(h:By):Int:=if ((h.getD 0 0).toNat:Int)=2 then 22 else if ((h.getD 0 0).toNat:Int)=1 then 21 else if ((h.getD 0 0).toNat:Int)=3 then 14+(h.getD 13 0).toNat else 0
theorem OX(h:By):13≤dK h∧dK h≤269:=by
 have h1:(h.getD 13 0).toNat<256:=dl _;unfold dK
 split
 ·omega
 · split
   ·omega
   ·split<;>omega
theorem OW(h:By):0≤gY h∧gY h≤269:=by
 have h1:(h.getD 13 0).toNat<256:=dl _;unfold gY
 split
 ·omega
 · split
   ·omega
   ·split<;>omega
def vV(L:List Fd):Int:=(L.map (fun x=>x.b)).sum
theorem I4(L:List Fd)(x:Fd):vV (L++[x])=vV L+x.b:=by unfold vV;simp
theorem K4(k:Int):vV (fC k)=if k=2 then 9 else if k=1 then 8 else 0:=by
 unfold fC
 split
 ·decide
 ·split<;>decide
theorem Cl(h:By):dK h=13+vV (fC ((h.getD 0 0).toNat:Int))+(if ((h.getD 0 0).toNat:Int)=3 then 1+((h.getD 13 0).toNat:Int) else 0):=by
 rw[K4];unfold dK
 split
 ·omega
 · split
   ·omega
   ·split<;>omega
theorem HE(L:List Fd)(h:∀ x∈L,0≤x.b∧x.b≤4):0≤vV L∧vV L≤4*L.length:=by
 induction L with
|nil=>exact⟨fx 0,fx 0⟩
|cons x r ih=>
   have h1:=h x (by simp);have h2:=ih (fun y hy=>h y (by simp[hy]));have e:vV (x::r)=x.b+vV r:=by unfold vV;simp
   rw[e,al];omega
def bQ(im:By)(fr to ref:Int):((Nat→Int)×By)×Int×Int:=
 if (aD im fr to ref 14).2.2≠0 then ((fun _=>0,[]),0,2) else
 if (aD im fr to ref (dK (aD im fr to ref 14).1)).2.2≠0 then ((fun _=>0,[]),0,2) else
 if kV (aD im fr to ref (dK (aD im fr to ref 14).1)).1 then ((gFn (aD im fr to ref (dK (aD im fr to ref 14).1)).1,gT (aD im fr to ref (dK (aD im fr to ref 14).1)).1),(aD im fr to ref (dK (aD im fr to ref 14).1)).2.1,0)
 else ((fun _=>0,[]),0,2)
section
variable {im:List UInt8}{fr to ref:Int}
theorem MD(h:(aD im fr to ref 14).2.2≠0):bQ im fr to ref=((fun _=>0,[]),0,2):=by unfold bQ;rw[ZP h]
theorem G2(h:(aD im fr to ref 14).2.2=0)(h2:(aD im fr to ref (dK (aD im fr to ref 14).1)).2.2≠0):bQ im fr to ref=((fun _=>0,[]),0,2):=by unfold bQ;rw[ZO (fun h'=>h' h),ZP h2]
theorem G1(h:(aD im fr to ref 14).2.2=0)(h2:(aD im fr to ref (dK (aD im fr to ref 14).1)).2.2=0)(h3:¬ kV (aD im fr to ref (dK (aD im fr to ref 14).1)).1):bQ im fr to ref=((fun _=>0,[]),0,2):=by
 unfold bQ;rw[ZO (fun h'=>h' h),ZO (fun h'=>h' h2),ZO h3]
theorem G0(h:(aD im fr to ref 14).2.2=0)(h2:(aD im fr to ref (dK (aD im fr to ref 14).1)).2.2=0)(h3:kV (aD im fr to ref (dK (aD im fr to ref 14).1)).1) :
 bQ im fr to ref=((gFn (aD im fr to ref (dK (aD im fr to ref 14).1)).1,gT (aD im fr to ref (dK (aD im fr to ref 14).1)).1),(aD im fr to ref (dK (aD im fr to ref 14).1)).2.1,0):=by
 unfold bQ;rw[ZO (fun h'=>h' h),ZO (fun h'=>h' h2),ZP h3]
theorem Pc{b:By}(h:0<b.length):gK b=(b.getD 0 0).toNat:=by
 cases b with
|nil=>cases h
|cons c r=>
   unfold gK;rw[(pF (n:=1) (s:=(0,c::r)) (by decide) (by decide) rfl (by simp;omega)).2];simp[bV]
theorem kV.kind{b:By}(h:kV b):gK b=1∨gK b=2∨gK b=3:=by
 have:=mG h.2;rwa[Ir] at this
theorem H6{h:By}(ho:gY h≠dK h):gY h=0∧dK h=13∧¬ (((h.getD 0 0).toNat:Int)=1∨((h.getD 0 0).toNat:Int)=2∨((h.getD 0 0).toNat:Int)=3):=by
 unfold gY dK at *;by_cases h2:((h.getD 0 0).toNat:Int)=2
 ·rw[ZP h2,ZP h2] at ho;exact absurd rfl ho
 · rw[ZO h2,ZO h2] at ho ⊢
   by_cases h1:((h.getD 0 0).toNat:Int)=1
   ·rw[ZP h1,ZP h1] at ho;exact absurd rfl ho
   · rw[ZO h1,ZO h1] at ho ⊢
     by_cases h3:((h.getD 0 0).toNat:Int)=3
     ·rw[ZP h3,ZP h3] at ho;exact absurd rfl ho
     ·rw[ZO h3,ZO h3];exact⟨rfl,rfl,fun h=>h.elim h1 (fun h=>h.elim h2 h3)⟩
theorem L6:¬ kV ([]:By):=fun h=>by have:=h.kind;rw[show gK ([]:By)=0 from rfl] at this;omega
theorem AE(h:(aD im fr to ref 14).2.2=0)(ho:gY (aD im fr to ref 14).1≠dK (aD im fr to ref 14).1):bQ im fr to ref=((fun _=>0,[]),0,2):=by
 obtain⟨e1,e2,e3⟩:=H6 ho;by_cases h2:(aD im fr to ref (dK (aD im fr to ref 14).1)).2.2=0
 · refine G1 h h2 (fun hT=>?_)
   obtain⟨_,_,_,hl,_⟩:=cJ h2;have hs:=GH h2 h (by omega) (by decide);have hk:=hT.kind;rw[Pc (by omega),hs] at hk;exact e3 hk
 ·exact G2 h h2
end
def rwC(fo:Option Addr)(fn fc:Nat)(to:Option Addr)(tn tc:Nat):List Value:=[.slice fo fn fc,.slice to tn tc]
def RwO(D:Nat→Prop)(H:Array Obj)(g:Nat)(f t:By):Prop:=
 ∃ fo fc to tc,H[g]?=some (.cells (rwC fo f.length fc to t.length tc).toArray 73 (0,0))∧Own b8 5 H fo fc f∧Own b8 5 H to tc t∧¬ blk fo g∧¬ blk to g∧Ap fo to∧D g∧(∀ k,blk fo k→D k)∧(∀ k,blk to k→D k)
section
variable {D:Nat→Prop}{g:Nat}{f t:List UInt8}
theorem RwO.lt{H:Array Obj}(h:RwO D H g f t):g<H.size:=by obtain⟨fo,fc,to,tc,hg,_⟩:=h;exact(Z1.1 hg).1
theorem RwO.ZN{S:Nat→Prop}{w w':World}(h:RwO D w.heap g f t)(hf:aA S w w')(hs:∀ k,D k→¬ S k):RwO D w'.heap g f t:=by
 obtain⟨fo,fc,to,tc,hg,h1,h2,h3,h4,h5,h6,h7,h8⟩:=h;exact⟨fo,fc,to,tc,hf.obj hg (hs g h6),h1.ZN hf (fun a ha=>hs _ (h7 _ ⟨a,ha,rfl⟩)),h2.ZN hf (fun a ha=>hs _ (h8 _ ⟨a,ha,rfl⟩)),h3,h4,h5,h6,h7,h8⟩
theorem RwO.shrink{S:Nat→Prop}{w w':World}(h:RwO D w.heap g f t)(hf:aA S w w')(hs:∀ k,D k→¬ S k):RwO (fun k=>D k∧(k<w.heap.size∨w'.heap.size≤k)) w'.heap g f t:=by
 have hl:=h.lt;obtain⟨fo,fc,to,tc,hg,h1,h2,h3,h4,h5,h6,h7,h8⟩:=h;exact⟨fo,fc,to,tc,hf.obj hg (hs g h6),h1.ZN hf (fun a ha=>hs _ (h7 _ ⟨a,ha,rfl⟩)),h2.ZN hf (fun a ha=>hs _ (h8 _ ⟨a,ha,rfl⟩)),h3,h4,h5,⟨h6,.inl hl⟩,
  fun k ⟨a,ha,hb⟩=>⟨h7 k ⟨a,ha,hb⟩,.inl (by have:=h1.lt a ha;omega)⟩,fun k ⟨a,ha,hb⟩=>⟨h8 k ⟨a,ha,hb⟩,.inl (by have:=h2.lt a ha;omega)⟩⟩
end
theorem Vw.keepN{α:Type}{enc:α→Value}{ao:Option Addr}{cap:Nat}{xs:List α}{w w':World}{S:Nat→Prop}(h:Vw enc w.heap ao cap xs)(f:aA S w w')(hs:xs≠[]→∀ a,ao=some a→¬ S a.block):Vw enc w'.heap ao cap xs:=h.keep' f hs
theorem Of{D:Nat→Prop}{W w1 w2:World}{g:Nat}{f t t':By}{fo to to':Option Addr}{fc tc tc':Nat}(hD:∀ k,W.heap.size≤k→D k)
 (hg:W.heap[g]?=some (.cells (rwC fo f.length fc to t.length tc).toArray 73 (0,0)))(h1:Own b8 5 W.heap fo fc f)(h3:¬ blk fo g)(h4:¬ blk to g)(h5:Ap fo to)(h6:D g)(h7:∀ k,blk fo k→D k)(h8:∀ k,blk to k→D k)
 (ho:Own b8 5 w1.heap to' tc' t')(hf1:aA (blk to) W w1)(hr:∀ a,to'=some a→to=some a∨W.heap.size≤a.block)
 (hg2:w2.heap[g]?=some (.cells (rwC fo f.length fc to' t'.length tc').toArray 73 (0,0)))(hf2:aA (· = g) w1 w2) :
 RwO D w2.heap g f t'∧aA D W w2:=by
 have hgl:=(Z1.1 hg).1;have hD1:aA D W w1:=hf1.mono h8;have hD2:aA D W w2:=hD1.trans (hf2.mono (fun k h=>by have h:k=g:=h;subst h;exact h6));have hn:¬ blk to' g:=fun⟨a,ha,hb⟩=>by
  rcases hr a ha with h|h
  ·exact h4 ⟨a,h,hb⟩
  ·omega
 refine⟨⟨fo,fc,to',tc',hg2,(h1.ZN hf1 (fun a ha ⟨b,hb,h⟩=>h5 a b ha hb h.symm)).ZN hf2 (fun a ha h=>h3 ⟨a,ha,h⟩),ho.ZN hf2 (fun a ha h=>hn ⟨a,ha,h⟩),h3,hn,fun a b ha hb e=>?_,h6,h7,fun k ⟨a,ha,hb⟩=>?_⟩,hD2⟩
 · rcases hr b hb with h|h
   ·exact h5 a b ha h e
   ·have:=h1.lt a ha;omega
 · rcases hr a ha with h|h
   ·exact h8 k ⟨a,h,hb⟩
   ·exact hD k (by omega)
theorem Og{D:Nat→Prop}{W w1 w2:World}{g:Nat}{f t f':By}{fo to fo':Option Addr}{fc tc fc':Nat}(hD:∀ k,W.heap.size≤k→D k)
 (hg:W.heap[g]?=some (.cells (rwC fo f.length fc to t.length tc).toArray 73 (0,0)))(h2:Own b8 5 W.heap to tc t)(h3:¬ blk fo g)(h4:¬ blk to g)(h5:Ap fo to)(h6:D g)(h7:∀ k,blk fo k→D k)(h8:∀ k,blk to k→D k)
 (ho:Own b8 5 w1.heap fo' fc' f')(hf1:aA (blk fo) W w1)(hr:∀ a,fo'=some a→fo=some a∨W.heap.size≤a.block)
 (hg2:w2.heap[g]?=some (.cells (rwC fo' f'.length fc' to t.length tc).toArray 73 (0,0)))(hf2:aA (· = g) w1 w2) :
 RwO D w2.heap g f' t∧aA D W w2:=by
 have hgl:=(Z1.1 hg).1;have hD1:aA D W w1:=hf1.mono h7;have hD2:aA D W w2:=hD1.trans (hf2.mono (fun k h=>by have h:k=g:=h;subst h;exact h6));have hn:¬ blk fo' g:=fun⟨a,ha,hb⟩=>by
  rcases hr a ha with h|h
  ·exact h3 ⟨a,h,hb⟩
  ·omega
 refine⟨⟨fo',fc',to,tc,hg2,ho.ZN hf2 (fun a ha h=>hn ⟨a,ha,h⟩),(h2.ZN hf1 (fun a ha ⟨b,hb,h⟩=>h5 b a hb ha h)).ZN hf2 (fun a ha h=>h4 ⟨a,ha,h⟩),hn,h4,fun a b ha hb e=>?_,h6,fun k ⟨a,ha,hb⟩=>?_,h8⟩,hD2⟩
 · rcases hr a ha with h|h
   ·exact h5 a b h hb e
   ·have:=h2.lt b hb;omega
 · rcases hr a ha with h|h
   ·exact h7 k ⟨a,h,hb⟩
   ·exact hD k (by omega)
theorem QA{D:Nat→Prop}{W w2:World}{g:Nat}{f t:By}{fo to:Option Addr}{fc tc:Nat}
 (hg:W.heap[g]?=some (.cells (rwC fo f.length fc to t.length tc).toArray 73 (0,0)))(h1:Own b8 5 W.heap fo fc f)(h3:¬ blk fo g)(h6:D g)(h7:∀ k,blk fo k→D k)
 (hg2:w2.heap[g]?=some (.cells (rwC fo f.length fc none 0 0).toArray 73 (0,0)))(hf2:aA (· = g) W w2) :
 RwO D w2.heap g f []∧aA D W w2:=
 ⟨⟨fo,fc,none,0,hg2,h1.ZN hf2 (fun a ha h=>h3 ⟨a,ha,h⟩),Zu,h3,(fun⟨a,ha,_⟩=>by cases ha),Zr,h6,h7,(fun k ⟨a,ha,_⟩=>by cases ha)⟩,hf2.mono (fun k h=>by have h:k=g:=h;subst h;exact h6)⟩
theorem CG(f t:By)(x:UInt8):bI f (t++[x])=if ((bI f t).2++[x]).length=128 then ((bI f t).1++(dB ((bI f t).2++[x])).1,[]) else ((bI f t).1,(bI f t).2++[x]):=by
 have h:=jB f t;rw[vL]
 split
 ·rename_i h1;rw[Kq h1]
 ·rename_i h1;rw[dZ (by rw[ZR] at h1 ⊢;simp at h1 ⊢;omega)]
theorem HB{b:By}{i:Nat}(h:i<b.length):b.take (i+1)=b.take i++[b.getD i 0]:=by
 rw[am h,Z2,ZQ h];rfl
theorem Lv(D:Nat→Prop)(g:Nat)(f t:By)(bo:Option Addr)(bc:Nat)(b:By)(W:World)(hM:RwO D W.heap g f t)(hD:∀ k,W.heap.size≤k→D k)(hv:Vw b8 W.heap bo bc b)(hbD:b≠[]→∀ k,blk bo k→¬ D k)(htl:t.length<128)(hb:f.length+2*(t.length+b.length)≤1099511627776) :
 CA 29 [pT g,.slice bo b.length bc] W fun v w'=>v=iV (256*f.length+t.length:Nat)∧RwO D w'.heap g (bI f (t++b)).1 (bI f (t++b)).2∧aA D W w':=by
 have hM0:=hM;obtain⟨fo,fc,to,tc,hg,h1,h2,h3,h4,h5,h6,h7,h8⟩:=hM;have hvl:=hv.ZL;refine cS 67 [(0,_),(1,_)] Tryz.func29 ?_;refine Gz 6 ?_;refine Ww 13 [0,1,2,3,4,5,6,7,8,9,10,11,12] aK (by kernel_rfl) ?_;refine Gz 3 ?_;refine xC rfl (Wk aX rfl (aB hg rfl)) ?_;refine Gz 1 ?_;refine xC rfl (WN rfl rfl (by omega)) ?_;refine Gz 3 ?_;refine xC rfl (Wk aX rfl (aB hg rfl)) ?_;refine Gz 12 ?_;refine Wp (β:=Nat×(By×By)) (fun⟨i,⟨f9,t9⟩⟩=>[(0,pT g),(1,.slice bo b.length bc),(5,iV (256*f.length+t.length:Nat)),(6,iV i)]) (fun⟨i,⟨f9,t9⟩⟩ w=>i≤b.length∧bI f (t++b.take i)=(f9,t9)∧RwO D w.heap g f9 t9∧aA D W w) (fun⟨i,⟨f9,t9⟩⟩=>b.length-i) ⟨0,⟨f,t⟩⟩ ⟨rfl,rfl,rfl,rfl,trivial⟩ ⟨ZZ _,by rw[dm,bp,dZ htl],hM0,(Zn _ _).draws 1⟩ ?_;rintro⟨i,⟨f9,t9⟩⟩ w3 ⟨hi,hcw,hM3,hF3⟩;obtain⟨hoA,hcap,ko,kc,kg,k1,k2,k3,k4,k5,k6,k7,k8⟩:=hM3;have hM3:RwO D w3.heap g f9 t9:=⟨hoA,hcap,ko,kc,kg,k1,k2,k3,k4,k5,k6,k7,k8⟩
 have hv9:Vw b8 w3.heap bo bc b:=hv.keepN hF3 (fun hne a ha h=>hbD hne _ ⟨a,ha,rfl⟩ h);refine fK 6 ?_ ?_<;>intro h24
 ·have hib:i<b.length:=by omega
  have hsn:=CG f (t++b.take i) (b.getD i 0);rw[Z6,←HB hib,hcw] at hsn;have hsn:bI f (t++b.take (i+1))=if (t9++[b.getD i 0]).length=128 then (f9++(dB (t9++[b.getD i 0])).1,[]) else (f9,t9++[b.getD i 0]):=hsn
  have hln:=vK f (t++b.take i);rw[hcw,ZR,ZT] at hln;have hrl:=jB f (t++b.take i);rw[hcw] at hrl;have hln:f9.length+2*t9.length≤f.length+2*(t.length+min i b.length):=hln;have hrl:t9.length<128:=hrl;refine Gz 5 ?_;refine WL (β:=By×By) (fun⟨f8,t8⟩=>[(0,pT g),(1,.slice bo b.length bc),(5,iV (256*f.length+t.length:Nat)),(6,iV i)]) (fun⟨f8,t8⟩ w=>bI f (t++b.take (i+1))=(f8,t8)∧RwO D w.heap g f8 t8∧aA D W w) ?_ ?_
  ·refine Gz 2 ?_;refine Wv 13 (fun H=>Vw b8 H bo bc b∧H[g]?=some (.cells (rwC hoA f9.length hcap ko t9.length kc).toArray 73 (0,0))) [9,10,13] [0,1,2,3,4,5,6,7,8,9,10,11,12,13] aK (by kernel_rfl) (⟨hv9,kg⟩) ?_;refine Gz 7 ?_;refine xC rfl (Wi aH rfl rfl hv.non (by omega)) ?_;refine xC rfl (Wt eC rfl (fun H hH=>hH.1.gd 0 hib)) ?_;refine Wo rfl rfl (WS (enc:=b8) (u:=b.getD i 0) aH (aP _) rfl rfl ?_);intro w4 ho4 hs4 hf4;have hf4:=hf4.ZK;refine Wu (by exact⟨(hv9).ZM hf4,hf4.obj kg id⟩) ?_;refine Wo rfl rfl (Wq aP aH rfl rfl (k2.ZM hf4) ho4.vw (by simp only[ZU];omega) (by simp only[ZU];unfold maxLen;omega) rfl ?_);intro to5 tc5 w5 ho5 hf5 hr5 hn5;have hg5:=hf5.obj (hf4.obj kg id) k4;have hv5:Vw b8 w5.heap bo bc b:=(hv9.ZM hf4).keepN hf5 (fun hne a ha h=>hbD hne _ ⟨a,ha,rfl⟩ (k8 _ h));refine Wu (by exact⟨hv5,hg5⟩) ?_;refine Gz 2 ?_;refine Wo rfl rfl (Wl aX rfl rfl rfl hg5 rfl ?_);intro w6 hg6 hs6 hf6;refine WW rfl ?_;obtain⟨hM6,hF6⟩:=Of (dV hf4 (dV hF3 hD)) (hf4.obj kg id) (k1.ZM hf4) k3 k4 k5 k6 k7 k8 ho5 hf5 hr5 hg6 hf6;have hF6:=hf4.any.trans hF6;obtain⟨jo,jc,lo,lc,jg,j1,j2,j3,j4,j5,j6,j7,j8⟩:=hM6;refine fK 9 ?_ ?_<;>intro h45
   ·rw[ZP (by omega)] at hsn;have hps:=iG (b:=t9++[b.getD i 0]) (by omega);refine cA 9 Ke (nX lo lc (t9++[b.getD i 0]) w6 j2.vw) ?_;rintro _ w7 ⟨o7,c7,rfl,ho7,hfr7,hf7⟩;have hg7:=hf7.obj jg id;refine Gz 15 ?_;refine Wq aP aH rfl rfl (j1.ZM hf7) ho7.vw (by omega) (by unfold maxLen;omega) rfl ?_;intro fo8 fc8 w8 ho8 hf8 hr8 hn8;have hg8:=hf8.obj hg7 j3;refine Gz 2 ?_;refine Wl aX rfl rfl rfl hg8 rfl ?_;intro w9 hg9 hs9 hf9;obtain⟨hM9,hF9⟩:=Og (dV hf7 (dV hF6 (dV hF3 hD))) hg7 (j2.ZM hf7) j3 j4 j5 j6 j7 j8 ho8 hf8 hr8 hg9 hf9;obtain⟨io,ic,mo,mc,ig,i1,i2,i3,i4,i5,i6,i7,i8⟩:=hM9;refine Gz 6 ?_;refine Wl aX rfl rfl rfl ig rfl ?_;intro w10 hg10 hs10 hf10;obtain⟨hM10,hF10⟩:=QA ig i1 i3 i6 i7 hg10 hf10;refine Gz 2 ?_;exact aC ⟨f9++(dB (t9++[b.getD i 0])).1,[]⟩ ⟨hsn,hM10,(((hF3.trans hF6).trans hf7.any).trans hF9).trans hF10⟩
   rw[ZO (by omega)] at hsn;refine Gz 5 ?_;exact aC ⟨f9,t9++[b.getD i 0]⟩ ⟨hsn,⟨jo,jc,lo,lc,jg,j1,j2,j3,j4,j5,j6,j7,j8⟩,hF3.trans hF6⟩
  rintro⟨f8,t8⟩ w12 ⟨hcw12,hM12,hF12⟩;refine Gz 5 ?_;exact aG ⟨i+1,⟨f8,t8⟩⟩ ⟨by omega,hcw12,hM12,hF12⟩ (by show b.length-(i+1)<b.length-i;omega)
 have hib:i=b.length:=by omega
 subst hib;rw[be] at hcw;refine Gz 16 ?_;rw[hcw];exact⟨_,rfl,rfl,hM3,hF3⟩
theorem Jk(D:Nat→Prop)(g:Nat)(f t:By)(W:World)(hM:RwO D W.heap g f t)(hb:f.length≤1099511627000)(htl:t.length<128) :
 CA 30 [pT g] W (rJ W (pQ f t)):=by
 obtain⟨fo,fc,to,tc,hg,h1,h2,h3,h4,h5,h6,h7,h8⟩:=hM;refine cS 30 [(0,_)] Tryz.func30 ?_;refine Gz 7 ?_;refine WC b8 aH rfl ?_;intro w1 ho1 hs1 hf1;have hg1:=hf1.obj hg id;refine Gz 4 ?_;refine Wq aP aH rfl rfl ho1 (h1.ZM hf1).vw (by simp only[Z7];omega) (by simp only[Z7];unfold maxLen;omega) rfl ?_;intro o2 c2 w2 ho2 hf2 hr2 hn2;rw[aq] at ho2 ⊢;have hF2:aA nob W w2:=hf1.ZJ hf2 (cX _).step;have hfr2:Fr W.heap.size o2:=aS (cX _) hr2 hf1.size;have hg2:=hF2.obj hg id;refine fK 11 ?_ ?_<;>intro h17
 ·have e:pQ f t=f++(dB t).1:=by unfold pQ;rw[ZO (by omega)]
  have hps:=iG (b:=t) (by omega);refine cA 9 Ke (nX to tc t w2 (h2.ZM hF2).vw) ?_;rintro _ w3 ⟨o3,c3,rfl,ho3,hfr3,hf3⟩;refine Gz 10 ?_;refine Wq aP aH rfl rfl (ho2.ZM hf3) ho3.vw (by omega) (by unfold maxLen;omega) rfl ?_;intro o4 c4 w4 ho4 hf4 hr4 hn4;refine Gz 11 ?_;rw[e];exact⟨_,rfl,o4,c4,rfl,ho4,aS hfr2 hr4 (hF2.trans hf3).size,(hF2.trans hf3).ZJ hf4 hfr2.step⟩
 have e:pQ f t=f:=by unfold pQ;rw[ZP (by omega)]
 refine Gz 13 ?_;rw[e];exact⟨_,rfl,o2,c2,rfl,ho2,hfr2,hF2⟩
abbrev I6:={ z:Int // -9223372036854775808≤z∧z≤9223372036854775807 }
def enI(z:I6):Value:=.int .i64 z.1
theorem My:xD Tryz.prog 3 enI:=by
 refine⟨Go.Maps.int_keyed ty3,fun a=>⟨.int .i64 a.1,?_⟩,fun a b h=>by unfold enI at h;exact Subtype.ext (by simpa using h)⟩;have h1:IntKind.i64.min = -9223372036854775808:=rfl;have h2:IntKind.i64.max=9223372036854775807:=rfl;have:=a.2;simp[keyOf,mapKey,enI,Lit.wf,h1,h2,this]
abbrev SK:={s:By // s.length≤maxLen}
def pU(r:By):SK:=if h:r.length≤maxLen then ⟨r,h⟩ else ⟨[],by decide⟩
theorem HN{r:By}(h:r.length≤maxLen):(pU r).1=r:=by unfold pU;rw[dif_pos h]
def PV:Value:=.agg #[sN,iV 0]
theorem mpH:NP Tryz.prog 208 3 235 PV:=⟨by kernel_rfl,by kernel_rfl⟩
theorem Ej{α:Type}[DecidableEq α]{a x:α}{v y:Value}:∀ {m:List (α×Value)},(x,y)∈oY m a v→(x=a∧y=v)∨(x,y)∈m
|[],h=>by
   simp only[oY,ai,Prod.mk.injEq] at h;exact .inl h
|p::r,h=>by
   unfold oY at h
   split at h
   · rcases aw.1 h with h|h
     ·cases h;exact .inl ⟨rfl,rfl⟩
     ·exact .inr (gk _ h)
   · rcases aw.1 h with h|h
     ·rw[h];exact .inr (by simp)
     · rcases Ej h with h|h
       ·exact .inl h
       ·exact .inr (gk _ h)
theorem Hk{α:Type}{enc:α→Value}{H:Array Obj}{gm:Nat}{m:List (α×Value)}(hm:kS enc H gm m){a:Addr}{v:Value}(h:bK H a=some v):a.block≠gm:=by
 intro e;unfold bK at h;rw[e,hm.1] at h;cases h
theorem lQ{α:Type}{enc:α→Value}{H:Array Obj}{gm g:Nat}{m:List (α×Value)}(hm:kS enc H gm m){cs:Array Value}{T:TypeId}{z:Nat×Nat}(h:H[g]?=some (.cells cs T z)):g≠gm:=by
 intro e;rw[e,hm.1] at h;cases h
theorem Vw.neMap{α β:Type}{enc:α→Value}{en:β→Value}{H:Array Obj}{gm:Nat}{m:List (β×Value)}{ao:Option Addr}{c:Nat}{xs:List α}(h:Vw enc H ao c xs)(hm:kS en H gm m)(hne:xs≠[]):∀ a,ao=some a→a.block≠gm:=by
 intro a ha;have:=h.at (i:=0) (bw.2 hne);have:=Hk hm this;rw[ha,lT] at this;exact this
theorem Own.neMap{α β:Type}{enc:α→Value}{en:β→Value}{e:TypeId}{H:Array Obj}{gm:Nat}{m:List (β×Value)}{ao:Option Addr}{c:Nat}{xs:List α}(h:Own enc e H ao c xs)(hm:kS en H gm m):∀ a,ao=some a→a.block≠gm:=by
 intro a ha;rcases h with⟨h,_⟩|⟨g,cur,rfl,hg,_⟩
 ·rw[h] at ha;cases ha
 ·cases ha;exact lQ hm hg
def mrC(p:Nat)(io:Option Addr)(il ic:Nat)(fr to:Int)(gm:Nat):List Value:=[pT p,.slice io il ic,iV fr,iV to,.map (some gm)]
def hvC(bo:Option Addr)(bl bc:Nat)(nx:Int):List Value:=[.slice bo bl bc,iV nx]
theorem kK(bo:Option Addr)(bl bc:Nat)(nx:Int):∀ v∈hvC bo bl bc nx,v.oneCell'=true:=by
 intro v hv;simp only[hvC,aw,bv,or_false] at hv;rcases hv with rfl|rfl<;>rfl
def HmV(D:Nat→Prop)(H:Array Obj)(im:By)(fr to:Int)(m:List (I6×Value)):Prop:=
 ∀ a v,(a,v)∈m→∃ bo bc b nx,v=.agg (hvC bo b.length bc nx).toArray∧bO im fr to a.1=some (b,nx)∧Vw b8 H bo bc b∧∀ k,blk bo k→D k
def MrO(D:Nat→Prop)(H:Array Obj)(g p:Nat)(im:By)(fr to:Int):Prop:=
 ∃ io ic gm m,H[g]?=some (.cells (mrC p io im.length ic fr to gm).toArray 210 (0,0))∧Own b8 5 H io ic im∧kS enI H gm m∧HmV D H im fr to m∧D g∧D gm∧(∀ k,blk io k→D k)∧TbV H p∧¬ D p
section
variable {D:Nat→Prop}{g p:Nat}{im:List UInt8}{fr to:Int}
theorem MrO.lt{H:Array Obj}(h:MrO D H g p im fr to):g<H.size:=by obtain⟨io,ic,gm,m,hg,_⟩:=h;exact(Z1.1 hg).1
theorem HmV.ZN{S:Nat→Prop}{w w':World}{m:List (I6×Value)}(h:HmV D w.heap im fr to m)(hf:aA S w w')(hs:∀ k,D k→¬ S k):HmV D w'.heap im fr to m:=fun a v hv=>by
 obtain⟨bo,bc,b,nx,e,h1,h2,h3⟩:=h a v hv;exact⟨bo,bc,b,nx,e,h1,h2.ZN hf (fun x hx=>hs _ (h3 _ ⟨x,hx,rfl⟩)),h3⟩
theorem MrO.ZN{S:Nat→Prop}{w w':World}(h:MrO D w.heap g p im fr to)(hf:aA S w w')(hs:∀ k,D k→¬ S k)(hp:¬ S p):MrO D w'.heap g p im fr to:=by
 obtain⟨io,ic,gm,m,hg,h1,h2,h3,h4,h5,h6,h7,h8⟩:=h;exact⟨io,ic,gm,m,hf.obj hg (hs g h4),h1.ZN hf (fun a ha=>hs _ (h6 _ ⟨a,ha,rfl⟩)),h2.ZN hf (hs _ h5),h3.ZN hf hs,h4,h5,h6,hf.obj h7 hp,h8⟩
theorem MrO.ZM{w w':World}(h:MrO D w.heap g p im fr to)(hf:aA nob w w'):MrO D w'.heap g p im fr to:=h.ZN hf (fun _ _=>id) id
theorem MrO.shrink{S:Nat→Prop}{w w':World}(h:MrO D w.heap g p im fr to)(hf:aA S w w')(hs:∀ k,D k→¬ S k)(hp:¬ S p):MrO (fun k=>D k∧(k<w.heap.size∨w'.heap.size≤k)) w'.heap g p im fr to:=by
 have hl:=h.lt;obtain⟨io,ic,gm,m,hg,h1,h2,h3,h4,h5,h6,h7,h8⟩:=h;refine⟨io,ic,gm,m,hf.obj hg (hs g h4),h1.ZN hf (fun a ha=>hs _ (h6 _ ⟨a,ha,rfl⟩)),h2.ZN hf (hs _ h5),fun a v hv=>?_,⟨h4,.inl hl⟩,⟨h5,.inl h2.obj⟩,fun k ⟨a,ha,hb⟩=>⟨h6 k ⟨a,ha,hb⟩,.inl (by have:=h1.lt a ha;omega)⟩,hf.obj h7 hp,fun h=>h8 h.1⟩;obtain⟨bo,bc,b,nx,e,k1,k2,k3⟩:=h3 a v hv;have hb:=(dU k1).2.2.2.2.2.2.1;exact⟨bo,bc,b,nx,e,k1,k2.ZN hf (fun x hx=>hs _ (k3 _ ⟨x,hx,rfl⟩)),fun k ⟨x,hx,hk⟩=>⟨k3 k ⟨x,hx,hk⟩,.inl (by have:=k2.lt (fun e=>by rw[e] at hb;cases hb) x hx;omega)⟩⟩
end
theorem Mj(p:Nat)(ao:Option Addr)(c:Nat)(im:By)(fr to:Int)(W:World)(ht:TbV W.heap p)(hv:Vw b8 W.heap ao c im)(hb:im.length≤140737488355328) :
 CA 77 [pT p,.slice ao im.length c,iV fr,iV to] W fun v w'=>∃ g,v=pT g∧W.heap.size≤g∧MrO (fun k=>W.heap.size≤k) w'.heap g p im fr to∧aA nob W w':=by
 refine cS 17 [(0,_),(1,_),(2,_),(3,_)] Tryz.func77 ?_;refine cA 9 G9 (kB ao c im W hv hb) ?_;rintro _ w1 ⟨o1,c1,rfl,ho1,hfr1,hf1⟩;have hz1:=hf1.size;refine Gz 2 ?_;refine XF (enc:=enI) rfl ?_;intro w2 hm2 hs2 hf2;refine cL (WA (cs:=#[pT p,.slice o1 im.length c1,iV fr,iV to,.map (some w1.heap.size)]) QG Rs rfl (by kernel_rfl)) ?_;refine WO rfl rfl ?_;intro w3 hg3 hs3 hf3;refine Gz 5 ?_;have hpl:=(Z1.1 ht).1;have hF:=(hf1.trans hf2).trans hf3;exact⟨_,rfl,_,rfl,by omega,⟨o1,c1,w1.heap.size,[],hg3,(ho1.ZM hf2).ZM hf3,hm2.ZN hf3 id,(fun a v h=>by cases h),(by show W.heap.size≤_;omega),hz1,(fun k ⟨a,ha,hk⟩=>by have:=hfr1 a ha;show W.heap.size≤k;omega),hF.obj ht id,(by show ¬ W.heap.size≤p;omega)⟩,hF⟩
theorem ON(D:Nat→Prop)(g p:Nat)(im:By)(fr to:Int)(W:World)(hM:MrO D W.heap g p im fr to) :
 CA 135 [pT g] W fun v w'=>v=.bool (dX im fr to)∧aA nob W w':=by
 obtain⟨io,ic,gm,m,hg,h1,h2,h3,h4,h5,h6,h7,h8⟩:=hM;refine cS 31 [(0,_)] Tryz.func135 ?_;refine Gz 6 ?_;refine Ww 29 [0,1,2,3,4,5,6,7,8,9,10,11,12,13,14,15,16,17,18,19,20,21,22,23,24,25,26,27,28] aK (by kernel_rfl) ?_;refine Gz 3 ?_;refine xC rfl (Wk aF rfl (aB hg rfl)) ?_;refine xK 0 ?_ ?_<;>intro h7
 ·refine Gz 4 ?_;refine xV rfl (Wk aF rfl (aB hg rfl)) ?_;refine Gz 3 ?_;refine xV rfl (Wk aF rfl (aB hg rfl)) ?_;refine xW 0 ?_ ?_<;>intro h17
  ·refine Gz 5 ?_;refine xV rfl (Wk aF rfl (aB hg rfl)) ?_;refine Gz 3 ?_;refine xV rfl (Wk aX rfl (aB hg rfl)) ?_;refine xW 1 ?_ ?_<;>intro h29
   ·refine Gz 6 ?_;refine⟨_,rfl,congrArg Value.bool (iM ⟨fun h=>?_,fun h=>?_⟩),(Zn _ _).draws 1⟩
    · first
     |omega
     |exact absurd h (by decide)
    · first
     |rfl
     |exact absurd h (by omega)
   refine Gz 6 ?_;refine⟨_,rfl,congrArg Value.bool (iM ⟨fun h=>?_,fun h=>?_⟩),(Zn _ _).draws 1⟩
   · first
    |omega
    |exact absurd h (by decide)
   · first
    |rfl
    |exact absurd h (by omega)
  refine Gz 18 ?_;refine⟨_,rfl,congrArg Value.bool (iM ⟨fun h=>?_,fun h=>?_⟩),(Zn _ _).draws 1⟩
  · first
   |omega
   |exact absurd h (by decide)
  · first
   |rfl
   |exact absurd h (by omega)
 refine Gz 28 ?_;refine⟨_,rfl,congrArg Value.bool (iM ⟨fun h=>?_,fun h=>?_⟩),(Zn _ _).draws 1⟩
 · first
  |omega
  |exact absurd h (by decide)
 · first
  |rfl
  |exact absurd h (by omega)
def HoP(D:Nat→Prop)(r:Option (By×Int))(v:Value)(H:Array Obj):Prop:=match r with
|none=>v=.tuple #[PV,.bool false]
|some (b,nx)=>∃ bo bc,v=.tuple #[.agg (hvC bo b.length bc nx).toArray,.bool true]∧Vw b8 H bo bc b∧∀ k,blk bo k→D k
theorem HmV.snoc{D:Nat→Prop}{H:Array Obj}{im:By}{fr to nx:Int}{a:I6}{m:List (I6×Value)}{bo:Option Addr}{bc:Nat}{b:By}(h:HmV D H im fr to m)(hh:bO im fr to a.1=some (b,nx))(hv:Vw b8 H bo bc b)(hD:∀ k,blk bo k→D k) :
 HmV D H im fr to (oY m a (.agg (hvC bo b.length bc nx).toArray)):=fun x y hxy=>by
 rcases Ej hxy with⟨rfl,rfl⟩|hm
 ·exact⟨bo,bc,b,nx,rfl,hh,hv,hD⟩
 ·exact h x y hm
theorem OJ{D:Nat→Prop}{W w':World}{g p gm r:Nat}{im:By}{fr to nx:Int}{io bo:Option Addr}{ic bc:Nat}{b:By}{m:List (I6×Value)}{a:I6}
 (hD:∀ k,W.heap.size≤k→D k)(hg:W.heap[g]?=some (.cells (mrC p io im.length ic fr to gm).toArray 210 (0,0)))(h1:Own b8 5 W.heap io ic im)(h2:kS enI W.heap gm m)(h3:HmV D W.heap im fr to m)(h4:D g)(h5:D gm)(h6:∀ k,blk io k→D k)(h7:TbV W.heap p)(h8:¬ D p)
 (hF:aA (fun k=>k=gm∨k=r) W w')(hr:W.heap.size≤r)(hm:kS enI w'.heap gm (oY m a (.agg (hvC bo b.length bc nx).toArray)))(hh:bO im fr to a.1=some (b,nx))(hb:Vw b8 w'.heap bo bc b)(hfr:Fr W.heap.size bo) :
 MrO D w'.heap g p im fr to∧aA D W w':=by
 have hgl:=(Z1.1 hg).1;have hpl:=(Z1.1 h7).1;have hn:∀ k,k<W.heap.size→k≠gm→¬ (k=gm∨k=r):=fun k hk hk2 h=>by rcases h with h|h;exact hk2 h;omega
 refine⟨⟨io,ic,gm,_,hF.obj hg (hn g hgl (lQ h2 hg)),h1.ZN hF (fun x hx=>hn _ (h1.lt x hx) (h1.neMap h2 x hx)),hm,HmV.snoc (fun x v hx=>?_) hh hb (fun k ⟨x,hx,hk⟩=>hD k (by have:=hfr x hx;omega)),h4,h5,h6,hF.obj h7 (hn p hpl (fun e=>h8 (e ▸ h5))),h8⟩,hF.mono (fun k hk=>by rcases hk with rfl|rfl;exact h5;exact hD _ hr)⟩;obtain⟨bo',bc',b',nx',e,k1,k2,k3⟩:=h3 x v hx;have hb':b'≠[]:=fun e=>by have:=(dU k1).2.2.2.2.2.2.1;rw[e] at this;cases this
 exact⟨bo',bc',b',nx',e,k1,k2.ZN hF (fun y hy=>hn _ (k2.lt hb' y hy) (k2.neMap h2 hb' y hy)),k3⟩
theorem J0(D:Nat→Prop)(g p:Nat)(im:By)(fr to a:Int)(W:World)(hM:MrO D W.heap g p im fr to)(hD:∀ k,W.heap.size≤k→D k)(hmay:dX im fr to=true)(him:im.length≤1099511627776)(ha:0≤a∧a≤9223372036854775807) :
 CA 136 [pT g,iV a] W fun v w'=>HoP D (bO im fr to a) v w'.heap∧MrO D w'.heap g p im fr to∧aA D W w':=by
 have hM0:=hM;obtain⟨io,ic,gm,m,hg,h1,h2,h3,h4,h5,h6,h7,h8⟩:=hM;obtain⟨hm1,hm2,hm3⟩:0≤fr∧fr≤to∧to≤im.length:=by
  unfold dX at hmay;simp only[ag,decide_eq_true_eq] at hmay;omega
 have hgml:=h2.obj;refine cS 85 [(0,_),(1,_)] Tryz.func136 ?_;refine Gz 2 ?_;refine Wn sF rfl ?_;intro w1 hg1 hs1 hf1;refine Gz 9 ?_;refine cL (Wk Lg rfl (aB (hf1.obj hg id) rfl)) ?_;refine Gz 1 ?_;refine cL (XD mpH (a:=(⟨a,by omega⟩:I6)) My rfl rfl (fun _ e=>by rw[e];exact(h2.ZN hf1 id))) ?_;refine Gz 2 ?_;refine WF (WK (Xw rfl rfl)) rfl (fun h20=>?_) (fun h20=>?_)
 ·obtain⟨v,hv⟩:=Option.isSome_iff_exists.1 (of_decide_eq_true h20);rw[hv];obtain⟨bo,bc,b,nx,rfl,k1,k2,k3⟩:=h3 _ v (Fy hv);refine Wn sF rfl ?_;intro w2 hg2 hs2 hf2;refine sA rfl fO (kK _ _ _ _) hg2 ?_;intro w3 hg3 hs3 hf3;have hF13:aA nob w1 w3:=hf2.tw hf3;have hF3:=hf1.trans hF13;have hgr:=hF13.obj hg1 id;refine Gz 11 ?_;refine cL (Ws (cs:=hvC bo b.length bc nx) fO rfl (fun j v hj=>aB hg3 hj)) ?_;refine sA rfl fO (kK _ _ _ _) hgr ?_;intro w4 hg4 hs4 hf4;have hF4:aA nob W w4:=hF3.tw hf4;refine Gz 5 ?_;refine rC hg4 fO ?_;exact⟨_,rfl,by rw[k1];exact⟨bo,bc,rfl,k2.ZM hF4,k3⟩,hM0.ZM hF4,hF4.any⟩
 have hv:oL m (⟨a,by omega⟩:I6)=none:=by simpa using h20
 rw[hv];refine Wn sF rfl ?_;intro w2 hg2 hs2 hf2;refine sA rfl fO (kK _ _ _ _) hg2 ?_;intro w3 hg3 hs3 hf3;have hF13:aA nob w1 w3:=hf2.tw hf3;have hF3:=hf1.trans hF13;have hgr:=hF13.obj hg1 id;have hgg:=hF3.obj hg id;refine Gz 13 ?_;refine Ww 11 [0,1,2,3,4,5,6,7,8,9,10] aK (by kernel_rfl) ?_;refine Gz 4 ?_;refine xC rfl (Wk aF rfl (aB hgg rfl)) ?_;refine Gz 3 ?_;refine xC rfl (Wk aF rfl (aB hgg rfl)) ?_;refine xK 1 ?_ ?_<;>intro h33
 ·have hn:bO im fr to a=none:=by unfold bO;rw[ZP (by omega)]
  refine Gz 5 ?_;refine cL (WA (cs:=#[sN,iV 0]) Ai sF rfl (by kernel_rfl)) ?_;refine sA rfl fO (kK _ _ _ _) hgr ?_;intro w4 hg4 hs4 hf4;have hf4:=hf4.ZK;have hF4:aA nob W w4:=hF3.tw hf4;refine Gz 5 ?_;refine rC hg4 fO ?_;exact⟨_,rfl,by rw[hn];exact rfl,hM0.ZM hF4,hF4.any⟩
 refine Gz 6 ?_;refine Wv 22 (fun H=>H[g]?=some (.cells (mrC p io im.length ic fr to gm).toArray 210 (0,0))) [14] [0,1,2,3,4,5,6,7,8,9,10,11,12,13,14,15,16,17,18,19,20,21] aK (by kernel_rfl) (hgg) ?_;refine Gz 14 ?_;refine Wo rfl rfl (Wh M2 rfl (AM p io ic im (fr+a) _ (hF3.obj h7 id) ((h1.ZM hF3).vw) him (by omega)) rfl ?_);rintro _ w5 ⟨o5,c5,rfl,ho5,hfr5,hf5⟩;refine Wu (by exact hf5.ZK.ZK.obj hgg id) ?_;have hfr5:Fr w3.heap.size o5:=hfr5;have hf5:=hf5.ZK.ZK;have hF5:=hF3.trans hf5;have hz3:=hF3.size;have hg5:=hf5.obj hgg id;have hgr5:=hf5.obj hgr id;obtain⟨t,hT⟩:∃ t,t=bD im (fr+a):=⟨_,rfl⟩
 rw[←hT];rw[←hT] at ho5;have hho:bO im fr to a=if t.2.2≠0∨to<t.2.1∨t.1.length=0 then none else some (t.1,t.2.1-fr):=by unfold bO;rw[ZO (by omega),←hT]
 have htk:=qC (im:=im) (a:=fr+a);rw[←hT] at htk;refine fK 13 ?_ ?_<;>intro h55
 ·rw[ZP (.inl h55)] at hho;refine Gz 18 ?_;refine cL (WA (cs:=#[sN,iV 0]) Ai sF rfl (by kernel_rfl)) ?_;refine sA rfl fO (kK _ _ _ _) hgr5 ?_;intro w4 hg4 hs4 hf4;have hF4:aA nob W w4:=hF5.tw hf4;refine Gz 5 ?_;refine rC hg4 fO ?_;exact⟨_,rfl,by rw[hho];exact rfl,hM0.ZM hF4,hF4.any⟩
 have he:t.2.2=0:=Z5.1 h55;have htk:=htk he;refine fW 6 ?_ ?_<;>intro h62
 ·rw[ZP (.inr (.inl h62))] at hho;refine Gz 11 ?_;refine cL (WA (cs:=#[sN,iV 0]) Ai sF rfl (by kernel_rfl)) ?_;refine sA rfl fO (kK _ _ _ _) hgr5 ?_;intro w4 hg4 hs4 hf4;have hF4:aA nob W w4:=hF5.tw hf4;refine Gz 5 ?_;refine rC hg4 fO ?_;exact⟨_,rfl,by rw[hho];exact rfl,hM0.ZM hF4,hF4.any⟩
 refine fW 4 ?_ ?_<;>intro h67
 ·rw[ZP (.inr (.inr (by omega)))] at hho;refine Gz 6 ?_;refine cL (WA (cs:=#[sN,iV 0]) Ai sF rfl (by kernel_rfl)) ?_;refine sA rfl fO (kK _ _ _ _) hgr5 ?_;intro w4 hg4 hs4 hf4;have hF4:aA nob W w4:=hF5.tw hf4;refine Gz 5 ?_;refine rC hg4 fO ?_;exact⟨_,rfl,by rw[hho];exact rfl,hM0.ZM hF4,hF4.any⟩
 rw[ZO (by rintro(h|h|h);exact h55 h;omega;omega)] at hho;refine Gz 15 ?_;refine cL (WA (cs:=#[.slice o5 t.1.length c5,iV (t.2.1-fr)]) Ai sF rfl (by kernel_rfl)) ?_;refine Wn sF rfl ?_;intro w6 hg6 hs6 hf6;refine sA rfl fO (kK _ _ _ _) hg6 ?_;intro w7 hg7 hs7 hf7;have hF57:aA nob w5 w7:=hf6.tw hf7;have hF7:=hF5.trans hF57;have hg7g:=hF57.obj hg5 id;have hm7:=h2.ZN hF7 id;have ho7:=ho5.ZM hF57;refine Gz 3 ?_;refine Wv 7 (fun H=>H[g]?=some (.cells (mrC p io im.length ic fr to gm).toArray 210 (0,0))∧H[w5.heap.size]?=some (.cells (hvC o5 t.1.length c5 (t.2.1-fr)).toArray 235 (0,0))) [6] [0,1,2,3,4,5,6] aK (by kernel_rfl) (⟨hg7g,hg7⟩) ?_;refine Gz 5 ?_;refine xC rfl (W9 (cs:=hvC o5 t.1.length c5 (t.2.1-fr)) fO rfl (fun H hH j v hj=>aB hH.2 hj)) ?_;refine Wo rfl rfl (XJ mpH (a:=(⟨a,by omega⟩:I6)) My rfl rfl rfl hm7 ?_);intro w8 hm8 hs8 hf8;refine Wu (by exact⟨hf8.obj hg7g (lQ hm7 hg7g),hf8.obj hg7 (lQ hm7 hg7)⟩) ?_;have hf8:=hf8.ZK;have hgr8:=hf8.obj (hF57.obj hgr5 id) (lQ hm7 (hF57.obj hgr5 id));have hg8:=hf8.obj hg7 (lQ hm7 hg7);refine Gz 4 ?_;refine cL (Ws (cs:=hvC o5 t.1.length c5 (t.2.1-fr)) fO rfl (fun j v hj=>aB hg8 hj)) ?_;refine sA rfl fO (kK _ _ _ _) hgr8 ?_;intro w9 hg9 hs9 hf9;refine Gz 4 ?_;refine rC hg9 fO ?_;have hF79:aA (fun k=>k=gm∨k=W.heap.size) w7 w9:=(hf8.mono (fun k h=>.inl h)).trans (hf9.mono (fun k h=>.inr h));have ho9:=(ho7.ZN hf8 (ho7.neMap hm7)).ZN hf9 (fun x hx h=>by have:=hfr5 x hx;have h:x.block=W.heap.size:=h;omega);obtain⟨hM9,hF9⟩:=OJ (a:=⟨a,by omega⟩) (r:=W.heap.size) hD hg h1 h2 h3 h4 h5 h6 h7 h8 (hF7.any.trans hF79) (Z0 _) (hm8.ZN hf9 (by omega)) hho ho9.vw (hfr5.mono hz3);exact⟨_,rfl,by rw[hho];exact⟨o5,c5,rfl,ho9.vw,fun k ⟨x,hx,hk⟩=>hD k (by have:=hfr5 x hx;omega)⟩,hM9,hF9⟩
theorem HoP.any{D:Nat→Prop}{r:Option (By×Int)}{v:Value}{H:Array Obj}(h:HoP D r v H):∃ bo bl bc nx ok,v=.tuple #[.agg (hvC bo bl bc nx).toArray,.bool ok] ∧
 (ok=false→r=none∧bl=0)∧(ok=true→∃ b,bl=b.length∧r=some (b,nx)∧Vw b8 H bo bc b∧∀ k,blk bo k→D k):=by
 unfold HoP at h
 split at h
 ·exact⟨none,0,0,0,false,h,(fun _=>⟨rfl,rfl⟩),(fun h=>by cases h)⟩
 · rename_i b nx
   obtain⟨bo,bc,h1,h2,h3⟩:=h;exact⟨bo,b.length,bc,nx,true,h1,(fun h=>by cases h),(fun _=>⟨b,rfl,rfl,h2,h3⟩)⟩
section
variable {D:Nat→Prop}{g p:Nat}{im:List UInt8}{fr to:Int}
theorem MrO.mono{D':Nat→Prop}{H:Array Obj}(h:MrO D H g p im fr to)(hd:∀ k,D k→D' k)(hp:¬ D' p):MrO D' H g p im fr to:=by
 obtain⟨io,ic,gm,m,hg,h1,h2,h3,h4,h5,h6,h7,h8⟩:=h;exact⟨io,ic,gm,m,hg,h1,h2,fun a v hv=>(by obtain⟨bo,bc,b,nx,e,k1,k2,k3⟩:=h3 a v hv;exact⟨bo,bc,b,nx,e,k1,k2,fun k hk=>hd k (k3 k hk)⟩),hd _ h4,hd _ h5,fun k hk=>hd k (h6 k hk),h7,hp⟩
theorem MrO.tab{H:Array Obj}(h:MrO D H g p im fr to):TbV H p∧¬ D p:=by obtain⟨io,ic,gm,m,hg,h1,h2,h3,h4,h5,h6,h7,h8⟩:=h;exact⟨h7,h8⟩
theorem MrO.beside{w w':World}{o o':Option Addr}{c':Nat}{x':By}(h:MrO (fun k=>D k∧¬ blk o k) w.heap g p im fr to)(hf:aA (blk o) w w')(hr:∀ a,o'=some a→o=some a∨w.heap.size≤a.block)(ho:Own b8 5 w'.heap o' c' x')(hp:¬ D p)(hpo:¬ blk o p) :
 MrO (fun k=>D k∧¬ blk o' k) w'.heap g p im fr to:=by
 refine(h.shrink hf (fun k hk=>hk.2) hpo).mono (fun k hk=>⟨hk.1.1,fun⟨a,ha,hb⟩=>?_⟩) (fun h=>hp h.1);have:=ho.lt a ha;rcases hr a ha with h1|h1
 ·exact hk.1.2 ⟨a,h1,hb⟩
 ·rcases hk.2 with h2|h2<;>omega
end
def MrP(D:Nat→Prop)(W:World)(g p:Nat)(im:By)(fr to:Int)(r:By×Int×Int):Value→World→Prop:=fun v w'=>
 ∃ o c,v=.tuple #[.slice o r.1.length c,iV r.2.1,iV r.2.2]∧Own b8 5 w'.heap o c r.1∧Fr W.heap.size o∧MrO (fun k=>D k∧¬ blk o k) w'.heap g p im fr to∧aA D W w'
theorem Md(D:Nat→Prop)(g p:Nat)(im:By)(fr to ref n:Int)(W:World)(hM:MrO D W.heap g p im fr to)(hD:∀ k,W.heap.size≤k→D k)(him:im.length≤1099511627776)(href : -9223372036854775808≤ref∧ref≤9223372036854775807)(hn:n≤1099511627776) :
 CA 116 [pT g,iV ref,iV n] W (MrP D W g p im fr to (aD im fr to ref n)):=by
 have hM00:∀ w':World,MrO D w'.heap g p im fr to→MrO (fun k=>D k∧¬ blk none k) w'.heap g p im fr to:=fun w' h=>h.mono (fun k hk=>⟨hk,fun⟨a,ha,_⟩=>by cases ha⟩) (fun hp=>h.tab.2 hp.1);obtain⟨htb,hpD⟩:=hM.tab;have hpl:=(Z1.1 htb).1;refine cS 85 [(0,_),(1,_),(2,_)] Tryz.func116 ?_;refine fK 12 ?_ ?_<;>intro h17
 ·have e:aD im fr to ref n=([],0,1):=by unfold aD;rw[ZP (by omega)]
  refine Gz 19 ?_;exact⟨_,rfl,none,0,by rw[e];rfl,by rw[e];exact Zu,Zs,hM00 _ hM,Zn _ _⟩
 refine fW 2 ?_ ?_<;>intro h20
 ·have e:aD im fr to ref n=([],0,1):=by unfold aD;rw[ZP (by omega)]
  refine Gz 16 ?_;exact⟨_,rfl,none,0,by rw[e];rfl,by rw[e];exact Zu,Zs,hM00 _ hM,Zn _ _⟩
 obtain⟨m,rfl⟩:∃ m:Nat,n=m:=⟨n.toNat,by omega⟩
 refine cA 8 SS (ON D g p im fr to W hM) ?_;rintro _ w1 ⟨rfl,hf1⟩;refine WF (WX rfl) rfl (fun h25=>?_) (fun h25=>?_)
 ·have e:aD im fr to ref m=([],0,2):=by unfold aD;rw[ZO (by omega),ZP h25]
  refine Gz 15 ?_;exact⟨_,rfl,none,0,by rw[e];rfl,by rw[e];exact Zu,Zs,hM00 _ (hM.ZM hf1),hf1.any⟩
 have hmay:dX im fr to=true:=by simpa using h25
 obtain⟨hm1,hm2,hm3⟩:0≤fr∧fr≤to∧to≤im.length:=by
  have hmay:=hmay;unfold dX at hmay;simp only[ag,decide_eq_true_eq] at hmay;omega
 have e:aD im fr to ref m=rdL im fr to m (ref/256) (ref%256).toNat []:=by unfold aD;rw[ZO (by omega),ZO h25,ak]
 refine Gz 15 ?_;refine cL (W6 rfl rfl (by omega) (by decide)) ?_;refine Gz 1 ?_;refine cL (W7 rfl rfl (by omega) (by decide)) ?_;refine Gz 6 ?_;refine Wp (β:=(Int×Nat)×(By×(Option Addr×Nat))) (fun⟨⟨at_,i⟩,⟨out,⟨o,c⟩⟩⟩=>[(0,pT g),(2,iV m),(9,.slice o out.length c),(10,iV at_),(11,iV i)]) (fun⟨⟨at_,i⟩,⟨out,⟨o,c⟩⟩⟩ w=>rdL im fr to m at_ i out=aD im fr to ref m∧out.length≤m∧0≤at_∧256*at_+i≤9223372036854775807∧i≤255∧Own b8 5 w.heap o c out∧Fr W.heap.size o∧MrO (fun k=>D k∧¬ blk o k) w.heap g p im fr to∧aA D W w) (fun⟨⟨at_,i⟩,⟨out,⟨o,c⟩⟩⟩=>m-out.length) ⟨⟨ref/256,(ref%256).toNat⟩,⟨[],⟨none,0⟩⟩⟩ ⟨rfl,rfl,rfl,rfl,(by show some (Value.int .i64 _)=some (Value.int .i64 _);congr 2;omega),trivial⟩ ⟨e.symm,ZZ _,by omega,by omega,by omega,Zu,Zs,hM00 _ (hM.ZM hf1),hf1.any⟩ ?_;rintro⟨⟨at_,i⟩,⟨out,⟨o,c⟩⟩⟩ w2 ⟨hj,hol,hat,hai,hi8,ho2,hfr2,hM2,hF2⟩;refine fK 6 ?_ ?_<;>intro h33
 ·have hon:out.length<m:=by omega
  refine Gz 10 ?_;refine Wh SR rfl (J0 _ g p im fr to at_ w2 hM2 (fun k hk=>⟨hD k (aj hF2.size hk),fun⟨a,ha,hb⟩=>by have:=ho2.lt a ha;omega⟩) hmay him ⟨hat,by omega⟩) rfl ?_;rintro _ w3 ⟨hP,hM3,hF3⟩;obtain⟨bo,bl,bc,nx,ok,rfl,hno,hyes⟩:=hP.any;have ho3:=ho2.ZN hF3 (fun a ha h=>h.2 ⟨a,ha,rfl⟩);refine Gz 3 ?_;refine Wn sF rfl ?_;intro w4 hg4 hs4 hf4;refine sA rfl fO (kK _ _ _ _) hg4 ?_;intro w5 hg5 hs5 hf5;have hF35:aA nob w3 w5:=hf4.tw hf5;have ho5:=ho3.ZM hF35;have hM5:=hM3.ZM hF35;have hF5:aA D W w5:=(hF2.trans (hF3.mono (fun k h=>h.1))).trans hF35.any;refine Gz 7 ?_;refine WF (WX rfl) rfl (fun h41=>?_) (fun h41=>?_)
  ·have hbad:rdL im fr to m at_ i out=([],0,2):=jI hon (hno h41).1;refine Gz 24 ?_
   (rw[hbad] at hj;exact⟨_,rfl,none,0,by rw[←hj];rfl,by rw[←hj];exact Zu,Zs,hM00 _ (hM5.mono (fun k h=>h.1) hpD),hF5⟩)
  have hok:ok=true:=by simpa using h41
  obtain⟨b,hbl,hh,hvb,hbD⟩:=hyes hok;subst hbl;have hs:=dU hh;refine fW 5 ?_ ?_<;>intro h47
  ·have hbad:rdL im fr to m at_ i out=([],0,2):=lD hon hh (by omega);refine Gz 18 ?_
   (rw[hbad] at hj;exact⟨_,rfl,none,0,by rw[←hj];rfl,by rw[←hj];exact Zu,Zs,hM00 _ (hM5.mono (fun k h=>h.1) hpD),hF5⟩)
  have hib:¬ b.length≤i:=by omega
  have hlb:=hvb.le;obtain⟨x,hx⟩:∃ x,x=(b.drop i).take (m-out.length):=⟨_,rfl⟩
  have hxl:x.length=min (b.length-i) (m-out.length):=by rw[hx,ZT,ZX];omega
  refine Gz 20 ?_;refine cL (Xh rfl rfl) ?_;refine cL (Wm (u:=.slice (aO bo bc i 1) x.length (bc-i)) (Xe aH rfl rfl rfl (by omega) (by omega)) (by rw[hxl];congr 1;omega)) ?_;have hvx:Vw b8 w5.heap (aO bo bc i 1) (bc-i) x:=by
   have:=(hvb.ZM hF35).cut (l:=i) (h:=i+x.length) (m:=bc) (by omega) (by omega) (by omega) (Z0 _);rw[show i+x.length-i=x.length by omega] at this;rwa[show (b.drop i).take x.length=x by rw[hxl,hx];apply cd;intro j;rw[ar,ar];by_cases hj1:j<m-out.length<;>by_cases hj2:j<b.length-i<;>simp[hj1,hj2]<;>omega] at this
  refine Gz 7 ?_;refine Wq aP aH rfl rfl ho5 hvx (by omega) (by unfold maxLen;omega) rfl ?_;intro o6 c6 w6 ho6 hf6 hr6 hn6;have hM6:=hM5.beside hf6 hr6 ho6 hpD (fun⟨a,ha,hb⟩=>by have:=hfr2 a ha;omega);have hF6:aA D W w6:=hF5.ZJ hf6 hfr2.step;have hfr6:=aS hfr2 hr6 hF5.size;have hg6:=hf6.obj hg5 (fun⟨a,ha,hb⟩=>by have:=ho3.lt a ha;omega);have hal:(out++x).length=out.length+x.length:=ZR;have hxb:x.length=((b.drop i).take (m-out.length)).length:=by rw[hx]
  refine fK 12 ?_ ?_<;>intro h72
  ·have hgo:=fR (i:=i) (n:=m) hon hh hib (by rw[←hxb];omega);rw[←hx,hj] at hgo;refine Gz 12 ?_;exact aG ⟨⟨nx,0⟩,⟨out++x,⟨o6,c6⟩⟩⟩ ⟨hgo.symm,by omega,by omega,by omega,by omega,ho6,hfr6,hM6,hF6⟩ (by show m-(out++x).length<m-out.length;omega)
  have h128:¬ i+((b.drop i).take (m-out.length)).length=128:=by rw[←hxb];omega
  refine fK 9 ?_ ?_<;>intro h79
  ·have hbad:rdL im fr to m at_ i out=([],0,2):=lE hon hh hib h128 (by rw[←hx];omega);refine Gz 18 ?_
   (rw[hbad] at hj;exact⟨_,rfl,none,0,by rw[←hj];rfl,by rw[←hj];exact Zu,Zs,hM00 _ (hM6.mono (fun k h=>h.1) hpD),hF6⟩)
  have hgo:=mB (i:=i) (n:=m) hon hh hib h128 (by rw[←hx];omega);rw[←hx,hj] at hgo;refine Gz 7 ?_;exact aG ⟨⟨at_,i+x.length⟩,⟨out++x,⟨o6,c6⟩⟩⟩ ⟨hgo.symm,by omega,hat,by omega,by omega,ho6,hfr6,hM6,hF6⟩ (by show m-(out++x).length<m-out.length;omega)
 have hon:¬ out.length<m:=by omega
 rw[jJ hon] at hj;refine Gz 12 ?_;refine cL (WN rfl rfl (by omega)) ?_;refine Gz 9 ?_;exact⟨_,rfl,o,c,by rw[←hj],by rw[←hj];exact ho2,hfr2,hM2,hF2⟩
def rrC(io:Option Addr)(il ic:Nat)(fr to:Int):List Value:=[.slice io il ic,iV fr,iV to]
def RrV(H:Array Obj)(g:Nat)(io:Option Addr)(ic:Nat)(im:By)(fr to:Int):Prop:=
 H[g]?=some (.cells (rrC io im.length ic fr to).toArray 131 (0,0))∧Vw b8 H io ic im
section
variable {g:Nat}{io:Option Addr}{ic:Nat}{im:List UInt8}{fr to:Int}
theorem RrV.ZM{w w':World}(h:RrV w.heap g io ic im fr to)(hf:aA nob w w'):RrV w'.heap g io ic im fr to:=⟨hf.obj h.1 id,h.2.ZM hf⟩
theorem uQ(h:dX im fr to=true):0≤fr∧fr≤to∧to≤im.length:=by
 unfold dX at h;simp only[ag,decide_eq_true_eq] at h;omega
end
theorem Lr(g:Nat)(io:Option Addr)(ic:Nat)(im:By)(fr to:Int)(W:World)(hM:RrV W.heap g io ic im fr to) :
 CA 149 [pT g] W fun v w'=>v=.bool (dX im fr to)∧aA nob W w':=by
 obtain⟨hg,hv⟩:=hM;refine cS 31 [(0,_)] Tryz.func149 ?_;refine Gz 6 ?_;refine Ww 29 [0,1,2,3,4,5,6,7,8,9,10,11,12,13,14,15,16,17,18,19,20,21,22,23,24,25,26,27,28] aK (by kernel_rfl) ?_;refine Gz 3 ?_;refine xC rfl (Wk aF rfl (aB hg rfl)) ?_;refine xK 0 ?_ ?_<;>intro h7
 ·refine Gz 4 ?_;refine xV rfl (Wk aF rfl (aB hg rfl)) ?_;refine Gz 3 ?_;refine xV rfl (Wk aX rfl (aB hg rfl)) ?_;refine xW 1 ?_ ?_<;>intro h18
  ·refine Gz 5 ?_;refine xV rfl (Wk aF rfl (aB hg rfl)) ?_;refine Gz 3 ?_;refine xV rfl (Wk aF rfl (aB hg rfl)) ?_;refine xW 0 ?_ ?_<;>intro h29
   ·refine Gz 6 ?_;refine⟨_,rfl,congrArg Value.bool (iM ⟨fun h=>?_,fun h=>?_⟩),(Zn _ _).draws 1⟩
    · first
     |omega
     |exact absurd h (by decide)
    · first
     |rfl
     |exact absurd h (by omega)
   refine Gz 6 ?_;refine⟨_,rfl,congrArg Value.bool (iM ⟨fun h=>?_,fun h=>?_⟩),(Zn _ _).draws 1⟩
   · first
    |omega
    |exact absurd h (by decide)
   · first
    |rfl
    |exact absurd h (by omega)
  refine Gz 17 ?_;refine⟨_,rfl,congrArg Value.bool (iM ⟨fun h=>?_,fun h=>?_⟩),(Zn _ _).draws 1⟩
  · first
   |omega
   |exact absurd h (by decide)
  · first
   |rfl
   |exact absurd h (by omega)
 refine Gz 28 ?_;refine⟨_,rfl,congrArg Value.bool (iM ⟨fun h=>?_,fun h=>?_⟩),(Zn _ _).draws 1⟩
 · first
  |omega
  |exact absurd h (by decide)
 · first
  |rfl
  |exact absurd h (by omega)
def cM(im:By)(fr to a:Int):By×Int×Int:=match bO im fr to a with
|none=>([],0,2)
|some (b,nx)=>(b,nx,0)
theorem GA(g:Nat)(io:Option Addr)(ic:Nat)(im:By)(fr to a:Int)(W:World)(hM:RrV W.heap g io ic im fr to)(hmay:dX im fr to=true)(him:im.length≤1099511627776)(ha:0≤a∧a≤9223372036854775807) :
 CA 150 [pT g,iV a] W (KE W (cM im fr to a)):=by
 obtain⟨hg,hv⟩:=hM;obtain⟨hm1,hm2,hm3⟩:=uQ hmay;refine cS 58 [(0,_),(1,_)] Tryz.func150 ?_;refine Gz 9 ?_;refine Ww 11 [0,1,2,3,4,5,6,7,8,9,10] aK (by kernel_rfl) ?_;refine Gz 4 ?_;refine xC rfl (Wk aF rfl (aB hg rfl)) ?_;refine Gz 3 ?_;refine xC rfl (Wk aF rfl (aB hg rfl)) ?_;refine xK 1 ?_ ?_<;>intro h20
 ·have hn:cM im fr to a=([],0,2):=by unfold cM bO;rw[ZP (by omega)]
  refine Gz 13 ?_;rw[hn];exact⟨_,rfl,none,0,rfl,Zu,Zs,Zo 1⟩
 refine Gz 6 ?_;refine Wv 18 (fun H=>H[g]?=some (.cells (rrC io im.length ic fr to).toArray 131 (0,0))) [10] [0,1,2,3,4,5,6,7,8,9,10,11,12,13,14,15,16,17] aK (by kernel_rfl) (hg) ?_;refine Gz 10 ?_;refine Wo rfl rfl (Wh Iy rfl (rR io ic im (fr+a) _ (hv.ZM ((Zo 1).draws 1)) him (by omega)) rfl ?_);rintro _ w1 ⟨o1,c1,rfl,ho1,hfr1,hf1⟩;refine Wu (by exact hf1.ZK.ZK.obj hg id) ?_;have hf1:=hf1.ZK.ZK;have hg1:=hf1.obj hg id;obtain⟨t,hT⟩:∃ t,t=bD im (fr+a):=⟨_,rfl⟩
 rw[←hT];rw[←hT] at ho1;have hho:bO im fr to a=if t.2.2≠0∨to<t.2.1∨t.1.length=0 then none else some (t.1,t.2.1-fr):=by unfold bO;rw[ZO (by omega),←hT]
 have htk:=qC (im:=im) (a:=fr+a);rw[←hT] at htk;refine fK 13 ?_ ?_<;>intro h37
 ·rw[ZP (.inl h37)] at hho;have hn:cM im fr to a=([],0,2):=by unfold cM;rw[hho]
  refine Gz 26 ?_;rw[hn];exact⟨_,rfl,none,0,rfl,Zu,Zs,hf1⟩
 have he:t.2.2=0:=Z5.1 h37;have htk:=htk he;refine fW 6 ?_ ?_<;>intro h44
 ·rw[ZP (.inr (.inl h44))] at hho;have hn:cM im fr to a=([],0,2):=by unfold cM;rw[hho]
  refine Gz 19 ?_;rw[hn];exact⟨_,rfl,none,0,rfl,Zu,Zs,hf1⟩
 refine fW 4 ?_ ?_<;>intro h49
 ·rw[ZP (.inr (.inr (by omega)))] at hho;have hn:cM im fr to a=([],0,2):=by unfold cM;rw[hho]
  refine Gz 14 ?_;rw[hn];exact⟨_,rfl,none,0,rfl,Zu,Zs,hf1⟩
 rw[ZO (by rintro(h|h|h);exact h37 h;omega;omega)] at hho;have hn:cM im fr to a=(t.1,t.2.1-fr,0):=by unfold cM;rw[hho]
 refine Gz 7 ?_;refine Ww 10 [0,1,2,3,4,5,6,7,8,9] aK (by kernel_rfl) ?_;refine Gz 5 ?_;refine xC rfl (Wk aF rfl (aB hg1 rfl)) ?_;refine Gz 8 ?_;rw[hn];exact⟨_,rfl,o1,c1,rfl,ho1,hfr1,hf1.draws 1⟩
theorem xO{im:By}{fr to a:Int}(h:(cM im fr to a).2.2≠0):bO im fr to a=none:=by
 unfold cM at h
 split at h
 ·assumption
 ·exact absurd rfl h
theorem xN{im:By}{fr to a:Int}(h:(cM im fr to a).2.2=0):bO im fr to a=some ((cM im fr to a).1,(cM im fr to a).2.1):=by
 unfold cM at h ⊢
 split at h
 ·cases h
 ·rename_i hh;rw[hh]
theorem FK{α:Type}{ao:Option Addr}{c:Nat}{en:α→Value}{H:Array Obj}{b x:List α}(h:Vw en H ao c b){i m:Nat}(hx:x=(b.drop i).take m)(hib:i≤b.length):Vw en H (aO ao c i 1) (c-i) x:=by
 have hxl:x.length=min (b.length-i) m:=by rw[hx,ZT,ZX];omega
 have hl:=h.le;have:=h.cut (l:=i) (h:=i+x.length) (m:=c) (by omega) (by omega) (by omega) (Z0 _);rw[show i+x.length-i=x.length by omega] at this;rwa[show (b.drop i).take x.length=x by rw[hxl,hx];apply cd;intro j;rw[ar,ar];by_cases hj1:j<m<;>by_cases hj2:j<b.length-i<;>simp[hj1,hj2]<;>omega] at this
theorem lO(g:Nat)(io:Option Addr)(ic:Nat)(im:By)(fr to ref n:Int)(W:World)(hM:RrV W.heap g io ic im fr to)(him:im.length≤1099511627776)(href : -9223372036854775808≤ref∧ref≤9223372036854775807)(hn:n≤1099511627776) :
 CA 126 [pT g,iV ref,iV n] W (KE W (aD im fr to ref n)):=by
 refine cS 88 [(0,_),(1,_),(2,_)] Tryz.func126 ?_;refine fK 11 ?_ ?_<;>intro h18
 ·have e:aD im fr to ref n=([],0,1):=by unfold aD;rw[ZP (by omega)]
  refine Gz 17 ?_;exact⟨_,rfl,none,0,by rw[e];rfl,by rw[e];exact Zu,Zs,Zn _ _⟩
 refine fW 2 ?_ ?_<;>intro h21
 ·have e:aD im fr to ref n=([],0,1):=by unfold aD;rw[ZP (by omega)]
  refine Gz 14 ?_;exact⟨_,rfl,none,0,by rw[e];rfl,by rw[e];exact Zu,Zs,Zn _ _⟩
 obtain⟨m,rfl⟩:∃ m:Nat,n=m:=⟨n.toNat,by omega⟩
 refine cA 9 P8 (Lr g io ic im fr to W hM) ?_;rintro _ w1 ⟨rfl,hf1⟩;refine Gz 7 ?_;refine WF (WX rfl) rfl (fun h26=>?_) (fun h26=>?_)
 ·have e:aD im fr to ref m=([],0,2):=by unfold aD;rw[ZO (by omega),ZP h26]
  refine Gz 13 ?_;exact⟨_,rfl,none,0,by rw[e];rfl,by rw[e];exact Zu,Zs,hf1⟩
 have hmay:dX im fr to=true:=by simpa using h26
 obtain⟨hm1,hm2,hm3⟩:=uQ hmay;have e:aD im fr to ref m=rdL im fr to m (ref/256) (ref%256).toNat []:=by unfold aD;rw[ZO (by omega),ZO h26,ak]
 refine Gz 7 ?_;refine WC b8 aH rfl ?_;intro wl hol0 hsl hfl;have hF1:=hf1.trans hfl;refine Gz 6 ?_;refine cL (W6 rfl rfl (by omega) (by decide)) ?_;refine Gz 6 ?_;refine cL (W7 rfl rfl (by omega) (by decide)) ?_;refine Gz 5 ?_;refine Wp (β:=(Int×Nat)×(By×(Option Addr×Nat))) (fun⟨⟨at_,i⟩,⟨out,⟨o,c⟩⟩⟩=>[(0,pT g),(2,iV m),(10,.slice o out.length c),(11,iV at_),(12,iV i)]) (fun⟨⟨at_,i⟩,⟨out,⟨o,c⟩⟩⟩ w=>rdL im fr to m at_ i out=aD im fr to ref m∧out.length≤m∧0≤at_∧256*at_+i≤9223372036854775807∧i≤255∧Own b8 5 w.heap o c out∧Fr W.heap.size o∧aA nob W w) (fun⟨⟨at_,i⟩,⟨out,⟨o,c⟩⟩⟩=>m-out.length) ⟨⟨ref/256,(ref%256).toNat⟩,⟨[],⟨some ⟨w1.heap.size,0,none⟩,0⟩⟩⟩ ⟨rfl,rfl,rfl,rfl,(by show some (Value.int .i64 _)=some (Value.int .i64 _);congr 2;omega),trivial⟩ ⟨e.symm,ZZ _,by omega,by omega,by omega,hol0,(cX _).mono hf1.size,hF1⟩ ?_;rintro⟨⟨at_,i⟩,⟨out,⟨o,c⟩⟩⟩ w2 ⟨hj,hol,hat,hai,hi8,ho2,hfr2,hF2⟩;refine fK 6 ?_ ?_<;>intro h35
 ·have hon:out.length<m:=by omega
  refine Gz 10 ?_;refine Wh P7 rfl (GA g io ic im fr to at_ w2 (hM.ZM hF2) hmay him ⟨hat,by omega⟩) rfl ?_;rintro _ w3 ⟨bo,bc,rfl,hob,hfrb,hf3⟩;obtain⟨t,hT⟩:∃ t,t=cM im fr to at_:=⟨_,rfl⟩
  rw[←hT];rw[←hT] at hob;have hF3:=hF2.trans hf3;have ho3:=ho2.ZM hf3;refine fK 13 ?_ ?_<;>intro h44
  ·have hbad:rdL im fr to m at_ i out=([],0,2):=jI hon (xO (by rw[←hT];exact h44));refine Gz 23 ?_
   (rw[hbad] at hj;exact⟨_,rfl,none,0,by rw[←hj];rfl,by rw[←hj];exact Zu,Zs,hF3⟩)
  have he:t.2.2=0:=Z5.1 h44;have hh:=xN (im:=im) (fr:=fr) (to:=to) (a:=at_) (by rw[←hT];exact he);rw[←hT] at hh;have hs:=dU hh;refine fW 4 ?_ ?_<;>intro h49
  ·have hbad:rdL im fr to m at_ i out=([],0,2):=lD hon hh (by omega);refine Gz 18 ?_
   (rw[hbad] at hj;exact⟨_,rfl,none,0,by rw[←hj];rfl,by rw[←hj];exact Zu,Zs,hF3⟩)
  have hib:¬ t.1.length≤i:=by omega
  have hlb:=hob.vw.le;obtain⟨x,hx⟩:∃ x,x=(t.1.drop i).take (m-out.length):=⟨_,rfl⟩
  have hxl:x.length=min (t.1.length-i) (m-out.length):=by rw[hx,ZT,ZX];omega
  refine Gz 16 ?_;refine cL (Wm (u:=iV (x.length:Nat)) (Xh rfl rfl) (by congr 1;omega)) ?_;refine Gz 11 ?_;refine cL (Wm (u:=.slice (aO bo bc i 1) x.length (bc-i)) (Xe aH rfl rfl rfl (by omega) (by omega)) (by rw[hxl];congr 1;omega)) ?_;have hvx:=FK hob.vw hx (by omega);refine Wq aP aH rfl rfl ho3 hvx (by omega) (by unfold maxLen;omega) rfl ?_;intro o6 c6 w6 ho6 hf6 hr6 hn6;have hF6:aA nob W w6:=hF3.ZJ hf6 hfr2.step;have hfr6:=aS hfr2 hr6 hF3.size;have hal:(out++x).length=out.length+x.length:=ZR;have hxb:x.length=((t.1.drop i).take (m-out.length)).length:=by rw[hx]
  refine fK 17 ?_ ?_<;>intro h74
  ·refine fW 3 ?_ ?_<;>intro h78
   ·have hbad:rdL im fr to m at_ i out=([],0,2):=lE hon hh hib (by rw[←hxb];omega) (by rw[←hx];omega);refine Gz 18 ?_
    (rw[hbad] at hj;exact⟨_,rfl,none,0,by rw[←hj];rfl,by rw[←hj];exact Zu,Zs,hF6⟩)
   refine fK 9 ?_ ?_<;>intro h81
   ·have hgo:=fR (i:=i) (n:=m) hon hh hib (by rw[←hxb];omega);rw[←hx,hj] at hgo;refine Gz 13 ?_;exact aG ⟨⟨t.2.1,0⟩,⟨out++x,⟨o6,c6⟩⟩⟩ ⟨hgo.symm,by omega,by omega,by omega,by omega,ho6,hfr6,hF6⟩ (by show m-(out++x).length<m-out.length;omega)
   have h128:¬ i+((t.1.drop i).take (m-out.length)).length=128:=by rw[←hxb];omega
   have hgo:=mB (i:=i) (n:=m) hon hh hib h128 (by rw[←hx];omega);rw[←hx,hj] at hgo;refine Gz 5 ?_;exact aG ⟨⟨at_,i+x.length⟩,⟨out++x,⟨o6,c6⟩⟩⟩ ⟨hgo.symm,by omega,hat,by omega,by omega,ho6,hfr6,hF6⟩ (by show m-(out++x).length<m-out.length;omega)
  refine fK 13 ?_ ?_<;>intro h81
  ·have hgo:=fR (i:=i) (n:=m) hon hh hib (by rw[←hxb];omega);rw[←hx,hj] at hgo;refine Gz 13 ?_;exact aG ⟨⟨t.2.1,0⟩,⟨out++x,⟨o6,c6⟩⟩⟩ ⟨hgo.symm,by omega,by omega,by omega,by omega,ho6,hfr6,hF6⟩ (by show m-(out++x).length<m-out.length;omega)
  have h128:¬ i+((t.1.drop i).take (m-out.length)).length=128:=by rw[←hxb];omega
  have hgo:=mB (i:=i) (n:=m) hon hh hib h128 (by rw[←hx];omega);rw[←hx,hj] at hgo;refine Gz 5 ?_;exact aG ⟨⟨at_,i+x.length⟩,⟨out++x,⟨o6,c6⟩⟩⟩ ⟨hgo.symm,by omega,hat,by omega,by omega,ho6,hfr6,hF6⟩ (by show m-(out++x).length<m-out.length;omega)
 have hon:¬ out.length<m:=by omega
 rw[jJ hon] at hj;refine Gz 12 ?_;refine cL (WN rfl rfl (by omega)) ?_;refine Gz 9 ?_;exact⟨_,rfl,o,c,by rw[←hj],by rw[←hj];exact ho2,hfr2,hF2⟩
def Nx(A:Nat→Prop)(W w':World):Nat→Prop:=fun k=>A k∨(W.heap.size≤k∧k<w'.heap.size)
theorem aA.nx{A:Nat→Prop}{W w':World}(h:aA (fun k=>A k∨W.heap.size≤k) W w'):aA A W w':=
 ⟨h.os,h.tape,h.output,h.size,fun k hk hn=>h.same k hk (fun h'=>h'.elim hn (fun h2=>by omega))⟩
theorem RwO.tight{D:Nat→Prop}{H:Array Obj}{g:Nat}{f t:By}(h:RwO D H g f t):RwO (fun k=>D k∧k<H.size) H g f t:=by
 have hl:=h.lt;obtain⟨fo,fc,to,tc,hg,h1,h2,h3,h4,h5,h6,h7,h8⟩:=h;exact⟨fo,fc,to,tc,hg,h1,h2,h3,h4,h5,⟨h6,hl⟩,fun k ⟨a,ha,hb⟩=>⟨h7 k ⟨a,ha,hb⟩,by have:=h1.lt a ha;omega⟩,fun k ⟨a,ha,hb⟩=>⟨h8 k ⟨a,ha,hb⟩,by have:=h2.lt a ha;omega⟩⟩
theorem RwO.mono{D D':Nat→Prop}{H:Array Obj}{g:Nat}{f t:By}(h:RwO D H g f t)(hd:∀ k,D k→D' k):RwO D' H g f t:=by
 obtain⟨fo,fc,to,tc,hg,h1,h2,h3,h4,h5,h6,h7,h8⟩:=h;exact⟨fo,fc,to,tc,hg,h1,h2,h3,h4,h5,hd _ h6,fun k hk=>hd _ (h7 k hk),fun k hk=>hd _ (h8 k hk)⟩
theorem RwO.nx{A:Nat→Prop}{W w':World}{g:Nat}{f t:By}(h:RwO (fun k=>A k∨W.heap.size≤k) w'.heap g f t):RwO (Nx A W w') w'.heap g f t:=
 h.tight.mono (fun k hk=>hk.1.elim .inl (fun h2=>.inr ⟨h2,hk.2⟩))
theorem MrO.tight{D:Nat→Prop}{H:Array Obj}{g p:Nat}{im:By}{fr to:Int}(h:MrO D H g p im fr to):MrO (fun k=>D k∧k<H.size) H g p im fr to:=by
 have hl:=h.lt;obtain⟨io,ic,gm,m,hg,h1,h2,h3,h4,h5,h6,h7,h8⟩:=h;refine⟨io,ic,gm,m,hg,h1,h2,fun a v hv=>?_,⟨h4,hl⟩,⟨h5,h2.obj⟩,fun k ⟨a,ha,hb⟩=>⟨h6 k ⟨a,ha,hb⟩,by have:=h1.lt a ha;omega⟩,h7,fun h=>h8 h.1⟩;obtain⟨bo,bc,b,nx,e,k1,k2,k3⟩:=h3 a v hv;have hb:=(dU k1).2.2.2.2.2.2.1;exact⟨bo,bc,b,nx,e,k1,k2,fun k ⟨x,hx,hk⟩=>⟨k3 k ⟨x,hx,hk⟩,by have:=k2.lt (fun e=>by rw[e] at hb;cases hb) x hx;omega⟩⟩
theorem yI(T b:By):(bI [] T).1.length+2*((bI [] T).2.length+b.length)≤2*(T.length+b.length):=by
 have h:=vK [] T;rw[Z7,cx] at h;omega
theorem BV(A:Nat→Prop)(g:Nat)(T:By)(bo:Option Addr)(bc:Nat)(b:By)(W:World)(hM:RwO A W.heap g (bI [] T).1 (bI [] T).2)(hv:Vw b8 W.heap bo bc b)(hbA:b≠[]→∀ k,blk bo k→¬ A k)(hb:T.length+b.length≤274877906944) :
 CA 29 [pT g,.slice bo b.length bc] W fun v w'=>v=iV (aR T T.length:Nat)∧RwO (Nx A W w') w'.heap g (bI [] (T++b)).1 (bI [] (T++b)).2∧aA A W w':=by
 have hs:=yI T b;have hr:=jB [] T;refine(Lv (fun k=>A k∨W.heap.size≤k) g _ _ bo bc b W (hM.mono (fun k h=>.inl h)) (fun k h=>.inr h) hv (fun hne k hk h=>h.elim (hbA hne k hk) (fun h=>by obtain⟨a,ha,rfl⟩:=hk;have:=hv.lt hne a ha;omega)) hr (by omega)).mono ?_;rintro e w' ⟨v,rfl,rfl,h1,h2⟩;rw[←EC,←vL] at *;exact⟨_,rfl,rfl,h1.nx,h2.nx⟩
theorem zX(A:Nat→Prop)(g:Nat)(T:By)(W:World)(hM:RwO A W.heap g (bI [] T).1 (bI [] T).2)(hb:T.length≤274877906944) :
 CA 30 [pT g] W (rJ W (frW T (nF T))):=by
 have hs:=yI T [];have hr:=jB [] T;have:=Jk A g _ _ W hM (by rw[Z7] at hs;omega) hr;rwa[CE] at this
theorem fX(A:Nat→Prop)(g p:Nat)(im:By)(fr to ref n:Int)(W:World)(hM:MrO A W.heap g p im fr to)(him:im.length≤1099511627776)(href : -9223372036854775808≤ref∧ref≤9223372036854775807)(hn:n≤1099511627776) :
 CA 116 [pT g,iV ref,iV n] W fun v w'=>
  ∃ o c,v=.tuple #[.slice o (aD im fr to ref n).1.length c,iV (aD im fr to ref n).2.1,iV (aD im fr to ref n).2.2]∧Own b8 5 w'.heap o c (aD im fr to ref n).1∧Fr W.heap.size o∧MrO (fun k=>Nx A W w' k∧¬ blk o k) w'.heap g p im fr to∧aA A W w':=by
 obtain⟨ht,hp⟩:=hM.tab;have hpl:=(Z1.1 ht).1;refine(Md (fun k=>A k∨W.heap.size≤k) g p im fr to ref n W (hM.mono (fun k h=>.inl h) (fun h=>h.elim hp (fun h=>by omega))) (fun k h=>.inr h) him href hn).mono ?_;rintro e w' ⟨v,rfl,o,c,h1,h2,h3,h4,h5⟩;exact⟨_,rfl,o,c,h1,h2,h3,h4.tight.mono (fun k hk=>⟨hk.1.1.elim .inl (fun h=>.inr ⟨h,hk.2⟩),hk.1.2⟩) (fun h=>h.1.elim hp (fun h=>by omega)),h5.nx⟩
theorem RwO.zero{H:Array Obj}{g:Nat}(h:H[g]?=some (.cells #[sN,sN] 73 (0,0))):RwO (· = g) H g (bI [] []).1 (bI [] []).2:=by
 rw[dZ (show ([]:By).length<128 by decide)];exact⟨none,0,none,0,h,Zu,Zu,(fun⟨a,ha,_⟩=>by cases ha),(fun⟨a,ha,_⟩=>by cases ha),Zq,rfl,(fun k ⟨a,ha,_⟩=>by cases ha),(fun k ⟨a,ha,_⟩=>by cases ha)⟩
section
variable {P:Program}{N:Nat}{l:SF}{w:World}{fn:Func}{R:Ending→World→Prop}
theorem Xm{a u u2:Nat}{t:TypeId}{x y:Value}{cs:List Value}{ad:Addr}(hr:fn.results=#[.cell a t,.tmp u,.tmp u2])(ht:gP P t cs.length=true)(ha:lk l a=some (.pointer (some ad)))(hx:lk l u=some x)(hy:lk l u2=some y)
 (hc:∀ j v,cs[j]?=some v→bK w.heap (ad.add j)=some v)(h:R (.returned (.tuple #[.agg cs.toArray,x,y])) w) :
 At ⟨N,[]⟩ .ret (bodyPost P fn R) l w:=fun act ha'=>by
 refine⟨ha'.dfr,_,?_,h⟩;have h1:=ha'.has a _ ha;have h2:=ha'.has u _ hx;have h4:=ha'.has u2 _ hy;have h3:=qG (P:=P) (w:=w) ht hc;simp[results,hr,h1,h2,h4,asAddr,h3,Result.andThen]
end
section
variable {P:Program}{N:Nt}{Q:Exit→Act→World→Prop}{l:SF}{w:World}{ops:Array Oper}{rest:List Oper}{d:Nat}{ty t:TypeId}{pos:String}{aft:Array Edge}
theorem Xc{α:Type}{k:Nat}{enc:α→List Value}(hk:iT k enc){e:TypeId}{bytes:Nat}(ht:aZ P t e k bytes)(hd:Nat.blt d N.n=true)
 (h:∀ w',bJ k enc e w'.heap (some ⟨w.heap.size,0,none⟩) 0 ([]:List α)→w'.heap.size=w.heap.size+1→aA nob w w'→Sl P N ops Q rest ((d,.slice (some ⟨w.heap.size,0,none⟩) 0 0)::l) w') :
 Sl P N ops Q (⟨some d,.buildSlice t 0 #[],ty,pos,aft,none⟩::rest) l w:=by
 refine W2 (w':=w.alloc (.cells #[] e)) (fun a ha=>?_) hd (h _ (bS (xs:=[]) hk (heap_alloc_new w _) (ZZ _)) (by simp) (aA.alloc _ _ _));simp[execOp,Instr.buildSlice,run_underlying ht.und,ht.size,Instr.fill,newRow];rw[Ag]
end
theorem zG(c:UInt8):IntKind.i64.wrap ((c.toNat:Nat):Int)=(c.toNat:Int):=aU (by have:=dl c;omega)
theorem MrO.cell0{A D:Nat→Prop}{W w w':World}{q g p:Nat}{im:By}{fr to:Int}(h:MrO D w.heap g p im fr to)(hf:aA (fun k=>k=q) w w')(hq:q=W.heap.size)(hA:∀ k,A k→k<W.heap.size)(hp:¬ A p)(hpl:p<W.heap.size)
 (hD:∀ k,D k→A k∨(W.heap.size<k∧k<w.heap.size)):MrO (fun k=>A k∨(W.heap.size<k∧k<w'.heap.size)) w'.heap g p im fr to:=by
 have hz:=hf.size;refine(h.ZN hf (fun k hk e=>?_) (fun e=>?_)).mono (fun k hk=>?_) (fun e=>?_)
 · have e:k=q:=e
   rcases hD k hk with h3|h3
   ·have:=hA k h3;omega
   ·have:=h3.1;omega
 · have e:p=q:=e
   omega
 ·exact(hD k hk).imp id (fun h3=>⟨h3.1,by omega⟩)
 · rcases e with e|e
   ·exact hp e
   ·omega
theorem MrO.cell{A D:Nat→Prop}{W w w':World}{q g p:Nat}{im:By}{fr to:Int}(h:MrO D w.heap g p im fr to)(hf:aA (fun k=>k=q) w w')(hq:q=W.heap.size)(hA:∀ k,A k→k<W.heap.size)(hp:¬ A p)(hpl:p<W.heap.size)
 (hD:∀ k,D k→A k∨(W.heap.size<k∧k<w.heap.size)):MrO (Nx A W w') w'.heap g p im fr to:=
 (h.cell0 hf hq hA hp hpl hD).mono (fun k hk=>hk.imp id (fun h=>⟨by omega,h.2⟩)) (fun e=>e.elim hp (fun e=>by omega))
theorem HA{b:By}(h:tkE b=0):kV b:=ZY fun h'=>by rw[(BF h').2.2] at h;cases h
theorem MC(A:Nat→Prop)(g p:Nat)(im:By)(fr to ref:Int)(W:World)(hM:MrO A W.heap g p im fr to)(hA:∀ k,A k→k<W.heap.size)(him:im.length≤1099511627776)(href : -9223372036854775808≤ref∧ref≤9223372036854775807) :
 CA 118 [pT g,iV ref] W fun v w'=>
  v=.tuple #[.agg (aN (bQ im fr to ref).1.1 (bQ im fr to ref).1.2).toArray,iV (bQ im fr to ref).2.1,iV (bQ im fr to ref).2.2]∧MrO (Nx A W w') w'.heap g p im fr to∧aA A W w':=by
 obtain⟨ht,hp⟩:=hM.tab;have hpl:p<W.heap.size:=(Z1.1 ht).1;obtain⟨q,hq⟩:∃ q,q=W.heap.size:=⟨_,rfl⟩
 have hAq:¬ A q:=fun h=>by have:=hA _ h;omega
 obtain⟨R,hR⟩:∃ R,R=aD im fr to ref 14:=⟨_,rfl⟩
 obtain⟨S,hS⟩:∃ S,S=aD im fr to ref (dK R.1):=⟨_,rfl⟩
 obtain⟨n1,n2⟩:=OX R.1;refine cS 71 [(0,_),(1,_)] Tryz.func118 ?_;refine Gz 2 ?_;refine Wn mO rfl ?_;intro w1 hg1 hs1 hf1;rw[←hq] at hg1 ⊢;have hg1:w1.heap[q]?=some (.cells (aN (fun _=>0) []).toArray 84 (0,0)):=hg1;refine Gz 8 ?_;refine Wh sL rfl (fX A g p im fr to ref 14 w1 (hM.ZM hf1) him href (by decide)) rfl ?_;rw[←hR];rintro _ w2 ⟨o2,c2,rfl,ho2,hfr2,hM2,hf2⟩;have hg2:=hf2.obj hg1 hAq;have hz2:=hf2.size;have hF2:aA A W w2:=hf1.any.trans hf2;refine fK 13 ?_ ?_<;>intro h20
 ·have e:=MD (im:=im) (fr:=fr) (to:=to) (ref:=ref) (by rw[←hR];exact h20);refine Gz 5 ?_;refine cL (Ws (cs:=aN (fun _=>0) []) bM rfl (fun j v hj=>aB hg2 hj)) ?_;refine sA rfl bM (by intro v hv;exact bY _ _ v hv) hg2 ?_;intro w20 hg20 hs20 hf20;have hMx:MrO (Nx A W w20) w20.heap g p im fr to:=hM2.cell hf20 hq hA hp hpl (fun k hk=>hk.1.imp id (fun h=>⟨by omega,h.2⟩));have hFx:aA A W w20:=hF2.tw hf20;refine Gz 6 ?_;refine Xm (cs:=aN (fun _=>0) []) rfl bM rfl rfl rfl (fun j v hj=>aB hg20 hj) ?_;exact⟨_,rfl,by rw[e],hMx,hFx⟩
 have e20:R.2.2=0:=Z5.1 h20;have hlR:(R.1.length:Int)=14:=by rw[hR] at e20 ⊢;exact(cJ e20).2.2.2.1
 refine Gz 14 ?_;refine cL (Wi aH rfl rfl ho2.vw.non (by omega)) ?_;refine cL (Wk eC rfl (ho2.vw.gz 0 0 rfl (by omega))) ?_;refine cL (Wr (n:=((R.1.getD 0 0).toNat:Int)) is5 ty3 rfl (zG _)) ?_;refine cA 0 M1 (wT ((R.1.getD 0 0).toNat:Int) w2) ?_;rintro _ w3 ⟨ao3,c3,rfl,ho3,hfr3,hf3⟩;have hz3:=hf3.size;obtain⟨L,hL⟩:∃ L,L=fC ((R.1.getD 0 0).toNat:Int):=⟨_,rfl⟩
 rw[←hL] at ho3 ⊢;have hl3:=ho3.vw fY;have hsub:∀ x∈L,x∈aY ((R.1.getD 0 0).toNat:Int):=fun x hx=>by unfold aY;rw[an,←hL];exact .inr hx
 have hLlen:L.length≤9:=by have:=mA ((R.1.getD 0 0).toNat:Int);unfold aY at this;rw[ZR,←hL] at this;omega
 refine Gz 5 ?_;refine Wp (β:=Nat) (fun k=>[(0,pT g),(1,iV ref),(4,pT q),(7,.slice o2 R.1.length c2),(9,iV (13+vV (L.take k))),(26,.slice ao3 L.length c3),(27,iV L.length),(28,iV k)]) (fun k w=>k≤L.length∧VwM 3 fdV w.heap ao3 c3 L∧aA nob w3 w) (fun k=>L.length-k) 0 ⟨rfl,rfl,rfl,rfl,rfl,rfl,rfl,rfl,trivial⟩ ⟨ZZ _,hl3,Zn _ _⟩ ?_;rintro k w4 ⟨hk,hL4,hf34⟩;have hz4:=hf34.size;refine fK 2 ?_ ?_<;>intro h29
 ·refine Gz 10 ?_;have hkL:k<L.length:=by omega
  have hrow:=Hc hL4 (k:=k) rfl hkL;have hmem:L.getD k fd0∈L:=by rw[Z2,ZQ hkL];exact bm _
  obtain⟨_,hb1,hb4,_,_⟩:=iE (hsub _ hmem);obtain⟨x,hx⟩:∃ x,x=L.getD k fd0:=⟨_,rfl⟩
  rw[←hx] at hrow hb1 hb4;obtain⟨s1,s2⟩:=HE (L.take k) (fun y hy=>by have:=iE (hsub _ (List.mem_of_mem_take hy));omega);rw[ZT] at s2;refine cL (Wj tX rfl rfl hL4.non (by omega)) ?_;refine cL (Ws (cs:=fdV x) wZ rfl hrow) ?_;refine Wn kL rfl ?_;intro w5 hg5 hs5 hf5;refine sA rfl wZ (by simp[fdV,Value.oneCell']) hg5 ?_;intro w6 hg6 hs6 hf6;have hf46:aA nob w4 w6:=hf5.tw hf6;refine Gz 15 ?_;refine Wz (k+1) ⟨rfl,rfl,rfl,rfl,?_,rfl,rfl,rfl,trivial⟩ ⟨by omega,hL4.ZM hf46,hf34.trans hf46⟩ (by show L.length-(k+1)<L.length-k;omega);show lk _ 9=_;rw[tD hkL,I4,←hx];exact congrArg (fun z=>some (Value.int .i64 z)) (Int.add_assoc _ _ _)
 refine Gz 9 ?_;refine WL (β:=Unit) (fun _u=>[(0,pT g),(1,iV ref),(4,pT q),(9,iV (dK R.1))]) (fun _u w=>MrO (fun k=>Nx A w1 w2 k∧¬ blk o2 k) w.heap g p im fr to∧w.heap[q]?=some (.cells (aN (fun _=>0) []).toArray 84 (0,0))∧aA A W w∧w2.heap.size≤w.heap.size) ?_ ?_
 ·refine Gz 3 ?_;have hkk:k=L.length:=by omega
  subst hkk;rw[be] at *;refine cL (Wi aH rfl rfl (ho2.ZM (hf3.trans hf34)).vw.non (by omega)) ?_;refine cL (Wk eC rfl ((ho2.ZM (hf3.trans hf34)).vw.gz 0 0 rfl (by omega))) ?_;refine cL (Wr (n:=((R.1.getD 0 0).toNat:Int)) is5 ty3 rfl (zG _)) ?_;refine fK 0 ?_ ?_<;>intro h41
  ·have en:dK R.1=13+vV L+(1+((R.1.getD 13 0).toNat:Int)):=by rw[Cl,ZP h41,←hL]
   refine Gz 6 ?_;refine cL (Wi aH rfl rfl (ho2.ZM (hf3.trans hf34)).vw.non (by omega)) ?_;refine cL (Wk eC rfl ((ho2.ZM (hf3.trans hf34)).vw.gz 0 13 rfl (by omega))) ?_;refine cL (Wr (n:=((R.1.getD 13 0).toNat:Int)) is5 ty3 rfl (zG _)) ?_;have hu13:=dl (R.1.getD 13 0);obtain⟨u1,u2⟩:=HE L (fun y hy=>by have:=iE (hsub _ hy);omega);refine Gz 4 ?_;refine WY () ⟨rfl,rfl,rfl,?_,trivial⟩ ⟨hM2.ZM (hf3.trans hf34),(hf3.trans hf34).obj hg2 id,hF2.trans (hf3.trans hf34).any,by omega⟩;rw[en]
   first|rfl|exact congrArg (fun z=>some (Value.int .i64 z)) (by omega)
  have en:dK R.1=13+vV L:=by rw[Cl,ZO h41,←hL];omega
  refine Gz 4 ?_;refine WY () ⟨rfl,rfl,rfl,?_,trivial⟩ ⟨hM2.ZM (hf3.trans hf34),(hf3.trans hf34).obj hg2 id,hF2.trans (hf3.trans hf34).any,by omega⟩;rw[en]
  first|rfl|exact congrArg (fun z=>some (Value.int .i64 z)) (by omega)
 rintro _ w7 ⟨hM7,hq7,hF7,hz7⟩;refine Gz 5 ?_;refine Wh sL rfl (fX _ g p im fr to ref (dK R.1) w7 hM7 him href (by omega)) rfl ?_;rw[←hS];rintro _ w8 ⟨o8,c8,rfl,ho8,hfr8,hM8,hf8⟩;have hz8:=hf8.size;have hq8:=hf8.obj hq7 (fun h=>h.1.elim hAq (fun h=>by have:=h.1;omega));have hF8:aA A W w8:=hF7.ZJ hf8 (fun k hk=>hk.1.imp id (fun h=>by have:=h.1;omega));refine fK 13 ?_ ?_<;>intro h58
 ·have e:=G2 (im:=im) (fr:=fr) (to:=to) (ref:=ref) (by rw[←hR];exact e20) (by rw[←hR,←hS];exact h58);refine Gz 5 ?_;refine cL (Ws (cs:=aN (fun _=>0) []) bM rfl (fun j v hj=>aB hq8 hj)) ?_;refine sA rfl bM (by intro v hv;exact bY _ _ v hv) hq8 ?_;intro w20 hg20 hs20 hf20;have hMx:MrO (Nx A W w20) w20.heap g p im fr to:=hM8.cell hf20 hq hA hp hpl (fun k hk=>hk.1.elim (fun h=>h.1.imp id (fun h=>⟨by omega,by omega⟩)) (fun h=>.inr ⟨by omega,h.2⟩));have hFx:aA A W w20:=hF8.tw hf20;refine Gz 6 ?_;refine Xm (cs:=aN (fun _=>0) []) rfl bM rfl rfl rfl (fun j v hj=>aB hg20 hj) ?_;exact⟨_,rfl,by rw[e],hMx,hFx⟩
 have e58:S.2.2=0:=Z5.1 h58;have hlS:(S.1.length:Int)=dK R.1:=by rw[hS] at e58 ⊢;exact(cJ e58).2.2.2.1
 refine Gz 9 ?_;refine Wh SP rfl (NW S.1 o8 c8 w8 ho8.vw (by omega)) rfl ?_;rintro _ w9 ⟨rfl,hf9⟩;have hq9:=hf9.obj hq8 id;have hz9:=hf9.size;refine Gz 3 ?_;refine sA rfl bM (by intro v hv;exact bY _ _ v hv) hq9 ?_;intro w10 hg10 hs10 hf10;have hM10:=(hM8.ZM hf9).cell0 hf10 hq hA hp hpl (fun k hk=>hk.1.elim (fun h=>h.1.imp id (fun h=>⟨by omega,by omega⟩)) (fun h=>.inr ⟨by omega,by omega⟩));have hF10:aA A W w10:=(hF8.trans hf9.any).tw hf10;refine fK 6 ?_ ?_<;>intro h66
 ·have hno:¬ kV S.1:=fun h=>h66 (vS h).2.2;have e:=G1 (im:=im) (fr:=fr) (to:=to) (ref:=ref) (by rw[←hR];exact e20) (by rw[←hR,←hS];exact e58) (by rw[←hR,←hS];exact hno);obtain⟨k1,k2,k3⟩:=BF hno;rw[k1,k2] at hg10;refine Gz 5 ?_;refine cL (Ws (cs:=aN (fun _=>0) []) bM rfl (fun j v hj=>aB hg10 hj)) ?_;refine Gz 1 ?_;refine sA rfl bM (by intro v hv;exact bY _ _ v hv) hg10 ?_;intro w20 hg20 hs20 hf20;have hMx:MrO (Nx A W w20) w20.heap g p im fr to:=hM10.cell hf20 hq hA hp hpl (fun k hk=>hk);have hFx:aA A W w20:=hF10.tw hf20;refine Gz 6 ?_;refine Xm (cs:=aN (fun _=>0) []) rfl bM rfl rfl rfl (fun j v hj=>aB hg20 hj) ?_;exact⟨_,rfl,by rw[e,k3],hMx,hFx⟩
 have hyes:kV S.1:=HA (Z5.1 h66);have e:=G0 (im:=im) (fr:=fr) (to:=to) (ref:=ref) (by rw[←hR];exact e20) (by rw[←hR,←hS];exact e58) (by rw[←hR,←hS];exact hyes);obtain⟨k1,k2,k3⟩:=vS hyes;rw[k1,k2] at hg10;refine Gz 7 ?_;refine cL (Ws (cs:=aN (gFn S.1) (gT S.1)) bM rfl (fun j v hj=>aB hg10 hj)) ?_;refine Gz 1 ?_;refine sA rfl bM (by intro v hv;exact bY _ _ v hv) hg10 ?_;intro w20 hg20 hs20 hf20;have hMx:MrO (Nx A W w20) w20.heap g p im fr to:=hM10.cell hf20 hq hA hp hpl (fun k hk=>hk);have hFx:aA A W w20:=hF10.tw hf20;refine Gz 5 ?_;refine Xm (cs:=aN (gFn S.1) (gT S.1)) rfl bM rfl rfl rfl (fun j v hj=>aB hg20 hj) ?_;exact⟨_,rfl,by rw[e,←hR,←hS],hMx,hFx⟩
theorem EM{F:Nat→Int}{T:By}:(oC F T).2=0↔fI F T:=by unfold oC;split<;>simp_all
theorem HY{F:Nat→Int}{T:By}(h:fI F T):(oC F T).1=(jK F T).2:=by unfold oC;rw[ZP h]
theorem uZ{q:Rd×(Nat→Int)}{x:Fd}(h:x.o≠0):(gF q x).2 0=q.2 0:=by
 show upd _ _ _ 0=_;unfold upd;rw[ZO (fun e=>h e.symm)]
theorem Ln(b:By)(ao0:Option Addr)(c0:Nat)(W:World)(hv:Vw b8 W.heap ao0 c0 b)(hb:b.length≤1099511627776) :
 CA 170 [.slice ao0 b.length c0] W (TkP W b):=by
 refine cS 63 [(0,_)] Tryz.func170 ?_;refine Gz 2 ?_;refine Wn mO rfl ?_;intro w1 hg1 hs1 hf1;have hg1:w1.heap[W.heap.size]?=some (.cells (aN (fun _=>0) []).toArray 84 (0,0)):=hg1;have hv1:=hv.ZM hf1;refine Gz 5 ?_;refine WC b8 aH rfl ?_;intro wa hoa hsa hfa;refine Gz 1 ?_;refine Wq aP aH rfl rfl hoa (hv1.ZM hfa) (by simp;omega) (by simp;unfold maxLen;omega) rfl ?_;intro ao1 c1 wb ho1 hfb hrb hnb;rw[aq] at ho1;have hf1b:aA nob w1 wb:=hfa.ZJ hfb (cX _).step;have hz1b:=hf1b.size;have hfr1:Fr w1.heap.size ao1:=aS (cX _) hrb hfa.size;refine cL (WA (cs:=#[.slice ao1 b.length c1,iV 0]) wJ pK rfl (by kernel_rfl)) ?_;refine Wn pK rfl ?_;intro wc hgc hsc hfc;refine sA rfl xA (by simp[Value.oneCell']) hgc ?_;intro w2 hg2 hs2 hf2;have hf12:aA nob w1 w2:=(hf1b.trans hfc).tw hf2;have hz12:=hf12.size;obtain⟨p,hp⟩:∃ p,p=wb.heap.size:=⟨_,rfl⟩
 rw[←hp] at hg2 ⊢;have ho2:Own b8 5 w2.heap ao1 c1 b:=(ho1.ZM hfc).ZN hf2 (fun a ha h=>by have:=ho1.lt a ha;have h:a.block=wb.heap.size:=h;omega);have hP2:RdR (fun k=>W.heap.size<k∧k<w2.heap.size) w2.heap p 0 b:=⟨ao1,c1,hg2,ho2.vw,⟨by omega,by omega⟩,fun _=>⟨fun⟨a,ha,hb⟩=>by have h3:=ho1.lt a ha;omega,fun k ⟨a,ha,hb⟩=>by have h3:=ho1.lt a ha;have h4:=hfr1 a ha;omega⟩⟩
 refine Gz 4 ?_;refine cL (bU (aN (fun _=>0) []) qT mO) ?_;obtain⟨w3,hw3⟩:∃ w,w=w2:=⟨_,rfl⟩
 rw[←hw3] at hP2 ⊢;refine Wn mO rfl ?_;intro w4 hg4 hs4 hf4;refine sA rfl bM (by intro v hv;exact bY _ _ v hv) hg4 ?_;intro v0 hq0 hsv hfv;subst hw3;have hfv0:aA nob w3 v0:=hf4.tw hfv;obtain⟨s0,hs0⟩:∃ s:Rd×(Nat→Int),s=((0,b),fun _=>0):=⟨_,rfl⟩
 have hq0:v0.heap[w3.heap.size]?=some (.cells (aN s0.2 []).toArray 84 (0,0)):=by rw[hs0];exact hq0
 have hP0:RdR (fun k=>W.heap.size<k∧k<w3.heap.size) v0.heap p s0.1.1 s0.1.2:=by rw[hs0];exact hP2.ZM hfv0
 have hr0:=hfv0.obj (hf12.obj hg1 id) id;have hl0:s0.1.2.length≤b.length:=by rw[hs0];exact Z0 _
 have hF0:aA nob W v0:=(hf1.trans hf12).trans hfv0;refine Gz 4 ?_;refine Wh eD rfl (bT p _ _ 1 v0 hP0 (by omega)) rfl ?_;rintro _ u1 ⟨rfl,hPu,hfu⟩;have hqu:=hfu.obj hq0 (by omega);refine Gz 1 ?_;refine Wl aF rfl rfl rfl hqu rfl ?_;intro v1 hqv hsv hfv;obtain⟨s1,hs1⟩:∃ s,s=gF s0 ⟨175,0,1,511⟩:=⟨_,rfl⟩
 have hq1:v1.heap[w3.heap.size]?=some (.cells (aN s1.2 []).toArray 84 (0,0)):=by rw[hs1];exact hqv
 have hP1:RdR (fun k=>W.heap.size<k∧k<w3.heap.size) v1.heap p s1.1.1 s1.1.2:=by rw[hs1];exact hPu.ZN hfv (fun k hk h=>by have h:k=w3.heap.size:=h;omega)
 have hr1:=hfv.obj (hfu.obj hr0 (by omega)) (fun h=>by have h:W.heap.size=w3.heap.size:=h;omega);have hl1:s1.1.2.length≤s0.1.2.length:=by rw[hs1];exact mK _ _
 have hF1:aA nob W v1:=(hF0.tw hfu).tw hfv;have hk1:s1.2 0=gK b:=by rw[hs1,hs0];show upd (fun _=>0) 0 (gK b) 0=_;simp[upd]
 have hg0:s1=g0 b:=by rw[hs1,hs0];rfl
 refine Gz 4 ?_;refine Wh eD rfl (bT p _ _ 2 v1 hP1 (by omega)) rfl ?_;rintro _ u2 ⟨rfl,hPu,hfu⟩;have hqu:=hfu.obj hq1 (by omega);refine Gz 1 ?_;refine Wl aF rfl rfl rfl hqu rfl ?_;intro v2 hqv hsv hfv;obtain⟨s2,hs2⟩:∃ s,s=gF s1 ⟨175,1,2,511⟩:=⟨_,rfl⟩
 have hq2:v2.heap[w3.heap.size]?=some (.cells (aN s2.2 []).toArray 84 (0,0)):=by rw[hs2];exact hqv
 have hP2:RdR (fun k=>W.heap.size<k∧k<w3.heap.size) v2.heap p s2.1.1 s2.1.2:=by rw[hs2];exact hPu.ZN hfv (fun k hk h=>by have h:k=w3.heap.size:=h;omega)
 have hr2:=hfv.obj (hfu.obj hr1 (by omega)) (fun h=>by have h:W.heap.size=w3.heap.size:=h;omega);have hl2:s2.1.2.length≤s1.1.2.length:=by rw[hs2];exact mK _ _
 have hF2:aA nob W v2:=(hF1.tw hfu).tw hfv;have hk2:s2.2 0=gK b:=by rw[hs2,uZ (by decide)];exact hk1
 refine Gz 4 ?_;refine Wh eD rfl (bT p _ _ 2 v2 hP2 (by omega)) rfl ?_;rintro _ u3 ⟨rfl,hPu,hfu⟩;have hqu:=hfu.obj hq2 (by omega);refine Gz 1 ?_;refine Wl aF rfl rfl rfl hqu rfl ?_;intro v3 hqv hsv hfv;obtain⟨s3,hs3⟩:∃ s,s=gF s2 ⟨176,2,2,2047⟩:=⟨_,rfl⟩
 have hq3:v3.heap[w3.heap.size]?=some (.cells (aN s3.2 []).toArray 84 (0,0)):=by rw[hs3];exact hqv
 have hP3:RdR (fun k=>W.heap.size<k∧k<w3.heap.size) v3.heap p s3.1.1 s3.1.2:=by rw[hs3];exact hPu.ZN hfv (fun k hk h=>by have h:k=w3.heap.size:=h;omega)
 have hr3:=hfv.obj (hfu.obj hr2 (by omega)) (fun h=>by have h:W.heap.size=w3.heap.size:=h;omega);have hl3:s3.1.2.length≤s2.1.2.length:=by rw[hs3];exact mK _ _
 have hF3:aA nob W v3:=(hF2.tw hfu).tw hfv;have hk3:s3.2 0=gK b:=by rw[hs3,uZ (by decide)];exact hk2
 refine Gz 4 ?_;refine Wh eD rfl (bT p _ _ 2 v3 hP3 (by omega)) rfl ?_;rintro _ u4 ⟨rfl,hPu,hfu⟩;have hqu:=hfu.obj hq3 (by omega);refine Gz 1 ?_;refine Wl aF rfl rfl rfl hqu rfl ?_;intro v4 hqv hsv hfv;obtain⟨s4,hs4⟩:∃ s,s=gF s3 ⟨177,3,2,2047⟩:=⟨_,rfl⟩
 have hq4:v4.heap[w3.heap.size]?=some (.cells (aN s4.2 []).toArray 84 (0,0)):=by rw[hs4];exact hqv
 have hP4:RdR (fun k=>W.heap.size<k∧k<w3.heap.size) v4.heap p s4.1.1 s4.1.2:=by rw[hs4];exact hPu.ZN hfv (fun k hk h=>by have h:k=w3.heap.size:=h;omega)
 have hr4:=hfv.obj (hfu.obj hr3 (by omega)) (fun h=>by have h:W.heap.size=w3.heap.size:=h;omega);have hl4:s4.1.2.length≤s3.1.2.length:=by rw[hs4];exact mK _ _
 have hF4:aA nob W v4:=(hF3.tw hfu).tw hfv;have hk4:s4.2 0=gK b:=by rw[hs4,uZ (by decide)];exact hk3
 refine Gz 4 ?_;refine Wh eD rfl (bT p _ _ 2 v4 hP4 (by omega)) rfl ?_;rintro _ u5 ⟨rfl,hPu,hfu⟩;have hqu:=hfu.obj hq4 (by omega);refine Gz 1 ?_;refine Wl aF rfl rfl rfl hqu rfl ?_;intro v5 hqv hsv hfv;obtain⟨s5,hs5⟩:∃ s,s=gF s4 ⟨178,4,2,1024⟩:=⟨_,rfl⟩
 have hq5:v5.heap[w3.heap.size]?=some (.cells (aN s5.2 []).toArray 84 (0,0)):=by rw[hs5];exact hqv
 have hP5:RdR (fun k=>W.heap.size<k∧k<w3.heap.size) v5.heap p s5.1.1 s5.1.2:=by rw[hs5];exact hPu.ZN hfv (fun k hk h=>by have h:k=w3.heap.size:=h;omega)
 have hr5:=hfv.obj (hfu.obj hr4 (by omega)) (fun h=>by have h:W.heap.size=w3.heap.size:=h;omega);have hl5:s5.1.2.length≤s4.1.2.length:=by rw[hs5];exact mK _ _
 have hF5:aA nob W v5:=(hF4.tw hfu).tw hfv;have hk5:s5.2 0=gK b:=by rw[hs5,uZ (by decide)];exact hk4
 refine Gz 4 ?_;refine Wh eD rfl (bT p _ _ 4 v5 hP5 (by omega)) rfl ?_;rintro _ u6 ⟨rfl,hPu,hfu⟩;have hqu:=hfu.obj hq5 (by omega);refine Gz 1 ?_;refine Wl aF rfl rfl rfl hqu rfl ?_;intro v6 hqv hsv hfv;obtain⟨s6,hs6⟩:∃ s,s=gF s5 ⟨179,5,4,4294967295⟩:=⟨_,rfl⟩
 have hq6:v6.heap[w3.heap.size]?=some (.cells (aN s6.2 []).toArray 84 (0,0)):=by rw[hs6];exact hqv
 have hP6:RdR (fun k=>W.heap.size<k∧k<w3.heap.size) v6.heap p s6.1.1 s6.1.2:=by rw[hs6];exact hPu.ZN hfv (fun k hk h=>by have h:k=w3.heap.size:=h;omega)
 have hr6:=hfv.obj (hfu.obj hr5 (by omega)) (fun h=>by have h:W.heap.size=w3.heap.size:=h;omega);have hl6:s6.1.2.length≤s5.1.2.length:=by rw[hs6];exact mK _ _
 have hF6:aA nob W v6:=(hF5.tw hfu).tw hfv;have hk6:s6.2 0=gK b:=by rw[hs6,uZ (by decide)];exact hk5
 have hcom:s6=rG.foldl gF (g0 b):=by rw[hs6,hs5,hs4,hs3,hs2,hg0];rfl
 refine Gz 2 ?_;refine WL (β:=Unit) (fun _u=>[(0,.slice ao0 b.length c0),(2,pT W.heap.size),(5,pT w3.heap.size)]) (fun _u w=>w.heap[w3.heap.size]?=some (.cells (aN (gFn b) (gT b)).toArray 84 (0,0))∧w.heap[W.heap.size]?=some (.cells (aN (fun _=>0) []).toArray 84 (0,0))∧aA nob W w) ?_ ?_
 ·refine fK 9 ?_ ?_<;>intro h28
  ·have hk:gK b=2:=by omega
   refine Gz 6 ?_;refine Wh eD rfl (bT p _ _ 4 v6 hP6 (by omega)) rfl ?_;rintro _ u7 ⟨rfl,hPu,hfu⟩;have hqu:=hfu.obj hq6 (by omega);refine Gz 1 ?_;refine Wl aF rfl rfl rfl hqu rfl ?_;intro v7 hqv hsv hfv;obtain⟨s7,hs7⟩:∃ s,s=gF s6 ⟨158,6,4,4294967295⟩:=⟨_,rfl⟩
   have hq7:v7.heap[w3.heap.size]?=some (.cells (aN s7.2 []).toArray 84 (0,0)):=by rw[hs7];exact hqv
   have hP7:RdR (fun k=>W.heap.size<k∧k<w3.heap.size) v7.heap p s7.1.1 s7.1.2:=by rw[hs7];exact hPu.ZN hfv (fun k hk h=>by have h:k=w3.heap.size:=h;omega)
   have hr7:=hfv.obj (hfu.obj hr6 (by omega)) (fun h=>by have h:W.heap.size=w3.heap.size:=h;omega);have hl7:s7.1.2.length≤s6.1.2.length:=by rw[hs7];exact mK _ _
   have hF7:aA nob W v7:=(hF6.tw hfu).tw hfv;refine Gz 4 ?_;refine Wh eD rfl (bT p _ _ 2 v7 hP7 (by omega)) rfl ?_;rintro _ u8 ⟨rfl,hPu,hfu⟩;have hqu:=hfu.obj hq7 (by omega);refine Gz 1 ?_;refine Wl aF rfl rfl rfl hqu rfl ?_;intro v8 hqv hsv hfv;obtain⟨s8,hs8⟩:∃ s,s=gF s7 ⟨159,7,2,4096⟩:=⟨_,rfl⟩
   have hq8:v8.heap[w3.heap.size]?=some (.cells (aN s8.2 []).toArray 84 (0,0)):=by rw[hs8];exact hqv
   have hP8:RdR (fun k=>W.heap.size<k∧k<w3.heap.size) v8.heap p s8.1.1 s8.1.2:=by rw[hs8];exact hPu.ZN hfv (fun k hk h=>by have h:k=w3.heap.size:=h;omega)
   have hr8:=hfv.obj (hfu.obj hr7 (by omega)) (fun h=>by have h:W.heap.size=w3.heap.size:=h;omega);have hl8:s8.1.2.length≤s7.1.2.length:=by rw[hs8];exact mK _ _
   have hF8:aA nob W v8:=(hF7.tw hfu).tw hfv;refine Gz 4 ?_;refine Wh eD rfl (bT p _ _ 2 v8 hP8 (by omega)) rfl ?_;rintro _ u9 ⟨rfl,hPu,hfu⟩;have hqu:=hfu.obj hq8 (by omega);refine Gz 1 ?_;refine Wl aF rfl rfl rfl hqu rfl ?_;intro v9 hqv hsv hfv;obtain⟨s9,hs9⟩:∃ s,s=gF s8 ⟨160,8,2,1024⟩:=⟨_,rfl⟩
   have hq9:v9.heap[w3.heap.size]?=some (.cells (aN s9.2 []).toArray 84 (0,0)):=by rw[hs9];exact hqv
   have hP9:RdR (fun k=>W.heap.size<k∧k<w3.heap.size) v9.heap p s9.1.1 s9.1.2:=by rw[hs9];exact hPu.ZN hfv (fun k hk h=>by have h:k=w3.heap.size:=h;omega)
   have hr9:=hfv.obj (hfu.obj hr8 (by omega)) (fun h=>by have h:W.heap.size=w3.heap.size:=h;omega);have hl9:s9.1.2.length≤s8.1.2.length:=by rw[hs9];exact mK _ _
   have hF9:aA nob W v9:=(hF8.tw hfu).tw hfv;refine Gz 3 ?_;refine Wh eD rfl (bT p _ _ 1 v9 hP9 (by omega)) rfl ?_;rintro _ u10 ⟨rfl,hPu,hfu⟩;have hqu:=hfu.obj hq9 (by omega);refine Gz 1 ?_;refine Wl aF rfl rfl rfl hqu rfl ?_;intro v10 hqv hsv hfv;obtain⟨s10,hs10⟩:∃ s,s=gF s9 ⟨161,9,1,127⟩:=⟨_,rfl⟩
   have hq10:v10.heap[w3.heap.size]?=some (.cells (aN s10.2 []).toArray 84 (0,0)):=by rw[hs10];exact hqv
   have hr10:=hfv.obj (hfu.obj hr9 (by omega)) (fun h=>by have h:W.heap.size=w3.heap.size:=h;omega);have hF10:aA nob W v10:=(hF9.tw hfu).tw hfv;refine Gz 2 ?_;refine aC () ?_;have eR:gR b=s10:=by unfold gR aY fC;rw[ZP hk,cy,←hcom,hs10,hs9,hs8,hs7];rfl
   have eF:gFn b=s10.2:=by unfold gFn;rw[eR]
   have eT:gT b=[]:=by unfold gT;rw[ZO (by omega)]
   exact⟨by rw[eF,eT];exact hq10,hr10,hF10⟩
  have hn2:¬ gK b=2:=by omega
  refine fK 6 ?_ ?_<;>intro h38
  ·have hk:gK b=1:=by omega
   refine Gz 6 ?_;refine Wh eD rfl (bT p _ _ 4 v6 hP6 (by omega)) rfl ?_;rintro _ u7 ⟨rfl,hPu,hfu⟩;have hqu:=hfu.obj hq6 (by omega);refine Gz 1 ?_;refine Wl aF rfl rfl rfl hqu rfl ?_;intro v7 hqv hsv hfv;obtain⟨s7,hs7⟩:∃ s,s=gF s6 ⟨158,6,4,4294967295⟩:=⟨_,rfl⟩
   have hq7:v7.heap[w3.heap.size]?=some (.cells (aN s7.2 []).toArray 84 (0,0)):=by rw[hs7];exact hqv
   have hP7:RdR (fun k=>W.heap.size<k∧k<w3.heap.size) v7.heap p s7.1.1 s7.1.2:=by rw[hs7];exact hPu.ZN hfv (fun k hk h=>by have h:k=w3.heap.size:=h;omega)
   have hr7:=hfv.obj (hfu.obj hr6 (by omega)) (fun h=>by have h:W.heap.size=w3.heap.size:=h;omega);have hl7:s7.1.2.length≤s6.1.2.length:=by rw[hs7];exact mK _ _
   have hF7:aA nob W v7:=(hF6.tw hfu).tw hfv;refine Gz 3 ?_;refine Wh eD rfl (bT p _ _ 4 v7 hP7 (by omega)) rfl ?_;rintro _ u8 ⟨rfl,hPu,hfu⟩;have hqu:=hfu.obj hq7 (by omega);refine Gz 1 ?_;refine Wl aF rfl rfl rfl hqu rfl ?_;intro v8 hqv hsv hfv;obtain⟨s8,hs8⟩:∃ s,s=gF s7 ⟨159,7,4,1048576⟩:=⟨_,rfl⟩
   have hq8:v8.heap[w3.heap.size]?=some (.cells (aN s8.2 []).toArray 84 (0,0)):=by rw[hs8];exact hqv
   have hr8:=hfv.obj (hfu.obj hr7 (by omega)) (fun h=>by have h:W.heap.size=w3.heap.size:=h;omega);have hF8:aA nob W v8:=(hF7.tw hfu).tw hfv;refine Gz 2 ?_;refine aC () ?_;have eR:gR b=s8:=by unfold gR aY fC;rw[ZO hn2,ZP hk,cy,←hcom,hs8,hs7];rfl
   have eF:gFn b=s8.2:=by unfold gFn;rw[eR]
   have eT:gT b=[]:=by unfold gT;rw[ZO (by omega)]
   exact⟨by rw[eF,eT];exact hq8,hr8,hF8⟩
  have hn1:¬ gK b=1:=by omega
  refine fK 6 ?_ ?_<;>intro h44
  ·have hk:gK b=3:=by omega
   refine Gz 5 ?_;refine Wh PZ rfl (zW p _ _ v6 hP6 (by omega)) rfl ?_;rintro _ u7 ⟨rfl,hPu,hfu⟩;have hqu:=hfu.obj hq6 (by omega);refine Gz 1 ?_;refine Wl gH rfl rfl rfl hqu rfl ?_;intro v7 hqv hsv hfv;have hq7:v7.heap[w3.heap.size]?=some (.cells (aN s6.2 (gTx s6.1)).toArray 84 (0,0)):=hqv;have hr7:=hfv.obj (hfu.obj hr6 (by omega)) (fun h=>by have h:W.heap.size=w3.heap.size:=h;omega);have hF7:aA nob W v7:=(hF6.tw hfu).tw hfv;refine Gz 2 ?_;refine aC () ?_;have eR:gR b=s6:=by unfold gR aY fC;rw[ZO hn2,ZO hn1,bp];exact hcom.symm
   have eF:gFn b=s6.2:=by unfold gFn;rw[eR]
   have eT:gT b=gTx s6.1:=by unfold gT;rw[ZP hk,eR]
   exact⟨by rw[eF,eT];exact hq7,hr7,hF7⟩
  have hn3:¬ gK b=3:=by omega
  refine Gz 6 ?_;refine aC () ?_;have eR:gR b=s6:=by unfold gR aY fC;rw[ZO hn2,ZO hn1,bp];exact hcom.symm
  have eF:gFn b=s6.2:=by unfold gFn;rw[eR]
  have eT:gT b=[]:=by unfold gT;rw[ZO hn3]
  exact⟨by rw[eF,eT];exact hq6,hr6,hF6⟩
 rintro _ w17 ⟨hq17,hr17,hF17⟩;have hTl:(gT b).length≤maxLen:=by have:=MM b;unfold maxLen;omega
 refine Gz 2 ?_;refine cL (Ws (cs:=aN (gFn b) (gT b)) bM rfl (fun j v hj=>aB hq17 hj)) ?_;refine cA 0 R5 (HR (gFn b) (gT b) w17 hTl) ?_;rintro _ w18 ⟨a3,c3,rfl,ho3,hfr3,hf3⟩;have hq18:=hf3.obj hq17 id;have hr18:=hf3.obj hr17 id;have hF18:=hF17.trans hf3;refine fK 11 ?_ ?_<;>intro h53
 ·have hno:¬ kV b:=fun h=>h53 (EM.2 h.2);refine Gz 12 ?_;refine cL (bU (aN (fun _=>0) []) qT mO) ?_;refine sA rfl bM (by intro v hv;exact bY _ _ v hv) hr18 ?_;intro w20 hg20 hs20 hf20;refine Gz 5 ?_;refine rC hg20 bM ?_;obtain⟨e1,e2,e3⟩:=BF hno;exact⟨_,rfl,by rw[e1,e2,e3],hF18.tw hf20⟩
 have hm:=EM.1 (Z5.1 h53);refine Gz 2 ?_;refine cW (WG aH ty5 ty9 rfl ho3.vw) ?_;refine Gz 1 ?_;refine cW (WG aH ty5 ty9 rfl (hv.ZM hF18)) ?_;refine fW 0 ?_ ?_<;>intro h59
 ·have hno:¬ kV b:=fun h=>h59 (by rw[HY hm];exact(D4 hm).1 h.1);refine Gz 6 ?_;refine cL (bU (aN (fun _=>0) []) qT mO) ?_;refine sA rfl bM (by intro v hv;exact bY _ _ v hv) hr18 ?_;intro w20 hg20 hs20 hf20;refine Gz 5 ?_;refine rC hg20 bM ?_;obtain⟨e1,e2,e3⟩:=BF hno;exact⟨_,rfl,by rw[e1,e2,e3],hF18.tw hf20⟩
 have hyes:kV b:=⟨(D4 hm).2 (by rw[←HY hm];exact Z5.1 h59),hm⟩
 refine Gz 8 ?_;refine cL (Ws (cs:=aN (gFn b) (gT b)) bM rfl (fun j v hj=>aB hq18 hj)) ?_;refine sA rfl bM (by intro v hv;exact bY _ _ v hv) hr18 ?_;intro w20 hg20 hs20 hf20;refine Gz 4 ?_;refine rC hg20 bM ?_;obtain⟨e1,e2,e3⟩:=vS hyes;exact⟨_,rfl,by rw[e1,e2,e3],hF18.tw hf20⟩
theorem Lw(o:Option Addr)(c:Nat)(h:By)(W:World)(hv:Vw b8 W.heap o c h)(hl:h.length=14) :
 CA 169 [.slice o h.length c] W fun v w'=>v=iV (gY h)∧w'=W:=by
 refine cS 18 [(0,_)] Tryz.func169 ?_;refine Gz 9 ?_;refine cL (Wi aH rfl rfl hv.non (by omega)) ?_;refine cL (Wk eC rfl (hv.gz 0 0 rfl (by omega))) ?_;refine cL (Wr (n:=((h.getD 0 0).toNat:Int)) is5 ty3 rfl (zG _)) ?_;refine fK 5 ?_ ?_<;>intro h8
 ·have e:gY h=22:=by unfold gY;rw[ZP h8]
  refine Gz 13 ?_;exact⟨_,rfl,by rw[e],rfl⟩
 refine fK 6 ?_ ?_<;>intro h10
 ·have e:gY h=21:=by unfold gY;rw[ZO h8,ZP h10]
  refine Gz 13 ?_;exact⟨_,rfl,by rw[e],rfl⟩
 refine fK 6 ?_ ?_<;>intro h12
 ·have e:gY h=14+(h.getD 13 0).toNat:=by unfold gY;rw[ZO h8,ZO h10,ZP h12]
  have hu:=dl (h.getD 13 0);refine Gz 7 ?_;refine cL (Wi aH rfl rfl hv.non (by omega)) ?_;refine cL (Wk eC rfl (hv.gz 0 13 rfl (by omega))) ?_;refine cL (Wr (n:=((h.getD 13 0).toNat:Int)) is5 ty3 rfl (zG _)) ?_;refine Gz 8 ?_;exact⟨_,rfl,by rw[e],rfl⟩
 have e:gY h=0:=by unfold gY;rw[ZO h8,ZO h10,ZO h12]
 refine Gz 14 ?_;exact⟨_,rfl,by rw[e],rfl⟩
theorem Id{x:By}(h:x.length≤128):eH x≤135∧3≤eH x:=by unfold eH;split<;>omega
theorem II{im:By}{a:Int}{r:By×Nat×Bool}(h:cQ im a=some r):0≤a∧a≤im.length:=by
 unfold cQ at h
 split at h
 ·cases h
 ·omega
theorem tY(im:By)(a:Int):0≤(dO im a).1∧(dO im a).1≤im.length+135:=by
 unfold dO;cases h:cQ im a with
|none=>exact⟨fx _,by show (0:Int)≤_;omega⟩
|some r=>
   obtain⟨x,s,st⟩:=r;have h1:=II h;have h2:=Id (rE h).1;show 0≤a+(eH x:Nat)∧a+(eH x:Nat)≤_;omega
theorem KW{r:Option (By×Nat×Bool)}(h:∀ x s st,r=some (x,s,st)→x.length≤128):(dA r).2.1≤135:=by
 unfold dA
 split
 ·exact ZZ _
 · rename_i x s st
   have h2:=(Id (h x s st rfl)).1
   split
   ·exact(by decide:3≤135)
   · split
     ·exact ZZ _
     · split
       ·exact h2
       · split
         ·exact ZZ _
         ·exact h2
theorem Ea(im:By)(a:Int):0≤(bD im a).2.1∧(bD im a).2.1≤im.length+135:=by
 show 0≤(if (dA (cQ im a)).2.2=0 then a+((dA (cQ im a)).2.1:Nat) else 0)∧(if (dA (cQ im a)).2.2=0 then a+((dA (cQ im a)).2.1:Nat) else 0)≤_;cases h:cQ im a with
|none=>
   rw[ZO (show ¬ (dA none).2.2=0 from by simp[dA])];omega
|some r=>
   have h1:=II h;have h2:=KW (r:=some r) (fun x s st e=>(rE (by rw[h,e])).1)
   split<;>omega
def Bu(x:By):By:=if x.length=0 then bg 128 0 else x
def lF(im:By)(off n:Nat):Nat→Nat→Int→By→By×Int
|0,_,_,out=>(out,0)
|k+1,i,a,out=>if n≤out.length then (out,0) else
   if i*128+128≤off then (if (dO im a).2≠0 then ([],35) else lF im off n k (i+1) (dO im a).1 out) else
   if (bD im a).2.2≠0∨((bD im a).1.length≠0∧(bD im a).1.length≠128) then ([],35) else
   lF im off n k (i+1) (bD im a).2.1 (out++((Bu (bD im a).1).drop (off-i*128)).take (n-out.length))
def gX(im:By)(start size off n:Int):By×Int:=
 if size<0∨off<0∨n<0∨4096<size then ([],1) else if size.toNat/128*128≤off.toNat then ([],0) else lF im off.toNat n.toNat (size.toNat/128) 0 start []
section
variable {im:List UInt8}{off n k i:Nat}{a:Int}{out:List UInt8}
theorem EI(h:n≤out.length):lF im off n k i a out=(out,0):=by
 cases k with
|zero=>rfl
|succ k=>unfold lF;rw[ZP h]
theorem B6(h:out.length<n)(h1:i*128+128≤off)(h2:(dO im a).2≠0):lF im off n (k+1) i a out=([],35):=by
 rw[lF,ZO (by omega),ZP h1,ZP h2]
theorem B5(h:out.length<n)(h1:i*128+128≤off)(h2:¬ (dO im a).2≠0):lF im off n (k+1) i a out=lF im off n k (i+1) (dO im a).1 out:=by
 rw[lF,ZO (by omega),ZP h1,ZO h2]
theorem uI(h:out.length<n)(h1:¬ i*128+128≤off)(h2:(bD im a).2.2≠0∨((bD im a).1.length≠0∧(bD im a).1.length≠128)):lF im off n (k+1) i a out=([],35):=by
 rw[lF,ZO (by omega),ZO h1,ZP h2]
theorem oA(h:out.length<n)(h1:¬ i*128+128≤off)(h2:¬ ((bD im a).2.2≠0∨((bD im a).1.length≠0∧(bD im a).1.length≠128))) :
 lF im off n (k+1) i a out=lF im off n k (i+1) (bD im a).2.1 (out++((Bu (bD im a).1).drop (off-i*128)).take (n-out.length)):=by
 rw[lF,ZO (by omega),ZO h1,ZO h2]
theorem vP{x:By}(h:¬ (x.length≠0∧x.length≠128)):(Bu x).length=128:=by
 unfold Bu
 split
 ·exact List.length_replicate
 ·omega
end
theorem iW{im:By}{start size off n:Int}(h:size<0∨off<0∨n<0∨4096<size):gX im start size off n=([],1):=ZP h
theorem nZ{im:By}{start:Int}{size off n:Nat}(h:size≤4096)(h2:size/128*128≤off):gX im start size off n=([],0):=by
 unfold gX;rw[ZO (by omega)];exact ZP h2
theorem Ac{im:By}{start:Int}{size off n:Nat}(h:size≤4096)(h2:¬ size/128*128≤off):gX im start size off n=lF im off n (size/128) 0 start []:=by
 unfold gX;rw[ZO (by omega)];exact ZO h2
def vR(im:By)(e:Int):Nat→Int→Int×Int
|0,a=>(a,0)
|k+1,a=>if (dO im a).2≠0∨e<(dO im a).1 then (0,2) else vR im e k (dO im a).1
def pM(im:By)(start size e:Int):Int×Int:=if size<0∨4096<size then (0,1) else vR im e (size.toNat/128) start
theorem rL{im:By}{start size e:Int}(h:size<0∨4096<size):pM im start size e=(0,1):=ZP h
theorem zC{im:By}{start e:Int}{size:Nat}(h:size≤4096):pM im start size e=vR im e (size/128) start:=by unfold pM;rw[ZO (by omega)];rfl
theorem tL{im:By}{e a:Int}{k:Nat}(h:(dO im a).2≠0∨e<(dO im a).1):vR im e (k+1) a=(0,2):=by rw[vR,ZP h]
theorem CV{im:By}{e a:Int}{k:Nat}(h:¬ ((dO im a).2≠0∨e<(dO im a).1)):vR im e (k+1) a=vR im e k (dO im a).1:=by rw[vR,ZO h]
def WkP(W:World)(r:Int×Int):Value→World→Prop:=fun v w'=>v=.tuple #[iV r.1,iV r.2]∧aA nob W w'
theorem Nh(io:Option Addr)(ic:Nat)(im:By)(start size e:Int)(W:World)(hv:Vw b8 W.heap io ic im)(him:im.length≤1099511627776)(hst:start≤9223372036854775807) :
 CA 120 [.slice io im.length ic,iV start,iV size,iV e] W (WkP W (pM im start size e)):=by
 refine cS 38 [(0,_),(1,_),(2,_),(3,_)] Tryz.func120 ?_;refine fK 10 ?_ ?_<;>intro h13
 ·have hR:=rL (im:=im) (start:=start) (e:=e) (.inl h13);refine Gz 16 ?_;rw[hR];exact⟨_,rfl,rfl,Zn _ _⟩
 refine fW 2 ?_ ?_<;>intro h16
 ·have hR:=rL (im:=im) (start:=start) (e:=e) (.inr (show (4096:Int)<size from h16));refine Gz 13 ?_;rw[hR];exact⟨_,rfl,rfl,Zn _ _⟩
 obtain⟨S,rfl⟩:=az (show 0≤size by omega);have hR:=zC (im:=im) (start:=start) (e:=e) (size:=S) (by omega);refine Gz 10 ?_;refine cL (Wm (u:=iV ((S/128:Nat):Int)) (W6 rfl rfl (by omega) (by decide)) (by congr 1)) ?_;refine Gz 4 ?_;refine Wp (β:=Nat×Int) (fun⟨i,a⟩=>[(0,.slice io im.length ic),(1,iV a),(3,iV e),(19,iV ((S/128:Nat):Int)),(20,iV i)]) (fun⟨i,a⟩ w=>i≤S/128∧a≤9223372036854775807∧vR im e (S/128-i) a=pM im start S e∧aA nob W w) (fun⟨i,a⟩=>S/128-i) ⟨0,start⟩ ⟨rfl,rfl,rfl,rfl,rfl,trivial⟩ ⟨ZZ _,hst,hR.symm,Zn _ _⟩ ?_;rintro⟨i,a⟩ w2 ⟨hi,ha,hgo,hF2⟩;refine fK 2 ?_ ?_<;>intro h21
 ·obtain⟨k,hk⟩:∃ k,S/128-i=k+1:=⟨S/128-i-1,by omega⟩
  rw[hk] at hgo;refine Gz 12 ?_;refine Wh Qe rfl (Fz io ic im a w2 (hv.ZM hF2) him (by omega)) rfl ?_;rintro _ w3 ⟨rfl,hf3⟩;have hbd:=tY im a;refine fK 11 ?_ ?_<;>intro h29
  ·rw[tL (.inl h29)] at hgo;refine Gz 22 ?_;rw[←hgo];exact⟨_,rfl,rfl,hF2.trans hf3⟩
  refine fW 3 ?_ ?_<;>intro h33
  ·rw[tL (.inr h33)] at hgo;refine Gz 18 ?_;rw[←hgo];exact⟨_,rfl,rfl,hF2.trans hf3⟩
  rw[CV (by rintro(h|h);exact h29 h;exact h33 h)] at hgo;refine Gz 16 ?_;have hk2:k=S/128-(i+1):=by omega
  rw[hk2] at hgo;exact aG ⟨i+1,(dO im a).1⟩ ⟨by omega,by omega,hgo,hF2.trans hf3⟩ (by show S/128-(i+1)<S/128-i;omega)
 have hk:S/128-i=0:=by omega
 rw[hk] at hgo;refine Gz 18 ?_;rw[←hgo];exact⟨_,rfl,rfl,hF2⟩
theorem Js(io:Option Addr)(ic:Nat)(im:By)(start size e:Int)(W:World)(hv:Vw b8 W.heap io ic im)(him:im.length≤1099511627776)(hst:start≤9223372036854775807) :
 CA 153 [.slice io im.length ic,iV start,iV size,iV e] W (WkP W (pM im start size e)):=by
 refine cS 42 [(0,_),(1,_),(2,_),(3,_)] Tryz.func153 ?_;refine fK 10 ?_ ?_<;>intro h15
 ·have hR:=rL (im:=im) (start:=start) (e:=e) (.inl h15);refine Gz 16 ?_;rw[hR];exact⟨_,rfl,rfl,Zn _ _⟩
 refine fW 2 ?_ ?_<;>intro h18
 ·have hR:=rL (im:=im) (start:=start) (e:=e) (.inr (show (4096:Int)<size from h18));refine Gz 13 ?_;rw[hR];exact⟨_,rfl,rfl,Zn _ _⟩
 obtain⟨S,rfl⟩:=az (show 0≤size by omega);have hR:=zC (im:=im) (start:=start) (e:=e) (size:=S) (by omega);refine Gz 19 ?_;refine Wp (β:=Nat×Int) (fun⟨i,a⟩=>[(0,.slice io im.length ic),(2,iV (S:Nat)),(3,iV e),(10,iV a),(11,iV i)]) (fun⟨i,a⟩ w=>i≤S/128∧a≤9223372036854775807∧vR im e (S/128-i) a=pM im start S e∧aA nob W w) (fun⟨i,a⟩=>S/128-i) ⟨0,start⟩ ⟨rfl,rfl,rfl,rfl,rfl,trivial⟩ ⟨ZZ _,hst,hR.symm,Zn _ _⟩ ?_;rintro⟨i,a⟩ w2 ⟨hi,ha,hgo,hF2⟩;refine Gz 5 ?_;refine cL (Wm (u:=iV ((S/128:Nat):Int)) (W6 rfl rfl (by omega) (by decide)) (by congr 1)) ?_;refine fK 0 ?_ ?_<;>intro h24
 ·obtain⟨k,hk⟩:∃ k,S/128-i=k+1:=⟨S/128-i-1,by omega⟩
  rw[hk] at hgo;refine Gz 11 ?_;refine Wh P5 rfl (BX io ic im a w2 (hv.ZM hF2) him (by omega)) rfl ?_;rintro _ w3 ⟨rfl,hf3⟩;have hbd:=tY im a;refine fK 11 ?_ ?_<;>intro h34
  ·rw[tL (.inl h34)] at hgo;refine Gz 22 ?_;rw[←hgo];exact⟨_,rfl,rfl,hF2.trans hf3⟩
  refine fW 3 ?_ ?_<;>intro h38
  ·rw[tL (.inr h38)] at hgo;refine Gz 18 ?_;rw[←hgo];exact⟨_,rfl,rfl,hF2.trans hf3⟩
  rw[CV (by rintro(h|h);exact h34 h;exact h38 h)] at hgo;refine Gz 17 ?_;have hk2:k=S/128-(i+1):=by omega
  rw[hk2] at hgo;exact aG ⟨i+1,(dO im a).1⟩ ⟨by omega,by omega,hgo,hF2.trans hf3⟩ (by show S/128-(i+1)<S/128-i;omega)
 have hk:S/128-i=0:=by omega
 rw[hk] at hgo;refine Gz 17 ?_;rw[←hgo];exact⟨_,rfl,rfl,hF2⟩
def DrP(W:World)(r:By×Int):Value→World→Prop:=fun v w'=>∃ o c,v=.tuple #[.slice o r.1.length c,iV r.2]∧Own b8 5 w'.heap o c r.1∧Fr W.heap.size o∧aA nob W w'
theorem Nj(p:Nat)(io:Option Addr)(ic:Nat)(im:By)(start size off n:Int)(W:World)(ht:TbV W.heap p)(hv:Vw b8 W.heap io ic im)(him:im.length≤1099511627776)(hst:start≤9223372036854775807)(hbo:off≤9223372036854775807)(hbn:n≤9223372036854775807) :
 CA 84 [pT p,.slice io im.length ic,iV start,iV size,iV off,iV n] W (DrP W (gX im start size off n)):=by
 refine cS 109 [(0,_),(1,_),(2,_),(3,_),(4,_),(5,_)] Tryz.func84 ?_;refine fK 10 ?_ ?_<;>intro h23
 ·have hR:=iW (im:=im) (start:=start) (size:=size) (off:=off) (n:=n) (.inl h23);refine Gz 24 ?_;rw[hR];exact⟨_,rfl,none,0,rfl,Zu,Zs,Zn _ _⟩
 refine fW 2 ?_ ?_<;>intro h26
 ·have hR:=iW (im:=im) (start:=start) (size:=size) (off:=off) (n:=n) (.inr (.inl h26));refine Gz 21 ?_;rw[hR];exact⟨_,rfl,none,0,rfl,Zu,Zs,Zn _ _⟩
 refine fW 3 ?_ ?_<;>intro h30
 ·have hR:=iW (im:=im) (start:=start) (size:=size) (off:=off) (n:=n) (.inr (.inr (.inl h30)));refine Gz 17 ?_;rw[hR];exact⟨_,rfl,none,0,rfl,Zu,Zs,Zn _ _⟩
 refine fW 3 ?_ ?_<;>intro h34
 ·have hR:=iW (im:=im) (start:=start) (size:=size) (off:=off) (n:=n) (.inr (.inr (.inr (show (4096:Int)<size from h34))));refine Gz 13 ?_;rw[hR];exact⟨_,rfl,none,0,rfl,Zu,Zs,Zn _ _⟩
 obtain⟨S,rfl⟩:=az (show 0≤size by omega);obtain⟨O,rfl⟩:=az (show 0≤off by omega);obtain⟨n,rfl⟩:=az (show 0≤n by omega);obtain⟨N,hN⟩:∃ N,N=S/128:=⟨_,rfl⟩
 refine Gz 9 ?_;refine cL (Wm (u:=iV (N:Int)) (W6 rfl rfl (by omega) (by decide)) (by congr 1;omega)) ?_;refine cL (Wm (u:=iV ((N*128:Nat):Int)) (WN rfl rfl (by omega)) (by congr 1)) ?_;refine fK 8 ?_ ?_<;>intro h41
 ·have hR:=nZ (im:=im) (start:=start) (size:=S) (off:=O) (n:=n) (by omega) (by omega);refine Gz 12 ?_;rw[hR];exact⟨_,rfl,none,0,rfl,Zu,Zs,Zn _ _⟩
 have hR:=Ac (im:=im) (start:=start) (size:=S) (off:=O) (n:=n) (by omega) (by omega);rw[←hN] at hR;obtain⟨m,hm⟩:∃ m,m=min n (N*128-O):=⟨_,rfl⟩
 refine Gz 11 ?_;refine cL (Wm (u:=iV (m:Int)) (Xh rfl rfl) (by congr 1;split<;>omega)) ?_;refine Gz 15 ?_;refine Wp (β:=Nat×Int×By×(Option Addr×Nat)) (fun⟨i,a,out,⟨oo,oc⟩⟩=>[(0,pT p),(1,.slice io im.length ic),(2,iV a),(4,iV (O:Nat)),(5,iV (m:Nat)),(15,.slice oo out.length oc),(16,iV (i*128:Nat))]) (fun⟨i,a,out,⟨oo,oc⟩⟩ w=>i≤N∧a≤9223372036854775807∧lF im O n (N-i) i a out=gX im start S O n∧out.length=min n (i*128-O)∧Own b8 5 w.heap oo oc out∧Fr W.heap.size oo∧aA nob W w) (fun⟨i,a,out,⟨oo,oc⟩⟩=>N-i) ⟨0,start,[],⟨none,0⟩⟩ ⟨rfl,rfl,rfl,rfl,rfl,rfl,rfl,trivial⟩ ⟨ZZ _,hst,hR.symm,by simp,Zu,Zs,Zn _ _⟩ ?_;rintro⟨i,a,out,⟨oo,oc⟩⟩ w2 ⟨hi,ha,hgo,hol,hoo,hfro,hF2⟩;refine fK 6 ?_ ?_<;>intro h50
 ·have hiN:i<N:=by omega
  have hon:out.length<n:=by omega
  obtain⟨k,hk⟩:∃ k,N-i=k+1:=⟨N-i-1,by omega⟩
  rw[hk] at hgo;refine Gz 1 ?_;refine aW [(0,_),(1,_),(2,_),(4,_),(5,_),(15,_),(16,_),(50,_)] ?_;refine fK 12 ?_ ?_<;>intro h56
  ·have h56:i*128+128≤O:=by omega
   refine Gz 7 ?_;refine Wh Qe rfl (Fz io ic im a w2 (hv.ZM hF2) him (by omega)) rfl ?_;rintro _ w3 ⟨rfl,hf3⟩;have hbd:=tY im a;refine fK 11 ?_ ?_<;>intro h64
   ·rw[B6 hon h56 h64] at hgo;refine Gz 18 ?_;rw[←hgo];exact⟨_,rfl,none,0,rfl,Zu,Zs,hF2.trans hf3⟩
   rw[B5 hon h56 h64] at hgo;refine Gz 20 ?_;have hk2:k=N-(i+1):=by omega
   rw[hk2] at hgo;exact Wz ⟨i+1,(dO im a).1,out,⟨oo,oc⟩⟩ ⟨rfl,rfl,rfl,rfl,rfl,rfl,congrArg (fun z:Int=>some (Value.int .i64 z)) (show ((i*128:Nat):Int)+128=(((i+1)*128:Nat):Int) by omega),trivial⟩ ⟨by omega,by omega,hgo,by omega,hoo.ZM hf3,hfro,hF2.trans hf3⟩ (by show N-(i+1)<N-i;omega)
  have h56:¬ i*128+128≤O:=by omega
  refine Gz 10 ?_;refine Wh M2 rfl (AM p io ic im a w2 (hF2.obj ht id) (hv.ZM hF2) him (by omega)) rfl ?_;rintro _ w3 ⟨o3,c3,rfl,ho3,hfr3,hf3⟩;have hbd:=Ea im a;obtain⟨T,hT⟩:∃ T,T=bD im a:=⟨_,rfl⟩
  rw[←hT] at ho3 hbd ⊢;have hz3:=hf3.size;have hz2:=hF2.size;refine fK 13 ?_ ?_<;>intro h75
  ·rw[uI hon h56 (.inl (by rw[←hT];exact h75))] at hgo;refine Gz 27 ?_;rw[←hgo];exact⟨_,rfl,none,0,rfl,Zu,Zs,hF2.trans hf3⟩
  refine fW 3 ?_ ?_<;>intro h79
  ·refine fW 3 ?_ ?_<;>intro h83
   ·rw[uI hon h56 (.inr ⟨by rw[←hT];omega,by rw[←hT];omega⟩)] at hgo;refine Gz 19 ?_;rw[←hgo];exact⟨_,rfl,none,0,rfl,Zu,Zs,hF2.trans hf3⟩
   have hgood:¬ (T.1.length≠0∧T.1.length≠128):=by omega
   rw[oA hon h56 (by rw[←hT];rintro(h|h);exact h75 h;exact hgood h),←hT] at hgo;have hBl:=vP hgood;obtain⟨B,hB⟩:∃ B,B=Bu T.1:=⟨_,rfl⟩
   rw[←hB] at hgo hBl;refine Gz 7 ?_;refine WL (β:=Option Addr×Nat) (fun⟨bo,bc⟩=>[(0,pT p),(1,.slice io im.length ic),(4,iV (O:Nat)),(5,iV (m:Nat)),(15,.slice oo out.length oc),(16,iV (i*128:Nat)),(19,.slice bo B.length bc),(20,iV T.2.1)]) (fun⟨bo,bc⟩ w=>Vw b8 w.heap bo bc B∧aA nob w3 w) ?_ ?_
   ·refine fK 4 ?_ ?_<;>intro h88
    ·have hBz:B=bg 128 0:=by rw[hB];exact ZP (by omega)
     refine Gz 4 ?_;refine Xp b8 (0:UInt8) aH z5 rfl rfl rfl (by decide) (by decide) (by decide) (by decide) rfl ?_;intro w4 ho4 hs4 hf4;refine Gz 2 ?_;exact WY ⟨some ⟨w3.heap.size,0,none⟩,128⟩ ⟨rfl,rfl,rfl,rfl,rfl,rfl,(by rw[hBl];rfl),rfl,trivial⟩ ⟨by rw[hBz];exact ho4.vw,hf4⟩
    have hBz:B=T.1:=by rw[hB];exact ZO (by omega)
    refine Gz 4 ?_;exact WY ⟨o3,c3⟩ ⟨rfl,rfl,rfl,rfl,rfl,rfl,(by rw[hBz];rfl),rfl,trivial⟩ ⟨by rw[hBz];exact ho3.vw,Zn _ _⟩
   rintro⟨bo,bc⟩ w5 ⟨hbv,hf35⟩;refine Gz 6 ?_;refine cL (Wm (u:=iV ((O-i*128:Nat):Int)) (XI rfl rfl) (by congr 1;split<;>omega)) ?_;obtain⟨d,hd⟩:∃ d,d=O-i*128:=⟨_,rfl⟩
   rw[←hd] at hgo ⊢;have hdl:(B.drop d).length=128-d:=by rw[ZX,hBl]
   have hbcl:=hbv.le;refine cL (Wm (u:=.slice (aO bo bc d 1) (B.drop d).length (bc-d)) (WR aH rfl rfl (by omega)) (by rw[hdl,hBl];rfl)) ?_;refine Gz 12 ?_;obtain⟨e,he⟩:∃ e,e=min (128-d) (m-out.length):=⟨_,rfl⟩
   refine cL (Wm (u:=iV (e:Int)) (Xh rfl rfl) (by congr 1;split<;>omega)) ?_;refine cL (Wm (u:=.slice (aO bo bc d 1) ((B.drop d).take e).length (bc-d)) (WE aH rfl rfl (by omega)) (by rw[bF,ZT,cn (by omega)];rfl)) ?_;have hcd:=rD (n:=d) hbv (by omega) (by omega);rw[show (d:Int).toNat=d from rfl] at hcd;have hte:(B.drop d).take e=(B.drop d).take (n-out.length):=by
    by_cases h:e=n-out.length
    ·rw[h]
    ·rw[Z4 (by omega),Z4 (by omega)]
   have hz5:=hf35.size;have hel:((B.drop d).take e).length=e:=by rw[ZT];omega
   refine Wq aP aH rfl rfl ((hoo.ZM hf3).ZM hf35) (hcd.take e) (by omega) (by unfold maxLen;omega) rfl ?_;intro o6 c6 w6 ho6 hf6 hr6 hn6;refine Gz 11 ?_;have hk2:k=N-(i+1):=by omega
   rw[hk2,←hte] at hgo;exact Wz ⟨i+1,T.2.1,out++(B.drop d).take e,⟨o6,c6⟩⟩ ⟨rfl,rfl,rfl,rfl,rfl,rfl,congrArg (fun z:Int=>some (Value.int .i64 z)) (show ((i*128:Nat):Int)+128=(((i+1)*128:Nat):Int) by omega),trivial⟩ ⟨by omega,by omega,hgo,by rw[ZR,hel];omega,ho6,aS hfro hr6 (by omega),((hF2.trans hf3).trans hf35).ZJ hf6 (fun k ⟨a,ha,e⟩=>.inr (by have:=hfro a ha;omega))⟩ (by show N-(i+1)<N-i;omega)
  have hgood:¬ (T.1.length≠0∧T.1.length≠128):=by omega
  rw[oA hon h56 (by rw[←hT];rintro(h|h);exact h75 h;exact hgood h),←hT] at hgo;have hBl:=vP hgood;obtain⟨B,hB⟩:∃ B,B=Bu T.1:=⟨_,rfl⟩
  rw[←hB] at hgo hBl;refine Gz 11 ?_;refine WL (β:=Option Addr×Nat) (fun⟨bo,bc⟩=>[(0,pT p),(1,.slice io im.length ic),(4,iV (O:Nat)),(5,iV (m:Nat)),(15,.slice oo out.length oc),(16,iV (i*128:Nat)),(19,.slice bo B.length bc),(20,iV T.2.1)]) (fun⟨bo,bc⟩ w=>Vw b8 w.heap bo bc B∧aA nob w3 w) ?_ ?_
  ·refine fK 4 ?_ ?_<;>intro h88
   ·have hBz:B=bg 128 0:=by rw[hB];exact ZP (by omega)
    refine Gz 4 ?_;refine Xp b8 (0:UInt8) aH z5 rfl rfl rfl (by decide) (by decide) (by decide) (by decide) rfl ?_;intro w4 ho4 hs4 hf4;refine Gz 2 ?_;exact WY ⟨some ⟨w3.heap.size,0,none⟩,128⟩ ⟨rfl,rfl,rfl,rfl,rfl,rfl,(by rw[hBl];rfl),rfl,trivial⟩ ⟨by rw[hBz];exact ho4.vw,hf4⟩
   have hBz:B=T.1:=by rw[hB];exact ZO (by omega)
   refine Gz 4 ?_;exact WY ⟨o3,c3⟩ ⟨rfl,rfl,rfl,rfl,rfl,rfl,(by rw[hBz];rfl),rfl,trivial⟩ ⟨by rw[hBz];exact ho3.vw,Zn _ _⟩
  rintro⟨bo,bc⟩ w5 ⟨hbv,hf35⟩;refine Gz 6 ?_;refine cL (Wm (u:=iV ((O-i*128:Nat):Int)) (XI rfl rfl) (by congr 1;split<;>omega)) ?_;obtain⟨d,hd⟩:∃ d,d=O-i*128:=⟨_,rfl⟩
  rw[←hd] at hgo ⊢;have hdl:(B.drop d).length=128-d:=by rw[ZX,hBl]
  have hbcl:=hbv.le;refine cL (Wm (u:=.slice (aO bo bc d 1) (B.drop d).length (bc-d)) (WR aH rfl rfl (by omega)) (by rw[hdl,hBl];rfl)) ?_;refine Gz 12 ?_;obtain⟨e,he⟩:∃ e,e=min (128-d) (m-out.length):=⟨_,rfl⟩
  refine cL (Wm (u:=iV (e:Int)) (Xh rfl rfl) (by congr 1;split<;>omega)) ?_;refine cL (Wm (u:=.slice (aO bo bc d 1) ((B.drop d).take e).length (bc-d)) (WE aH rfl rfl (by omega)) (by rw[bF,ZT,cn (by omega)];rfl)) ?_;have hcd:=rD (n:=d) hbv (by omega) (by omega);rw[show (d:Int).toNat=d from rfl] at hcd;have hte:(B.drop d).take e=(B.drop d).take (n-out.length):=by
   by_cases h:e=n-out.length
   ·rw[h]
   ·rw[Z4 (by omega),Z4 (by omega)]
  have hz5:=hf35.size;have hel:((B.drop d).take e).length=e:=by rw[ZT];omega
  refine Wq aP aH rfl rfl ((hoo.ZM hf3).ZM hf35) (hcd.take e) (by omega) (by unfold maxLen;omega) rfl ?_;intro o6 c6 w6 ho6 hf6 hr6 hn6;refine Gz 11 ?_;have hk2:k=N-(i+1):=by omega
  rw[hk2,←hte] at hgo;exact Wz ⟨i+1,T.2.1,out++(B.drop d).take e,⟨o6,c6⟩⟩ ⟨rfl,rfl,rfl,rfl,rfl,rfl,congrArg (fun z:Int=>some (Value.int .i64 z)) (show ((i*128:Nat):Int)+128=(((i+1)*128:Nat):Int) by omega),trivial⟩ ⟨by omega,by omega,hgo,by rw[ZR,hel];omega,ho6,aS hfro hr6 (by omega),((hF2.trans hf3).trans hf35).ZJ hf6 (fun k ⟨a,ha,e⟩=>.inr (by have:=hfro a ha;omega))⟩ (by show N-(i+1)<N-i;omega)
 have hend:lF im O n (N-i) i a out=(out,0):=by
  by_cases h:n≤out.length
  ·exact EI h
  ·rw[show N-i=0 by omega];rfl
 rw[hend] at hgo;refine Gz 1 ?_;refine aW [(0,_),(1,_),(2,_),(4,_),(5,_),(15,_),(16,_),(50,_)] ?_;refine Gz 16 ?_;rw[←hgo];exact⟨_,rfl,oo,oc,rfl,hoo,hfro,hF2⟩
theorem D2{Y:By}{k:Nat}(h:k<Y.length):Y.take (k+1)=Y.take k++[Y.getD k 0]:=by
 rw[am h,Z2,ZQ h];rfl
theorem CC(B:By)(d k:Nat):(B.drop d).getD k 0=B.getD (d+k) 0:=by simp[Z2,dc]
theorem Ju(io:Option Addr)(ic:Nat)(im:By)(start size off n:Int)(W:World)(hv:Vw b8 W.heap io ic im)(him:im.length≤1099511627776)(hst:start≤9223372036854775807)(hbo:off≤9223372036854775807)(hbn:n≤9223372036854775807) :
 CA 131 [.slice io im.length ic,iV start,iV size,iV off,iV n] W (DrP W (gX im start size off n)):=by
 refine cS 117 [(0,_),(1,_),(2,_),(3,_),(4,_)] Tryz.func131 ?_;refine fK 10 ?_ ?_<;>intro h23
 ·have hR:=iW (im:=im) (start:=start) (size:=size) (off:=off) (n:=n) (.inl h23);refine Gz 24 ?_;rw[hR];exact⟨_,rfl,none,0,rfl,Zu,Zs,Zn _ _⟩
 refine fW 2 ?_ ?_<;>intro h26
 ·have hR:=iW (im:=im) (start:=start) (size:=size) (off:=off) (n:=n) (.inr (.inl h26));refine Gz 21 ?_;rw[hR];exact⟨_,rfl,none,0,rfl,Zu,Zs,Zn _ _⟩
 refine fW 3 ?_ ?_<;>intro h30
 ·have hR:=iW (im:=im) (start:=start) (size:=size) (off:=off) (n:=n) (.inr (.inr (.inl h30)));refine Gz 17 ?_;rw[hR];exact⟨_,rfl,none,0,rfl,Zu,Zs,Zn _ _⟩
 refine fW 3 ?_ ?_<;>intro h34
 ·have hR:=iW (im:=im) (start:=start) (size:=size) (off:=off) (n:=n) (.inr (.inr (.inr (show (4096:Int)<size from h34))));refine Gz 13 ?_;rw[hR];exact⟨_,rfl,none,0,rfl,Zu,Zs,Zn _ _⟩
 obtain⟨S,rfl⟩:=az (show 0≤size by omega);obtain⟨O,rfl⟩:=az (show 0≤off by omega);obtain⟨n,rfl⟩:=az (show 0≤n by omega);obtain⟨N,hN⟩:∃ N,N=S/128:=⟨_,rfl⟩
 refine Gz 9 ?_;refine cL (Wm (u:=iV (N:Int)) (W6 rfl rfl (by omega) (by decide)) (by congr 1;omega)) ?_;refine Gz 8 ?_;refine cL (Wm (u:=iV ((N*128:Nat):Int)) (WN rfl rfl (by omega)) (by congr 1)) ?_;refine fK 0 ?_ ?_<;>intro h41
 ·have hR:=nZ (im:=im) (start:=start) (size:=S) (off:=O) (n:=n) (by omega) (by omega);refine Gz 12 ?_;rw[hR];exact⟨_,rfl,none,0,rfl,Zu,Zs,Zn _ _⟩
 have hR:=Ac (im:=im) (start:=start) (size:=S) (off:=O) (n:=n) (by omega) (by omega);rw[←hN] at hR;refine Gz 7 ?_;refine WC b8 aH rfl ?_;intro w1 ho1 hs1 hf1;refine Gz 16 ?_;refine Wp (β:=Nat×Int×By×(Option Addr×Nat)) (fun⟨i,a,out,⟨oo,oc⟩⟩=>[(0,.slice io im.length ic),(3,iV (O:Nat)),(4,iV (n:Nat)),(12,iV (N:Nat)),(13,.slice oo out.length oc),(14,iV a),(15,iV i)]) (fun⟨i,a,out,⟨oo,oc⟩⟩ w=>i≤N∧a≤9223372036854775807∧lF im O n (N-i) i a out=gX im start S O n∧out.length≤128*i∧Own b8 5 w.heap oo oc out∧Fr W.heap.size oo∧aA nob W w) (fun⟨i,a,out,⟨oo,oc⟩⟩=>N-i) ⟨0,start,[],⟨some ⟨W.heap.size,0,none⟩,0⟩⟩ ⟨rfl,rfl,rfl,rfl,rfl,rfl,rfl,trivial⟩ ⟨ZZ _,hst,hR.symm,ZZ _,ho1,(fun a ha=>by cases ha;exact Z0 _),hf1⟩ ?_;rintro⟨i,a,out,⟨oo,oc⟩⟩ w2 ⟨hi,ha,hgo,hol,hoo,hfro,hF2⟩;refine fK 5 ?_ ?_<;>intro h46
 ·obtain⟨k,hk⟩:∃ k,N-i=k+1:=⟨N-i-1,by omega⟩
  rw[hk] at hgo;refine fW 4 ?_ ?_<;>intro h51
  ·have hon:out.length<n:=by omega
   refine Gz 2 ?_;refine aW [(0,_),(3,_),(4,_),(12,_),(13,_),(14,_),(15,_),(52,_)] ?_;refine Gz 12 ?_;refine cL (WN rfl rfl (by omega)) ?_;refine fK 0 ?_ ?_<;>intro h59
   ·have h56:i*128+128≤O:=by omega
    refine Gz 7 ?_;refine Wh P5 rfl (BX io ic im a w2 (hv.ZM hF2) him (by omega)) rfl ?_;rintro _ w3 ⟨rfl,hf3⟩;have hbd:=tY im a;refine fK 11 ?_ ?_<;>intro h67
    ·rw[B6 hon h56 h67] at hgo;refine Gz 18 ?_;rw[←hgo];exact⟨_,rfl,none,0,rfl,Zu,Zs,hF2.trans hf3⟩
    rw[B5 hon h56 h67] at hgo;refine Gz 20 ?_;have hk2:k=N-(i+1):=by omega
    rw[hk2] at hgo;exact aG ⟨i+1,(dO im a).1,out,⟨oo,oc⟩⟩ ⟨by omega,by omega,hgo,by omega,hoo.ZM hf3,hfro,hF2.trans hf3⟩ (by show N-(i+1)<N-i;omega)
   have h56:¬ i*128+128≤O:=by omega
   refine Gz 9 ?_;refine Wh Iy rfl (rR io ic im a w2 (hv.ZM hF2) him (by omega)) rfl ?_;rintro _ w3 ⟨o3,c3,rfl,ho3,hfr3,hf3⟩;have hbd:=Ea im a;obtain⟨T,hT⟩:∃ T,T=bD im a:=⟨_,rfl⟩
   rw[←hT] at ho3 hbd ⊢;have hz3:=hf3.size;refine fK 13 ?_ ?_<;>intro h77
   ·rw[uI hon h56 (.inl (by rw[←hT];exact h77))] at hgo;refine Gz 27 ?_;rw[←hgo];exact⟨_,rfl,none,0,rfl,Zu,Zs,hF2.trans hf3⟩
   refine fW 3 ?_ ?_<;>intro h81
   ·refine fW 3 ?_ ?_<;>intro h85
    ·rw[uI hon h56 (.inr ⟨by rw[←hT];omega,by rw[←hT];omega⟩)] at hgo;refine Gz 19 ?_;rw[←hgo];exact⟨_,rfl,none,0,rfl,Zu,Zs,hF2.trans hf3⟩
    have hgood:¬ (T.1.length≠0∧T.1.length≠128):=by omega
    rw[oA hon h56 (by rw[←hT];rintro(h|h);exact h77 h;exact hgood h),←hT] at hgo;have hBl:=vP hgood;obtain⟨B,hB⟩:∃ B,B=Bu T.1:=⟨_,rfl⟩
    rw[←hB] at hgo hBl;refine Gz 7 ?_;refine WL (β:=Option Addr×Nat) (fun⟨bo,bc⟩=>[(0,.slice io im.length ic),(3,iV (O:Nat)),(4,iV (n:Nat)),(12,iV (N:Nat)),(13,.slice oo out.length oc),(15,iV i),(18,.slice bo B.length bc),(19,iV T.2.1)]) (fun⟨bo,bc⟩ w=>Vw b8 w.heap bo bc B∧(∀ k,blk bo k→w2.heap.size≤k∧k<w.heap.size)∧aA nob w3 w) ?_ ?_
    ·refine fK 4 ?_ ?_<;>intro h90
     ·have hBz:B=bg 128 0:=by rw[hB];exact ZP (by omega)
      refine Gz 4 ?_;refine Xp b8 (0:UInt8) aH z5 rfl rfl rfl (by decide) (by decide) (by decide) (by decide) rfl ?_;intro w4 ho4 hs4 hf4;refine Gz 2 ?_;exact WY ⟨some ⟨w3.heap.size,0,none⟩,128⟩ ⟨rfl,rfl,rfl,rfl,rfl,rfl,(by rw[hBl];rfl),rfl,trivial⟩ ⟨by rw[hBz];exact ho4.vw,(fun k ⟨a,ha,e⟩=>by cases ha;have e:w3.heap.size=k:=e;exact⟨by omega,by omega⟩),hf4⟩
     have hBz:B=T.1:=by rw[hB];exact ZO (by omega)
     refine Gz 4 ?_;exact WY ⟨o3,c3⟩ ⟨rfl,rfl,rfl,rfl,rfl,rfl,(by rw[hBz];rfl),rfl,trivial⟩ ⟨by rw[hBz];exact ho3.vw,(fun k ⟨a,ha,e⟩=>by have:=hfr3 a ha;have:=ho3.lt a ha;exact⟨by omega,by omega⟩),Zn _ _⟩
    rintro⟨bo,bc⟩ w5 ⟨hbv,hbb,hf35⟩;obtain⟨d,hd⟩:∃ d,d=O-i*128:=⟨_,rfl⟩
    rw[←hd] at hgo;have hdl:(B.drop d).length=128-d:=by rw[ZX,hBl]
    have hF5:=(hF2.trans hf3).trans hf35;have hoo5:=(hoo.ZM hf3).ZM hf35;have hlo:=hoo.lt;refine Gz 7 ?_;refine Wp (β:=Nat×(Option Addr×Nat)) (fun⟨j,⟨o6,c6⟩⟩=>[(0,.slice io im.length ic),(3,iV (O:Nat)),(4,iV (n:Nat)),(12,iV (N:Nat)),(13,.slice o6 (out++(B.drop d).take (min (n-out.length) (j-d))).length c6),(15,iV i),(18,.slice bo B.length bc),(19,iV T.2.1),(21,iV j)]) (fun⟨j,⟨o6,c6⟩⟩ w=>j≤128∧Vw b8 w.heap bo bc B∧Own b8 5 w.heap o6 c6 (out++(B.drop d).take (min (n-out.length) (j-d)))∧(∀ a,o6=some a→oo=some a∨w5.heap.size≤a.block)∧Fr W.heap.size o6∧w5.heap.size≤w.heap.size∧aA nob W w) (fun⟨j,⟨o6,c6⟩⟩=>128-j) ⟨0,⟨oo,oc⟩⟩ ⟨rfl,rfl,rfl,rfl,(by rw[Nat.zero_sub,Nat.min_zero,dm,bp];rfl),rfl,rfl,rfl,rfl,trivial⟩ ⟨ZZ _,hbv,by rw[Nat.zero_sub,Nat.min_zero,dm,bp];exact hoo5,(fun a ha=>.inl ha),hfro,Z0 _,hF5⟩ ?_;rintro⟨j,⟨o6,c6⟩⟩ w6 ⟨hj,hbv6,hoo6,hr6,hfr6,hzz,hF6⟩;have hol6:(out++(B.drop d).take (min (n-out.length) (j-d))).length=out.length+min (n-out.length) (j-d):=by rw[ZR,ZT,hdl];omega
    refine fK 4 ?_ ?_<;>intro h93
    ·refine fW 4 ?_ ?_<;>intro h98
     ·have hlt:j-d<n-out.length:=by omega
      refine Gz 2 ?_;refine aW [(0,_),(3,_),(4,_),(12,_),(13,_),(15,_),(18,_),(19,_),(21,_),(99,_)] ?_;refine Gz 9 ?_;refine cL (WN rfl rfl (by omega)) ?_;refine fK 3 ?_ ?_<;>intro h107
      ·have hdj:d≤j:=by omega
       have hstep:(B.drop d).take (min (n-out.length) (j+1-d))=(B.drop d).take (min (n-out.length) (j-d))++[B.getD j 0]:=by
        rw[je (by omega),je (by omega),show j+1-d=(j-d)+1 by omega,D2 (by omega),CC,show d+(j-d)=j by omega]
       refine Gz 7 ?_;refine cL (Wi aH rfl rfl hbv6.non (by omega)) ?_;refine cL (Wk eC rfl (hbv6.gz 0 j rfl (by omega))) ?_;refine WS (enc:=b8) (u:=B.getD j 0) aH (aP _) rfl rfl ?_;intro w7 ho7 hs7 hf7;refine Wq aP aH rfl rfl (hoo6.ZM hf7) ho7.vw (by simp only[ZU];omega) (by simp only[ZU];unfold maxLen;omega) rfl ?_;intro o8 c8 w8 ho8 hf8 hr8 hn8;have hz8:=hf8.size;refine Gz 9 ?_;refine Wz ⟨j+1,⟨o8,c8⟩⟩ ⟨rfl,rfl,rfl,rfl,(by rw[hstep,←Z6];rfl),rfl,rfl,rfl,rfl,trivial⟩ ⟨by omega,(hbv6.ZM hf7).ZN hf8 (fun a ha ⟨c,hc,e⟩=>?_),by rw[hstep,←Z6];exact ho8,(fun a ha=>?_),aS hfr6 hr8 (by have:=hF6.size;omega),by omega,(hF6.trans hf7).ZJ hf8 (fun k ⟨a,ha,e⟩=>.inr (by have:=hfr6 a ha;omega))⟩ (by show 128-(j+1)<128-j;omega)
       · have h1:=hbb a.block ⟨a,ha,rfl⟩
         rcases hr6 c hc with h|h
         ·have:=hlo c h;omega
         ·omega
       · rcases hr8 a ha with h|h
         ·exact hr6 a h
         ·exact .inr (by omega)
      have hstep:(B.drop d).take (min (n-out.length) (j+1-d))=(B.drop d).take (min (n-out.length) (j-d)):=by rw[show j+1-d=j-d by omega]
      refine Gz 11 ?_;exact Wz ⟨j+1,⟨o6,c6⟩⟩ ⟨rfl,rfl,rfl,rfl,(by rw[hstep];rfl),rfl,rfl,rfl,rfl,trivial⟩ ⟨by omega,hbv6,by rw[hstep];exact hoo6,hr6,hfr6,hzz,hF6⟩ (by show 128-(j+1)<128-j;omega)
     have hfin:(B.drop d).take (min (n-out.length) (j-d))=(B.drop d).take (n-out.length):=by rw[cn (by omega)]
     refine Gz 2 ?_;refine aW [(0,_),(3,_),(4,_),(12,_),(13,_),(15,_),(18,_),(19,_),(21,_),(99,_)] ?_;refine Gz 18 ?_;have hk2:k=N-(i+1):=by omega
     rw[hk2,←hfin] at hgo;exact aG ⟨i+1,T.2.1,out++(B.drop d).take (min (n-out.length) (j-d)),⟨o6,c6⟩⟩ ⟨by omega,by omega,hgo,by rw[ZR,ZT];omega,hoo6,hfr6,hF6⟩ (by show N-(i+1)<N-i;omega)
    have hfin:(B.drop d).take (min (n-out.length) (j-d))=(B.drop d).take (n-out.length):=by
     by_cases h:n-out.length≤j-d
     ·rw[cn h]
     ·rw[Z4 (by omega),Z4 (by omega)]
    refine Gz 7 ?_;refine aW [(0,_),(3,_),(4,_),(12,_),(13,_),(15,_),(18,_),(19,_),(21,_),(99,_)] ?_;refine Gz 18 ?_;have hk2:k=N-(i+1):=by omega
    rw[hk2,←hfin] at hgo;exact aG ⟨i+1,T.2.1,out++(B.drop d).take (min (n-out.length) (j-d)),⟨o6,c6⟩⟩ ⟨by omega,by omega,hgo,by rw[ZR,ZT];omega,hoo6,hfr6,hF6⟩ (by show N-(i+1)<N-i;omega)
   have hgood:¬ (T.1.length≠0∧T.1.length≠128):=by omega
   rw[oA hon h56 (by rw[←hT];rintro(h|h);exact h77 h;exact hgood h),←hT] at hgo;have hBl:=vP hgood;obtain⟨B,hB⟩:∃ B,B=Bu T.1:=⟨_,rfl⟩
   rw[←hB] at hgo hBl;refine Gz 11 ?_;refine WL (β:=Option Addr×Nat) (fun⟨bo,bc⟩=>[(0,.slice io im.length ic),(3,iV (O:Nat)),(4,iV (n:Nat)),(12,iV (N:Nat)),(13,.slice oo out.length oc),(15,iV i),(18,.slice bo B.length bc),(19,iV T.2.1)]) (fun⟨bo,bc⟩ w=>Vw b8 w.heap bo bc B∧(∀ k,blk bo k→w2.heap.size≤k∧k<w.heap.size)∧aA nob w3 w) ?_ ?_
   ·refine fK 4 ?_ ?_<;>intro h90
    ·have hBz:B=bg 128 0:=by rw[hB];exact ZP (by omega)
     refine Gz 4 ?_;refine Xp b8 (0:UInt8) aH z5 rfl rfl rfl (by decide) (by decide) (by decide) (by decide) rfl ?_;intro w4 ho4 hs4 hf4;refine Gz 2 ?_;exact WY ⟨some ⟨w3.heap.size,0,none⟩,128⟩ ⟨rfl,rfl,rfl,rfl,rfl,rfl,(by rw[hBl];rfl),rfl,trivial⟩ ⟨by rw[hBz];exact ho4.vw,(fun k ⟨a,ha,e⟩=>by cases ha;have e:w3.heap.size=k:=e;exact⟨by omega,by omega⟩),hf4⟩
    have hBz:B=T.1:=by rw[hB];exact ZO (by omega)
    refine Gz 4 ?_;exact WY ⟨o3,c3⟩ ⟨rfl,rfl,rfl,rfl,rfl,rfl,(by rw[hBz];rfl),rfl,trivial⟩ ⟨by rw[hBz];exact ho3.vw,(fun k ⟨a,ha,e⟩=>by have:=hfr3 a ha;have:=ho3.lt a ha;exact⟨by omega,by omega⟩),Zn _ _⟩
   rintro⟨bo,bc⟩ w5 ⟨hbv,hbb,hf35⟩;obtain⟨d,hd⟩:∃ d,d=O-i*128:=⟨_,rfl⟩
   rw[←hd] at hgo;have hdl:(B.drop d).length=128-d:=by rw[ZX,hBl]
   have hF5:=(hF2.trans hf3).trans hf35;have hoo5:=(hoo.ZM hf3).ZM hf35;have hlo:=hoo.lt;refine Gz 7 ?_;refine Wp (β:=Nat×(Option Addr×Nat)) (fun⟨j,⟨o6,c6⟩⟩=>[(0,.slice io im.length ic),(3,iV (O:Nat)),(4,iV (n:Nat)),(12,iV (N:Nat)),(13,.slice o6 (out++(B.drop d).take (min (n-out.length) (j-d))).length c6),(15,iV i),(18,.slice bo B.length bc),(19,iV T.2.1),(21,iV j)]) (fun⟨j,⟨o6,c6⟩⟩ w=>j≤128∧Vw b8 w.heap bo bc B∧Own b8 5 w.heap o6 c6 (out++(B.drop d).take (min (n-out.length) (j-d)))∧(∀ a,o6=some a→oo=some a∨w5.heap.size≤a.block)∧Fr W.heap.size o6∧w5.heap.size≤w.heap.size∧aA nob W w) (fun⟨j,⟨o6,c6⟩⟩=>128-j) ⟨0,⟨oo,oc⟩⟩ ⟨rfl,rfl,rfl,rfl,(by rw[Nat.zero_sub,Nat.min_zero,dm,bp];rfl),rfl,rfl,rfl,rfl,trivial⟩ ⟨ZZ _,hbv,by rw[Nat.zero_sub,Nat.min_zero,dm,bp];exact hoo5,(fun a ha=>.inl ha),hfro,Z0 _,hF5⟩ ?_;rintro⟨j,⟨o6,c6⟩⟩ w6 ⟨hj,hbv6,hoo6,hr6,hfr6,hzz,hF6⟩;have hol6:(out++(B.drop d).take (min (n-out.length) (j-d))).length=out.length+min (n-out.length) (j-d):=by rw[ZR,ZT,hdl];omega
   refine fK 4 ?_ ?_<;>intro h93
   ·refine fW 4 ?_ ?_<;>intro h98
    ·have hlt:j-d<n-out.length:=by omega
     refine Gz 2 ?_;refine aW [(0,_),(3,_),(4,_),(12,_),(13,_),(15,_),(18,_),(19,_),(21,_),(99,_)] ?_;refine Gz 9 ?_;refine cL (WN rfl rfl (by omega)) ?_;refine fK 3 ?_ ?_<;>intro h107
     ·have hdj:d≤j:=by omega
      have hstep:(B.drop d).take (min (n-out.length) (j+1-d))=(B.drop d).take (min (n-out.length) (j-d))++[B.getD j 0]:=by
       rw[je (by omega),je (by omega),show j+1-d=(j-d)+1 by omega,D2 (by omega),CC,show d+(j-d)=j by omega]
      refine Gz 7 ?_;refine cL (Wi aH rfl rfl hbv6.non (by omega)) ?_;refine cL (Wk eC rfl (hbv6.gz 0 j rfl (by omega))) ?_;refine WS (enc:=b8) (u:=B.getD j 0) aH (aP _) rfl rfl ?_;intro w7 ho7 hs7 hf7;refine Wq aP aH rfl rfl (hoo6.ZM hf7) ho7.vw (by simp only[ZU];omega) (by simp only[ZU];unfold maxLen;omega) rfl ?_;intro o8 c8 w8 ho8 hf8 hr8 hn8;have hz8:=hf8.size;refine Gz 9 ?_;refine Wz ⟨j+1,⟨o8,c8⟩⟩ ⟨rfl,rfl,rfl,rfl,(by rw[hstep,←Z6];rfl),rfl,rfl,rfl,rfl,trivial⟩ ⟨by omega,(hbv6.ZM hf7).ZN hf8 (fun a ha ⟨c,hc,e⟩=>?_),by rw[hstep,←Z6];exact ho8,(fun a ha=>?_),aS hfr6 hr8 (by have:=hF6.size;omega),by omega,(hF6.trans hf7).ZJ hf8 (fun k ⟨a,ha,e⟩=>.inr (by have:=hfr6 a ha;omega))⟩ (by show 128-(j+1)<128-j;omega)
      · have h1:=hbb a.block ⟨a,ha,rfl⟩
        rcases hr6 c hc with h|h
        ·have:=hlo c h;omega
        ·omega
      · rcases hr8 a ha with h|h
        ·exact hr6 a h
        ·exact .inr (by omega)
     have hstep:(B.drop d).take (min (n-out.length) (j+1-d))=(B.drop d).take (min (n-out.length) (j-d)):=by rw[show j+1-d=j-d by omega]
     refine Gz 11 ?_;exact Wz ⟨j+1,⟨o6,c6⟩⟩ ⟨rfl,rfl,rfl,rfl,(by rw[hstep];rfl),rfl,rfl,rfl,rfl,trivial⟩ ⟨by omega,hbv6,by rw[hstep];exact hoo6,hr6,hfr6,hzz,hF6⟩ (by show 128-(j+1)<128-j;omega)
    have hfin:(B.drop d).take (min (n-out.length) (j-d))=(B.drop d).take (n-out.length):=by rw[cn (by omega)]
    refine Gz 2 ?_;refine aW [(0,_),(3,_),(4,_),(12,_),(13,_),(15,_),(18,_),(19,_),(21,_),(99,_)] ?_;refine Gz 18 ?_;have hk2:k=N-(i+1):=by omega
    rw[hk2,←hfin] at hgo;exact aG ⟨i+1,T.2.1,out++(B.drop d).take (min (n-out.length) (j-d)),⟨o6,c6⟩⟩ ⟨by omega,by omega,hgo,by rw[ZR,ZT];omega,hoo6,hfr6,hF6⟩ (by show N-(i+1)<N-i;omega)
   have hfin:(B.drop d).take (min (n-out.length) (j-d))=(B.drop d).take (n-out.length):=by
    by_cases h:n-out.length≤j-d
    ·rw[cn h]
    ·rw[Z4 (by omega),Z4 (by omega)]
   refine Gz 7 ?_;refine aW [(0,_),(3,_),(4,_),(12,_),(13,_),(15,_),(18,_),(19,_),(21,_),(99,_)] ?_;refine Gz 18 ?_;have hk2:k=N-(i+1):=by omega
   rw[hk2,←hfin] at hgo;exact aG ⟨i+1,T.2.1,out++(B.drop d).take (min (n-out.length) (j-d)),⟨o6,c6⟩⟩ ⟨by omega,by omega,hgo,by rw[ZR,ZT];omega,hoo6,hfr6,hF6⟩ (by show N-(i+1)<N-i;omega)
  rw[EI (by omega)] at hgo;refine Gz 2 ?_;refine aW [(0,_),(3,_),(4,_),(12,_),(13,_),(14,_),(15,_),(52,_)] ?_;refine Gz 16 ?_;rw[←hgo];exact⟨_,rfl,oo,oc,rfl,hoo,hfro,hF2⟩
 have hend:lF im O n (N-i) i a out=(out,0):=by rw[show N-i=0 by omega];rfl
 rw[hend] at hgo;refine Gz 7 ?_;refine aW [(0,_),(3,_),(4,_),(12,_),(13,_),(14,_),(15,_),(52,_)] ?_;refine Gz 16 ?_;rw[←hgo];exact⟨_,rfl,oo,oc,rfl,hoo,hfro,hF2⟩
def Bv(t:By):Bool:=t.length<1 || 128≤t.length
theorem Ba{t:By}(h:t.length<1∨128≤t.length):Bv t=true:=by unfold Bv;simpa only[Bool.or_eq_true,decide_eq_true_eq] using h
theorem yY{t:By}(h:1≤t.length∧t.length<128):Bv t=false:=by
 unfold Bv;rw[Bool.or_eq_false_iff];simp only[decide_eq_false_iff_not];omega
def yC(D:Nat→Prop)(H:Array Obj)(p:Nat)(L:List By):Prop:=
 ∃ Din ao c hs,H[p]?=some (.cells [.slice ao hs.length c].toArray 82 (0,0))∧Own hd 25 H ao c hs∧gG Din H hs L∧(¬ blk ao p)∧D p∧(∀ k,blk ao k→D k)∧(∀ k,Din k→D k∧k≠p∧¬ blk ao k)
theorem yC.ZN{D S:Nat→Prop}{w w':World}{p:Nat}{L:List By}(h:yC D w.heap p L)(f:aA S w w')(hs:∀ k,D k→¬ S k):yC D w'.heap p L:=by
 obtain⟨Din,ao,c,gs,h1,h2,h3,h4,h5,h6,h7⟩:=h;exact⟨Din,ao,c,gs,f.obj h1 (hs p h5),h2.ZN f (fun a ha=>hs _ (h6 _ ⟨a,ha,rfl⟩)),h3.ZN f (fun k hk=>hs k (h7 k hk).1),h4,h5,h6,h7⟩
def Bf(D:Nat→Prop)(W:World)(p:Nat)(L:List By)(w':World):Prop:=
 ∃ D',yC D' w'.heap p L∧(∀ k,D' k→D k∨W.heap.size≤k)∧(∀ k,D' k→k<w'.heap.size)∧aA D W w'
def fF(L:List By)(t:By):List By×Nat×Nat:=
 if Bv t then (L,0,0) else
 if L=[]∨128<(L.getD (L.length-1) []).length+t.length then (L++[t],L.length+1,0) else (L.set (L.length-1) (L.getD (L.length-1) []++t),L.length,(L.getD (L.length-1) []).length)
theorem gG.set{D:Nat→Prop}{H:Array Obj}{hs:List Hd}{L:List By}(h:gG D H hs L){k:Nat}{x:Hd}{xs:By}(h1:x.n=xs.length)(h2:Vw b8 H x.a x.c xs)(h3:xs≠[]→∀ k,blk x.a k→D k):gG D H (hs.set k x) (L.set k xs):=by
 refine⟨by simp[h.1],fun i y ys hy hys=>?_⟩;by_cases hik:k=i
 · subst hik
   have hk1:k<hs.length:=by have:=(List.getElem?_eq_some_iff.1 hy).1;simpa using this
   have hk2:k<L.length:=by rw[←h.1];exact hk1
   rw[List.getElem?_set_self hk1] at hy;rw[List.getElem?_set_self hk2] at hys;cases hy;cases hys;exact⟨h1,h2,h3⟩
 · rw[List.getElem?_set_ne hik] at hy hys
   exact h.2 i y ys hy hys
theorem EK{D Din:Nat→Prop}{W w3 w4 w5:World}{p:Nat}{L:List By}{t:By}{gs:List Hd}{ao to2 ao4:Option Addr}{c2 c4:Nat}(hD:∀ k,D k→k<W.heap.size)
 (hrg:gG Din W.heap gs L)(hap:¬ blk ao p)(hDp:D p)(hDa:∀ k,blk ao k→D k)(hDin:∀ k,Din k→D k∧k≠p∧¬ blk ao k)(hF3:aA nob W w3)
 (ho2:Own b8 5 w3.heap to2 c2 t)(hfr2:Fr W.heap.size to2)(ho4:Own hd 25 w4.heap ao4 c4 (gs++[⟨to2,t.length,c2⟩]))(hf4:aA (blk ao) w3 w4)(hr4:∀ a,ao4=some a→ao=some a∨w3.heap.size≤a.block)
 (hg5:w5.heap[p]?=some (.cells [.slice ao4 (gs++[(⟨to2,t.length,c2⟩:Hd)]).length c4].toArray 82 (0,0)))(hf5:aA (· = p) w4 w5):Bf D W p (L++[t]) w5:=by
 have hWp:=hD p hDp;have s3:=hF3.size;have s4:=hf4.size;have s5:=hf5.size;have hap4:¬ blk ao4 p:=fun⟨a,ha,hb⟩=>by
  rcases hr4 a ha with h|h
  ·exact hap ⟨a,h,hb⟩
  ·omega
 have hto:∀ a,to2=some a→¬ blk ao a.block∧a.block≠p∧a.block<w3.heap.size∧W.heap.size≤a.block:=fun a ha=>by
  have h1:=hfr2 a ha;refine⟨fun⟨b,hb,e⟩=>by have:=hD _ (hDa _ ⟨b,hb,e⟩);omega,by omega,ho2.lt a ha,h1⟩
 refine⟨fun k=>D k∨(W.heap.size≤k∧k<w5.heap.size),⟨fun k=>Din k∨blk to2 k,ao4,c4,_,hg5,ho4.ZN hf5 (fun a ha h=>hap4 ⟨a,ha,h⟩),?_,hap4,.inl hDp,?_,?_⟩,?_,?_,?_⟩
 · have h1:=((hrg.ZN hF3 (fun _ _ h=>h)).ZN hf4 (fun k hk=>(hDin k hk).2.2)).ZN hf5 (fun k hk=>(hDin k hk).2.1)
   exact(h1.mono (D':=fun k=>Din k∨blk to2 k) (fun k h=>.inl h)).snoc rfl ((ho2.ZN hf4 (fun a ha=>(hto a ha).1)).ZN hf5 (fun a ha=>(hto a ha).2.1)).vw (fun _ k hk=>.inr hk)
 · rintro k ⟨a,ha,rfl⟩
   rcases hr4 a ha with h|h
   ·exact .inl (hDa _ ⟨a,h,rfl⟩)
   ·have:=ho4.lt a ha;exact .inr ⟨by omega,by omega⟩
 · intro k hk
   rcases hk with hk|⟨a,ha,rfl⟩
   · refine⟨.inl (hDin k hk).1,(hDin k hk).2.1,fun⟨b,hb,e⟩=>?_⟩
     rcases hr4 b hb with h|h
     ·exact(hDin k hk).2.2 ⟨b,h,e⟩
     ·have:=hD k (hDin k hk).1;omega
   · have h1:=hto a ha
     refine⟨.inr ⟨h1.2.2.2,by omega⟩,h1.2.1,fun⟨b,hb,e⟩=>?_⟩;rcases hr4 b hb with h|h
     ·exact h1.1 ⟨b,h,e⟩
     ·omega
 · intro k hk;rcases hk with hk|hk
   ·exact .inl hk
   ·exact .inr hk.1
 · intro k hk;rcases hk with hk|hk
   ·have:=hD k hk;omega
   ·exact hk.2
 ·exact((hF3.mono (fun _ h=>h.elim)).trans (hf4.mono (fun k h=>hDa k h))).trans (hf5.mono (fun k h=>by subst h;exact hDp))
theorem LK{D Din:Nat→Prop}{W w3 w4:World}{p:Nat}{L:List By}{xs:By}{gs:List Hd}{ao to3:Option Addr}{c c3 i:Nat}(hD:∀ k,D k→k<W.heap.size)
 (hobj:W.heap[p]?=some (.cells [.slice ao gs.length c].toArray 82 (0,0)))(hrg:gG Din W.heap gs L)(hap:¬ blk ao p)(hDp:D p)(hDa:∀ k,blk ao k→D k)(hDin:∀ k,Din k→D k∧k≠p∧¬ blk ao k)(hF3:aA nob W w3)
 (ho3:Own b8 5 w3.heap to3 c3 xs)(hfr3:Fr W.heap.size to3)(ho4:Own hd 25 w4.heap ao c (gs.set i ⟨to3,xs.length,c3⟩))(hf4:aA (blk ao) w3 w4):Bf D W p (L.set i xs) w4:=by
 have hWp:=hD p hDp;have s3:=hF3.size;have s4:=hf4.size;have hto:∀ a,to3=some a→¬ blk ao a.block∧a.block≠p∧a.block<w3.heap.size∧W.heap.size≤a.block:=fun a ha=>by
  have h1:=hfr3 a ha;refine⟨fun⟨b,hb,e⟩=>by have:=hD _ (hDa _ ⟨b,hb,e⟩);omega,by omega,ho3.lt a ha,h1⟩
 refine⟨fun k=>D k∨(W.heap.size≤k∧k<w4.heap.size),⟨fun k=>Din k∨blk to3 k,ao,c,_,?_,ho4,?_,hap,.inl hDp,fun k hk=>.inl (hDa k hk),?_⟩,?_,?_,?_⟩
 ·rw[List.length_set];exact hf4.obj (hF3.obj hobj (fun h=>h)) hap
 · have h1:=(hrg.ZN hF3 (fun _ _ h=>h)).ZN hf4 (fun k hk=>(hDin k hk).2.2)
   exact(h1.mono (D':=fun k=>Din k∨blk to3 k) (fun k h=>.inl h)).set rfl (ho3.ZN hf4 (fun a ha=>(hto a ha).1)).vw (fun _ k hk=>.inr hk)
 · intro k hk
   rcases hk with hk|⟨a,ha,rfl⟩
   ·exact⟨.inl (hDin k hk).1,(hDin k hk).2⟩
   · have h1:=hto a ha
     exact⟨.inr ⟨h1.2.2.2,by omega⟩,h1.2.1,h1.1⟩
 · intro k hk;rcases hk with hk|hk
   ·exact .inl hk
   ·exact .inr hk.1
 · intro k hk;rcases hk with hk|hk
   ·have:=hD k hk;omega
   ·exact hk.2
 ·exact(hF3.mono (fun _ h=>h.elim)).trans (hf4.mono (fun k h=>hDa k h))
theorem Ox(D:Nat→Prop)(p:Nat)(L:List By)(to:Option Addr)(tc:Nat)(t:By)(W:World)(hP:yC D W.heap p L)(hD:∀ k,D k→k<W.heap.size)
 (hv:Vw b8 W.heap to tc t)(hb2:L.length≤1099511627776)(hb3:∀ x∈L,x.length≤1099511627776) :
 CA 25 [pT p,.slice to t.length tc] W fun v w'=>v=.tuple #[inN (fF L t).2.1,inN (fF L t).2.2]∧Bf D W p (fF L t).1 w':=by
 have hl:=hv.ZL;have hPP:=hP;obtain⟨Din,ao,c,gs,hobj,hout,hrg,hap,hDp,hDa,hDin⟩:=hP;have hgl:=hrg.1;refine cS 80 [(0,_),(1,_)] Tryz.func25 ?_;refine fK 11 ?_ ?_<;>intro h10
 ·refine Gz 17 ?_;have hbad:Bv t=true:=Ba (by omega);exact⟨_,rfl,by simp[fF,hbad,inN],⟨D,by rw[show fF L t=(L,0,0) from by simp[fF,hbad]];exact hPP,fun _ h=>.inl h,hD,Zn _ _⟩⟩
 refine fW 3 ?_ ?_<;>intro h14
 ·refine Gz 13 ?_;have hbad:Bv t=true:=Ba (by omega);exact⟨_,rfl,by simp[fF,hbad,inN],⟨D,by rw[show fF L t=(L,0,0) from by simp[fF,hbad]];exact hPP,fun _ h=>.inl h,hD,Zn _ _⟩⟩
 refine fK 21 ?_ ?_<;>intro h23
 ·refine Gz 18 ?_;refine Wv 12 (fun H=>H[p]?=some (.cells [.slice ao gs.length c].toArray 82 (0,0))) [5,7,8,9,12] [0,1,2,3,4,6,5,7,8,9,10,11,12] aK (by kernel_rfl) (hobj) ?_;refine Gz 6 ?_;refine Wo rfl rfl (WC b8 aH rfl ?_);intro w1 ho1 hs1 hf1;refine Wu (by exact hf1.obj hobj (fun h=>h)) ?_;refine Wo rfl rfl (Wq aP aH rfl rfl ho1 (hv.ZM hf1.ZK) (by simp only[Z7];omega) (by simp only[Z7];unfold maxLen;omega) rfl ?_);intro to2 c2 w2 ho2 hf2 hr2 hn2;have hp:p<W.heap.size:=hD p hDp;have hnp1:¬ blk (some (⟨W.heap.size,0,none⟩:Addr)) p:=fun⟨a,ha,hb⟩=>by cases ha;exact absurd hb (by show W.heap.size≠p;omega)
  refine Wu (by exact hf2.obj (hf1.obj hobj (fun h=>h)) (fun h=>hnp1 h)) ?_;refine Wo rfl rfl (WS (enc:=hd) (u:=⟨to2,t.length,c2⟩) sC rfl rfl rfl ?_);intro w3 ho3 hs3 hf3;refine Wu (by exact hf3.obj (hf2.obj (hf1.obj hobj (fun h=>h)) hnp1) (fun h=>h)) ?_;have hao1:∀ a,ao=some a→¬ blk (some (⟨W.heap.size,0,none⟩:Addr)) a.block:=fun a ha ⟨b,hb,e⟩=>by cases hb;have:=hout.lt a ha;have e2:W.heap.size=a.block:=e;omega
  have hout3:=((hout.ZM hf1.ZK).ZN hf2 hao1).ZM hf3;refine Wo rfl rfl (Wq AI sC rfl rfl hout3 ho3.vw (by simp only[ZU];omega) (by simp only[ZU];unfold maxLen;omega) rfl ?_);intro ao4 c4 w4 ho4 hf4 hr4 hn4;refine Wu (by exact hf4.obj (hf3.obj (hf2.obj (hf1.obj hobj (fun h=>h)) hnp1) (fun h=>h)) hap) ?_;refine Gz 2 ?_;refine Wo rfl rfl (Wl BN rfl rfl rfl (hf4.obj (hf3.obj (hf2.obj (hf1.obj hobj (fun h=>h)) hnp1) (fun h=>h)) hap) rfl ?_);intro w5 hg5 hs5 hf5;refine WW rfl ?_;refine Gz 13 ?_;have hgood:Bv t=false:=yY (by omega);have hnew:fF L t=(L++[t],L.length+1,0):=by simp only[fF,hgood,fz,if_false];rw[ZP (.inl (Z9 (by omega)))]
  refine⟨_,rfl,by rw[hnew];exact Qq (by show _=((L.length+1:Nat):Int);omega) rfl,?_⟩;rw[hnew];have hfr2:Fr W.heap.size to2:=aS (cX _) hr2 hf1.ZK.size;exact EK hD hrg hap hDp hDa hDin ((hf1.ZK.ZJ hf2 (cX _).step).trans hf3) (ho2.ZM hf3) hfr2 ho4 hf4 hr4 hg5 hf5
 refine Gz 6 ?_;have hne:L≠[]:=by intro e;subst e;simp at hgl;simp[hgl] at h23
 obtain⟨⟨xa,xn,xc⟩,hx,hxn,hxv,hxD⟩:=(hrg.at (i:=L.length-1) (by omega))
 obtain rfl:xn=(L.getD (L.length-1) []).length:=hxn;have hcell:bK W.heap (adr ao ((gs.length:Int)-1).toNat)=some (.slice xa (L.getD (L.length-1) []).length xc):=by rw[show ((gs.length:Int)-1).toNat=L.length-1 from by omega];exact hout.vw.get _ _ hx
 have hxm:(L.getD (L.length-1) []).length≤1099511627776:=hb3 _ (by rw[Z2,ZQ (by omega:L.length-1<L.length)];exact bm _);refine cW (Wi sC rfl rfl hout.vw.non (by omega)) ?_;refine cW (Wk aX rfl hcell) ?_;refine fW 4 ?_ ?_<;>intro h36
 ·refine Gz 5 ?_;refine Wv 12 (fun H=>H[p]?=some (.cells [.slice ao gs.length c].toArray 82 (0,0))) [5,7,8,9,12] [0,1,2,3,4,6,5,7,8,9,10,11,12] aK (by kernel_rfl) (hobj) ?_;refine Gz 6 ?_;refine Wo rfl rfl (WC b8 aH rfl ?_);intro w1 ho1 hs1 hf1;refine Wu (by exact hf1.obj hobj (fun h=>h)) ?_;refine Wo rfl rfl (Wq aP aH rfl rfl ho1 (hv.ZM hf1.ZK) (by simp only[Z7];omega) (by simp only[Z7];unfold maxLen;omega) rfl ?_);intro to2 c2 w2 ho2 hf2 hr2 hn2;have hp:p<W.heap.size:=hD p hDp;have hnp1:¬ blk (some (⟨W.heap.size,0,none⟩:Addr)) p:=fun⟨a,ha,hb⟩=>by cases ha;exact absurd hb (by show W.heap.size≠p;omega)
  refine Wu (by exact hf2.obj (hf1.obj hobj (fun h=>h)) (fun h=>hnp1 h)) ?_;refine Wo rfl rfl (WS (enc:=hd) (u:=⟨to2,t.length,c2⟩) sC rfl rfl rfl ?_);intro w3 ho3 hs3 hf3;refine Wu (by exact hf3.obj (hf2.obj (hf1.obj hobj (fun h=>h)) hnp1) (fun h=>h)) ?_;have hao1:∀ a,ao=some a→¬ blk (some (⟨W.heap.size,0,none⟩:Addr)) a.block:=fun a ha ⟨b,hb,e⟩=>by cases hb;have:=hout.lt a ha;have e2:W.heap.size=a.block:=e;omega
  have hout3:=((hout.ZM hf1.ZK).ZN hf2 hao1).ZM hf3;refine Wo rfl rfl (Wq AI sC rfl rfl hout3 ho3.vw (by simp only[ZU];omega) (by simp only[ZU];unfold maxLen;omega) rfl ?_);intro ao4 c4 w4 ho4 hf4 hr4 hn4;refine Wu (by exact hf4.obj (hf3.obj (hf2.obj (hf1.obj hobj (fun h=>h)) hnp1) (fun h=>h)) hap) ?_;refine Gz 2 ?_;refine Wo rfl rfl (Wl BN rfl rfl rfl (hf4.obj (hf3.obj (hf2.obj (hf1.obj hobj (fun h=>h)) hnp1) (fun h=>h)) hap) rfl ?_);intro w5 hg5 hs5 hf5;refine WW rfl ?_;refine Gz 13 ?_;have hgood:Bv t=false:=yY (by omega);have hnew:fF L t=(L++[t],L.length+1,0):=by simp only[fF,hgood,fz,if_false];rw[ZP (.inr (by omega))]
  refine⟨_,rfl,by rw[hnew];exact Qq (by show _=((L.length+1:Nat):Int);omega) rfl,?_⟩;rw[hnew];have hfr2:Fr W.heap.size to2:=aS (cX _) hr2 hf1.ZK.size;exact EK hD hrg hap hDp hDa hDin ((hf1.ZK.ZJ hf2 (cX _).step).trans hf3) (ho2.ZM hf3) hfr2 ho4 hf4 hr4 hg5 hf5
 refine Gz 13 ?_;refine cL (Wi sC rfl rfl hout.vw.non (by omega)) ?_;refine cL (Wk aX rfl hcell) ?_;refine Gz 5 ?_;refine Wv 17 (fun H=>H[p]?=some (.cells [.slice ao gs.length c].toArray 82 (0,0))∧bK H (adr ao ((gs.length:Int)-1).toNat)=some (.slice xa (L.getD (L.length-1) []).length xc)) [5,13,15,17] [0,1,2,3,4,6,7,8,9,10,11,12,14,5,13,15,16,17] aK (by kernel_rfl) (⟨hobj,hcell⟩) ?_;refine Gz 10 ?_;refine xC rfl (Wi sC rfl rfl hout.vw.non (by omega)) ?_;refine xC rfl (Wt aX rfl (fun H hH=>hH.2)) ?_;refine Gz 1 ?_;refine Wo rfl rfl (WC b8 aH rfl ?_);intro w1 ho1 hs1 hf1;have hcell1:bK w1.heap (adr ao ((gs.length:Int)-1).toNat)=some (.slice xa (L.getD (L.length-1) []).length xc):=by rw[show ((gs.length:Int)-1).toNat=L.length-1 from by omega];exact(hout.ZM hf1.ZK).vw.get _ _ hx
 refine Wu (by exact⟨hf1.obj hobj (fun h=>h),hcell1⟩) ?_;refine Wo rfl rfl (Wq aP aH rfl rfl ho1 (hxv.ZM hf1.ZK) (by simp only[Z7];omega) (by simp only[Z7];unfold maxLen;omega) rfl ?_);intro to2 c2 w2 ho2 hf2 hr2 hn2;have hp:p<W.heap.size:=hD p hDp;have hnp1:¬ blk (some (⟨W.heap.size,0,none⟩:Addr)) p:=fun⟨a,ha,hb⟩=>by cases ha;exact absurd hb (by show W.heap.size≠p;omega)
 have hF2:aA nob W w2:=hf1.ZK.ZJ hf2 (cX _).step;have hcell2:bK w2.heap (adr ao ((gs.length:Int)-1).toNat)=some (.slice xa (L.getD (L.length-1) []).length xc):=by rw[show ((gs.length:Int)-1).toNat=L.length-1 from by omega];exact(hout.ZM hF2).vw.get _ _ hx
 refine Wu (by exact⟨hf2.obj (hf1.obj hobj (fun h=>h)) hnp1,hcell2⟩) ?_;refine Wo rfl rfl (Wq aP aH rfl rfl ho2 (hv.ZM hF2) (by simp only[aq];omega) (by simp only[aq];unfold maxLen;omega) rfl ?_);intro to3 c3 w3 ho3 hf3 hr3 hn3;have hfr2:Fr W.heap.size to2:=aS (cX _) hr2 hf1.ZK.size;have hF3:aA nob W w3:=hF2.ZJ hf3 hfr2.step;have hcell3:bK w3.heap (adr ao ((gs.length:Int)-1).toNat)=some (.slice xa (L.getD (L.length-1) []).length xc):=by rw[show ((gs.length:Int)-1).toNat=L.length-1 from by omega];exact(hout.ZM hF3).vw.get _ _ hx
 refine Wu (by exact⟨hF3.obj hobj (fun h=>h),hcell3⟩) ?_;refine xC rfl (Wi sC rfl rfl hout.vw.non (by omega)) ?_;refine Wo rfl rfl (W0 AI aX (z:=(gs.length:Int)-1) (u:=⟨to3,([]++L.getD (L.length-1) []++t).length,c3⟩) rfl rfl (hout.ZM hF3) (by omega) ?_);intro w4 ho4 hs4 hf4;refine WW rfl ?_;refine Gz 13 ?_;have hgood:Bv t=false:=yY (by omega);have hold:fF L t=(L.set (L.length-1) (L.getD (L.length-1) []++t),L.length,(L.getD (L.length-1) []).length):=by simp only[fF,hgood,fz,if_false];rw[ZO (by intro h;rcases h with h|h;exact hne h;omega)]
 refine⟨_,rfl,by rw[hold];exact Qq (by show _=((L.length:Nat):Int);omega) rfl,?_⟩;rw[hold];have hfr3:Fr W.heap.size to3:=aS hfr2 hr3 (by have:=hF2.size;omega);rw[show ((gs.length:Int)-1).toNat=L.length-1 from by omega] at ho4;exact LK hD hobj hrg hap hDp hDa hDin hF3 ho3 hfr3 ho4 hf4
def fS(t:By×Int×Int)(off n:Int):By×Int:=
 if t.2.2≠0∨t.1.length=0∨(t.1.length:Int)<off∨(t.1.length:Int)-off<n then ([],35) else ((t.1.drop off.toNat).take n.toNat,0)
def dW(im:By)(pl:List Int)(num off n:Int):By×Int:=
 if num<1∨(pl.length:Int)<num∨off<0∨n<0 then ([],1) else fS (bD im (pl.getD (num-1).toNat 0)) off n
theorem MR(p:Nat)(io:Option Addr)(ic:Nat)(im:By)(po:Option Addr)(pc:Nat)(pl:List Int)(num off n:Int)(W:World)(ht:TbV W.heap p)(hv:Vw b8 W.heap io ic im)(hb:im.length≤1099511627776)(hp:Vw i64 W.heap po pc pl)(hpb:∀ x∈pl,bd x)(hnb:bd num)(hob:bd off)(hnn:bd n) :
 CA 85 [pT p,.slice io im.length ic,.slice po pl.length pc,iV num,iV off,iV n] W (xB W (dW im pl num off n)):=by
 unfold bd at hnb hob hnn;refine cS 73 [(0,_),(1,_),(2,_),(3,_),(4,_),(5,_)] Tryz.func85 ?_;refine fK 10 ?_ ?_<;>intro h18
 ·have e:dW im pl num off n=([],1):=by unfold dW;rw[ZP (by omega)]
  refine Gz 26 ?_
  (rw[e];exact⟨_,rfl,none,0,rfl,Zu,Zs,Zn _ _⟩)
 refine fW 4 ?_ ?_<;>intro h23
 ·have e:dW im pl num off n=([],1):=by unfold dW;rw[ZP (by omega)]
  refine Gz 21 ?_
  (rw[e];exact⟨_,rfl,none,0,rfl,Zu,Zs,Zn _ _⟩)
 refine fW 3 ?_ ?_<;>intro h27
 ·have e:dW im pl num off n=([],1):=by unfold dW;rw[ZP (by omega)]
  refine Gz 17 ?_
  (rw[e];exact⟨_,rfl,none,0,rfl,Zu,Zs,Zn _ _⟩)
 refine fW 3 ?_ ?_<;>intro h31
 ·have e:dW im pl num off n=([],1):=by unfold dW;rw[ZP (by omega)]
  refine Gz 13 ?_
  (rw[e];exact⟨_,rfl,none,0,rfl,Zu,Zs,Zn _ _⟩)
 have e:dW im pl num off n=fS (bD im (pl.getD (num-1).toNat 0)) off n:=by unfold dW;rw[ZO (by omega)]
 have hi:(num-1).toNat<pl.length:=by omega
 refine Gz 13 ?_;refine cL (Wi bP rfl rfl hp.non (by omega)) ?_;refine cL (Wk aF rfl (hp.gz 0 (num-1).toNat (by omega) hi)) ?_;have hpa:bd (pl.getD (num-1).toNat 0):=hpb _ (by rw[Z2,ZQ hi];exact bm _);obtain⟨t,hT⟩:∃ t,t=bD im (pl.getD (num-1).toNat 0):=⟨_,rfl⟩
 refine Wh M2 rfl (AM p io ic im _ W ht hv hb hpa.2) rfl ?_;rw[←hT];rintro _ w1 ⟨o1,c1,rfl,ho1,hfr1,hf1⟩;rw[←hT] at e;have hl:=ho1.vw.ZL;have hle:=ho1.vw.le;refine fK 13 ?_ ?_<;>intro h46
 ·have e2:fS t off n=([],35):=by unfold fS;rw[ZP (.inl h46)]
  refine Gz 31 ?_
  (rw[e,e2];exact⟨_,rfl,none,0,rfl,Zu,Zs,hf1⟩)
 refine fW 3 ?_ ?_<;>intro h50
 ·have e2:fS t off n=([],35):=by unfold fS;rw[ZP (.inr (.inl (by omega)))]
  refine Gz 27 ?_
  (rw[e,e2];exact⟨_,rfl,none,0,rfl,Zu,Zs,hf1⟩)
 refine fW 5 ?_ ?_<;>intro h56
 ·have e2:fS t off n=([],35):=by unfold fS;rw[ZP (.inr (.inr (.inl (by omega))))]
  refine Gz 21 ?_
  (rw[e,e2];exact⟨_,rfl,none,0,rfl,Zu,Zs,hf1⟩)
 refine fW 7 ?_ ?_<;>intro h64
 ·have e2:fS t off n=([],35):=by unfold fS;rw[ZP (.inr (.inr (.inr (by omega))))]
  refine Gz 13 ?_
  (rw[e,e2];exact⟨_,rfl,none,0,rfl,Zu,Zs,hf1⟩)
 have e2:fS t off n=((t.1.drop off.toNat).take n.toNat,0):=by unfold fS;rw[ZO (by rintro(h|h|h|h);exact h46 h;omega;omega;omega)]
 have htl:t.1.length≤128:=by rw[hT];exact vU _ _
 have hcl:((t.1.drop off.toNat).take n.toNat).length=n.toNat:=by rw[ZT,ZX];omega
 refine Gz 13 ?_;refine cL (Wm (u:=.slice (aO o1 c1 off.toNat 1) ((t.1.drop off.toNat).take n.toNat).length (c1-off.toNat)) (Xe aH rfl rfl rfl (by omega) (by omega)) (by rw[hcl,show (off+n).toNat-off.toNat=n.toNat by omega])) ?_;refine Wh G9 rfl (kB (aO o1 c1 off.toNat 1) (c1-off.toNat) ((t.1.drop off.toNat).take n.toNat) w1 (by have:=ho1.vw.cut (l:=off.toNat) (h:=off.toNat+n.toNat) (m:=c1) (by omega) (by omega) (by omega) (Z0 _);rwa[show off.toNat+n.toNat-off.toNat=n.toNat by omega] at this) (by rw[hcl];omega)) rfl ?_;rintro _ w2 ⟨o2,c2,rfl,ho2,hfr2,hf2⟩;refine Gz 6 ?_
 (rw[e,e2];exact⟨_,rfl,o2,c2,rfl,ho2,hfr2.mono hf1.size,hf1.trans hf2⟩)
theorem Jo(io:Option Addr)(ic:Nat)(im:By)(po:Option Addr)(pc:Nat)(pl:List Int)(num off n:Int)(W:World)(hv:Vw b8 W.heap io ic im)(hb:im.length≤1099511627776)(hp:Vw i64 W.heap po pc pl)(hpb:∀ x∈pl,bd x)(hnb:bd num)(hob:bd off)(hnn:bd n) :
 CA 132 [.slice io im.length ic,.slice po pl.length pc,iV num,iV off,iV n] W (xB W (dW im pl num off n)):=by
 unfold bd at hnb hob hnn;refine cS 71 [(0,_),(1,_),(2,_),(3,_),(4,_)] Tryz.func132 ?_;refine fK 10 ?_ ?_<;>intro h16
 ·have e:dW im pl num off n=([],1):=by unfold dW;rw[ZP (by omega)]
  refine Gz 26 ?_
  (rw[e];exact⟨_,rfl,none,0,rfl,Zu,Zs,Zn _ _⟩)
 refine fW 4 ?_ ?_<;>intro h21
 ·have e:dW im pl num off n=([],1):=by unfold dW;rw[ZP (by omega)]
  refine Gz 21 ?_
  (rw[e];exact⟨_,rfl,none,0,rfl,Zu,Zs,Zn _ _⟩)
 refine fW 3 ?_ ?_<;>intro h25
 ·have e:dW im pl num off n=([],1):=by unfold dW;rw[ZP (by omega)]
  refine Gz 17 ?_
  (rw[e];exact⟨_,rfl,none,0,rfl,Zu,Zs,Zn _ _⟩)
 refine fW 3 ?_ ?_<;>intro h29
 ·have e:dW im pl num off n=([],1):=by unfold dW;rw[ZP (by omega)]
  refine Gz 13 ?_
  (rw[e];exact⟨_,rfl,none,0,rfl,Zu,Zs,Zn _ _⟩)
 have e:dW im pl num off n=fS (bD im (pl.getD (num-1).toNat 0)) off n:=by unfold dW;rw[ZO (by omega)]
 have hi:(num-1).toNat<pl.length:=by omega
 refine Gz 12 ?_;refine cL (Wi bP rfl rfl hp.non (by omega)) ?_;refine cL (Wk aF rfl (hp.gz 0 (num-1).toNat (by omega) hi)) ?_;have hpa:bd (pl.getD (num-1).toNat 0):=hpb _ (by rw[Z2,ZQ hi];exact bm _);obtain⟨t,hT⟩:∃ t,t=bD im (pl.getD (num-1).toNat 0):=⟨_,rfl⟩
 refine Wh Iy rfl (rR io ic im _ W hv hb hpa.2) rfl ?_;rw[←hT];rintro _ w1 ⟨o1,c1,rfl,ho1,hfr1,hf1⟩;rw[←hT] at e;have hl:=ho1.vw.ZL;have hle:=ho1.vw.le;refine fK 13 ?_ ?_<;>intro h43
 ·have e2:fS t off n=([],35):=by unfold fS;rw[ZP (.inl h43)]
  refine Gz 31 ?_
  (rw[e,e2];exact⟨_,rfl,none,0,rfl,Zu,Zs,hf1⟩)
 refine fW 3 ?_ ?_<;>intro h47
 ·have e2:fS t off n=([],35):=by unfold fS;rw[ZP (.inr (.inl (by omega)))]
  refine Gz 27 ?_
  (rw[e,e2];exact⟨_,rfl,none,0,rfl,Zu,Zs,hf1⟩)
 refine fW 5 ?_ ?_<;>intro h53
 ·have e2:fS t off n=([],35):=by unfold fS;rw[ZP (.inr (.inr (.inl (by omega))))]
  refine Gz 21 ?_
  (rw[e,e2];exact⟨_,rfl,none,0,rfl,Zu,Zs,hf1⟩)
 refine fW 7 ?_ ?_<;>intro h61
 ·have e2:fS t off n=([],35):=by unfold fS;rw[ZP (.inr (.inr (.inr (by omega))))]
  refine Gz 13 ?_
  (rw[e,e2];exact⟨_,rfl,none,0,rfl,Zu,Zs,hf1⟩)
 have e2:fS t off n=((t.1.drop off.toNat).take n.toNat,0):=by unfold fS;rw[ZO (by rintro(h|h|h|h);exact h43 h;omega;omega;omega)]
 have hcl:((t.1.drop off.toNat).take n.toNat).length=n.toNat:=by rw[ZT,ZX];omega
 have htl:t.1.length≤128:=by rw[hT];exact vU _ _
 refine Gz 8 ?_;refine WC b8 aH rfl ?_;intro w2 ho2 hs2 hf2;refine Gz 5 ?_;refine cL (Wm (u:=.slice (aO o1 c1 off.toNat 1) ((t.1.drop off.toNat).take n.toNat).length (c1-off.toNat)) (Xe aH rfl rfl rfl (by omega) (by omega)) (by rw[hcl,show (off+n).toNat-off.toNat=n.toNat by omega])) ?_;refine Wq aP aH rfl rfl ho2 (show Vw b8 w2.heap (aO o1 c1 off.toNat 1) (c1-off.toNat) ((t.1.drop off.toNat).take n.toNat) from by have:=(ho1.ZM hf2).vw.cut (l:=off.toNat) (h:=off.toNat+n.toNat) (m:=c1) (by omega) (by omega) (by omega) (Z0 _);rwa[show off.toNat+n.toNat-off.toNat=n.toNat by omega] at this) (by simp only[Z7];omega) (by simp only[Z7];unfold maxLen;omega) rfl ?_;intro o3 c3 w3 ho3 hf3 hr3 hn3;rw[aq] at ho3 ⊢;refine Gz 6 ?_
 (rw[e,e2];exact⟨_,rfl,o3,c3,rfl,ho3,(aS (cX _) hr3 hf2.size).mono hf1.size,hf1.trans (hf2.ZJ hf3 (cX _).step)⟩)
section
variable {im:List UInt8}{fr to:Int}
theorem Ow(n:Nat)(m:Nat):∀ (at_:Int) (i:Nat) (out:By),n-out.length=m→out.length≤n→(rdL im fr to n at_ i out).2.2=0 →
 256*at_+i+((n-out.length:Nat):Int)≤(rdL im fr to n at_ i out).2.1:=by
 induction m using dw with
|ind m ih=>
   intro at_ i out hm hle h0;by_cases h:out.length<n
   · cases hh:bO im fr to at_ with
    |none=>rw[jI h hh] at h0;cases h0
    |some p=>
       obtain⟨b,nx⟩:=p;by_cases hi:b.length≤i
       ·rw[lD h hh hi] at h0;cases h0
       · obtain⟨s1,s2,s3,s4,s5,s6,s7,s8⟩:=dU hh
         obtain⟨x,hx⟩:∃ x,x=(b.drop i).take (n-out.length):=⟨_,rfl⟩
         have hxl:x.length=min (b.length-i) (n-out.length):=by rw[hx,ZT,ZX];omega
         have hal:(out++x).length=out.length+x.length:=ZR;by_cases h1:i+x.length=128
         · rw[fR h hh hi (by rw[←hx];exact h1),←hx] at h0 ⊢
           have:=ih (n-(out++x).length) (by omega) nx 0 (out++x) rfl (by omega) h0;omega
         · by_cases h2:(out++x).length<n
           ·rw[lE h hh hi (by rw[←hx];exact h1) (by rw[←hx];exact h2)] at h0;cases h0
           · rw[mB h hh hi (by rw[←hx];exact h1) (by rw[←hx];exact h2),←hx] at h0 ⊢
             have:=ih (n-(out++x).length) (by omega) at_ (i+x.length) (out++x) rfl (by omega) h0;omega
   · rw[jJ h]
     show _≤256*at_+(i:Int)
     omega
theorem Jr{ref n:Int}(h:(aD im fr to ref n).2.2=0):ref+n≤(aD im fr to ref n).2.1:=by
 obtain⟨h1,h2,h3,_⟩:=cJ h;have e:aD im fr to ref n=rdL im fr to n.toNat (ref/256) (ref%256).toNat []:=by unfold aD;rw[ZO (by omega),ZO (by rw[h3];simp)]
 rw[e] at h ⊢;have:=Ow (im:=im) (fr:=fr) (to:=to) n.toNat n.toNat (ref/256) (ref%256).toNat [] (by simp) (by simp) h;simp only[Z7,Nat.sub_zero] at this;omega
theorem wI{ref n:Int}(h:dX im fr to=false):(aD im fr to ref n).2.2≠0:=fun e=>by have:=(cJ e).2.2.1;rw[h] at this;cases this
def nG(im:By)(fr to wide:Int):Nat→Int→Option (List Int×Int)
|0,ref=>some ([],ref)
|k+1,ref=>if (aD im fr to ref wide).2.2≠0 then none else (nG im fr to wide k (aD im fr to ref wide).2.1).map fun p=>(((bV (aD im fr to ref wide).1:Nat):Int)::p.1,p.2)
def tnS(im:By)(fr to many wide:Int):List Int×Int:=
 if many<0∨¬ (wide=2∨wide=4) then ([],1) else if dX im fr to=false then ([],2) else
 match nG im fr to wide many.toNat 0 with
|none=>([],2)
|some (l,r)=>if (aD im fr to r 1).2.2=0 then ([],2) else (l,0)
def TnI(im:By)(fr to wide:Int)(k:Nat)(os:List Int)(ref:Int):Prop:=
 os.length≤k∧nG im fr to wide k 0=(nG im fr to wide (k-os.length) ref).map (fun p=>(os++p.1,p.2))∧(os.length:Int)≤ref∧ref≤256*im.length+128
variable {wide many:Int}{k:Nat}{os:List Int}{ref:Int}
theorem nS(k:Nat)(ref:Int):nG im fr to wide (k+1) ref=if (aD im fr to ref wide).2.2≠0 then none else (nG im fr to wide k (aD im fr to ref wide).2.1).map fun p=>(((bV (aD im fr to ref wide).1:Nat):Int)::p.1,p.2):=rfl
theorem TnI.zero:TnI im fr to wide k [] 0:=⟨ZZ _,by cases nG im fr to wide k 0<;>simp,by simp,by omega⟩
theorem TnI.bad(h:TnI im fr to wide k os ref)(hl:os.length<k)(he:(aD im fr to ref wide).2.2≠0):nG im fr to wide k 0=none:=by
 obtain⟨m,hm⟩:∃ m,k-os.length=m+1:=⟨k-os.length-1,by omega⟩
 have:=h.2.1;rw[hm] at this;rw[this,nS,ZP he];rfl
theorem TnI.next(h:TnI im fr to wide k os ref)(hl:os.length<k)(hw:1≤wide)(he:(aD im fr to ref wide).2.2=0):TnI im fr to wide k (os++[((bV (aD im fr to ref wide).1:Nat):Int)]) (aD im fr to ref wide).2.1:=by
 obtain⟨h1,h2,h3,h4⟩:=h;obtain⟨m,hm⟩:∃ m,k-os.length=m+1:=⟨k-os.length-1,by omega⟩
 have ha:=Jr he;obtain⟨r1,r2,r3,r4,r5,r6⟩:=cJ he;refine⟨by simp;omega,?_,by simp;omega,by omega⟩;rw[h2,hm];have e:k-(os++[((bV (aD im fr to ref wide).1:Nat):Int)]).length=m:=by simp;omega
 rw[e,nS,ZO (fun h'=>h' he)];cases nG im fr to wide m (aD im fr to ref wide).2.1<;>simp
theorem TnI.done(h:TnI im fr to wide k os ref)(hl:¬ os.length<k):nG im fr to wide k 0=some (os,ref):=by
 have:=h.2.1;rw[show k-os.length=0 by omega] at this;rw[this];simp[nG]
theorem tQ(h:many<0∨¬ (wide=2∨wide=4)):tnS im fr to many wide=([],1):=by unfold tnS;rw[ZP h]
theorem yF(h:¬ (many<0∨¬ (wide=2∨wide=4)))(hm:dX im fr to=false):tnS im fr to many wide=([],2):=by unfold tnS;rw[ZO h,ZP hm]
theorem tP(h:¬ (many<0∨¬ (wide=2∨wide=4)))(hn:nG im fr to wide many.toNat 0=none):tnS im fr to many wide=([],2):=by
 unfold tnS;rw[ZO h,hn];split<;>rfl
theorem qB(h:¬ (many<0∨¬ (wide=2∨wide=4)))(hn:nG im fr to wide many.toNat 0=some (os,ref))(he:(aD im fr to ref 1).2.2=0):tnS im fr to many wide=([],2):=by
 unfold tnS;rw[ZO h,hn];split
 ·rfl
 ·show (if _ then _ else _)=_;rw[ZP he]
theorem nQ(h:¬ (many<0∨¬ (wide=2∨wide=4)))(hm:dX im fr to=true)(hn:nG im fr to wide many.toNat 0=some (os,ref))(he:(aD im fr to ref 1).2.2≠0):tnS im fr to many wide=(os,0):=by
 unfold tnS;rw[ZO h,ZO (by rw[hm];simp),hn];show (if _ then _ else _)=_;rw[ZO he]
end
def bdT(z:Int):Prop:=-9223372036854775808≤z∧z≤9223372036854775807
def jF(im:By)(fr to ref:Int):By×Int×Int:=
 if (aD im fr to ref 1).2.2≠0 then ([],0,(aD im fr to ref 1).2.2) else aD im fr to (aD im fr to ref 1).2.1 ((aD im fr to ref 1).1.getD 0 0).toNat
def lB(im:By)(fr to:Int):Nat→Int→Option (List By×Int)
|0,ref=>some ([],ref)
|k+1,ref=>if (jF im fr to ref).2.2≠0 then none else (lB im fr to k (jF im fr to ref).2.1).map fun p=>((jF im fr to ref).1::p.1,p.2)
def bZ(l:List By):List Xa:=(List.range (l.length/2)).map fun i=>(l.getD (2*i) [],l.getD (2*i+1) [])
def fG(im:By)(fr to ref:Int):List Xa×Int:=
 if (aD im fr to ref 1).2.2≠0∨((aD im fr to ref 1).1.getD 0 0).toNat=0∨8<((aD im fr to ref 1).1.getD 0 0).toNat then ([],2) else
 match lB im fr to (2*((aD im fr to ref 1).1.getD 0 0).toNat) (aD im fr to ref 1).2.1 with
|none=>([],2)
|some (l,_)=>if fB (bZ l) then (bZ l,0) else ([],2)
section
variable {im:List UInt8}{fr to:Int}
theorem nY{ref n:Int}(hr:bdT ref)(him:im.length≤1073741824):bdT (aD im fr to ref n).2.1:=by
 unfold bdT at *;rcases wH (im:=im) (fr:=fr) (to:=to) ref n with e|e|⟨_,h2,h3,h4,h5,h6,h7⟩
 ·rw[e];decide
 ·rw[e];decide
 ·omega
theorem C6{ref:Int}(h:(aD im fr to ref 1).2.2≠0):jF im fr to ref=([],0,(aD im fr to ref 1).2.2):=by unfold jF;rw[ZP h]
theorem zV{ref:Int}(h:(aD im fr to ref 1).2.2=0):jF im fr to ref=aD im fr to (aD im fr to ref 1).2.1 ((aD im fr to ref 1).1.getD 0 0).toNat:=by unfold jF;rw[ZO (fun h'=>h' h)]
theorem HQ{ref:Int}(hr:bdT ref)(him:im.length≤1073741824):bdT (jF im fr to ref).2.1:=by
 by_cases h:(aD im fr to ref 1).2.2=0
 ·rw[zV h];exact nY (nY hr him) him
 ·rw[C6 h];exact⟨by show (_:Int)≤0;decide,by show (0:Int)≤_;decide⟩
theorem zU(ref:Int):(jF im fr to ref).1.length≤255:=by
 by_cases h:(aD im fr to ref 1).2.2=0
 · rw[zV h]
   have hu:=dl ((aD im fr to ref 1).1.getD 0 0);rcases wH (im:=im) (fr:=fr) (to:=to) (aD im fr to ref 1).2.1 ((aD im fr to ref 1).1.getD 0 0).toNat with e|e|⟨_,_,_,_,h5,_⟩
   ·rw[e];exact ZZ _
   ·rw[e];exact ZZ _
   ·omega
 ·rw[C6 h];exact ZZ _
def TxI(im:By)(fr to r0:Int)(k:Nat)(ls:List By)(ref:Int):Prop:=
 ls.length≤k∧lB im fr to k r0=(lB im fr to (k-ls.length) ref).map (fun p=>(ls++p.1,p.2))∧bdT ref∧∀ x∈ls,x.length≤255
variable {r0 ref:Int}{k:Nat}{ls:List (List UInt8)}
theorem kD(k:Nat)(ref:Int):lB im fr to (k+1) ref=if (jF im fr to ref).2.2≠0 then none else (lB im fr to k (jF im fr to ref).2.1).map fun p=>((jF im fr to ref).1::p.1,p.2):=rfl
theorem TxI.zero(h:bdT r0):TxI im fr to r0 k [] r0:=⟨ZZ _,by cases lB im fr to k r0<;>simp,h,by simp⟩
theorem TxI.bad(h:TxI im fr to r0 k ls ref)(hl:ls.length<k)(he:(jF im fr to ref).2.2≠0):lB im fr to k r0=none:=by
 obtain⟨m,hm⟩:∃ m,k-ls.length=m+1:=⟨k-ls.length-1,by omega⟩
 have:=h.2.1;rw[hm] at this;rw[this,kD,ZP he];rfl
theorem TxI.next(h:TxI im fr to r0 k ls ref)(hl:ls.length<k)(him:im.length≤1073741824)(he:(jF im fr to ref).2.2=0):TxI im fr to r0 k (ls++[(jF im fr to ref).1]) (jF im fr to ref).2.1:=by
 obtain⟨h1,h2,h3,h4⟩:=h;obtain⟨m,hm⟩:∃ m,k-ls.length=m+1:=⟨k-ls.length-1,by omega⟩
 refine⟨by simp;omega,?_,HQ h3 him,fun x hx=>?_⟩
 · rw[h2,hm]
   have e:k-(ls++[(jF im fr to ref).1]).length=m:=by simp;omega
   rw[e,kD,ZO (fun h'=>h' he)];cases lB im fr to m (jF im fr to ref).2.1<;>simp
 · rcases an.1 hx with h|h
   ·exact h4 x h
   ·rw[ai.1 h];exact zU ref
theorem TxI.done(h:TxI im fr to r0 k ls ref)(hl:¬ ls.length<k):lB im fr to k r0=some (ls,ref):=by
 have:=h.2.1;rw[show k-ls.length=0 by omega] at this;rw[this];simp[lB]
theorem nV(h:(aD im fr to ref 1).2.2≠0∨((aD im fr to ref 1).1.getD 0 0).toNat=0∨8<((aD im fr to ref 1).1.getD 0 0).toNat):fG im fr to ref=([],2):=by unfold fG;rw[ZP h]
theorem wG(h:¬ ((aD im fr to ref 1).2.2≠0∨((aD im fr to ref 1).1.getD 0 0).toNat=0∨8<((aD im fr to ref 1).1.getD 0 0).toNat))(hn:lB im fr to (2*((aD im fr to ref 1).1.getD 0 0).toNat) (aD im fr to ref 1).2.1=none):fG im fr to ref=([],2):=by
 unfold fG;rw[ZO h,hn]
theorem zS(h:¬ ((aD im fr to ref 1).2.2≠0∨((aD im fr to ref 1).1.getD 0 0).toNat=0∨8<((aD im fr to ref 1).1.getD 0 0).toNat)){l:List By}{r:Int}(hn:lB im fr to (2*((aD im fr to ref 1).1.getD 0 0).toNat) (aD im fr to ref 1).2.1=some (l,r))(hm:fB (bZ l)):fG im fr to ref=(bZ l,0):=by
 unfold fG;rw[ZO h,hn];show (if _ then _ else _)=_;rw[ZP hm]
theorem Et(h:¬ ((aD im fr to ref 1).2.2≠0∨((aD im fr to ref 1).1.getD 0 0).toNat=0∨8<((aD im fr to ref 1).1.getD 0 0).toNat)){l:List By}{r:Int}(hn:lB im fr to (2*((aD im fr to ref 1).1.getD 0 0).toNat) (aD im fr to ref 1).2.1=some (l,r))(hm:¬ fB (bZ l)):fG im fr to ref=([],2):=by
 unfold fG;rw[ZO h,hn];show (if _ then _ else _)=_;rw[ZO hm]
end
theorem Eu{im:By}{fr to:Int}:∀ (k:Nat) (ref:Int) (l:List By) (r:Int),lB im fr to k ref=some (l,r)→l.length=k
|0,_,_,_,h=>by cases h;rfl
|k+1,ref,l,r,h=>by
   rw[kD] at h
   split at h
   ·cases h
   · cases hh:lB im fr to k (jF im fr to ref).2.1 with
    |none=>rw[hh] at h;cases h
    |some p=>rw[hh] at h;cases h;have:=Eu k _ p.1 p.2 hh;simp[this]
theorem kE(l:List By):(bZ l).length=l.length/2:=by simp[bZ]
theorem Cc{l:List By}{i:Nat}(h:i<l.length/2):(bZ l)[i]?=some (l.getD (2*i) [],l.getD (2*i+1) []):=by simp[bZ,h]
theorem EQ{l:List By}{i:Nat}(h:l.length=2*i)(s v:By):bZ (l++[s]++[v])=bZ l++[(s,v)]:=by
 have h1:(l++[s]++[v]).length/2=i+1:=by simp;omega
 have h2:l.length/2=i:=by omega
 unfold bZ;rw[h1,h2,List.range_succ,dr];congr 1
 · apply List.map_congr_left
   intro j hj;have:=List.mem_range.1 hj;simp only[Z2];rw[Z6,au (by omega),au (by omega)]
 · have e:l++[s]++[v]=l++[s,v]:=by simp
   have e1:(l++[s,v])[2*i]?=some s:=by rw[da (by omega),show 2*i-l.length=0 by omega];rfl
   have e2:(l++[s,v])[2*i+1]?=some v:=by rw[da (by omega),show 2*i+1-l.length=1 by omega];rfl
   simp only[db,List.map_nil,Z2,e,e1,e2];rfl
end Go.Proofs.YthdecfkdgdagcaaGreat
