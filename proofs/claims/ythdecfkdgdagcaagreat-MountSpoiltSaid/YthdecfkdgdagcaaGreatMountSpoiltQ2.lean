/- lamella: what the law needs. No condition beyond the bounds that each states. -/
import Derived.RangeFuncWrites
import Derived.RangeFuncCalls
import Derived.RangeFuncLeaves
import Derived.RangeFuncBound
import Derived.OrdersIn
import Derived.Lib.Join
import Derived.Test.YthdecfkdgdagcaaGreatMountSpoiltQ1
namespace Go.Proofs.YthdecfkdgdagcaaGreat
open Go Go.RowKit
set_option linter.unusedVariables false
set_option linter.unusedSectionVars false
set_option maxHeartbeats 64000000
open List (append_assoc append_nil drop_drop eq_nil_of_length_eq_zero foldl_append foldl_cons forall_mem_cons length_append length_cons length_drop length_map length_nil length_singleton length_take map_append map_cons mem_append mem_cons mem_singleton nil_append not_mem_nil take_append_drop take_length take_of_length_le take_take)
open Classical (byContradiction)
theorem rI{D:Nat→Prop}(p:Nat)(E:Int)(ys:By)(W:World)(hP:RdL D W.heap p E ys) :
 CA 72 [pT p] W fun v w'=>v=iV E∧w'=W:=by
 obtain⟨ao,c,hobj,hv,hap⟩:=hP;refine cS 7 [(0,_)] Tryz.func72 ?_;refine Gz 16 ?_;exact⟨_,rfl,rfl,rfl⟩
def ctC(po:Option Addr)(n pc:Nat)(s:Nat)(st:Bool)(nx:Int):List Value:=[.slice po n pc,.int .u32 (s:Int),.bool st,iV nx]
theorem dY(po:Option Addr)(n pc:Nat)(s:Nat)(st:Bool)(nx:Int):∀ v∈ctC po n pc s st nx,v.oneCell'=true:=by simp[ctC,Value.oneCell']
def FnP(W:World)(im:By)(a:Int):Value→World→Prop:=fun v w'=>aA nob W w'∧match dE im a with
|none=>v=.tuple #[.agg (ctC none 0 0 0 false 0).toArray,.int .i64 2]
|some (x,s,st)=>∃ po pc,v=.tuple #[.agg (ctC po x.length pc s st (a+eF x)).toArray,.int .i64 0]∧Own b8 5 w'.heap po pc x∧Fr W.heap.size po
theorem lG{W w':World}{im:By}{a:Int}(h:dE im a=none)(hf:aA nob W w'):FnP W im a (.tuple #[.agg (ctC none 0 0 0 false 0).toArray,iV 2]) w':=by
 unfold FnP;rw[h];exact⟨hf,rfl⟩
theorem Mw{a b:Nat}(h:a<256):a ||| b*256=a+256*b:=by
 have:=Nat.two_pow_add_eq_or_of_lt (i:=8) h b;rw[show (2:Nat) ^ 8=256 from rfl] at this;rw[Nat.or_comm,Nat.mul_comm b,←this];omega
theorem Rl{n:Nat}(h:n<65536):n &&& 32768=if 32768≤n then 32768 else 0:=by
 apply Nat.eq_of_testBit_eq;intro i;rw[Nat.testBit_and,show (32768:Nat)=2 ^ 15 from rfl,Nat.testBit_two_pow];by_cases hi:15=i
 · subst hi
   rw[Nat.testBit_eq_decide_div_mod_eq];by_cases hn:2 ^ 15≤n
   ·rw[if_pos hn,decide_eq_true (by omega)];rfl
   ·rw[if_neg hn,decide_eq_false (by omega)];rfl
 · rw[decide_eq_false hi,Bool.and_false]
   split
   ·rw[Nat.testBit_two_pow,decide_eq_false hi]
   ·simp
theorem FH{r:By}{m:Nat}(h3:3≤r.length):(cU (cU 0 (r.drop 3) 4) (oQ 0 (r.drop 3) 4) m≠0↔r.length<7+m) ∧
 (¬ r.length<7+m→eG 0 (r.drop 3) 4=(r.drop 3).take 4∧eG (cU 0 (r.drop 3) 4) (oQ 0 (r.drop 3) 4) m=(r.drop 7).take m):=by
 have hl:(r.drop 3).length=r.length-3:=length_drop ..;by_cases h7:r.length<7
 · have e:cU 0 (r.drop 3) 4=2:=by rw[nC (by omega) (by omega)];rfl
   rw[e];refine⟨⟨fun _=>by omega,fun _=>by rw[pE (by decide)];decide⟩,fun h=>by omega⟩
 · have e:cU 0 (r.drop 3) 4=0:=dG (by omega) (by omega)
   obtain⟨e1,e2⟩:=cM e;have e3:(r.drop 3).drop (Int.toNat 4)=r.drop 7:=by rw[drop_drop];rfl
   rw[e,e1,e2,e3];have hl7:(r.drop 7).length=r.length-7:=length_drop ..;by_cases hm:r.length<7+m
   ·refine⟨⟨fun _=>hm,fun _=>by rw[nC (by omega) (by omega)];decide⟩,fun h=>absurd hm h⟩
   · have e4:cU 0 (r.drop 7) m=0:=dG (by omega) (by omega)
     refine⟨⟨fun h=>absurd e4 h,fun h=>absurd h hm⟩,fun _=>⟨rfl,?_⟩⟩;rw[(cM e4).1];rfl
theorem Ly{H:Array Obj}{ad:Addr}{cap:Nat}{l:By}(h:Vw b8 H (some ad) cap l):∀ j v,(l.map b8)[j]?=some v→bE H (ad.add j)=some v:=by
 intro j v hj;rw[List.getElem?_map,Option.map_eq_some_iff] at hj;obtain⟨x,hx,rfl⟩:=hj;exact h.get j x hx
theorem GK(io:Option Addr)(ic:Nat)(im:By)(a:Int)(W:World)(hv:Vw b8 W.heap io ic im)(hb:im.length≤1099511627776)(ha:a≤9223372036854775807) :
 CA 145 [.slice io im.length ic,iV a] W (FnP W im a):=by
 have hle:=hv.le;refine cS 94 [(0,_),(1,_)] Tryz.func145 ?_;refine Gz 2 ?_;refine Tz lR rfl ?_;intro w1 hg1 hs1 hf1;have hg1:w1.heap[W.heap.size]?=some (.cells (ctC none 0 0 0 false 0).toArray 253 (0,0)):=hg1;refine fK 7 ?_ ?_<;>intro h12
 ·have hno:dE im a=none:=by unfold dE;rw[if_pos (by omega)]
  have hf9:aA nob w1 w1:=Wt _ _;refine Gz 11 ?_;refine cL (bU (ctC none 0 0 0 false 0) mY lR) ?_;refine sA rfl bQ (by exact dY _ _ _ _ _ _) (hf9.obj hg1 id) ?_;intro w20 hg20 hs20 hf20;refine Gz 5 ?_;refine rC hg20 bQ ?_;exact⟨_,rfl,lG hno ((hf1.trans hf9).tw hf20)⟩
 refine fW 4 ?_ ?_<;>intro h17
 ·have hno:dE im a=none:=by unfold dE;rw[if_pos (by omega)]
  have hf9:aA nob w1 w1:=Wt _ _;refine Gz 6 ?_;refine cL (bU (ctC none 0 0 0 false 0) mY lR) ?_;refine sA rfl bQ (by exact dY _ _ _ _ _ _) (hf9.obj hg1 id) ?_;intro w20 hg20 hs20 hf20;refine Gz 5 ?_;refine rC hg20 bQ ?_;exact⟨_,rfl,lG hno ((hf1.trans hf9).tw hf20)⟩
 obtain⟨q,rfl⟩:∃ q:Nat,a=q:=⟨a.toNat,by omega⟩
 have hcs:dE im (q:Int)=jW (im.drop q):=by unfold dE;rw[if_neg (by omega)];rfl
 obtain⟨r,hr⟩:∃ r,r=im.drop q:=⟨_,rfl⟩
 have hrl:r.length=im.length-q:=by rw[hr,length_drop]
 have hvr:Vw b8 W.heap (aP io ic q 1) (ic-q) r:=by have:=hv.cut (l:=q) (h:=im.length) (m:=ic) (by omega) (Nat.le_refl _) hle (Nat.le_refl _);rw[take_of_length_le (by simp)] at this;rw[hr];exact this
 rw[←hr] at hcs;refine Gz 10 ?_;refine cL (Tw (u:=.slice (aP io ic q 1) r.length (ic-q)) (T4 aK rfl rfl (by omega)) (by rw[hrl];rfl)) ?_;refine Ts KS rfl (oA (aP io ic q 1) (ic-q) r w1 (hvr.WR hf1) (by omega)) rfl ?_;rintro _ w2 ⟨p,rfl,hp1,hP2,hf2⟩;have hlp:=hP2.lt;refine Gz 6 ?_;refine Ts Ff rfl (mV p 0 r 3 w2 hP2 (by omega)) rfl ?_;rintro _ w3 ⟨h3,hc3,rfl,ho3,hfr3,hP3,hf3⟩;have hz3:=hf3.size;have hF3:aA nob w1 w3:=hf2.tw hf3;refine Gz 9 ?_;refine Ts Fe rfl (rI p _ _ w3 hP3) rfl ?_;rintro _ wq ⟨rfl,hwq⟩;subst wq;refine fK 0 ?_ ?_<;>intro h30
 ·have hsh:r.length<3:=byContradiction fun h=>h30 (dG (by omega) (by omega));have hno:dE im (q:Int)=none:=by rw[hcs];unfold jW;rw[if_pos hsh]
  have hf9:=hF3;refine Gz 5 ?_;refine cL (bU (ctC none 0 0 0 false 0) mY lR) ?_;refine sA rfl bQ (by exact dY _ _ _ _ _ _) (hf9.obj hg1 id) ?_;intro w20 hg20 hs20 hf20;refine Gz 5 ?_;refine rC hg20 bQ ?_;exact⟨_,rfl,lG hno ((hf1.trans hf9).tw hf20)⟩
 have hE3:cU 0 r 3=0:=Decidable.not_not.1 h30;obtain⟨z1,z2,z3⟩:=mL hE3;have z3r:3≤r.length:=by omega
 obtain⟨cb,cr⟩:=cM hE3;rw[cb] at ho3;rw[hE3,cr] at hP3;have hl3:(r.take (Int.toNat 3)).length=3:=by rw[length_take];omega
 rw[cb];obtain⟨B,hB⟩:∃ B,B=r.take (Int.toNat 3):=⟨_,rfl⟩
 rw[←hB] at ho3 hl3 ⊢;have hg0:B.getD 0 0=r.getD 0 0:=by rw[hB,List.getD,List.getD,List.getElem?_take];rfl
 have hg1b:B.getD 1 0=r.getD 1 0:=by rw[hB,List.getD,List.getD,List.getElem?_take];rfl
 obtain⟨b0,hb0⟩:∃ x,x=(r.getD 0 0).toNat:=⟨_,rfl⟩
 obtain⟨b1,hb1⟩:∃ x,x=(r.getD 1 0).toNat:=⟨_,rfl⟩
 have hb0l:b0<256:=by have:=(r.getD 0 0).toNat_lt;omega
 have hb1l:b1<256:=by have:=(r.getD 1 0).toNat_lt;omega
 have hcp:jW r=_:=rfl
 conv at hcp=>rhs;unfold jW
 rw[←hb0,←hb1,if_neg (show ¬ r.length<3 by omega),show r.take 3=B from hB.symm] at hcp;obtain⟨n,hn⟩:∃ n,n=b0+256*b1:=⟨_,rfl⟩
 rw[←hn] at hcp;have hnl:n<65536:=by omega
 obtain⟨a3,ha3⟩:∃ x,h3=some x:=Option.ne_none_iff_exists'.1 (ho3.vw.non (by omega));subst ha3;refine Gz 6 ?_;refine TN 11 [0,1,2,3,4,5,6,7,8,9,10] aL (by kernel_rfl) ?_;refine Gz 1 ?_;refine xC rfl (Tt aK rfl rfl ho3.vw.non (by omega)) ?_;refine xC rfl (Tu gW rfl (ho3.vw.gz 0 0 rfl (by omega))) ?_;refine xC rfl (TD (n:=(b0:Int)) is5 ty3 rfl (by rw[hg0,←hb0];exact bG (by omega))) ?_;refine Gz 1 ?_;refine xC rfl (Tt aK rfl rfl ho3.vw.non (by omega)) ?_;refine xC rfl (Tu gW rfl (ho3.vw.gz 0 1 rfl (by omega))) ?_;refine xC rfl (TD (n:=(b1:Int)) is5 ty3 rfl (by rw[hg1b,←hb1];exact bG (by omega))) ?_;refine xC rfl (Tw (u:=iV ((b1*256:Nat):Int)) (Ve rfl rfl (by omega) (by show _≤(b1:Int)*256∧(b1:Int)*256≤_;omega)) (by show Value.int .i64 ((b1:Int)*256)=_;simp)) ?_;refine xC rfl (Tw (u:=iV ((n:Nat):Int)) (VP rfl rfl (by omega) (by omega)) (by rw[Mw hb0l,hn])) ?_;refine Gz 4 ?_;refine TG 7 (fun H=>Vw b8 H (some a3) hc3 B) [1] [0,2,3,4,1,5,6] aL (by kernel_rfl) (ho3.vw) ?_;refine Gz 2 ?_;refine xC rfl (Vt Tryz.underlying268 rfl (by omega)) ?_;refine xC rfl (Uf (cs:=B.map b8) (by rw[length_map,hl3];exact yR) rfl (fun H hH=>Ly hH)) ?_;refine Ty rfl rfl (Ts P3 rfl (M1 n _ hnl) rfl ?_);rintro _ w4 ⟨rfl,hf4⟩;have hf4:=hf4.WP.WP;refine TE (by exact ho3.vw.WR hf4) ?_;refine xC rfl (Vs Tryz.underlying268 (by kernel_rfl) Tryz.underlying5 (by kernel_rfl) (by kernel_rfl) (by rw[←KG];rfl) rfl (jU n) hl3) ?_;refine Gz 6 ?_;refine cL (Tw (u:=iV ((if 32768≤n then 32768 else 0:Nat):Int)) (Wi (b:=32768) rfl rfl (by omega) (by decide)) (by rw[Rl hnl])) ?_;refine cL (Tw (u:=.bool (decide (32768≤n))) (Ub rfl rfl) (by congr 1;by_cases h:32768≤n<;>simp[h])) ?_;refine Gz 2 ?_;refine cL (bU (ctC none 0 0 0 (decide (32768≤n)) ((q:Int)+3)) mY lR) ?_;refine Tz lR rfl ?_;intro w5 hg5 hs5 hf5;refine sA rfl bQ (by exact dY _ _ _ _ _ _) hg5 ?_;intro w6 hg6 hs6 hf6;obtain⟨c,hc⟩:∃ c,c=w4.heap.size:=⟨_,rfl⟩
 rw[←hc] at hg6 ⊢;have hz4:=hf4.size;have hF36:aA nob w3 w6:=(hf4.trans hf5).tw hf6;have hP6:=hP3.WR hF36;have hF6:=hF3.trans hF36;have hz6:=hF6.size;obtain⟨m,hm⟩:∃ m,m=n%32768:=⟨_,rfl⟩
 rw[←hm] at hcp;refine Gz 5 ?_;refine cL (Tw (u:=iV (m:Nat)) (Vj rfl rfl hnl) (by rw[hm])) ?_;refine Gz 7 ?_;refine TZ (Uj rfl) rfl (fun h57=>?_) (fun h57=>?_)
 ·have hne:B≠hdB n:=fun h=>by rw[h] at h57;simp at h57
  have hno:dE im (q:Int)=none:=by rw[hcs,hcp,if_pos hne]
  have hf9:=hF6;refine Gz 17 ?_;refine cL (bU (ctC none 0 0 0 false 0) mY lR) ?_;refine sA rfl bQ (by exact dY _ _ _ _ _ _) (hf9.obj hg1 id) ?_;intro w20 hg20 hs20 hf20;refine Gz 5 ?_;refine rC hg20 bQ ?_;exact⟨_,rfl,lG hno ((hf1.trans hf9).tw hf20)⟩
 have heq:B=hdB n:=byContradiction fun h=>h57 (decide_eq_false (fun e=>h e.symm));rw[if_neg (fun h=>h heq)] at hcp;refine fW 2 ?_ ?_<;>intro h60
 ·have hno:dE im (q:Int)=none:=by rw[hcs,hcp,if_pos (by omega)]
  have hf9:=hF6;refine Gz 14 ?_;refine cL (bU (ctC none 0 0 0 false 0) mY lR) ?_;refine sA rfl bQ (by exact dY _ _ _ _ _ _) (hf9.obj hg1 id) ?_;intro w20 hg20 hs20 hf20;refine Gz 5 ?_;refine rC hg20 bQ ?_;exact⟨_,rfl,lG hno ((hf1.trans hf9).tw hf20)⟩
 refine fW 3 ?_ ?_<;>intro h64
 ·refine Gz 2 ?_;refine T5 rfl rfl (TV (Tu He rfl (aE hg6 rfl))) rfl (fun h67=>?_) (fun h67=>?_)
  ·have h67:32768≤n:=of_decide_eq_true h67;have hno:dE im (q:Int)=none:=by rw[hcs,hcp,if_pos (by omega)]
   have hf9:=hF6;refine Gz 7 ?_;refine cL (bU (ctC none 0 0 0 false 0) mY lR) ?_;refine sA rfl bQ (by exact dY _ _ _ _ _ _) (hf9.obj hg1 id) ?_;intro w20 hg20 hs20 hf20;refine Gz 5 ?_;refine rC hg20 bQ ?_;exact⟨_,rfl,lG hno ((hf1.trans hf9).tw hf20)⟩
  have h67:¬ 32768≤n:=fun h=>h67 (decide_eq_true h);refine fK 11 ?_ ?_<;>intro h72
  ·rw[if_neg (by omega),if_neg (by omega)] at hcp;obtain⟨tc1,tc2⟩:=FH (r:=r) (m:=m) z3r;refine Gz 6 ?_;refine Ts xT rfl (fR p 0 (r.drop 3) 4 w6 hP6 (by rw[length_drop];omega)) rfl ?_;rintro _ w7 ⟨rfl,hP7,hf7⟩;rw[iR (by decide) (by decide)] at hP7 ⊢;have hg7:=hf7.obj hg6 (by omega);have hR7:=fC 0 (r.drop 3) 4;rw[length_drop] at hR7;have hvs:=mS (bs:=eG 0 (r.drop 3) 4) (yE _ _ _);refine cL (TD (n:=((bT (eG 0 (r.drop 3) 4):Nat):Int)) is3 G0 rfl (jM hvs)) ?_;refine Gz 1 ?_;refine Tx Cy rfl rfl rfl hg7 rfl ?_;intro w8 hg8 hs8 hf8;have hP8:=hP7.WS hf8 (fun k hk h=>by have h:k=c:=h;omega);refine Gz 6 ?_;refine Ts Ff rfl (mV p _ _ m w8 hP8 (by omega)) rfl ?_;rintro _ w9 ⟨x9,xc9,rfl,ho9,hfr9,hP9,hf9a⟩;have hg9:=hf9a.obj hg8 (fun h=>by have h:c=p:=h;omega);refine Gz 1 ?_;refine Tx aT rfl rfl rfl hg9 rfl ?_;intro w10 hg10 hs10 hf10;have hP10:=hP9.WS hf10 (fun k hk h=>by have h:k=c:=h;omega);have ho10:=ho9.WS hf10 (fun a ha h=>by have:=hfr9 a ha;have h:a.block=c:=h;omega);refine Gz 9 ?_;refine Tx aI rfl rfl rfl hg10 rfl ?_;intro w11 hg11 hs11 hf11;have hP11:=hP10.WS hf11 (fun k hk h=>by have h:k=c:=h;omega);have ho11:=ho10.WS hf11 (fun a ha h=>by have:=hfr9 a ha;have h:a.block=c:=h;omega);have hF11:aA nob w1 w11:=((((hF6.tw hf7).tw hf8).tw hf9a).tw hf10).tw hf11;refine Gz 8 ?_;refine Ts Fe rfl (rI p _ _ w11 hP11) rfl ?_;rintro _ wq ⟨rfl,hwq⟩;subst wq;refine fK 0 ?_ ?_<;>intro h91
   ·have hsh:=tc1.1 h91;rw[if_pos hsh] at hcp;have hno:dE im (q:Int)=none:=by rw[hcs,hcp]
    have hf9:=hF11;refine Gz 5 ?_;refine cL (bU (ctC none 0 0 0 false 0) mY lR) ?_;refine sA rfl bQ (by exact dY _ _ _ _ _ _) (hf9.obj hg1 id) ?_;intro w20 hg20 hs20 hf20;refine Gz 5 ?_;refine rC hg20 bQ ?_;exact⟨_,rfl,lG hno ((hf1.trans hf9).tw hf20)⟩
   have hsh:¬ r.length<7+m:=fun h=>h91 (tc1.2 h);rw[if_neg hsh] at hcp;obtain⟨c1,c2⟩:=tc2 hsh;rw[c1,c2] at hg11;rw[c2] at ho11;have hxl:((r.drop 7).take m).length=m:=by rw[length_take,length_drop];omega
   refine Gz 7 ?_;refine cL (TI (cs:=ctC x9 ((r.drop 7).take m).length xc9 (bT ((r.drop 3).take 4)) (decide (32768≤n)) ((q:Int)+3+(4+m))) bQ rfl (fun j v hj=>aE hg11 hj)) ?_;refine sA rfl bQ (by exact dY _ _ _ _ _ _) (hF11.obj hg1 id) ?_;intro w20 hg20 hs20 hf20;refine Gz 4 ?_;refine rC hg20 bQ ?_;refine⟨_,rfl,(hf1.trans hF11).tw hf20,?_⟩;rw[hcs,hcp];refine⟨x9,xc9,?_,ho11.WS hf20 (fun a ha h=>by have:=hfr9 a ha;have h:a.block=W.heap.size:=h;omega),fun a ha=>by have:=hfr9 a ha;omega⟩;rw[show (q:Int)+eF ((r.drop 7).take m)=(q:Int)+3+(4+m) by unfold eF;rw[hxl,if_neg (by omega)];omega]
  rw[if_neg (by omega),if_pos (by omega)] at hcp;refine Gz 11 ?_;refine Ts Fe rfl (rI p _ _ w6 hP6) rfl ?_;rintro _ wq ⟨rfl,hwq⟩;subst wq;refine cL (Um (Ub rfl rfl) (fun h=>h rfl)) ?_;refine Gz 7 ?_;refine cL (TI (cs:=ctC none 0 0 0 (decide (32768≤n)) ((q:Int)+3)) bQ rfl (fun j v hj=>aE hg6 hj)) ?_;refine sA rfl bQ (by exact dY _ _ _ _ _ _) (hF6.obj hg1 id) ?_;intro w20 hg20 hs20 hf20;refine Gz 4 ?_;refine rC hg20 bQ ?_;have hmz:decide (32768≤n)=false:=decide_eq_false (by omega);refine⟨_,rfl,(hf1.trans hF6).tw hf20,?_⟩;rw[hcs,hcp,hmz];exact⟨none,0,rfl,WA,Wy⟩
 refine fK 14 ?_ ?_<;>intro h72
 ·rw[if_neg (by omega),if_neg (by omega)] at hcp;obtain⟨tc1,tc2⟩:=FH (r:=r) (m:=m) z3r;refine Gz 6 ?_;refine Ts xT rfl (fR p 0 (r.drop 3) 4 w6 hP6 (by rw[length_drop];omega)) rfl ?_;rintro _ w7 ⟨rfl,hP7,hf7⟩;rw[iR (by decide) (by decide)] at hP7 ⊢;have hg7:=hf7.obj hg6 (by omega);have hz7:=hf7.size;have hR7:=fC 0 (r.drop 3) 4;rw[length_drop] at hR7;have hvs:=mS (bs:=eG 0 (r.drop 3) 4) (yE _ _ _);refine cL (TD (n:=((bT (eG 0 (r.drop 3) 4):Nat):Int)) is3 G0 rfl (jM hvs)) ?_;refine Gz 1 ?_;refine Tx Cy rfl rfl rfl hg7 rfl ?_;intro w8 hg8 hs8 hf8;have hP8:=hP7.WS hf8 (fun k hk h=>by have h:k=c:=h;omega);refine Gz 6 ?_;refine Ts Ff rfl (mV p _ _ m w8 hP8 (by omega)) rfl ?_;rintro _ w9 ⟨x9,xc9,rfl,ho9,hfr9,hP9,hf9a⟩;have hg9:=hf9a.obj hg8 (fun h=>by have h:c=p:=h;omega);refine Gz 1 ?_;refine Tx aT rfl rfl rfl hg9 rfl ?_;intro w10 hg10 hs10 hf10;have hP10:=hP9.WS hf10 (fun k hk h=>by have h:k=c:=h;omega);have ho10:=ho9.WS hf10 (fun a ha h=>by have:=hfr9 a ha;have h:a.block=c:=h;omega);refine Gz 9 ?_;refine Tx aI rfl rfl rfl hg10 rfl ?_;intro w11 hg11 hs11 hf11;have hP11:=hP10.WS hf11 (fun k hk h=>by have h:k=c:=h;omega);have ho11:=ho10.WS hf11 (fun a ha h=>by have:=hfr9 a ha;have h:a.block=c:=h;omega);have hF11:aA nob w1 w11:=((((hF6.tw hf7).tw hf8).tw hf9a).tw hf10).tw hf11;refine Gz 8 ?_;refine Ts Fe rfl (rI p _ _ w11 hP11) rfl ?_;rintro _ wq ⟨rfl,hwq⟩;subst wq;refine fK 0 ?_ ?_<;>intro h91
  ·have hsh:=tc1.1 h91;rw[if_pos hsh] at hcp;have hno:dE im (q:Int)=none:=by rw[hcs,hcp]
   have hf9:=hF11;refine Gz 5 ?_;refine cL (bU (ctC none 0 0 0 false 0) mY lR) ?_;refine sA rfl bQ (by exact dY _ _ _ _ _ _) (hf9.obj hg1 id) ?_;intro w20 hg20 hs20 hf20;refine Gz 5 ?_;refine rC hg20 bQ ?_;exact⟨_,rfl,lG hno ((hf1.trans hf9).tw hf20)⟩
  have hsh:¬ r.length<7+m:=fun h=>h91 (tc1.2 h);rw[if_neg hsh] at hcp;obtain⟨c1,c2⟩:=tc2 hsh;rw[c1,c2] at hg11;rw[c2] at ho11;have hxl:((r.drop 7).take m).length=m:=by rw[length_take,length_drop];omega
  refine Gz 7 ?_;refine cL (TI (cs:=ctC x9 ((r.drop 7).take m).length xc9 (bT ((r.drop 3).take 4)) (decide (32768≤n)) ((q:Int)+3+(4+m))) bQ rfl (fun j v hj=>aE hg11 hj)) ?_;refine sA rfl bQ (by exact dY _ _ _ _ _ _) (hF11.obj hg1 id) ?_;intro w20 hg20 hs20 hf20;refine Gz 4 ?_;refine rC hg20 bQ ?_;refine⟨_,rfl,(hf1.trans hF11).tw hf20,?_⟩;rw[hcs,hcp];refine⟨x9,xc9,?_,ho11.WS hf20 (fun a ha h=>by have:=hfr9 a ha;have h:a.block=W.heap.size:=h;omega),fun a ha=>by have:=hfr9 a ha;omega⟩;rw[show (q:Int)+eF ((r.drop 7).take m)=(q:Int)+3+(4+m) by unfold eF;rw[hxl,if_neg (by omega)];omega]
 rw[if_neg (by omega),if_pos (by omega)] at hcp;refine Gz 11 ?_;refine Ts Fe rfl (rI p _ _ w6 hP6) rfl ?_;rintro _ wq ⟨rfl,hwq⟩;subst wq;refine cL (Um (Ub rfl rfl) (fun h=>h rfl)) ?_;refine Gz 7 ?_;refine cL (TI (cs:=ctC none 0 0 0 (decide (32768≤n)) ((q:Int)+3)) bQ rfl (fun j v hj=>aE hg6 hj)) ?_;refine sA rfl bQ (by exact dY _ _ _ _ _ _) (hF6.obj hg1 id) ?_;intro w20 hg20 hs20 hf20;refine Gz 4 ?_;refine rC hg20 bQ ?_;have hmz:decide (32768≤n)=false:=decide_eq_false (by omega);refine⟨_,rfl,(hf1.trans hF6).tw hf20,?_⟩;rw[hcs,hcp,hmz];exact⟨none,0,rfl,WA,Wy⟩
theorem GH{W w':World}{im:By}{a:Int}{v:Value}(h:FnP W im a v w'):∃ po pc x s st nx e,v=.tuple #[.agg (ctC po x.length pc s st nx).toArray,iV e]∧Own b8 5 w'.heap po pc x∧Fr W.heap.size po∧aA nob W w' ∧
 (e≠0→e=2∧nx=0∧dE im a=none)∧(e=0→dE im a=some (x,s,st)∧nx=a+eF x):=by
 obtain⟨hf,h⟩:=h
 split at h
 · rename_i hc
   exact⟨none,0,[],0,false,0,2,h,WA,Wy,hf,fun _=>⟨rfl,rfl,hc⟩,fun h=>by cases h⟩
 · rename_i x s st hc
   obtain⟨po,pc,h1,h2,h3⟩:=h;exact⟨po,pc,x,s,st,_,0,h1,h2,h3,hf,fun h=>absurd rfl h,fun _=>⟨hc,rfl⟩⟩
def Tm(W:World)(r:By×Int×Int):Value→World→Prop:=fun v w'=>∃ o c,v=.tuple #[.slice o r.1.length c,iV r.2.1,iV r.2.2]∧Own b8 5 w'.heap o c r.1∧Fr W.heap.size o∧aA nob W w'
theorem Eh{im:By}{a:Int}(h:dE im a=none):bB im a=([],0,2):=by unfold bB cE;rw[h];rfl
section
variable {im:List UInt8}{a:Int}{x:List UInt8}{s:Nat}{st:Bool}(h:dE im a=some (x,s,st))
include h
theorem Cn(h0:x.length=0):bB im a=([],a+eF x,0):=by
 unfold bB cE;rw[h];simp only;rw[if_pos h0];simp[eF,h0]
theorem G4(h0:¬ x.length=0)(h1:dW x≠s):bB im a=([],0,2):=by
 unfold bB cE;rw[h];simp only;rw[if_neg h0,if_pos h1];rfl
theorem Bg(h0:¬ x.length=0)(h1:¬ dW x≠s)(h2:st=true):bB im a=(x,a+eF x,0):=by
 unfold bB cE;rw[h];simp only;rw[if_neg h0,if_neg h1,if_pos h2];rfl
theorem zU(h0:¬ x.length=0)(h1:¬ dW x≠s)(h2:¬ st=true)(h3:(up 128 x []).2≠0∨(up 128 x []).1.length=0):bB im a=([],0,2):=by
 unfold bB cE;rw[h];simp only;rw[if_neg h0,if_neg h1,if_neg h2,if_pos h3];rfl
theorem IW(h0:¬ x.length=0)(h1:¬ dW x≠s)(h2:¬ st=true)(h3:¬ ((up 128 x []).2≠0∨(up 128 x []).1.length=0)):bB im a=((up 128 x []).1,a+eF x,0):=by
 unfold bB cE;rw[h];simp only;rw[if_neg h0,if_neg h1,if_neg h2,if_neg h3];rfl
end
theorem LS(x:By):upS x 128=up 128 x []:=by unfold upS;rw[if_neg (by decide)]
theorem Lm{r x:By}{s:Nat}{st:Bool}(h:jW r=some (x,s,st)):x.length≤128∧s<4294967296:=by
 unfold jW at h
 split at h
 ·cases h
 · split at h
   ·cases h
   · split at h
     ·cases h
     · split at h
       ·cases h;simp
       · split at h
         ·cases h
         · cases h
           exact⟨by rw[length_take];omega,mS (by rw[length_take];omega)⟩
theorem sM{im:By}{a:Int}{x:By}{s:Nat}{st:Bool}(h:dE im a=some (x,s,st)):x.length≤128∧s<4294967296:=by
 unfold dE at h
 split at h
 ·cases h
 ·exact Lm h
theorem xR(p:Nat)(io:Option Addr)(ic:Nat)(im:By)(a:Int)(W:World)(ht:TbV W.heap p)(hv:Vw b8 W.heap io ic im)(hb:im.length≤1099511627776)(ha:a≤9223372036854775807) :
 CA 123 [pT p,.slice io im.length ic,iV a] W (Tm W (bB im a)):=by
 refine cS 58 [(0,_),(1,_),(2,_)] Tryz.func123 ?_;refine cA 11 N5 (GK io ic im a W hv hb ha) ?_;intro _ w1 hR;obtain⟨po,pc,x,s,st,nx,e,rfl,ho1,hfr1,hf1,hE0,hE1⟩:=GH hR;refine Gz 3 ?_;refine Tz lR rfl ?_;intro w2 hg2 hs2 hf2;refine sA rfl bQ (by exact dY _ _ _ _ _ _) hg2 ?_;intro w3 hg3 hs3 hf3;obtain⟨q,hq⟩:∃ q,q=w1.heap.size:=⟨_,rfl⟩
 rw[←hq] at hg3 ⊢;have hz1:=hf1.size;have hF3:aA nob W w3:=(hf1.trans hf2).tw hf3;have ho3:=(ho1.WR hf2).WS hf3 (fun b hb h=>by have:=ho1.lt b hb;have h:b.block=w1.heap.size:=h;omega);have ht3:TbV w3.heap p:=hF3.obj ht id;refine fK 8 ?_ ?_<;>intro h18
 ·obtain⟨he2,hnx,hcs⟩:=hE0 h18;have hT:=Eh hcs;refine Gz 16 ?_;rw[hT];exact⟨_,rfl,none,0,by rw[he2];rfl,WA,Wy,hF3⟩
 have he:e=0:=Decidable.not_not.1 h18;obtain⟨hcs,hnx⟩:=hE1 he;obtain⟨hxl,hsl⟩:=sM hcs;refine fK 9 ?_ ?_<;>intro h24
 ·have hT:=Cn hcs (by omega);refine Gz 5 ?_;refine TN 5 [0,1,2,3,4] aL (by kernel_rfl) ?_;refine Gz 1 ?_;refine xC rfl (Tu aI rfl (aE hg3 rfl)) ?_;refine Gz 9 ?_;rw[hT];exact⟨_,rfl,none,0,by rw[hnx];rfl,WA,Wy,hF3.draws 1⟩
 have hx0:¬ x.length=0:=by omega
 refine Gz 5 ?_;refine TG 8 (fun H=>H[q]?=some (.cells (ctC po x.length pc s st nx).toArray 253 (0,0))) [3] [0,1,2,4,5,3,6,7] aL (by kernel_rfl) (hg3) ?_;refine Gz 5 ?_;refine Ty rfl rfl (Ts PO rfl (I4 p po pc x _ ht3 ho3.vw) rfl ?_);rintro _ wq ⟨rfl,hwq⟩;subst wq;refine TE (by exact hg3) ?_;refine xK 0 ?_ ?_<;>intro h34
 ·have hT:=G4 hcs hx0 (fun h=>h34 (by rw[h]));refine Gz 15 ?_;rw[hT];exact⟨_,rfl,none,0,rfl,WA,Wy,hF3.draws 1⟩
 have hsum:¬ dW x≠s:=fun h=>h34 (fun h2=>h (by omega));refine Gz 7 ?_;refine TZ (TV (Tu He rfl (aE hg3 rfl))) rfl (fun h37=>?_) (fun h37=>?_)
 ·have hT:=Bg hcs hx0 hsum h37;refine Gz 5 ?_;refine TN 7 [0,1,2,3,4,5,6] aL (by kernel_rfl) ?_;refine Gz 1 ?_;refine xC rfl (Tu aT rfl (aE hg3 rfl)) ?_;refine Gz 1 ?_;refine xC rfl (Tu aI rfl (aE hg3 rfl)) ?_;refine Gz 9 ?_;rw[hT];exact⟨_,rfl,po,pc,by rw[hnx],ho3,hfr1,(hF3.draws 1).draws 1⟩
 refine Gz 11 ?_;refine Ts Qd rfl (GZ po pc x 128 _ ho3.vw (by omega) (by decide)) rfl ?_;rw[LS];rintro _ w5 ⟨o5,c5,rfl,ho5,hfr5,hf5⟩;have hf5:=hf5.WP;have hg5:=hf5.obj hg3 id;refine fK 11 ?_ ?_<;>intro h49
 ·have hT:=zU hcs hx0 hsum h37 (.inl h49);refine Gz 18 ?_;rw[hT];exact⟨_,rfl,none,0,rfl,WA,Wy,hF3.trans hf5⟩
 have hu0:(up 128 x []).2=0:=Decidable.not_not.1 h49;refine fW 3 ?_ ?_<;>intro h53
 ·have hT:=zU hcs hx0 hsum h37 (.inr (by omega));refine Gz 14 ?_;rw[hT];exact⟨_,rfl,none,0,rfl,WA,Wy,hF3.trans hf5⟩
 have hT:=IW hcs hx0 hsum h37 (by rintro(h|h);exact h hu0;omega);refine Gz 7 ?_;refine TN 6 [0,1,2,3,4,5] aL (by kernel_rfl) ?_;refine Gz 2 ?_;refine xC rfl (Tu aI rfl (aE hg5 rfl)) ?_;refine Gz 7 ?_;rw[hT];exact⟨_,rfl,o5,c5,by rw[hnx],ho5,fun b hb=>Nat.le_trans hF3.size (hfr5 b hb),(hF3.trans hf5).draws 1⟩
theorem Eo{im:By}{a:Int}(h:dE im a=none):dH im a=(0,2):=by unfold dH;rw[h]
theorem Em{im:By}{a:Int}{x:By}{s:Nat}{st:Bool}(h:dE im a=some (x,s,st)):dH im a=(a+eF x,0):=by unfold dH;rw[h]
theorem Dw(io:Option Addr)(ic:Nat)(im:By)(a:Int)(W:World)(hv:Vw b8 W.heap io ic im)(hb:im.length≤1099511627776)(ha:a≤9223372036854775807) :
 CA 122 [.slice io im.length ic,iV a] W fun v w'=>v=.tuple #[iV (dH im a).1,iV (dH im a).2]∧aA nob W w':=by
 refine cS 16 [(0,_),(1,_)] Tryz.func122 ?_;refine cA 10 N5 (GK io ic im a W hv hb ha) ?_;intro _ w1 hR;obtain⟨po,pc,x,s,st,nx,e,rfl,ho1,hfr1,hf1,hE0,hE1⟩:=GH hR;have hsk:dH im a=(nx,e):=by
  by_cases he:e=0
  · obtain⟨hcs,hnx⟩:=hE1 he
    rw[Em hcs,hnx,he]
  · obtain⟨he2,hnx,hcs⟩:=hE0 he
    rw[Eo hcs,hnx,he2]
 refine Gz 3 ?_;refine Tz lR rfl ?_;intro w2 hg2 hs2 hf2;refine sA rfl bQ (by exact dY _ _ _ _ _ _) hg2 ?_;intro w3 hg3 hs3 hf3;refine Gz 14 ?_;rw[hsk];exact⟨_,rfl,rfl,(hf1.trans hf2).WO hf3 (fun k hk=>.inr (by have h:k=w1.heap.size:=hk;have:=hf1.size;omega))⟩
theorem Rj:∀ x,x<256→255-x=255 ^^^ x:=by decide +kernel
theorem Ss{x:Nat}(h:x<256):IntKind.u8.wrap (255-(x:Int))=((255 ^^^ x:Nat):Int):=by
 rw[←Rj x h,show (255:Int)-(x:Int)=((255-x:Nat):Int) by omega,IJ (by omega)]
theorem wK(n:Nat)(W:World)(hn:n<65536):CA 101 [iV n] W fun v w'=>∃ o c,v=.slice o (hdB n).length c∧Own b8 5 w'.heap o c (hdB n)∧Fr W.heap.size o∧aA nob W w':=by
 refine cS 17 [(0,_)] Tryz.func101 ?_;refine Gz 8 ?_;refine cL (TD (n:=((n%256:Nat):Int)) is3 ty5 rfl (vS n)) ?_;refine Gz 6 ?_;refine cL (Tw (u:=iV ((n/256:Nat):Int)) (U9 rfl rfl (by omega)) (by rw[KE])) ?_;refine cL (TD (n:=((n/256%256:Nat):Int)) is3 ty5 rfl (vS _)) ?_;refine Gz 9 ?_;refine cL (UX rfl rfl (by omega) (by omega)) ?_;refine cL (Tw (u:=.int .u8 ((255 ^^^ ((n%256) ^^^ (n/256%256)):Nat):Int)) (Vx rfl rfl) (by rw[Ss (oU (by omega) (by omega))])) ?_;refine TS aK (cs:=(hdV n).toArray) zc5 rfl rfl rfl (by kernel_rfl) rfl ?_;intro w1 hg1 hs1 hf1;rw[KG] at hg1;refine Gz 5 ?_;exact⟨_,rfl,_,3,rfl,lD (xs:=hdB n) hg1 (by rw[jU];unfold maxLen;decide),eP _,hf1⟩
theorem lX(ao:Option Addr)(c:Nat)(b:By)(W:World)(hv:Vw b8 W.heap ao c b) :
 CA 54 [.slice ao b.length c] W (zH W (cF b)):=by
 refine cS 42 [(0,_)] Tryz.func54 ?_;refine fK 11 ?_ ?_<;>intro h9
 ·have e:cF b=([],3):=by unfold cF;rw[if_pos (by omega)]
  refine Gz 12 ?_;rw[e];exact⟨_,rfl,none,0,rfl,WA,Wy,Wt _ _⟩
 refine Gz 7 ?_;refine cL (TT qD kW rfl rfl) ?_;refine Tz kW rfl ?_;intro w1 hg1 hs1 hf1;refine sA rfl qS (by simp[Value.oneCell']) hg1 ?_;intro w2 hg2 hs2 hf2;have hF2:aA nob W w2:=hf1.tw hf2;have hP2:WrR (fun k=>W.heap.size≤k) w2.heap W.heap.size 0 []:=WI hg2 (Nat.le_refl _);have hz2:=hF2.size;refine fK 7 ?_ ?_<;>intro h13
 ·have e:cF b=(frS [] 0,0):=by unfold cF;rw[if_neg (by omega),if_pos (by omega)]
  refine Gz 5 ?_;refine Ts K6 rfl (wK 0 w2 (by decide)) rfl ?_;rintro _ w3 ⟨o3,c3,rfl,ho3,hfr3,hf3⟩;refine Gz 7 ?_;rw[e];exact⟨_,rfl,o3,c3,rfl,ho3,hfr3.mono hz2,hF2.trans hf3⟩
 have hb0:0<b.length:=by omega
 have hltA:=NH hv hb0;refine cA 8 QB (Jr ao c b w2 (hv.WR hF2)) ?_;rw[Mt (by omega)];intro _ w3 hP;have hP:Tp _ (pkS b) 0 _ w3:=hP;obtain⟨o3,c3,rfl,ho3,hfr3,hf3⟩:=hP;have hP3:=hP2.shrink hf3;have hF3:=hF2.trans hf3;have hz3:=hf3.size;have hp0:=JZ hb0;obtain⟨D3,hD3⟩:∃ D3:Nat→Prop,D3=fun k=>W.heap.size≤k∧(k<w2.heap.size∨w3.heap.size≤k):=⟨_,rfl⟩
 rw[←hD3] at hP3;have hD3a:∀ k,w3.heap.size≤k→D3 k:=fun k hk=>by rw[hD3];exact⟨by omega,.inr hk⟩
 have hD3b:∀ k,D3 k→W.heap.size≤k:=fun k hk=>by rw[hD3] at hk;exact hk.1
 have hD3c:∀ k,blk o3 k→¬ D3 k:=fun k ⟨a,ha,hk⟩ h=>by rw[hD3] at h;have h2:=h.2;have h3:=hfr3 a ha;have h4:=ho3.lt a ha;omega
 refine Gz 7 ?_;refine TY (β:=Nat×By×Option Addr×Nat) (fun⟨n,x,xo,xc⟩=>[(4,pT W.heap.size),(5,.slice xo x.length xc)]) (fun⟨n,x,xo,xc⟩ w=>cF b=(hdB n++le (dW x:Nat) 4++x,0)∧WrR D3 w.heap W.heap.size 0 (hdB n)∧Vw b8 w.heap xo xc x∧(∀ k,blk xo k→¬ D3 k)∧x.length≤128∧w3.heap.size≤w.heap.size∧aA nob W w) ?_ ?_
 ·refine fK 6 ?_ ?_<;>intro h24
  ·have e:cF b=(hdB (pkS b).length++le (dW (pkS b):Nat) 4++pkS b,0):=by
    have h0:¬ (pkS b).length=0:=by omega
    unfold cF frS;rw[if_neg (by omega),if_neg (by omega),if_pos (by omega),if_neg h0,Nat.add_zero,append_assoc]
   refine Gz 6 ?_;refine Ts K6 rfl (wK (pkS b).length w3 (by omega)) rfl ?_;rintro _ w4 ⟨o4,c4,rfl,ho4,hfr4,hf4⟩;refine Ts KU rfl (lZ D3 W.heap.size 0 [] o4 c4 (hdB (pkS b).length) w4 (hP3.WR hf4) (fun k hk=>hD3a k (Nat.le_trans hf4.size hk)) ho4.vw (by simp) (by simp[jU])) rfl ?_;rintro _ w5 ⟨hP5,hf5⟩;rw[EM,nil_append] at hP5;refine Gz 1 ?_;exact aC ⟨(pkS b).length,pkS b,o3,c3⟩ ⟨e,hP5,(ho3.vw.WR hf4).WS hf5 (fun a ha h=>hD3c _ ⟨a,ha,rfl⟩ h),hD3c,by omega,Nat.le_trans hf4.size hf5.size,(hF3.trans hf4).WO hf5 (fun k h=>.inr (hD3b k h))⟩
  have e:cF b=(hdB (b.length+32768)++le (dW b:Nat) 4++b,0):=by
   have h0:¬ b.length=0:=by omega
   unfold cF frS;rw[if_neg (by omega),if_neg (by omega),if_neg (by omega),if_neg h0,append_assoc]
  refine Gz 13 ?_;rw[show (32768+(b.length:Int))=((b.length+32768:Nat):Int) by omega];refine Ts K6 rfl (wK (b.length+32768) w3 (by omega)) rfl ?_;rintro _ w4 ⟨o4,c4,rfl,ho4,hfr4,hf4⟩;refine Ts KU rfl (lZ D3 W.heap.size 0 [] o4 c4 (hdB (b.length+32768)) w4 (hP3.WR hf4) (fun k hk=>hD3a k (Nat.le_trans hf4.size hk)) ho4.vw (by simp) (by simp[jU])) rfl ?_;rintro _ w5 ⟨hP5,hf5⟩;rw[EM,nil_append] at hP5;refine Gz 1 ?_;exact aC ⟨b.length+32768,b,ao,c⟩ ⟨e,hP5,hv.WR ((hF3.trans hf4).WO hf5 (fun k h=>.inr (hD3b k h))),fun k hk h=>by have:=hltA k hk;have:=hD3b k h;omega,by omega,Nat.le_trans hf4.size hf5.size,(hF3.trans hf4).WO hf5 (fun k h=>.inr (hD3b k h))⟩
 rintro⟨n,x,xo,xc⟩ w6 ⟨e,hP6,hvx,hxD,hxl,hz6,hF6⟩;refine Gz 3 ?_;have hs:=qW x;refine cA 0 PP (F0 xo xc x w6 hvx) ?_;rintro _ wq ⟨rfl,hwq⟩;subst wq;refine cL (TD (n:=((dW x:Nat):Int)) MY ty3 rfl (bG (by omega))) ?_;refine Ts fU rfl (dA D3 W.heap.size 0 (hdB n) (dW x:Nat) 4 w6 hP6 (fun k hk=>hD3a k (Nat.le_trans hz6 hk)) (by rw[jU];decide)) rfl ?_;rintro _ w7 ⟨hP7,hf7⟩;obtain⟨s1,s2⟩:=HG (E:=0) (hdB n) hs rfl;rw[s1,s2] at hP7;have hz7:=hf7.size;have hvx7:=hvx.WS hf7 (fun a ha h=>hxD _ ⟨a,ha,rfl⟩ h);refine Gz 5 ?_;refine Ts KU rfl (lZ D3 W.heap.size 0 _ xo xc x w7 hP7 (fun k hk=>hD3a k (by omega)) hvx7 (by simp only[length_append,jU,aR];omega) (by omega)) rfl ?_;rintro _ w8 ⟨hP8,hf8⟩;rw[EM] at hP8;refine Gz 4 ?_;refine Ts BL rfl (gZ D3 W.heap.size 0 _ w8 hP8 (by simp only[length_append,jU,aR];omega)) rfl ?_;rintro _ w9 ⟨o9,c9,rfl,ho9,hfr9,hf9⟩;rw[Nk] at ho9 ⊢;refine Gz 6 ?_;rw[e];have hF8:aA nob W w8:=(hF6.WO hf7 (fun k h=>.inr (hD3b k h))).WO hf8 (fun k h=>.inr (hD3b k h));exact⟨_,rfl,o9,c9,rfl,ho9,hfr9.mono hF8.size,hF8.trans hf9⟩
theorem sX{b:By}(h:b.length≤128)(pre rest:By):bB (pre++((cF b).1++rest)) pre.length=(b,(pre.length:Int)+(cF b).1.length,0)∧dH (pre++((cF b).1++rest)) pre.length=((pre.length:Int)+(cF b).1.length,0):=by
 obtain⟨h1,_,h3⟩:=Eg h rest;have hc:dE (pre++((cF b).1++rest)) (pre.length:Int)=jW ((cF b).1++rest):=by
  unfold dE;rw[if_neg (by rw[length_append];omega),show ((pre.length:Nat):Int).toNat=pre.length from rfl,List.drop_left' rfl]
 refine⟨?_,?_⟩
 · unfold bB
   rw[hc,h1];rfl
 · unfold dH
   rw[hc]
   split at h3
   · rename_i hn
     rw[hn] at h1;unfold cE at h1;simp only[Prod.mk.injEq] at h1;omega
   · rename_i x s st hn
     simp only[h3]
def bd(z:Int):Prop:=-9223372036854775808≤z∧z≤9223372036854775807
theorem Oi(most:Int):∀ (k:Nat) (b out:By),b.length=k→(out.length:Int)≤most→((up most b out).1.length:Int)≤most:=by
 intro k
 induction k using Nat.strongRecOn with
|ind k ih=>
   intro b out hk ho;by_cases h0:0<b.length
   · have hm:(0:Int)≤most:=by omega
     obtain⟨t,ht⟩:∃ t,t=(b.getD 0 0).toNat:=⟨_,rfl⟩
     have ht2:=(b.getD 0 0).toNat_lt;by_cases h:t<128
     · rw[B9 h0 ht h]
       split
       ·simpa using hm
       · split
         ·simpa using hm
         · refine ih _ ?_ (b.drop (t+2)) _ rfl ?_
           ·rw[length_drop];omega
           ·rw[length_append,length_take,length_drop];omega
     · rw[Ca h0 ht rfl h]
       split
       ·simpa using hm
       · split
         ·simpa using hm
         · split
           ·simpa using hm
           · refine ih _ ?_ (b.drop 2) _ rfl ?_
             ·rw[length_drop];omega
             ·rw[yG];omega
   · have:b=[]:=eq_nil_of_length_eq_zero (by omega)
     subst this;rw[qA];exact ho
theorem zT(im:By)(a:Int):(bB im a).1.length≤128:=by
 unfold bB cE;simp only
 split
 ·simp
 · rename_i x s st h
   have h1:=(sM h).1;have h2:=Oi 128 _ x [] rfl (by simp)
   split
   ·simp
   · split
     ·simp
     · split
       ·exact h1
       · split
         ·simp
         ·simp only;omega
def aY(f t:By):By×By:=if 128≤t.length then aY (f++(cF (t.take 128)).1) (t.drop 128) else (f,t)
termination_by t.length
decreasing_by rw[length_drop];omega
def nK(f t:By):By:=if t.length=0 then f else f++(cF t).1
theorem cZ{f t:By}(h:t.length<128):aY f t=(f,t):=by unfold aY;rw[if_neg (by omega)]
theorem mK{f t:By}(h:128≤t.length):aY f t=aY (f++(cF (t.take 128)).1) (t.drop 128):=by rw[aY,if_pos h]
theorem gM(f t:By):(aY f t).2.length<128:=by
 by_cases h:128≤t.length
 ·rw[mK h];exact gM _ _
 ·rw[cZ (by omega)];show t.length<128;omega
termination_by t.length
decreasing_by rw[length_drop];omega
theorem sL(f t b:By):aY f (t++b)=aY (aY f t).1 ((aY f t).2++b):=by
 by_cases h:128≤t.length
 · rw[mK h,mK (t:=t++b) (by rw[length_append];omega),List.take_append_of_le_length h,List.drop_append_of_le_length h]
   exact sL _ _ _
 ·rw[cZ (t:=t) (by omega)]
termination_by t.length
decreasing_by rw[length_drop];omega
theorem uE{t:By}(h:128≤t.length):(t.take 128).length=128:=by rw[length_take];omega
theorem sK(f t:By):(aY f t).1.length+2*(aY f t).2.length≤f.length+2*t.length:=by
 by_cases h:128≤t.length
 · have h1:=sK (f++(cF (t.take 128)).1) (t.drop 128)
   have h2:=fS (b:=t.take 128) (by rw[uE h];omega);rw[uE h] at h2;rw[length_append,length_drop] at h1;rw[mK h];omega
 ·rw[cZ (by omega)];exact Nat.le_refl _
termination_by t.length
decreasing_by rw[length_drop];omega
theorem Io{f t:By}(h:t.length=128):aY f t=(f++(cF t).1,[]):=by
 rw[mK (by omega),take_of_length_le (by omega),List.drop_of_length_le (by omega),cZ (by simp)]
def chW(T:By)(q:Nat):By:=(T.drop (128*q)).take 128
def frW(T:By):Nat→By
|0=>[]
|q+1=>frW T q++(cF (chW T q)).1
def nF(T:By):Nat:=(T.length+127)/128
def aN(T:By)(o:Nat):Nat:=256*(frW T (o/128)).length+o%128
theorem pI(T:By)(q:Nat):(chW T q).length=min 128 (T.length-128*q):=by unfold chW;rw[length_take,length_drop]
theorem BT(T:By)(q:Nat):(chW T q).length≤128:=by rw[pI];omega
theorem BK(T:By)(q:Nat):∀ k,∃ z,frW T (q+k)=frW T q++z
|0=>⟨[],by simp⟩
|k+1=>by
   obtain⟨z,hz⟩:=BK T q k;exact⟨z++(cF (chW T (q+k))).1,by rw[←Nat.add_assoc];show frW T (q+k)++_=_;rw[hz,append_assoc]⟩
theorem Ib{T:By}{q n:Nat}(h:q<n):∃ z,frW T n=frW T q++((cF (chW T q)).1++z):=by
 obtain⟨z,hz⟩:=BK T (q+1) (n-(q+1));rw[show q+1+(n-(q+1))=n by omega] at hz;exact⟨z,by rw[hz];show (frW T q++_)++z=_;rw[append_assoc]⟩
theorem xS{T:By}{q n:Nat}(h:q≤n):(frW T q).length≤(frW T n).length:=by
 obtain⟨z,hz⟩:=BK T q (n-q);rw[show q+(n-q)=n by omega] at hz;rw[hz,length_append];omega
theorem tU(T:By):∀ q,(frW T q).length≤135*q
|0=>by simp[frW]
|q+1=>by
   have:=tU T q;have h1:=fS (BT T q);have h2:=BT T q;show (frW T q++_).length≤_;rw[length_append];omega
theorem O5{T:By}(q:Nat):(frW T q).length<(frW T (q+1)).length:=by
 have h1:=fS (BT T q);show _<(frW T q++_).length;rw[length_append];omega
theorem Lw{T:By}{o q:Nat}(h:128*q+128≤o):chW (T.take o) q=chW T q:=by
 unfold chW;rw[List.drop_take,take_take,Nat.min_eq_left (by omega)]
theorem Dx{T:By}{o:Nat}:∀ q,128*q≤o→frW (T.take o) q=frW T q
|0,_=>rfl
|q+1,h=>by
   show frW (T.take o) q++_=frW T q++_;rw[Dx q (by omega),Lw (by omega)]
theorem DF(T:By)(q:Nat)(h:128*q≤T.length):aY (frW T q) (T.drop (128*q))=(frW T (T.length/128),T.drop (128*(T.length/128))):=by
 by_cases h1:128≤(T.drop (128*q)).length
 · have h2:=h1
   rw[length_drop] at h2;rw[mK h1,drop_drop];exact DF T (q+1) (by omega)
 · rw[cZ (by omega)]
   rw[length_drop] at h1;rw[show T.length/128=q by omega]
termination_by T.length-128*q
decreasing_by rw[length_drop] at h1;omega
theorem DG(T:By):aY [] T=(frW T (T.length/128),T.drop (128*(T.length/128))):=DF T 0 (by omega)
theorem AO(T:By):nK (aY [] T).1 (aY [] T).2=frW T (nF T):=by
 rw[DG];unfold nK nF;simp only[length_drop];by_cases h:T.length-128*(T.length/128)=0
 ·rw[if_pos h,show (T.length+127)/128=T.length/128 by omega]
 · rw[if_neg h,show (T.length+127)/128=T.length/128+1 by omega]
   show _=frW T _++_;unfold chW;rw[take_of_length_le (by rw[length_drop];omega)]
theorem CK(T:By):aN T T.length=256*(aY [] T).1.length+(aY [] T).2.length:=by
 rw[DG];unfold aN;simp only[length_drop];omega
theorem Ai{T:By}{o:Nat}(h:o≤T.length):aN T o=aN (T.take o) (T.take o).length:=by
 unfold aN;rw[length_take,Nat.min_eq_left h,Dx _ (by omega)]
theorem JC{T:By}{o:Nat}(h:o≤1099511627776):aN T o≤1152921504606846976:=by
 have:=tU T (o/128);unfold aN;omega
def fF(im:By)(fr to:Int):Bool:=decide (0≤fr) && decide (fr≤to) && decide (to≤im.length)
def cB(im:By)(fr to at_:Int):Option (By×Int):=
 if to-fr<at_ then none else
 if (bB im (fr+at_)).2.2≠0∨to<(bB im (fr+at_)).2.1∨(bB im (fr+at_)).1.length=0 then none else
 some ((bB im (fr+at_)).1,(bB im (fr+at_)).2.1-fr)
def rdL(im:By)(fr to:Int)(n:Nat)(at_:Int)(i:Nat)(out:By):By×Int×Int:=
 if out.length<n then
  match cB im fr to at_ with
 |none=>([],0,2)
 |some (b,nx)=>if b.length≤i then ([],0,2) else
    if i+((b.drop i).take (n-out.length)).length=128 then rdL im fr to n nx 0 (out++(b.drop i).take (n-out.length)) else
    if (out++(b.drop i).take (n-out.length)).length<n then ([],0,2) else
    rdL im fr to n at_ (i+((b.drop i).take (n-out.length)).length) (out++(b.drop i).take (n-out.length))
 else (out,256*at_+i,0)
termination_by n-out.length
decreasing_by
 all_goals (rw[length_append,length_take,length_drop];omega)
def aD(im:By)(fr to ref n:Int):By×Int×Int:=
 if ref<0∨n<0 then ([],0,1) else if fF im fr to=false then ([],0,2) else rdL im fr to n.toNat (ref/256) (ref%256).toNat []
section
variable {im:List UInt8}{fr to:Int}{n:Nat}{at_:Int}{i:Nat}{out b:List UInt8}{nx:Int}
theorem lA(h:¬ out.length<n):rdL im fr to n at_ i out=(out,256*at_+i,0):=by unfold rdL;rw[if_neg h]
theorem lY(h:out.length<n)(hh:cB im fr to at_=none):rdL im fr to n at_ i out=([],0,2):=by
 unfold rdL;rw[if_pos h,hh]
theorem pB(h:out.length<n)(hh:cB im fr to at_=some (b,nx))(hi:b.length≤i):rdL im fr to n at_ i out=([],0,2):=by
 unfold rdL;rw[if_pos h,hh];simp only;rw[if_pos hi]
theorem kL(h:out.length<n)(hh:cB im fr to at_=some (b,nx))(hi:¬ b.length≤i)(h1:i+((b.drop i).take (n-out.length)).length=128) :
 rdL im fr to n at_ i out=rdL im fr to n nx 0 (out++(b.drop i).take (n-out.length)):=by
 rw[rdL,if_pos h,hh];simp only;rw[if_neg hi,if_pos h1]
theorem pC(h:out.length<n)(hh:cB im fr to at_=some (b,nx))(hi:¬ b.length≤i)(h1:¬ i+((b.drop i).take (n-out.length)).length=128)
 (h2:(out++(b.drop i).take (n-out.length)).length<n):rdL im fr to n at_ i out=([],0,2):=by
 rw[rdL,if_pos h,hh];simp only;rw[if_neg hi,if_neg h1,if_pos h2]
theorem tI(h:out.length<n)(hh:cB im fr to at_=some (b,nx))(hi:¬ b.length≤i)(h1:¬ i+((b.drop i).take (n-out.length)).length=128)
 (h2:¬ (out++(b.drop i).take (n-out.length)).length<n):rdL im fr to n at_ i out=rdL im fr to n at_ (i+((b.drop i).take (n-out.length)).length) (out++(b.drop i).take (n-out.length)):=by
 rw[rdL,if_pos h,hh];simp only;rw[if_neg hi,if_neg h1,if_neg h2]
theorem vX{a:Int}(h:(bB im a).2.2=0):a+3≤(bB im a).2.1:=by
 have e:(bB im a).2.1=if (cE (dE im a)).2.2=0 then a+(cE (dE im a)).2.1 else 0:=rfl
 have e2:(cE (dE im a)).2.2=0:=h;rw[e,if_pos e2]
 have:3≤(cE (dE im a)).2.1:=by
  unfold cE at e2 ⊢
  split
  ·rename_i hn;rw[hn] at e2;simp at e2
  · rename_i x s st hn
    rw[hn] at e2;simp only at e2;by_cases h0:x.length=0
    ·rw[if_pos h0];exact Nat.le_refl _
    · rw[if_neg h0] at e2 ⊢
      by_cases h1:dW x≠s
      ·rw[if_pos h1] at e2;simp at e2
      · rw[if_neg h1] at e2 ⊢
        have hl:3≤eF x:=by unfold eF;rw[if_neg h0];omega
        split
        ·exact hl
        · rename_i hst
          rw[if_neg hst] at e2
          split
          ·rename_i hb;rw[if_pos hb] at e2;simp at e2
          ·exact hl
 omega
theorem eZ(h:cB im fr to at_=some (b,nx)):at_≤to-fr∧(bB im (fr+at_)).2.2=0∧b=(bB im (fr+at_)).1∧nx=(bB im (fr+at_)).2.1-fr∧nx≤to-fr∧at_+3≤nx∧0<b.length∧b.length≤128:=by
 unfold cB at h
 split at h
 ·cases h
 · split at h
   ·cases h
   · rename_i h1 h2
     have h3:(bB im (fr+at_)).2.2=0:=byContradiction fun hn=>h2 (.inl hn);have h4:=vX h3;have h5:=zT im (fr+at_);cases h;exact⟨by omega,h3,rfl,rfl,by omega,by omega,by omega,h5⟩
end
theorem vE{im:By}{fr to:Int}{x:Bool}(h:x=true↔0≤fr∧fr≤to∧to≤im.length):x=fF im fr to:=by
 rw[Bool.eq_iff_iff,h];unfold fF;simp only[Bool.and_eq_true,decide_eq_true_eq];omega
section
variable (T pre post:List UInt8)
def imW:By:=pre++(frW T (nF T)++post)
def toW:Int:=(pre.length:Int)+(frW T (nF T)).length
theorem Kl:fF (imW T pre post) pre.length (toW T pre)=true:=by
 unfold fF imW toW;simp only[length_append,Bool.and_eq_true,decide_eq_true_eq];omega
theorem Ol{q:Nat}(h:q<nF T):bB (imW T pre post) ((pre.length:Int)+(frW T q).length)=(chW T q,(pre.length:Int)+(frW T (q+1)).length,0)∧dH (imW T pre post) ((pre.length:Int)+(frW T q).length)=((pre.length:Int)+(frW T (q+1)).length,0):=by
 obtain⟨z,hz⟩:=Ib (T:=T) h;have h1:=sX (BT T q) (pre++frW T q) (z++post);have e:imW T pre post=(pre++frW T q)++((cF (chW T q)).1++(z++post)):=by unfold imW;rw[hz];simp[append_assoc]
 have e2:(((pre++frW T q).length:Nat):Int)=(pre.length:Int)+(frW T q).length:=by rw[length_append];omega
 have e3:(frW T (q+1)).length=(frW T q).length+(cF (chW T q)).1.length:=by show (frW T q++_).length=_;rw[length_append]
 rw[←e,e2] at h1;rw[e3];refine⟨h1.1.trans ?_,h1.2.trans ?_⟩
 ·congr 2;omega
 ·congr 1;omega
theorem BH{q:Nat}(h:q<nF T):cB (imW T pre post) pre.length (toW T pre) (frW T q).length=some (chW T q,((frW T (q+1)).length:Int)):=by
 obtain⟨h1,_⟩:=Ol T pre post h;have h2:=xS (T:=T) (Nat.le_of_lt h);have h3:=xS (T:=T) (show q+1≤nF T from h);have h4:0<(chW T q).length:=by rw[pI];unfold nF at h;omega
 unfold cB toW;rw[if_neg (by omega),h1];simp only;rw[if_neg (by omega)];congr 2;omega
theorem H8:cB (imW T pre post) pre.length (toW T pre) (frW T (nF T)).length=none:=by
 unfold cB
 split
 ·rfl
 · by_cases h:(bB (imW T pre post) ((pre.length:Int)+(frW T (nF T)).length)).2.2=0
   · have:=vX h
     rw[if_pos (.inr (.inl (by unfold toW;omega)))]
   ·rw[if_pos (.inl h)]
theorem Lx{o:Nat}(h:o<T.length):o/128<nF T∧o%128<(chW T (o/128)).length:=by
 rw[pI];unfold nF;omega
theorem Fm(l:By)(a b c:Nat)(h:a+b=c):(l.drop a).drop b=l.drop c:=by rw[drop_drop,h]
theorem Sw(m:Nat):∀ (o:Nat) (out:By),o+m≤T.length →
 rdL (imW T pre post) pre.length (toW T pre) (out.length+m) (frW T (o/128)).length (o%128) out=(out++(T.drop o).take m,((aN T (o+m):Nat):Int),0):=by
 induction m using Nat.strongRecOn with
|ind m ih=>
   intro o out h;by_cases h0:m=0
   · subst h0
     rw[lA (by omega)];unfold aN;simp
   · obtain⟨c1,c2⟩:=Lx T (o:=o) (by omega)
     have hh:=BH T pre post c1;have hlen:=pI T (o/128);have hp:((chW T (o/128)).drop (o%128)).take (out.length+m-out.length)=(T.drop o).take (min (128-o%128) m):=by
      unfold chW;rw[List.drop_take,Fm T (128*(o/128)) (o%128) o (by omega),take_take];congr 1;omega
     have hpl:((T.drop o).take (min (128-o%128) m)).length=min (128-o%128) m:=by rw[length_take,length_drop];omega
     have key:(out++(T.drop o).take (min (128-o%128) m))++(T.drop (o+min (128-o%128) m)).take (m-min (128-o%128) m)=out++(T.drop o).take m:=by
      rw[append_assoc];congr 1;have:=take_append_drop (min (128-o%128) m) ((T.drop o).take m);rw[take_take,List.drop_take,drop_drop,Nat.min_eq_left (by omega)] at this;exact this
     by_cases hk:o%128+min (128-o%128) m=128
     · rw[kL (by omega) hh (by omega) (by rw[hp,hpl];exact hk),hp]
       have e:=ih (m-min (128-o%128) m) (by omega) (o+min (128-o%128) m) (out++(T.drop o).take (min (128-o%128) m)) (by omega);rw[key,length_append,hpl,show out.length+min (128-o%128) m+(m-min (128-o%128) m)=out.length+m by omega,show (o+min (128-o%128) m)/128=o/128+1 by omega,show (o+min (128-o%128) m)%128=0 by omega,
        show o+min (128-o%128) m+(m-min (128-o%128) m)=o+m by omega] at e
       exact e
     · have hm:min (128-o%128) m=m:=by omega
       rw[tI (by omega) hh (by omega) (by rw[hp,hpl];exact hk) (by rw[hp,length_append,hpl];omega),hp,hpl,hm];rw[lA (by rw[length_append,length_take,length_drop];omega)];congr 2;unfold aN;rw[show (o+m)/128=o/128 by omega];omega
theorem EG{o m:Nat}(h:o+m≤T.length):aD (imW T pre post) pre.length (toW T pre) (aN T o:Nat) (m:Nat)=((T.drop o).take m,((aN T (o+m):Nat):Int),0):=by
 unfold aD;have e1:((aN T o:Nat):Int)/256=(frW T (o/128)).length:=by unfold aN;omega
 have e2:(((aN T o:Nat):Int)%256).toNat=o%128:=by unfold aN;omega
 rw[if_neg (by omega),if_neg (by rw[Kl];simp),e1,e2,Int.toNat_natCast];have:=Sw T pre post m o [] h;rw[length_nil,Nat.zero_add,nil_append] at this;exact this
theorem Mm(m:Nat):∀ (o:Nat) (out:By),o≤T.length→T.length<o+m →
 rdL (imW T pre post) pre.length (toW T pre) (out.length+m) (frW T (o/128)).length (o%128) out=([],0,2):=by
 induction m using Nat.strongRecOn with
|ind m ih=>
   intro o out ho h;by_cases hT:o=T.length
   · by_cases h0:o%128=0
     · rw[show o/128=nF T by unfold nF;omega]
       exact lY (by omega) (H8 T pre post)
     ·exact pB (by omega) (BH T pre post (q:=o/128) (by unfold nF;omega)) (by rw[pI];omega)
   · obtain⟨c1,c2⟩:=Lx T (o:=o) (by omega)
     have hh:=BH T pre post c1;have hlen:=pI T (o/128);obtain⟨x,hx⟩:∃ x,x=((chW T (o/128)).drop (o%128)).take (out.length+m-out.length):=⟨_,rfl⟩
     have hxl:x.length=min ((chW T (o/128)).length-o%128) m:=by rw[hx,length_take,length_drop];omega
     by_cases hk:o%128+x.length=128
     · rw[kL (by omega) hh (by omega) (by rw[←hx];exact hk),←hx]
       have e:=ih (m-x.length) (by omega) (o+x.length) (out++x) (by omega) (by omega);rw[length_append,show out.length+x.length+(m-x.length)=out.length+m by omega,show (o+x.length)/128=o/128+1 by omega,show (o+x.length)%128=0 by omega] at e;exact e
     ·exact pC (by omega) hh (by omega) (by rw[←hx];exact hk) (by rw[←hx,length_append];omega)
theorem Ht{o m:Nat}(ho:o≤T.length)(h:T.length<o+m):aD (imW T pre post) pre.length (toW T pre) (aN T o:Nat) (m:Nat)=([],0,2):=by
 unfold aD;have e1:((aN T o:Nat):Int)/256=(frW T (o/128)).length:=by unfold aN;omega
 have e2:(((aN T o:Nat):Int)%256).toNat=o%128:=by unfold aN;omega
 rw[if_neg (by omega),if_neg (by rw[Kl];simp),e1,e2,Int.toNat_natCast];have:=Mm T pre post m o [] ho h;rw[length_nil,Nat.zero_add] at this;exact this
end
theorem vG(T:By):imW T [] []=frW T (nF T):=by unfold imW;simp
theorem uV(T:By):toW T []=(frW T (nF T)).length:=by unfold toW;simp
section
variable {im:List UInt8}{fr to:Int}
theorem Mo(n:Nat)(B:Int)(hB:256*(to-fr)+128≤B)(m:Nat):∀ (at_:Int) (i:Nat) (out:By),n-out.length=m→0≤at_→256*at_+i≤B →
 rdL im fr to n at_ i out=([],0,2)∨((rdL im fr to n at_ i out).2.2=0∧(out.length≤n→(rdL im fr to n at_ i out).1.length=n)∧(∃ z,(rdL im fr to n at_ i out).1=out++z)∧0≤(rdL im fr to n at_ i out).2.1∧(rdL im fr to n at_ i out).2.1≤B):=by
 induction m using Nat.strongRecOn with
|ind m ih=>
   intro at_ i out hm h0 hb;by_cases h:out.length<n
   · cases hh:cB im fr to at_ with
    |none=>exact .inl (lY h hh)
    |some p=>
       obtain⟨b,nx⟩:=p;by_cases hi:b.length≤i
       ·exact .inl (pB h hh hi)
       · obtain⟨s1,s2,s3,s4,s5,s6,s7,s8⟩:=eZ hh
         obtain⟨x,hx⟩:∃ x,x=(b.drop i).take (n-out.length):=⟨_,rfl⟩
         have hxl:x.length=min (b.length-i) (n-out.length):=by rw[hx,length_take,length_drop];omega
         have hal:(out++x).length=out.length+x.length:=length_append;by_cases h1:i+x.length=128
         · rw[kL h hh hi (by rw[←hx];exact h1),←hx]
           rcases ih (n-(out++x).length) (by omega) nx 0 (out++x) rfl (by omega) (by omega) with h2|⟨h2,h3,⟨z,h4⟩,h5⟩
           ·exact .inl h2
           ·exact .inr ⟨h2,fun _=>h3 (by omega),⟨x++z,by rw[h4,append_assoc]⟩,h5⟩
         · by_cases h2:(out++x).length<n
           ·exact .inl (pC h hh hi (by rw[←hx];exact h1) (by rw[←hx];exact h2))
           · rw[tI h hh hi (by rw[←hx];exact h1) (by rw[←hx];exact h2),←hx]
             rcases ih (n-(out++x).length) (by omega) at_ (i+x.length) (out++x) rfl h0 (by omega) with h3|⟨h3,h4,⟨z,h5⟩,h6⟩
             ·exact .inl h3
             ·exact .inr ⟨h3,fun _=>h4 (by omega),⟨x++z,by rw[h5,append_assoc]⟩,h6⟩
   · rw[lA h]
     exact .inr ⟨rfl,fun h3=>by show out.length=n;omega,⟨[],by simp⟩,by show 0≤256*at_+i;omega,hb⟩
theorem HZ(h:fF im fr to=true):0≤fr∧fr≤to∧to≤im.length:=by
 unfold fF at h;simp only[Bool.and_eq_true,decide_eq_true_eq] at h;omega
theorem tG(ref n:Int):aD im fr to ref n=([],0,1)∨aD im fr to ref n=([],0,2) ∨
 ((aD im fr to ref n).2.2=0∧0≤ref∧0≤n∧fF im fr to=true∧((aD im fr to ref n).1.length:Int)=n∧0≤(aD im fr to ref n).2.1∧(aD im fr to ref n).2.1≤max ref (256*im.length+128)):=by
 by_cases h1:ref<0∨n<0
 ·left;unfold aD;rw[if_pos h1]
 · by_cases h2:fF im fr to=false
   ·right;left;unfold aD;rw[if_neg h1,if_pos h2]
   · have h3:fF im fr to=true:=by simpa using h2
     obtain⟨m1,m2,m3⟩:=HZ h3;have e:aD im fr to ref n=rdL im fr to n.toNat (ref/256) (ref%256).toNat []:=by unfold aD;rw[if_neg h1,if_neg h2]
     rw[e];rcases Mo (im:=im) (fr:=fr) (to:=to) n.toNat (max ref (256*im.length+128)) (by omega) _ (ref/256) (ref%256).toNat [] rfl (by omega) (by omega) with h|⟨h,h4,_,h5,h6⟩
     ·exact .inr (.inl h)
     ·exact .inr (.inr ⟨h,by omega,by omega,h3,by rw[h4 (Nat.zero_le _)];omega,h5,h6⟩)
theorem eC{ref n:Int}(h:(aD im fr to ref n).2.2=0):0≤ref∧0≤n∧fF im fr to=true∧((aD im fr to ref n).1.length:Int)=n∧0≤(aD im fr to ref n).2.1∧(aD im fr to ref n).2.1≤max ref (256*im.length+128):=by
 rcases tG (im:=im) (fr:=fr) (to:=to) ref n with e|e|e
 ·rw[e] at h;cases h
 ·rw[e] at h;cases h
 ·exact e.2
theorem EH{ref:Int}(h:0≤ref)(hm:fF im fr to=true):aD im fr to ref 0=([],ref,0):=by
 unfold aD;rw[if_neg (by omega),if_neg (by rw[hm];simp),lA (by simp)];congr 2;omega
end
def aZ(F:Nat→Int)(T:By):List Value:=[iV (F 0),iV (F 1),iV (F 2),iV (F 3),iV (F 4),iV (F 5),iV (F 6),iV (F 7),iV (F 8),iV (F 9),.string (bs T)]
theorem dQ(F:Nat→Int)(T:By):∀ v∈aZ F T,v.oneCell'=true:=by simp[aZ,Value.oneCell']
theorem xL(F:Nat→Int)(T:By){o:Nat}(h:o<10):(aZ F T)[o]?=some (iV (F o)):=by
 match o,h with
|0,_|1,_|2,_|3,_|4,_|5,_|6,_|7,_|8,_|9,_=>rfl
def upd(F:Nat→Int)(o:Nat)(z:Int):Nat→Int:=fun q=>if q=o then z else F q
theorem xJ(F:Nat→Int)(T:By){o:Nat}(h:o<10)(z:Int):(aZ F T).set o (iV z)=aZ (upd F o z) T:=by
 match o,h with
|0,_|1,_|2,_|3,_|4,_|5,_|6,_|7,_|8,_|9,_=>simp[aZ,upd]
theorem KB{F G:Nat→Int}{T U:By}(h:aZ F T=aZ G U):(∀ o,o<10→F o=G o)∧T=U:=by
 refine⟨fun o ho=>?_,?_⟩
 · have h1:=xL F T ho
   rw[h,xL G U ho] at h1;simpa using h1.symm
 · simp only[aZ,List.cons.injEq,Value.string.injEq,and_true] at h
   exact Pg h.2.2.2.2.2.2.2.2.2.2
theorem MZ{F G:Nat→Int}{T U:By}(h:∀ o,o<10→F o=G o)(h2:T=U):aZ F T=aZ G U:=by
 subst h2;simp only[aZ,h 0 (by decide),h 1 (by decide),h 2 (by decide),h 3 (by decide),h 4 (by decide),h 5 (by decide),h 6 (by decide),h 7 (by decide),h 8 (by decide),h 9 (by decide)]
theorem KC{F G:Nat→Int}{T U:By}(h:∀ o,o<11→(aZ F T)[o]?=(aZ G U)[o]?):aZ F T=aZ G U:=by
 apply List.ext_getElem?;intro i;by_cases hi:i<11
 ·exact h i hi
 ·rw[List.getElem?_eq_none (by simp[aZ];omega),List.getElem?_eq_none (by simp[aZ];omega)]
structure Fd where
 f:Nat
 o:Nat
 b:Int
 m:Int
def fdV(x:Fd):List Value:=[.func (.func x.f) #[] #[],iV x.b,iV x.m]
theorem eK:iF 3 fdV:=fun x=>⟨rfl,by simp[fdV,Value.oneCell']⟩
def pO:List Fd:=[⟨175,1,2,511⟩,⟨176,2,2,2047⟩,⟨177,3,2,2047⟩,⟨178,4,2,1024⟩,⟨179,5,4,4294967295⟩]
def uS:List Fd:=[⟨158,6,4,4294967295⟩,⟨159,7,2,4096⟩,⟨160,8,2,1024⟩,⟨161,9,1,127⟩]
def sI:List Fd:=[⟨158,6,4,4294967295⟩,⟨159,7,4,1048576⟩]
def fH(k:Int):List Fd:=if k=2 then uS else if k=1 then sI else []
def bC(k:Int):List Fd:=pO++fH k
def fd0:Fd:=⟨175,1,2,511⟩
theorem K7{k:Int}{x:Fd}(h:x∈fH k):x∈uS∨x∈sI:=by
 unfold fH at h
 split at h
 ·exact .inl h
 · split at h
   ·exact .inr h
   ·cases h
theorem JH{k:Int}{x:Fd}(h:x∈bC k):x∈pO∨x∈uS∨x∈sI:=by
 rcases mem_append.1 h with h|h
 ·exact .inl h
 ·exact .inr (K7 h)
theorem kK(k:Int):(bC k).length≤9:=by
 unfold bC fH
 split
 ·decide
 ·split<;>decide
theorem rL{k:Int}{i:Nat}(h:i<(bC k).length):(bC k).getD i fd0∈bC k:=by
 rw[List.getD,List.getElem?_eq_getElem h];exact List.getElem_mem h
def zI(f o:Nat):Prop:=fnB Tryz.prog f=true∧o<10∧0<o∧∀ (b:Nat) (W:World),Calls Tryz.prog f [pT b].toArray W (Ret fun v w'=>v=.pointer (some ⟨b,o,none⟩)∧w'=W)
theorem jT(b o:Nat):Value.pointer (some ((⟨b,0,none⟩:Addr).add o))=.pointer (some ⟨b,o,none⟩):=by rw[Addr.add_lit,Nat.zero_add]
theorem ON:zI 175 1:=by
 refine⟨P2,by decide,by decide,fun b W=>?_⟩;refine cS 6 [(0,_)] Tryz.func175 ?_;refine Gz 15 ?_;exact⟨_,rfl,jT b 1,rfl⟩
theorem OM:zI 176 2:=by
 refine⟨PZ,by decide,by decide,fun b W=>?_⟩;refine cS 6 [(0,_)] Tryz.func176 ?_;refine Gz 15 ?_;exact⟨_,rfl,jT b 2,rfl⟩
theorem OL:zI 177 3:=by
 refine⟨PY,by decide,by decide,fun b W=>?_⟩;refine cS 6 [(0,_)] Tryz.func177 ?_;refine Gz 15 ?_;exact⟨_,rfl,jT b 3,rfl⟩
theorem OK:zI 178 4:=by
 refine⟨PX,by decide,by decide,fun b W=>?_⟩;refine cS 6 [(0,_)] Tryz.func178 ?_;refine Gz 15 ?_;exact⟨_,rfl,jT b 4,rfl⟩
theorem OJ:zI 179 5:=by
 refine⟨PW,by decide,by decide,fun b W=>?_⟩;refine cS 6 [(0,_)] Tryz.func179 ?_;refine Gz 15 ?_;exact⟨_,rfl,jT b 5,rfl⟩
theorem J3:zI 158 6:=by
 refine⟨Qb,by decide,by decide,fun b W=>?_⟩;refine cS 6 [(0,_)] Tryz.func158 ?_;refine Gz 15 ?_;exact⟨_,rfl,jT b 6,rfl⟩
theorem J2:zI 159 7:=by
 refine⟨Qa,by decide,by decide,fun b W=>?_⟩;refine cS 6 [(0,_)] Tryz.func159 ?_;refine Gz 15 ?_;exact⟨_,rfl,jT b 7,rfl⟩
theorem OI:zI 160 8:=by
 refine⟨P9,by decide,by decide,fun b W=>?_⟩;refine cS 6 [(0,_)] Tryz.func160 ?_;refine Gz 15 ?_;exact⟨_,rfl,jT b 8,rfl⟩
theorem OH:zI 161 9:=by
 refine⟨P8,by decide,by decide,fun b W=>?_⟩;refine cS 6 [(0,_)] Tryz.func161 ?_;refine Gz 15 ?_;exact⟨_,rfl,jT b 9,rfl⟩
theorem gX{k:Int}{x:Fd}(h:x∈bC k):zI x.f x.o∧1≤x.b∧x.b≤4∧0≤x.m∧x.m<2 ^ (8*x.b).toNat:=by
 rcases JH h with h|h|h
 · simp only[pO,mem_cons,not_mem_nil,or_false] at h
   rcases h with rfl|rfl|rfl|rfl|rfl
   ·exact⟨ON,by decide,by decide,by decide,by decide⟩
   ·exact⟨OM,by decide,by decide,by decide,by decide⟩
   ·exact⟨OL,by decide,by decide,by decide,by decide⟩
   ·exact⟨OK,by decide,by decide,by decide,by decide⟩
   ·exact⟨OJ,by decide,by decide,by decide,by decide⟩
 · simp only[uS,mem_cons,not_mem_nil,or_false] at h
   rcases h with rfl|rfl|rfl|rfl
   ·exact⟨J3,by decide,by decide,by decide,by decide⟩
   ·exact⟨J2,by decide,by decide,by decide,by decide⟩
   ·exact⟨OI,by decide,by decide,by decide,by decide⟩
   ·exact⟨OH,by decide,by decide,by decide,by decide⟩
 · simp only[sI,mem_cons,not_mem_nil,or_false] at h
   rcases h with rfl|rfl
   ·exact⟨J3,by decide,by decide,by decide,by decide⟩
   ·exact⟨J2,by decide,by decide,by decide,by decide⟩
def FdP(W:World)(L:List Fd):Value→World→Prop:=fun v w'=>∃ ao c,v=.slice ao L.length c∧bF 3 fdV 242 w'.heap ao c L∧Fr W.heap.size ao∧aA nob W w'
theorem AT(W:World):CA 162 [] W (FdP W pO):=by
 refine cS 7 [] Tryz.func162 ?_;refine Gz 7 ?_;refine cL (bU (fdV ⟨175,1,2,511⟩) kM iY) ?_;refine cL (bU (fdV ⟨176,2,2,2047⟩) kM iY) ?_;refine cL (bU (fdV ⟨177,3,2,2047⟩) kM iY) ?_;refine cL (bU (fdV ⟨178,4,2,1024⟩) kM iY) ?_;refine cL (bU (fdV ⟨179,5,4,4294967295⟩) kM iY) ?_;refine TS rB (cs:=(pO.flatMap fdV).toArray) iY rfl rfl rfl (by kernel_rfl) rfl ?_;intro w1 ho1 hs1 hf1;refine Gz 5 ?_;exact⟨_,rfl,_,_,rfl,bL eK ho1 (by decide),eP _,hf1⟩
theorem tV(k:Int)(W:World):CA 138 [iV k] W (FdP W (fH k)):=by
 refine cS 22 [(0,_)] Tryz.func138 ?_;refine fK 24 ?_ ?_<;>intro h7
 ·refine Gz 7 ?_;refine cL (bU (fdV ⟨158,6,4,4294967295⟩) kM iY) ?_;refine Gz 1 ?_;refine cL (bU (fdV ⟨159,7,2,4096⟩) kM iY) ?_;refine cL (bU (fdV ⟨160,8,2,1024⟩) kM iY) ?_;refine cL (bU (fdV ⟨161,9,1,127⟩) kM iY) ?_;refine TS rB (cs:=(uS.flatMap fdV).toArray) iY rfl rfl rfl (by kernel_rfl) rfl ?_;intro w1 ho1 hs1 hf1;refine Gz 7 ?_;have e:fH k=uS:=by unfold fH;rw[if_pos h7]
  rw[e];exact⟨_,rfl,_,_,rfl,bL eK ho1 (by decide),eP _,hf1⟩
 refine fK 6 ?_ ?_<;>intro h16
 ·refine Gz 7 ?_;refine cL (bU (fdV ⟨158,6,4,4294967295⟩) kM iY) ?_;refine Gz 1 ?_;refine cL (bU (fdV ⟨159,7,4,1048576⟩) kM iY) ?_;refine TS rB (cs:=(sI.flatMap fdV).toArray) iY rfl rfl rfl (by kernel_rfl) rfl ?_;intro w1 ho1 hs1 hf1;refine Gz 7 ?_;have e:fH k=sI:=by unfold fH;rw[if_neg h7,if_pos h16]
  rw[e];exact⟨_,rfl,_,_,rfl,bL eK ho1 (by decide),eP _,hf1⟩
 refine Gz 14 ?_;have e:fH k=[]:=by unfold fH;rw[if_neg h7,if_neg h16]
 rw[e];exact⟨_,rfl,none,0,rfl,WE,Wy,Wt _ _⟩
def bR(wide:Int)(s:Int×By)(z:Int):Int×By:=(fY s.1 z wide,lN s.1 s.2 z wide)
def gI(l:List Int)(wide:Int):Int×By:=l.foldl (bR wide) (0,[])
theorem fE(E:Int)(xs:By)(x n:Int):(lN E xs x n).length≤xs.length+4:=by
 by_cases h:gE x n
 ·unfold lN;rw[if_pos (.inr h)];omega
 ·exact C4 E xs x n h
theorem Av(wide:Int):∀ (l:List Int) (s:Int×By),(l.foldl (bR wide) s).2.length≤s.2.length+4*l.length
|[],s=>by simp
|z::r,s=>by
   have h1:=Av wide r (bR wide s z);have h2:=fE s.1 s.2 z wide;simp only[foldl_cons,length_cons];have:(bR wide s z).2.length≤s.2.length+4:=h2;omega
theorem wS(l:List Int)(wide:Int)(k:Nat)(h:k<l.length):gI (l.take (k+1)) wide=bR wide (gI (l.take k) wide) (l.getD k 0):=by
 unfold gI;rw[List.take_succ_eq_append_getElem h,foldl_append];simp[List.getD,h]
theorem J4(l:List Int)(wide:Int)(k:Nat):(gI (l.take k) wide).2.length≤4*l.length:=by
 have:=Av wide (l.take k) (0,[]);simp only[length_nil,length_take] at this;unfold gI;omega
def aJ(l:List Int)(wide:Int):By×Int:=
 if wide=2∨wide=4 then (iJ (gI l wide).1 (gI l wide).2,(gI l wide).1) else ([],1)
theorem Nf(wide:Int)(W:World):CA 115 [iV wide] W fun v w'=>v=.bool (decide (wide=2∨wide=4))∧w'=W:=by
 refine cS 9 [(0,_)] Tryz.func115 ?_;refine fK 8 ?_ ?_<;>intro h4
 ·refine Gz 9 ?_;exact⟨_,rfl,by congr 1;symm;first|exact decide_eq_true (by omega)|exact decide_eq_false (by omega),rfl⟩
 refine fW 2 ?_ ?_<;>intro h7
 ·refine Gz 6 ?_;exact⟨_,rfl,by congr 1;symm;first|exact decide_eq_true (by omega)|exact decide_eq_false (by omega),rfl⟩
 refine Gz 6 ?_;exact⟨_,rfl,by congr 1;symm;first|exact decide_eq_true (by omega)|exact decide_eq_false (by omega),rfl⟩
theorem BM{α:Type}{l:List α}{k:Nat}(h1:k≤l.length)(h2:¬ ((k:Int)<(l.length:Int))):l.take k=l:=take_of_length_le (by omega)
theorem uH(lo:Option Addr)(lc:Nat)(l:List Int)(wide:Int)(W:World)(hv:Vw i64 W.heap lo lc l)(hb:l.length≤137438953472) :
 CA 28 [.slice lo l.length lc,iV wide] W (zH W (aJ l wide)):=by
 have hlen:=J4 l wide;refine cS 33 [(0,_),(1,_)] Tryz.func28 ?_;refine fK 10 ?_ ?_<;>intro h9
 ·refine fW 2 ?_ ?_<;>intro h12
  ·refine Gz 13 ?_;have hw:¬ (wide=2∨wide=4):=by omega
   have e:aJ l wide=([],1):=by unfold aJ;rw[if_neg hw]
   rw[e];exact⟨_,rfl,none,0,rfl,WA,Wy,Wt _ _⟩
  refine Gz 8 ?_;refine cL (TT qD kW rfl rfl) ?_;refine Tz kW rfl ?_;intro w1 hg1 hs1 hf1;refine sA rfl qS (by simp[Value.oneCell']) hg1 ?_;intro w1b hg1b hs1b hf1b;have hw:wide=2∨wide=4:=by omega
  have hF1:aA nob W w1b:=hf1.WO hf1b (fun k hk=>.inr (by omega));refine Gz 9 ?_;refine TA (β:=Nat) (fun k=>[(0,.slice lo l.length lc),(1,iV wide),(6,pT W.heap.size),(7,iV k)]) (fun k w=>k≤l.length∧WrR (fun k=>W.heap.size≤k) w.heap W.heap.size (gI (l.take k) wide).1 (gI (l.take k) wide).2∧aA nob W w) (fun k=>l.length-k) 0 ⟨rfl,rfl,rfl,rfl,trivial⟩ ⟨Nat.zero_le _,WI hg1b (Nat.le_refl _),hF1⟩ ?_;rintro k w2 ⟨hk,hP2,hF2⟩;refine fK 6 ?_ ?_<;>intro h18
  ·refine Gz 10 ?_;refine cL (Tt bP rfl rfl hv.non (by omega)) ?_;refine cL (Tu aI rfl ((hv.WR hF2).gz 0 k rfl (by omega))) ?_;refine Gz 1 ?_;refine Ts fU rfl (dA (fun k=>W.heap.size≤k) W.heap.size _ _ (l.getD k 0) wide w2 hP2 (fun k hk=>Nat.le_trans hF2.size hk) (by have:=hlen k;omega)) rfl ?_;rintro _ w3 ⟨hP3,hF3⟩;refine Gz 8 ?_;refine aG (k+1) ?_ (by show l.length-(k+1)<l.length-k;omega);exact⟨by omega,by rw[wS l wide k (by omega)];exact hP3,(hF2.any.trans hF3).fresh (fun k hk=>hk)⟩
  refine Gz 12 ?_;rw[BM hk (by assumption)] at *;have hPP:=hP2;obtain⟨ao,c,hobj,hown,hap,hDp,hDa⟩:=hP2;refine fK 1 ?_ ?_<;>intro h29
  ·refine Gz 4 ?_;refine TN 4 [0,1,2,3] aL (by kernel_rfl) ?_;refine Gz 1 ?_;refine xC rfl (Tu rF rfl (aE hobj rfl)) ?_;refine Gz 7 ?_;have e:aJ l wide=([],(gI l wide).1):=by unfold aJ iJ;rw[if_pos hw,if_pos (by omega)]
   rw[e];exact⟨_,rfl,none,0,rfl,WA,Wy,hF2.draws 1⟩
  refine Gz 7 ?_;refine Ts BL rfl (gZ _ W.heap.size _ _ w2 hPP (by have:=hlen l.length;rw[take_length] at this;omega)) rfl ?_;rintro _ w3 ⟨ao3,c3,rfl,ho3,hfr3,hf3⟩;refine Gz 6 ?_;have e:aJ l wide=(iJ (gI l wide).1 (gI l wide).2,0):=by unfold aJ;rw[if_pos hw];congr 1;omega
  rw[e];exact⟨_,rfl,ao3,c3,rfl,ho3,hfr3.mono hF2.size,hF2.trans hf3⟩
 refine Gz 11 ?_;refine cL (TT qD kW rfl rfl) ?_;refine Tz kW rfl ?_;intro w1 hg1 hs1 hf1;refine sA rfl qS (by simp[Value.oneCell']) hg1 ?_;intro w1b hg1b hs1b hf1b;have hw:wide=2∨wide=4:=by omega
 have hF1:aA nob W w1b:=hf1.WO hf1b (fun k hk=>.inr (by omega));refine Gz 9 ?_;refine TA (β:=Nat) (fun k=>[(0,.slice lo l.length lc),(1,iV wide),(6,pT W.heap.size),(7,iV k)]) (fun k w=>k≤l.length∧WrR (fun k=>W.heap.size≤k) w.heap W.heap.size (gI (l.take k) wide).1 (gI (l.take k) wide).2∧aA nob W w) (fun k=>l.length-k) 0 ⟨rfl,rfl,rfl,rfl,trivial⟩ ⟨Nat.zero_le _,WI hg1b (Nat.le_refl _),hF1⟩ ?_;rintro k w2 ⟨hk,hP2,hF2⟩;refine fK 6 ?_ ?_<;>intro h18
 ·refine Gz 10 ?_;refine cL (Tt bP rfl rfl hv.non (by omega)) ?_;refine cL (Tu aI rfl ((hv.WR hF2).gz 0 k rfl (by omega))) ?_;refine Gz 1 ?_;refine Ts fU rfl (dA (fun k=>W.heap.size≤k) W.heap.size _ _ (l.getD k 0) wide w2 hP2 (fun k hk=>Nat.le_trans hF2.size hk) (by have:=hlen k;omega)) rfl ?_;rintro _ w3 ⟨hP3,hF3⟩;refine Gz 8 ?_;refine aG (k+1) ?_ (by show l.length-(k+1)<l.length-k;omega);exact⟨by omega,by rw[wS l wide k (by omega)];exact hP3,(hF2.any.trans hF3).fresh (fun k hk=>hk)⟩
 refine Gz 12 ?_;rw[BM hk (by assumption)] at *;have hPP:=hP2;obtain⟨ao,c,hobj,hown,hap,hDp,hDa⟩:=hP2;refine fK 1 ?_ ?_<;>intro h29
 ·refine Gz 4 ?_;refine TN 4 [0,1,2,3] aL (by kernel_rfl) ?_;refine Gz 1 ?_;refine xC rfl (Tu rF rfl (aE hobj rfl)) ?_;refine Gz 7 ?_;have e:aJ l wide=([],(gI l wide).1):=by unfold aJ iJ;rw[if_pos hw,if_pos (by omega)]
  rw[e];exact⟨_,rfl,none,0,rfl,WA,Wy,hF2.draws 1⟩
 refine Gz 7 ?_;refine Ts BL rfl (gZ _ W.heap.size _ _ w2 hPP (by have:=hlen l.length;rw[take_length] at this;omega)) rfl ?_;rintro _ w3 ⟨ao3,c3,rfl,ho3,hfr3,hf3⟩;refine Gz 6 ?_;have e:aJ l wide=(iJ (gI l wide).1 (gI l wide).2,0):=by unfold aJ;rw[if_pos hw];congr 1;omega
 rw[e];exact⟨_,rfl,ao3,c3,rfl,ho3,hfr3.mono hF2.size,hF2.trans hf3⟩
theorem J8(s:By)(W:World)(hs:s.length≤maxLen):CA 88 [.string (bs s)] W fun v w'=>v=.bool (decide ((0:UInt8)∈s))∧w'=W:=by
 have hl:(s.length:Int)≤9223372036854775807:=by unfold maxLen at hs;omega
 refine cS 14 [(0,_)] Tryz.func88 ?_;refine Gz 12 ?_;refine TA (β:=Nat) (fun k=>[(0,.string (bs s)),(3,iV k)]) (fun k w=>k≤s.length∧(∀ i,i<k→s.getD i 0≠0)∧w=W) (fun k=>s.length-k) 0 ⟨rfl,rfl,trivial⟩ ⟨Nat.zero_le _,by intro i hi;omega,rfl⟩ ?_;rintro k w2 ⟨hk,hgood,hw2⟩;subst hw2;refine Gz 5 ?_;refine cL (TU ty9 rfl) ?_;refine fK 0 ?_ ?_<;>intro h7
 ·refine Gz 11 ?_;refine cL (UW ty9 rfl rfl (by omega)) ?_;refine fK 0 ?_ ?_<;>intro h13
  ·refine Gz 15 ?_;refine⟨_,rfl,?_,rfl⟩;rw[decide_eq_true];have e:s.getD k 0=0:=UInt8.toNat_inj.1 (by have:((s.getD ((k:Int)).toNat 0).toNat:Int)=0:=h13;have e2:((k:Int)).toNat=k:=rfl;rw[e2] at this;show _=0;omega);have hk2:k<s.length:=by omega
   rw[List.getD,List.getElem?_eq_getElem hk2] at e;rw[←e];exact List.getElem_mem hk2
  refine Gz 11 ?_;refine aG (k+1) ?_ (by show s.length-(k+1)<s.length-k;omega);refine⟨by omega,fun i hi=>?_,rfl⟩;by_cases hik:i=k
  ·subst hik;intro e;exact h13 (by rw[show ((i:Int)).toNat=i from rfl,e];rfl)
  ·exact hgood i (by omega)
 refine Gz 15 ?_;refine⟨_,rfl,?_,rfl⟩;rw[decide_eq_false];intro h0;obtain⟨i,hi,e⟩:=List.getElem_of_mem h0;exact hgood i (by omega) (by simp[List.getD,hi,e])
theorem wJ(xo:Option Addr)(xc:Nat)(X:List Xa)(W:World)(hv:XaV W.heap xo xc X) :
 CA 89 [.slice xo X.length xc] W fun v w'=>v=.bool (decide (eD X))∧aA nob W w':=by
 have hl:=hv.WQ;refine cS 56 [(0,_)] Tryz.func89 ?_;refine Gz 12 ?_;refine TA (β:=Nat) (fun k=>[(0,.slice xo X.length xc),(3,iV k)]) (fun k w=>k≤X.length∧(∀ i,i<k→Dp X i)∧aA nob W w) (fun k=>X.length-k) 0 ⟨rfl,rfl,trivial⟩ ⟨Nat.zero_le _,by intro i hi;omega,Wt _ _⟩ ?_;rintro k w2 ⟨hk,hgood,hF2⟩;refine fK 6 ?_ ?_<;>intro h9
 ·refine Gz 11 ?_;obtain⟨xa,xc2,hrow,hxv,hnl⟩:=(hv.WR hF2).at (i:=k) rfl (by omega);refine cL (Tv jH rfl rfl hv.non (by omega)) ?_;refine cL (TI (cs:=[.string (bs (X.getD k x0).1),.slice xa (X.getD k x0).2.length xc2]) BZ rfl hrow) ?_;refine Tz Fy rfl ?_;intro w3 hg3 hs3 hf3;refine sA rfl BZ (by simp[Value.oneCell']) hg3 ?_;intro w4 hg4 hs4 hf4;have hF4:aA nob W w4:=hF2.trans (hf3.WO hf4 (fun k hk=>.inr (by omega)));refine Gz 6 ?_;refine Ts PK rfl (J8 _ w4 hnl) rfl ?_;rintro _ w5 ⟨rfl,hw5⟩;subst w5;refine Gz 4 ?_;refine TN 34 [0,1,2,3,4,5,6,7,8,9,10,11,12,13,14,15,16,17,18,19,20,21,22,23,24,25,26,27,28,29,30,31,32,33] aL (by kernel_rfl) ?_;refine Gz 1 ?_;refine xC rfl (Tu gU rfl (aE hg4 rfl)) ?_;refine xC rfl (TU ty9 rfl) ?_;refine xK 0 ?_ ?_<;>intro h22
  ·have hbad:¬ eD X:=fun h=>by have:=(h.1 k (by omega)).1;have:=List.length_pos_iff.2 (MS this);omega
   refine Gz 45 ?_;exact⟨_,rfl,by rw[decide_eq_false hbad],hF4.draws 1⟩
  refine Gz 2 ?_;refine xV rfl (Tu gU rfl (aE hg4 rfl)) ?_;refine xV rfl (TU ty9 rfl) ?_;refine xW 0 ?_ ?_<;>intro h27
  ·have hbad:¬ eD X:=fun h=>by have:=(h.1 k (by omega)).2.1;omega
   refine Gz 40 ?_;exact⟨_,rfl,by rw[decide_eq_false hbad],hF4.draws 1⟩
  refine Gz 2 ?_;refine Un rfl rfl rfl rfl (TV (TR rfl)) rfl (fun h30=>?_) (fun h30=>?_)
  ·have hbad:¬ eD X:=fun h=>(h.1 k (by omega)).2.2.1 (of_decide_eq_true h30);refine Gz 37 ?_;exact⟨_,rfl,by rw[decide_eq_false hbad],hF4.draws 1⟩
  have g3:(0:UInt8)∉(X.getD k x0).1:=fun h=>h30 (decide_eq_true h);refine Gz 3 ?_;refine xV rfl (Tu aT rfl (aE hg4 rfl)) ?_;refine xW 1 ?_ ?_<;>intro h36
  ·have hbad:¬ eD X:=fun h=>by have:=(h.1 k (by omega)).2.2.2;omega
   refine Gz 31 ?_;exact⟨_,rfl,by rw[decide_eq_false hbad],hF4.draws 1⟩
  refine xW 3 ?_ ?_<;>intro h40
  ·refine Gz 4 ?_;obtain⟨k,rfl⟩:∃ q,k=q+1:=⟨k-1,by omega⟩
   obtain⟨pa,pc2,prow,pxv,pnl⟩:=(hv.WR hF4).at (i:=k) (z:=((k+1:Nat):Int)-1) (by omega) (by omega);refine xV rfl (Tv jH rfl rfl hv.non (by omega)) ?_;refine Gz 1 ?_;refine xV rfl (Tu gU rfl (prow 0 _ rfl)) ?_;refine Gz 1 ?_;refine xV rfl (Tu gU rfl (aE hg4 rfl)) ?_;refine Un rfl rfl rfl rfl (TV (Vg rfl rfl)) rfl (fun h50=>?_) (fun h50=>?_)
   ·have hbad:¬ eD X:=fun h=>by have:Op.bytesLess (X.getD k x0).1 (X.getD (k+1) x0).1=true:=(h.1 (k+1) (by omega)).1;rw[this] at h50;cases h50
    refine xV rfl (Ur rfl rfl) ?_;refine Gz 16 ?_;exact⟨_,rfl,by rw[decide_eq_false hbad],hF4.draws 1⟩
   have g1:Op.bytesLess (X.getD k x0).1 (X.getD (k+1) x0).1=true:=by revert h50;cases Op.bytesLess (X.getD k x0).1 (X.getD (k+1) x0).1<;>simp
   refine xV rfl (Ur rfl rfl) ?_;refine Gz 12 ?_;refine aG (k+1+1) ?_ (by show X.length-(k+1+1)<X.length-(k+1);omega);refine⟨by omega,fun i hi=>?_,hF4.draws 1⟩;by_cases hik:i=k+1
   ·subst hik;exact⟨g1,by omega,g3,by omega⟩
   ·exact hgood i (by omega)
  refine Gz 10 ?_;refine xV rfl (Uy rfl rfl) ?_;refine Gz 12 ?_;refine aG (k+1) ?_ (by show X.length-(k+1)<X.length-k;omega);refine⟨by omega,fun i hi=>?_,hF4.draws 1⟩;by_cases hik:i=k
  · subst hik;have hi0:i=0:=by omega
    subst hi0;exact⟨(xB _).2 (by intro e;rw[e] at h22;simp at h22),by omega,g3,by omega⟩
  ·exact hgood i (by omega)
 refine Gz 12 ?_;refine cL (UP rfl rfl) ?_;refine Gz 5 ?_;refine⟨_,rfl,?_,hF2⟩;have hk2:k=X.length:=by omega
 subst hk2;congr 1;exact decide_eq_decide.2 ⟨fun h=>⟨hgood,by omega⟩,fun h=>by have:=h.2;omega⟩
theorem MM(xo:Option Addr)(xc:Nat)(X:List Xa)(W:World)(hv:XaV W.heap xo xc X) :
 CA 142 [.slice xo X.length xc] W fun v w'=>v=.bool (decide (eD X))∧aA nob W w':=by
 have hl:=hv.WQ;refine cS 40 [(0,_)] Tryz.func142 ?_;refine Gz 19 ?_;refine TA (β:=Nat) (fun k=>[(0,.slice xo X.length xc),(3,.string (bs (F7 X k))),(6,.slice xo X.length xc),(7,iV X.length),(8,iV k)]) (fun k w=>k≤X.length∧(∀ i,i<k→Dp X i)∧aA nob W w) (fun k=>X.length-k) 0 ⟨rfl,rfl,rfl,rfl,rfl,trivial⟩ ⟨Nat.zero_le _,by intro i hi;omega,Wt _ _⟩ ?_;rintro k w2 ⟨hk,hgood,hF2⟩;refine fK 2 ?_ ?_<;>intro h9
 ·refine Gz 10 ?_;obtain⟨xa,xc2,hrow,hxv,hnl⟩:=(hv.WR hF2).at (i:=k) rfl (by omega);refine cL (Tv jH rfl rfl hv.non (by omega)) ?_;refine cL (TI (cs:=[.string (bs (X.getD k x0).1),.slice xa (X.getD k x0).2.length xc2]) BZ rfl hrow) ?_;refine Tz Fy rfl ?_;intro w3 hg3 hs3 hf3;refine sA rfl BZ (by simp[Value.oneCell']) hg3 ?_;intro w4 hg4 hs4 hf4;have hF4:aA nob W w4:=hF2.trans (hf3.WO hf4 (fun k hk=>.inr (by omega)));refine Gz 8 ?_;refine TZ (TV (VR rfl rfl)) rfl (fun h15=>?_) (fun h15=>?_)
  ·have hbad:¬ eD X:=fun h=>by have:=(h.1 k (by omega)).1;rw[jB] at h15;rw[this] at h15;cases h15
   refine Gz 34 ?_;exact⟨_,rfl,by rw[decide_eq_false hbad],hF4⟩
  have g1:Op.bytesLess (F7 X k) (X.getD k x0).1=true:=by rw[jB] at h15;revert h15;cases Op.bytesLess (F7 X k) (X.getD k x0).1<;>simp
  refine Gz 3 ?_;refine cW (TU ty9 rfl) ?_;refine fW 0 ?_ ?_<;>intro h20
  ·have hbad:¬ eD X:=fun h=>by have:=(h.1 k (by omega)).2.1;omega
   refine Gz 29 ?_;exact⟨_,rfl,by rw[decide_eq_false hbad],hF4⟩
  refine Gz 4 ?_;refine TJ rfl rfl N3 rfl (Ky _ 0 w4) rfl ?_;rintro _ w5 ⟨rfl,hw5⟩;subst w5;refine fW 0 ?_ ?_<;>intro h26
  ·have hbad:¬ eD X:=fun h=>(h.1 k (by omega)).2.2.1 (Gb h26);refine Gz 23 ?_;exact⟨_,rfl,by rw[decide_eq_false hbad],hF4⟩
  have g3:=Gc (Int.not_le.1 h26);refine fW 5 ?_ ?_<;>intro h32
  ·have hbad:¬ eD X:=fun h=>by have:=(h.1 k (by omega)).2.2.2;omega
   refine Gz 17 ?_;exact⟨_,rfl,by rw[decide_eq_false hbad],hF4⟩
  refine Gz 17 ?_;refine aG (k+1) ?_ (by show X.length-(k+1)<X.length-k;omega);refine⟨by omega,fun i hi=>?_,hF4⟩;by_cases hik:i=k
  ·subst hik;exact⟨g1,by omega,g3,by omega⟩
  ·exact hgood i (by omega)
 refine Gz 13 ?_;refine cL (UP rfl rfl) ?_;refine Gz 5 ?_;refine⟨_,rfl,?_,hF2⟩;have hk2:k=X.length:=by omega
 subst hk2;congr 1;exact decide_eq_decide.2 ⟨fun h=>⟨hgood,by omega⟩,fun h=>by have:=h.2;omega⟩
def aX(F:Nat→Int)(n:Nat):Prop:=
 0≤F 1∧F 1≤511∧0≤F 2∧F 2≤2047∧0≤F 3∧F 3≤2047∧1≤F 4∧F 4≤1024∧0≤F 5∧F 5≤4294967295 ∧
 ((F 0=2∧0≤F 7∧F 7≤4096∧0≤F 8∧F 8≤1024∧(0<F 8↔0<F 7%128)∧0≤F 6∧F 6≤4294967295∧0≤F 9∧F 9<128∧(0<F 8∨F 9=0)∧n=0) ∨
  (F 0=1∧0≤F 6∧F 6≤4294967295∧0≤F 7∧F 7≤1048576∧F 4=1∧F 8=0∧F 9=0∧n=0) ∨
  (F 0=3∧1≤n∧n≤200∧F 6=0∧F 7=0∧F 8=0∧F 9=0))
def eO(F:Nat→Int)(T:By):Prop:=aX F T.length∧(F 0=3→(0:UInt8)∉T)
instance (F:Nat→Int)(T:By):Decidable (eO F T):=by unfold eO aX;exact inferInstance
def okF(F:Nat→Int)(x:Fd):Prop:=0≤F x.o∧F x.o≤x.m
theorem Ml{F:Nat→Int}(h:∀ x∈bC (F 0),okF F x) :
 (0≤F 1∧F 1≤511∧0≤F 2∧F 2≤2047∧0≤F 3∧F 3≤2047∧0≤F 4∧F 4≤1024∧0≤F 5∧F 5≤4294967295) ∧
 (F 0=2→0≤F 6∧F 6≤4294967295∧0≤F 7∧F 7≤4096∧0≤F 8∧F 8≤1024∧0≤F 9∧F 9≤127) ∧
 (F 0=1→0≤F 6∧F 6≤4294967295∧0≤F 7∧F 7≤1048576):=by
 refine⟨?_,fun e=>?_,fun e=>?_⟩
 · have h2:∀ x∈pO,okF F x:=fun x hx=>h x (mem_append.2 (.inl hx))
   simp only[pO,forall_mem_cons,okF] at h2;omega
 · have h2:∀ x∈uS,okF F x:=fun x hx=>h x (mem_append.2 (.inr (by unfold fH;rw[if_pos e];exact hx)))
   simp only[uS,forall_mem_cons,okF] at h2;omega
 · have h2:∀ x∈sI,okF F x:=fun x hx=>h x (mem_append.2 (.inr (by unfold fH;rw[if_neg (by omega),if_pos e];exact hx)))
   simp only[sI,forall_mem_cons,okF] at h2;omega
theorem rJ{F:Nat→Int}{T:By}(h:eO F T):∀ x∈bC (F 0),okF F x:=by
 intro x hx;have h1:=h.1;unfold aX at h1;unfold okF;rcases mem_append.1 hx with hx|hx
 · simp only[pO,mem_cons,not_mem_nil,or_false] at hx
   rcases hx with rfl|rfl|rfl|rfl|rfl<;>(simp only;omega)
 · unfold fH at hx
   split at hx
   · simp only[uS,mem_cons,not_mem_nil,or_false] at hx
     rcases hx with rfl|rfl|rfl|rfl<;>(simp only;omega)
   · split at hx
     · simp only[sI,mem_cons,not_mem_nil,or_false] at hx
       rcases hx with rfl|rfl<;>(simp only;omega)
     ·cases hx
def dX(F:Nat→Int)(L:List Fd):Nat→Int:=fun o=>if o∈L.map (·.o) then F o else 0
def pU(G:Nat→Int)(U:By)(F:Nat→Int)(T:By):Prop:=(∀ o,o<10→G o=F o)∧U=T
instance (G:Nat→Int)(U:By)(F:Nat→Int)(T:By):Decidable (pU G U F T):=by unfold pU;exact inferInstance
theorem uJ(F:Nat→Int)(L:List Fd)(x:Fd):upd (dX F L) x.o (F x.o)=dX F (L++[x]):=by
 funext q;unfold upd dX;by_cases h:q=x.o
 ·subst h;simp
 · by_cases h2:q∈L.map (·.o)
   ·rw[if_neg h,if_pos h2,if_pos (by simp at h2 ⊢;exact .inl h2)]
   ·rw[if_neg h,if_neg h2,if_neg (by simp at h2 ⊢;exact⟨h2,h⟩)]
theorem xH(F:Nat→Int):dX F []=fun _=>0:=by funext q;simp[dX]
theorem qI(F:Nat→Int)(U T:By):pU (upd (dX F (bC (F 0))) 0 (F 0)) U F T↔(F 0≠2→F 8=0∧F 9=0)∧(F 0≠2→F 0≠1→F 6=0∧F 7=0)∧U=T:=by
 unfold pU;have hcom:∀ o,(o=1∨o=2∨o=3∨o=4∨o=5)→dX F (bC (F 0)) o=F o:=fun o ho=>by
  unfold dX bC;rw[if_pos];rw[map_append,mem_append];left;simp[pO];omega
 have hval:∀ o,6≤o→(dX F (bC (F 0)) o=if o∈(fH (F 0)).map (·.o) then F o else 0):=fun o ho=>by
  unfold dX bC;congr 1;rw[map_append,mem_append];simp[pO];omega
 constructor
 · rintro⟨h,hU⟩
   have g:∀ o,6≤o→o<10→(if o∈(fH (F 0)).map (·.o) then F o else 0)=F o:=fun o h6 h10=>by
    have:=h o h10;unfold upd at this;rw[if_neg (by omega),hval o h6] at this;exact this
   have g6:=g 6 (by decide) (by decide);have g7:=g 7 (by decide) (by decide);have g8:=g 8 (by decide) (by decide);have g9:=g 9 (by decide) (by decide);refine⟨fun h2=>?_,fun h2 h1=>?_,hU⟩
   · by_cases h1:F 0=1
     ·simp[fH,h1,sI] at g8 g9;omega
     ·simp[fH,h1,h2] at g8 g9;omega
   ·simp[fH,h1,h2] at g6 g7;omega
 · rintro⟨h8,h6,hU⟩
   refine⟨fun o ho=>?_,hU⟩;unfold upd;by_cases h0:o=0
   ·rw[if_pos h0,h0]
   · rw[if_neg h0]
     by_cases h5:o<6
     ·exact hcom o (by omega)
     · rw[hval o (by omega)]
       by_cases h2:F 0=2
       ·rw[if_pos];simp[fH,h2,uS];omega
       · have h8':=h8 h2
         by_cases h1:F 0=1
         · by_cases h7:o<8
           ·rw[if_pos];simp[fH,h1,sI];omega
           · rw[if_neg (by simp[fH,h1,sI];omega)]
             have:o=8∨o=9:=by omega
             rcases this with rfl|rfl<;>omega
         · have h6':=h6 h2 h1
           rw[if_neg (by simp[fH,h1,h2])];have:o=6∨o=7∨o=8∨o=9:=by omega
           rcases this with rfl|rfl|rfl|rfl<;>omega
section
variable {N:Nt}{l:SF}{ty:TypeId}{pos:String}{aft:Array Edge}{CH:Array Obj→Prop}{x y:Operand}{t':TypeId}{g:Option (Nat×Bool)}{dd:Option Nat}
theorem OU(G:Nat→Int)(U:By)(F:Nat→Int)(T:By)(w:World):(Op.equalIn 10000 84 (.agg (aZ G U).toArray) (.agg (aZ F T).toArray)).run Tryz.prog w=.ok (decide (pU G U F T)) w:=by
 have h0:=run_equalIn_struct (P:=Tryz.prog) w 9999 84 (aZ G U).toArray (aZ F T).toArray (by kernel_rfl) (by kernel_rfl);refine h0.trans ?_;obtain⟨r,hr,hr2⟩:=uL (P:=Tryz.prog) w (d:=9998) (d1:=9999) rfl (xs:=(aZ G U).toArray) (ys:=(aZ F T).toArray) (Tryz.prog.fieldsOf 84).toList (by
  unfold Program.fieldsOf;rw[Tryz.underlying84];simp only[forall_mem_cons];refine⟨⟨by decide,_,_,rfl,rfl,?_,?_⟩,⟨by decide,_,_,rfl,rfl,?_,?_⟩,⟨by decide,_,_,rfl,rfl,?_,?_⟩,⟨by decide,_,_,rfl,rfl,?_,?_⟩,⟨by decide,_,_,rfl,rfl,?_,?_⟩,⟨by decide,_,_,rfl,rfl,?_,?_⟩,⟨by decide,_,_,rfl,rfl,?_,?_⟩,⟨by decide,_,_,rfl,rfl,?_,?_⟩,⟨by decide,_,_,rfl,rfl,?_,?_⟩,⟨by decide,_,_,rfl,rfl,?_,?_⟩,⟨by decide,_,_,rfl,rfl,?_,?_⟩,by simp⟩<;>first|(unfold okV;rw[ty3];exact(rfl:IntKind.i64=IntKind.i64))|(unfold okV;rw[ty9];exact trivial))
 suffices hsf:r=decide (pU G U F T) by rw[←hsf];exact hr
 rw[Bool.eq_iff_iff,hr2,decide_eq_true_iff];unfold Program.fieldsOf;rw[Tryz.underlying84];constructor
 · intro h
   have h2:aZ G U=aZ F T:=by
    simp only[forall_mem_cons] at h;obtain⟨a0,a1,a2,a3,a4,a5,a6,a7,a8,a9,a10,_⟩:=h;apply KC;intro o ho
    match o,ho with
   |0,_=>simpa using a0
   |1,_=>simpa using a1
   |2,_=>simpa using a2
   |3,_=>simpa using a3
   |4,_=>simpa using a4
   |5,_=>simpa using a5
   |6,_=>simpa using a6
   |7,_=>simpa using a7
   |8,_=>simpa using a8
   |9,_=>simpa using a9
   |10,_=>simpa using a10
   exact KB h2
 · rintro⟨h1,h2⟩ f _
   rw[MZ h1 h2]
theorem VE{G F:Nat→Int}{U T:By}(hx:evL l x=some (.agg (aZ G U).toArray))(hy:evL l y=some (.agg (aZ F T).toArray)):Cm Tryz.prog N CH l ⟨dd,.binOp .neq 84 x y t',ty,pos,aft,g⟩ (.bool (decide (¬ pU G U F T))):=fun a w ha _=>by
 have h1:=run_eqGuard_agg (P:=Tryz.prog) w .neq 84 x y (aZ G U).toArray (aZ F T).toArray (by kernel_rfl);have h2:=run_neq_struct (P:=Tryz.prog) w 84 (aZ G U).toArray (aZ F T).toArray;rw[OU] at h2;simp only[execOp,ha.ev hx,ha.ev hy,Sem.run_bind,h1,h2,Result.andThen_ok,Sem.run_pure];simp
end
theorem qO{L:List Fd}{k:Nat}(h:k<L.length):L.take (k+1)=L.take k++[L.getD k fd0]:=by
 rw[List.take_succ_eq_append_getElem h];simp[List.getD,h]
theorem Fj{H:Array Obj}{ao:Option Addr}{c:Nat}{L:List Fd}(h:VwM 3 fdV H ao c L){k:Nat}{z:Int}(hz:z=k)(hk:k<L.length) :
 ∀ j v,(fdV (L.getD k fd0))[j]?=some v→bE H ((adr ao (z.toNat*3)).add j)=some v:=by
 have e:L[k]?=some (L.getD k fd0):=by simp[List.getD,hk]
 exact h.rowZ k hz e
theorem bY{p:Prop}[Decidable p](h:¬ p):Value.bool false=.bool (decide p):=by rw[decide_eq_false h]
theorem yX{p:Prop}[Decidable p](h:p):Value.bool true=.bool (decide p):=by rw[decide_eq_true h]
theorem OP(F:Nat→Int)(T:By)(W:World)(hT:T.length≤maxLen) :
 CA 164 [.agg (aZ F T).toArray] W fun v w'=>v=.bool (decide (eO F T))∧aA nob W w':=by
 refine cS 100 [(0,_)] Tryz.func164 ?_;refine Gz 2 ?_;refine T1 rfl rfl ?_;intro w1 hg1 hs1 hf1;have hg1:w1.heap[W.heap.size]?=some (.cells (aZ F T).toArray 84 (0,0)):=hg1;refine Gz 4 ?_;refine TG 6 (fun H=>H[W.heap.size]?=some (.cells (aZ F T).toArray 84 (0,0))) [0,3,4] [1,2,0,3,4,5] aL (by kernel_rfl) (hg1) ?_;refine Gz 2 ?_;refine Ty rfl rfl (Ts N4 rfl (AT _) rfl ?_);rintro _ w2 ⟨ao2,c2,rfl,ho2,hfr2,hf2⟩;refine TE (by exact hf2.obj hg1 id) ?_;refine Ty rfl rfl (Ts K4 rfl (tV (F 0) w2) rfl ?_);rintro _ w3 ⟨ao3,c3,rfl,ho3,hfr3,hf3⟩;refine TE (by exact hf3.obj (hf2.obj hg1 id) id) ?_;refine Ty rfl rfl (TH eK rfl rB rfl rfl (ho2.WR hf3) (ho3.vw eK) (by have:=kK (F 0);unfold bC at this;rw[length_append] at this;omega) (by have:=kK (F 0);unfold bC at this;rw[length_append] at this;unfold maxLen;omega) rfl ?_);intro ao4 c4 w4 ho4 hf4 hr4 hn4;have hfr2:Fr w1.heap.size ao2:=hfr2;have hg4:=hf4.obj (hf3.obj (hf2.obj hg1 id) id) (fun⟨a,ha,hb⟩=>by have:=hfr2 a ha;omega);have hF3:aA nob W w3:=(hf1.trans hf2.WP).trans hf3;have hF4:aA nob W w4:=hF3.WO hf4 (fun k ⟨a,ha,hb⟩=>.inr (by have:=hfr2 a ha;omega));refine TE (by exact hg4) ?_;refine Gz 5 ?_;refine Tz vO rfl ?_;intro w5 hg5 hs5 hf5;have hg5:w5.heap[w4.heap.size]?=some (.cells (aZ (fun _=>0) []).toArray 84 (0,0)):=hg5;have hlt4:W.heap.size<w4.heap.size:=by have:=hf2.size;have:=hf3.size;have:=hf4.size;have:w1.heap.size≤w2.heap.size:=hf2.WP.size;omega
 have hF5:=hF4.trans hf5;have hp5:=hf5.obj hg4 id;have hL5:VwM 3 fdV w5.heap ao4 c4 (bC (F 0)):=(ho4.vw eK).WR hf5;have hLlen:=kK (F 0);have hne4:∀ a,ao4=some a→a.block<w4.heap.size:=fun a ha=>ho4.lt a ha;refine Gz 11 ?_;refine TA (β:=Nat) (fun k=>[(1,pT W.heap.size),(4,pT w4.heap.size),(14,.slice ao4 (bC (F 0)).length c4),(15,iV (bC (F 0)).length),(16,iV k)]) (fun k w=>k≤(bC (F 0)).length∧w.heap[w4.heap.size]?=some (.cells (aZ (dX F ((bC (F 0)).take k)) []).toArray 84 (0,0))∧(∀ x∈(bC (F 0)).take k,okF F x)∧w.heap[W.heap.size]?=some (.cells (aZ F T).toArray 84 (0,0))∧VwM 3 fdV w.heap ao4 c4 (bC (F 0))∧w4.heap.size<w.heap.size∧aA nob W w) (fun k=>(bC (F 0)).length-k) 0 ⟨rfl,rfl,rfl,rfl,rfl,trivial⟩ ⟨Nat.zero_le _,by rw[List.take_zero,xH];exact hg5,by simp,hp5,hL5,by omega,hF5⟩ ?_;rintro k w6 ⟨hk,hq,hall,hp,hL,hlt6,hF6⟩;refine fK 2 ?_ ?_<;>intro h17
 ·refine Gz 10 ?_;have hkL:k<(bC (F 0)).length:=by omega
  have hrow:=Fj hL (k:=k) rfl hkL;have hmem:=rL hkL;obtain⟨⟨hfn,ho10,ho0,hcall⟩,hb1,hb4,hm0,hmb⟩:=gX hmem;obtain⟨x,hx⟩:∃ x,x=(bC (F 0)).getD k fd0:=⟨_,rfl⟩
  rw[←hx] at hrow hmem hfn ho10 ho0 hcall hb1 hb4 hm0;refine cL (Tv rB rfl rfl hL.non (by omega)) ?_;refine cL (TI (cs:=fdV x) uB rfl hrow) ?_;refine Tz iY rfl ?_;intro w7 hg7 hs7 hf7;refine sA rfl uB (by simp[fdV,Value.oneCell']) hg7 ?_;intro w8 hg8 hs8 hf8;have hF8:aA nob w6 w8:=hf7.WO hf8 (fun k hk=>.inr (by omega));have hp8:=hF8.obj hp id;have hq8:=hF8.obj hq id;refine Gz 6 ?_;refine UL hfn rfl rfl (hcall W.heap.size w8) rfl ?_;rintro _ w9 ⟨rfl,hw9⟩;subst w9;refine Gz 1 ?_;refine cL (Tu aI rfl (bS hp8 (xL F T ho10))) ?_;refine fK 7 ?_ ?_<;>intro h26
  ·have hbad:¬ eO F T:=fun h=>by have:=rJ h x hmem;unfold okF at this;omega
   refine Gz 22 ?_;exact⟨_,rfl,bY hbad,(hF6.trans hF8)⟩
  refine fW 4 ?_ ?_<;>intro h31
  ·have hbad:¬ eO F T:=fun h=>by have:=rJ h x hmem;unfold okF at this;omega
   refine Gz 17 ?_;exact⟨_,rfl,bY hbad,(hF6.trans hF8)⟩
  refine Gz 9 ?_;refine UL hfn rfl rfl (hcall w4.heap.size w8) rfl ?_;rintro _ w9 ⟨rfl,hw9⟩;subst w9;refine Gz 2 ?_;refine Tx aI rfl rfl rfl hq8 (by simp[aZ];omega) ?_;intro w10 hg10 hs10 hf10;rw[xJ _ _ ho10,uJ,hx,←qO hkL] at hg10;refine Gz 7 ?_;refine aG (k+1) ?_ (by show (bC (F 0)).length-(k+1)<(bC (F 0)).length-k;omega);have hF10:aA (· = w4.heap.size) w6 w10:=(hF8.mono (fun _ h=>h.elim)).trans hf10;refine⟨by omega,hg10,fun y hy=>?_,hF10.obj hp (by omega),hL.WS hF10 (fun a ha e=>by have:=hne4 a ha;omega),by have:=hF10.size;omega,(hF6.trans hF8).WO hf10 (fun k hk=>.inr (by omega))⟩;rw[qO hkL,←hx] at hy;rcases mem_append.1 hy with hy|hy
  ·exact hall y hy
  ·rw[mem_singleton] at hy;subst hy;unfold okF;omega
 refine Gz 12 ?_;have hfin:=BM hk (by assumption);rw[hfin] at hq hall;obtain⟨k0,k2,k1⟩:=Ml hall;refine Gz 2 ?_;refine Tx aI rfl rfl rfl hq rfl ?_;intro w11 hg11 hs11 hf11;have hg11:w11.heap[w4.heap.size]?=some (.cells (aZ (upd (dX F (bC (F 0))) 0 (F 0)) []).toArray 84 (0,0)):=by rw[←xJ _ _ (by decide)];exact hg11
 have hp11:=hf11.obj hp (by omega);have hF11:aA nob W w11:=hF6.WO hf11 (fun k hk=>.inr (by omega));refine Gz 2 ?_;refine TY (β:=By) (fun U=>[(1,pT W.heap.size),(4,pT w4.heap.size)]) (fun U w=>(if F 0=3 then T else [])=U∧w.heap[w4.heap.size]?=some (.cells (aZ (upd (dX F (bC (F 0))) 0 (F 0)) U).toArray 84 (0,0))∧w.heap[W.heap.size]?=some (.cells (aZ F T).toArray 84 (0,0))∧aA nob W w) ?_ ?_
 ·refine fK 4 ?_ ?_<;>intro h44
  ·refine Gz 7 ?_;refine Tx gU rfl rfl rfl hg11 rfl ?_;intro w12 hg12 hs12 hf12;have hp12:=hf12.obj hp11 (show ¬ (W.heap.size=w4.heap.size) by omega);have hF12:aA nob W w12:=hF11.tw hf12;refine Gz 1 ?_;refine aC (if F 0=3 then T else []) ?_;exact⟨rfl,by rw[if_pos h44];exact hg12,hp12,hF12⟩
  refine Gz 4 ?_;refine aC (if F 0=3 then T else []) ?_;exact⟨rfl,by rw[if_neg h44];exact hg11,hp11,hF11⟩
 rintro U w13 ⟨hU,hqz,hpz,hFz⟩;refine Gz 3 ?_;refine cL (TI (cs:=aZ (upd (dX F (bC (F 0))) 0 (F 0)) U) cT rfl (fun j v hj=>aE hqz hj)) ?_;refine cL (TI (cs:=aZ F T) cT rfl (fun j v hj=>aE hpz hj)) ?_;refine TZ (VE rfl rfl) rfl (fun h50=>?_) (fun h50=>?_)
 ·rw[qI,←hU] at h50;have hbad:¬ eO F T:=fun h=>by have:=h.1;unfold aX at this;apply h50;refine⟨fun _=>by omega,fun _ _=>by omega,?_⟩;by_cases h3:F 0=3;rw[if_pos h3];rw[if_neg h3];exact(eq_nil_of_length_eq_zero (by omega)).symm
  refine Gz 16 ?_;exact⟨_,rfl,bY hbad,hFz⟩
 have hsame:=(qI F U T).1 (Decidable.not_not.1 h50);obtain⟨s8,s6,sU⟩:=hsame;have sT:F 0≠3→T.length=0:=fun h3=>by rw[←sU,←hU,if_neg h3];rfl
 refine fW 3 ?_ ?_<;>intro h54
 ·have hbad:¬ eO F T:=fun h=>by have:=h.1;unfold aX at this;omega
  refine Gz 12 ?_;exact⟨_,rfl,bY hbad,hFz⟩
 refine fK 16 ?_ ?_<;>intro h59
 ·refine Gz 8 ?_;refine cL (Ul rfl rfl (by omega) (by decide)) ?_;refine fK 0 ?_ ?_<;>intro h63
  ·refine fK 7 ?_ ?_<;>intro h66
   ·refine Gz 1 ?_;refine cL (UD ty4 rfl rfl) ?_;refine Gz 15 ?_;exact⟨_,rfl,yX ⟨by unfold aX;omega,fun h3=>by first|exact hnul|omega⟩,hFz⟩
   refine Gz 1 ?_;refine cL (UD ty4 rfl rfl) ?_;refine Gz 15 ?_;exact⟨_,rfl,bY (fun h=>by have:=h.1;unfold aX at this;omega),hFz⟩
  refine fK 7 ?_ ?_<;>intro h66
  ·refine Gz 1 ?_;refine cL (UD ty4 rfl rfl) ?_;refine Gz 15 ?_;exact⟨_,rfl,bY (fun h=>by have:=h.1;unfold aX at this;omega),hFz⟩
  refine Gz 1 ?_;refine cL (UD ty4 rfl rfl) ?_;refine fW 5 ?_ ?_<;>intro h74
  ·refine Gz 9 ?_;exact⟨_,rfl,yX ⟨by unfold aX;omega,fun h3=>by first|exact hnul|omega⟩,hFz⟩
  refine Gz 9 ?_;exact⟨_,rfl,bY (fun h=>by have:=h.1;unfold aX at this;omega),hFz⟩
 refine fK 6 ?_ ?_<;>intro h78
 ·refine fK 8 ?_ ?_<;>intro h81
  ·refine Gz 7 ?_;exact⟨_,rfl,yX ⟨by unfold aX;omega,fun h3=>by first|exact hnul|omega⟩,hFz⟩
  refine Gz 7 ?_;exact⟨_,rfl,bY (fun h=>by have:=h.1;unfold aX at this;omega),hFz⟩
 refine fK 6 ?_ ?_<;>intro h83
 ·refine Gz 8 ?_;refine cL (TU ty9 rfl) ?_;refine fK 0 ?_ ?_<;>intro h87
  ·refine Gz 3 ?_;refine cW (TU ty9 rfl) ?_;refine fW 0 ?_ ?_<;>intro h92
   ·refine Gz 4 ?_;refine TJ rfl rfl N3 rfl (Ky _ 0 w13) rfl ?_;rintro _ w14 ⟨rfl,hw14⟩;subst w14;refine fW 0 ?_ ?_<;>intro h98
    ·have hnul:=Gc h98;refine Gz 8 ?_;exact⟨_,rfl,yX ⟨by unfold aX;omega,fun h3=>by first|exact hnul|omega⟩,hFz⟩
    have hnul:=Gb (Int.not_lt.1 h98);refine Gz 8 ?_;exact⟨_,rfl,bY (fun h=>h.2 (by omega) hnul),hFz⟩
   refine Gz 14 ?_;exact⟨_,rfl,bY (fun h=>by have:=h.1;unfold aX at this;omega),hFz⟩
  refine Gz 19 ?_;exact⟨_,rfl,bY (fun h=>by have:=h.1;unfold aX at this;omega),hFz⟩
 refine Gz 14 ?_;exact⟨_,rfl,bY (fun h=>by have:=h.1;unfold aX at this;omega),hFz⟩
theorem Ju(F:Nat→Int)(T:By)(W:World)(hT:T.length≤maxLen) :
 CA 107 [.agg (aZ F T).toArray] W fun v w'=>v=.bool (decide (eO F T))∧aA nob W w':=by
 have hTl:(T.length:Int)≤9223372036854775807:=by unfold maxLen at hT;omega
 refine cS 201 [(0,_)] Tryz.func107 ?_;refine Gz 2 ?_;refine T1 rfl rfl ?_;intro w1 hg1 hs1 hf1;have hg1:w1.heap[W.heap.size]?=some (.cells (aZ F T).toArray 84 (0,0)):=hg1;refine fK 8 ?_ ?_<;>intro h6
 ·refine Gz 56 ?_;exact⟨_,rfl,bY (fun h=>by have:=h.1;unfold aX at this;omega),hf1⟩
 refine fW 3 ?_ ?_<;>intro h10
 ·refine Gz 52 ?_;exact⟨_,rfl,bY (fun h=>by have:=h.1;unfold aX at this;omega),hf1⟩
 refine fW 4 ?_ ?_<;>intro h15
 ·refine Gz 47 ?_;exact⟨_,rfl,bY (fun h=>by have:=h.1;unfold aX at this;omega),hf1⟩
 refine fW 4 ?_ ?_<;>intro h20
 ·refine Gz 42 ?_;exact⟨_,rfl,bY (fun h=>by have:=h.1;unfold aX at this;omega),hf1⟩
 refine fW 4 ?_ ?_<;>intro h25
 ·refine Gz 37 ?_;exact⟨_,rfl,bY (fun h=>by have:=h.1;unfold aX at this;omega),hf1⟩
 refine fW 4 ?_ ?_<;>intro h30
 ·refine Gz 32 ?_;exact⟨_,rfl,bY (fun h=>by have:=h.1;unfold aX at this;omega),hf1⟩
 refine fW 4 ?_ ?_<;>intro h35
 ·refine Gz 27 ?_;exact⟨_,rfl,bY (fun h=>by have:=h.1;unfold aX at this;omega),hf1⟩
 refine fW 4 ?_ ?_<;>intro h40
 ·refine Gz 22 ?_;exact⟨_,rfl,bY (fun h=>by have:=h.1;unfold aX at this;omega),hf1⟩
 refine fW 4 ?_ ?_<;>intro h45
 ·refine Gz 17 ?_;exact⟨_,rfl,bY (fun h=>by have:=h.1;unfold aX at this;omega),hf1⟩
 refine fW 4 ?_ ?_<;>intro h50
 ·refine Gz 12 ?_;exact⟨_,rfl,bY (fun h=>by have:=h.1;unfold aX at this;omega),hf1⟩
 refine fK 16 ?_ ?_<;>intro h55
 ·refine fK 9 ?_ ?_<;>intro h58
  ·refine Gz 38 ?_;exact⟨_,rfl,bY (fun h=>by have:=h.1;unfold aX at this;omega),hf1⟩
  refine fW 3 ?_ ?_<;>intro h62
  ·refine Gz 34 ?_;exact⟨_,rfl,bY (fun h=>by have:=h.1;unfold aX at this;omega),hf1⟩
  refine fW 4 ?_ ?_<;>intro h67
  ·refine Gz 29 ?_;exact⟨_,rfl,bY (fun h=>by have:=h.1;unfold aX at this;omega),hf1⟩
  refine fW 4 ?_ ?_<;>intro h72
  ·refine Gz 24 ?_;exact⟨_,rfl,bY (fun h=>by have:=h.1;unfold aX at this;omega),hf1⟩
  refine fW 4 ?_ ?_<;>intro h77
  ·refine Gz 2 ?_;refine cW (Ul rfl rfl (by omega) (by decide)) ?_;refine fW 0 ?_ ?_<;>intro h81
   ·refine cW (Uv ty4 rfl rfl) ?_;refine fK 10 ?_ ?_<;>intro h86
    ·refine fW 3 ?_ ?_<;>intro h90
     ·refine fW 4 ?_ ?_<;>intro h95
      ·refine fW 4 ?_ ?_<;>intro h100
       ·refine fW 4 ?_ ?_<;>intro h105
        ·refine fW 9 ?_ ?_<;>intro h115
         ·have hT0:T.length=0:=by rw[h115];rfl
          refine Gz 8 ?_;exact⟨_,rfl,yX ⟨by unfold aX;omega,fun h3=>by omega⟩,hf1⟩
         have hT0:T.length≠0:=fun e=>h115 (eq_nil_of_length_eq_zero e);refine Gz 8 ?_;exact⟨_,rfl,bY (fun h=>by have:=h.1;unfold aX at this;omega),hf1⟩
        refine fW 3 ?_ ?_<;>intro h109
        ·refine fW 5 ?_ ?_<;>intro h115
         ·refine Gz 8 ?_;exact⟨_,rfl,yX ⟨by unfold aX;omega,fun h3=>by omega⟩,hf1⟩
         refine Gz 8 ?_;exact⟨_,rfl,bY (fun h=>by have:=h.1;unfold aX at this;omega),hf1⟩
        refine Gz 14 ?_;exact⟨_,rfl,bY (fun h=>by have:=h.1;unfold aX at this;omega),hf1⟩
       refine Gz 23 ?_;exact⟨_,rfl,bY (fun h=>by have:=h.1;unfold aX at this;omega),hf1⟩
      refine Gz 28 ?_;exact⟨_,rfl,bY (fun h=>by have:=h.1;unfold aX at this;omega),hf1⟩
     refine Gz 33 ?_;exact⟨_,rfl,bY (fun h=>by have:=h.1;unfold aX at this;omega),hf1⟩
    refine Gz 37 ?_;exact⟨_,rfl,bY (fun h=>by have:=h.1;unfold aX at this;omega),hf1⟩
   refine cW (Uv ty4 rfl rfl) ?_;refine Gz 14 ?_;exact⟨_,rfl,bY (fun h=>by have:=h.1;unfold aX at this;omega),hf1⟩
  refine Gz 2 ?_;refine cW (Ul rfl rfl (by omega) (by decide)) ?_;refine fW 0 ?_ ?_<;>intro h81
  ·refine cW (Uv ty4 rfl rfl) ?_;refine Gz 14 ?_;exact⟨_,rfl,bY (fun h=>by have:=h.1;unfold aX at this;omega),hf1⟩
  refine cW (Uv ty4 rfl rfl) ?_;refine fK 10 ?_ ?_<;>intro h86
  ·refine fW 3 ?_ ?_<;>intro h90
   ·refine fW 4 ?_ ?_<;>intro h95
    ·refine fW 4 ?_ ?_<;>intro h100
     ·refine fW 4 ?_ ?_<;>intro h105
      ·refine fW 9 ?_ ?_<;>intro h115
       ·refine Gz 8 ?_;exact⟨_,rfl,yX ⟨by unfold aX;omega,fun h3=>by omega⟩,hf1⟩
       refine Gz 8 ?_;exact⟨_,rfl,bY (fun h=>by have:=h.1;unfold aX at this;omega),hf1⟩
      refine fW 3 ?_ ?_<;>intro h109
      ·refine fW 5 ?_ ?_<;>intro h115
       ·have hT0:T.length=0:=by rw[h115];rfl
        refine Gz 8 ?_;exact⟨_,rfl,yX ⟨by unfold aX;omega,fun h3=>by omega⟩,hf1⟩
       have hT0:T.length≠0:=fun e=>h115 (eq_nil_of_length_eq_zero e);refine Gz 8 ?_;exact⟨_,rfl,bY (fun h=>by have:=h.1;unfold aX at this;omega),hf1⟩
      refine Gz 14 ?_;exact⟨_,rfl,bY (fun h=>by have:=h.1;unfold aX at this;omega),hf1⟩
     refine Gz 23 ?_;exact⟨_,rfl,bY (fun h=>by have:=h.1;unfold aX at this;omega),hf1⟩
    refine Gz 28 ?_;exact⟨_,rfl,bY (fun h=>by have:=h.1;unfold aX at this;omega),hf1⟩
   refine Gz 33 ?_;exact⟨_,rfl,bY (fun h=>by have:=h.1;unfold aX at this;omega),hf1⟩
  refine Gz 37 ?_;exact⟨_,rfl,bY (fun h=>by have:=h.1;unfold aX at this;omega),hf1⟩
 refine fK 6 ?_ ?_<;>intro h118
 ·refine fK 8 ?_ ?_<;>intro h121
  ·refine fW 3 ?_ ?_<;>intro h125
   ·refine fW 4 ?_ ?_<;>intro h130
    ·refine fW 4 ?_ ?_<;>intro h135
     ·refine fW 4 ?_ ?_<;>intro h140
      ·refine fW 4 ?_ ?_<;>intro h145
       ·refine fW 4 ?_ ?_<;>intro h150
        ·refine fW 4 ?_ ?_<;>intro h155
         ·have hT0:T.length=0:=by rw[h155];rfl
          refine Gz 8 ?_;exact⟨_,rfl,yX ⟨by unfold aX;omega,fun h3=>by omega⟩,hf1⟩
         have hT0:T.length≠0:=fun e=>h155 (eq_nil_of_length_eq_zero e);refine Gz 8 ?_;exact⟨_,rfl,bY (fun h=>by have:=h.1;unfold aX at this;omega),hf1⟩
        refine Gz 13 ?_;exact⟨_,rfl,bY (fun h=>by have:=h.1;unfold aX at this;omega),hf1⟩
       refine Gz 18 ?_;exact⟨_,rfl,bY (fun h=>by have:=h.1;unfold aX at this;omega),hf1⟩
      refine Gz 23 ?_;exact⟨_,rfl,bY (fun h=>by have:=h.1;unfold aX at this;omega),hf1⟩
     refine Gz 28 ?_;exact⟨_,rfl,bY (fun h=>by have:=h.1;unfold aX at this;omega),hf1⟩
    refine Gz 33 ?_;exact⟨_,rfl,bY (fun h=>by have:=h.1;unfold aX at this;omega),hf1⟩
   refine Gz 38 ?_;exact⟨_,rfl,bY (fun h=>by have:=h.1;unfold aX at this;omega),hf1⟩
  refine Gz 42 ?_;exact⟨_,rfl,bY (fun h=>by have:=h.1;unfold aX at this;omega),hf1⟩
 refine fK 6 ?_ ?_<;>intro h158
 ·refine Gz 11 ?_;refine TA (β:=Nat) (fun k=>[(1,pT W.heap.size),(3,iV k)]) (fun k w=>k≤T.length∧(∀ i,i<k→T.getD i 0≠0)∧w=w1) (fun k=>T.length-k) 0 ⟨rfl,rfl,trivial⟩ ⟨Nat.zero_le _,by intro i hi;omega,rfl⟩ ?_;rintro k w2 ⟨hk,hgood,hw2⟩;subst hw2;refine Gz 6 ?_;refine cL (TU ty9 rfl) ?_;refine fK 0 ?_ ?_<;>intro h163
  ·refine Gz 12 ?_;refine cL (UW ty9 rfl rfl (by omega)) ?_;refine fK 0 ?_ ?_<;>intro h170
   ·have hnul:(0:UInt8)∈T:=by
     have e:T.getD k 0=0:=UInt8.toNat_inj.1 (by have:((T.getD ((k:Int)).toNat 0).toNat:Int)=0:=h170;have e2:((k:Int)).toNat=k:=rfl;rw[e2] at this;show _=0;omega);have hk2:k<T.length:=by omega
     rw[List.getD,List.getElem?_eq_getElem hk2] at e;rw[←e];exact List.getElem_mem hk2
    refine Gz 17 ?_;exact⟨_,rfl,bY (fun h=>h.2 (by omega) hnul),hf1⟩
   refine Gz 11 ?_;refine aG (k+1) ?_ (by show T.length-(k+1)<T.length-k;omega);refine⟨by omega,fun i hi=>?_,rfl⟩;by_cases hik:i=k
   ·subst hik;intro e;exact h170 (by rw[show ((i:Int)).toNat=i from rfl,e];rfl)
   ·exact hgood i (by omega)
  refine Gz 12 ?_;refine cL (TU ty9 rfl) ?_;refine fK 0 ?_ ?_<;>intro h174
  ·refine Gz 3 ?_;refine cW (TU ty9 rfl) ?_;refine fW 0 ?_ ?_<;>intro h179
   ·refine fW 4 ?_ ?_<;>intro h184
    ·refine fW 4 ?_ ?_<;>intro h189
     ·refine fW 4 ?_ ?_<;>intro h194
      ·refine fW 4 ?_ ?_<;>intro h199
       ·refine Gz 8 ?_;exact⟨_,rfl,yX ⟨by unfold aX;omega,fun h3 h0=>by obtain⟨i,hi,e⟩:=List.getElem_of_mem h0;exact hgood i (by omega) (by simp[List.getD,hi,e])⟩,hf1⟩
       refine Gz 8 ?_;exact⟨_,rfl,bY (fun h=>by have:=h.1;unfold aX at this;omega),hf1⟩
      refine Gz 13 ?_;exact⟨_,rfl,bY (fun h=>by have:=h.1;unfold aX at this;omega),hf1⟩
     refine Gz 18 ?_;exact⟨_,rfl,bY (fun h=>by have:=h.1;unfold aX at this;omega),hf1⟩
    refine Gz 23 ?_;exact⟨_,rfl,bY (fun h=>by have:=h.1;unfold aX at this;omega),hf1⟩
   refine Gz 28 ?_;exact⟨_,rfl,bY (fun h=>by have:=h.1;unfold aX at this;omega),hf1⟩
  refine Gz 33 ?_;exact⟨_,rfl,bY (fun h=>by have:=h.1;unfold aX at this;omega),hf1⟩
 refine Gz 14 ?_;exact⟨_,rfl,bY (fun h=>by have:=h.1;unfold aX at this;omega),hf1⟩
def vU(s:Int×By)(t:By):Int×By:=(lH s.1 t,mT s.1 s.2 t)
def xF(s:Int×By)(x:Xa):Int×By:=vU (vU s x.1) x.2
def xSt(X:List Xa)(k:Nat):Int×By:=(X.take k).foldl xF (bR 1 (0,[]) X.length)
theorem vQ(X:List Xa)(k:Nat)(h:k<X.length):xSt X (k+1)=xF (xSt X k) (X.getD k x0):=by
 unfold xSt;rw[List.take_succ_eq_append_getElem h,foldl_append];simp[List.getD,h]
theorem jY{s:Int×By}{t:By}(h:s.1=0)(ht:t.length≤255):(vU s t).1=0∧(vU s t).2.length=s.2.length+1+t.length:=by
 refine⟨by show lH s.1 t=0;rw[lS (.inr (by omega)),h],?_⟩;show (mT s.1 s.2 t).length=_;unfold mT;rw[if_neg (by omega)];simp only[length_append,length_cons];omega
theorem B0{X:List Xa}(h:eD X):∀ k,k≤X.length→(xSt X k).1=0∧(xSt X k).2.length≤1+300*k
|0,_=>by
   have hb:=lU (n:=X.length) (by have:=h.2;omega);have h1:fY 0 X.length 1=0:=cP hb;refine⟨h1,?_⟩;show (lN 0 [] X.length 1).length≤_;rw[kC h1,length_append,aR];simp
|k+1,hk=>by
   obtain⟨h1,h2⟩:=B0 h k (by omega);obtain⟨_,g2,_,g4⟩:=h.1 k (by omega);rw[vQ X k (by omega)];obtain⟨a1,a2⟩:=jY (s:=xSt X k) (t:=(X.getD k x0).1) h1 (by omega);obtain⟨b1,b2⟩:=jY (s:=vU (xSt X k) (X.getD k x0).1) (t:=(X.getD k x0).2) a1 (by omega);exact⟨b1,by show (vU (vU (xSt X k) (X.getD k x0).1) (X.getD k x0).2).2.length≤_;omega⟩
def jK(X:List Xa):By×Int:=if X.length=0∨¬ eD X then ([],1) else ((xSt X X.length).2,0)
theorem Jq(xo:Option Addr)(xc:Nat)(X:List Xa)(W:World)(hv:XaV W.heap xo xc X) :
 CA 106 [.slice xo X.length xc] W (zH W (jK X)):=by
 have hl:=hv.WQ;refine cS 40 [(0,_)] Tryz.func106 ?_;refine cA 9 O6 (wJ xo xc X W hv) ?_;rintro _ w0 ⟨rfl,hF0⟩;refine Gz 7 ?_;refine TZ (Uj rfl) rfl (fun h10=>?_) (fun h10=>?_)
 ·have hm:¬ eD X:=of_decide_eq_false h10;refine Gz 17 ?_;have e:jK X=([],1):=by unfold jK;rw[if_pos (.inr hm)]
  rw[e];exact⟨_,rfl,none,0,rfl,WA,Wy,hF0⟩
 have hm:eD X:=byContradiction fun h=>h10 (decide_eq_false h);have hlen:=B0 hm;have hm8:=hm.2;refine fW 3 ?_ ?_<;>intro h14
 ·refine Gz 13 ?_;have e:jK X=([],1):=by unfold jK;rw[if_pos (.inl (by omega))]
  rw[e];exact⟨_,rfl,none,0,rfl,WA,Wy,hF0⟩
 refine Gz 8 ?_;refine cL (TT qD kW rfl rfl) ?_;refine Tz kW rfl ?_;intro w1 hg1 hs1 hf1;refine sA rfl qS (by simp[Value.oneCell']) hg1 ?_;intro w1a hg1a hs1a hf1a;have hF1a:aA nob w0 w1a:=hf1.WO hf1a (fun k hk=>.inr (by omega));refine Gz 6 ?_;refine Ts fU rfl (dA (fun k=>w0.heap.size≤k) w0.heap.size 0 [] _ 1 w1a (WI hg1a (Nat.le_refl _)) (cR hF1a (fun k hk=>hk)) (by simp)) rfl ?_;rintro _ w1b ⟨hP1,hF1⟩;refine Gz 9 ?_;refine TA (β:=Nat) (fun k=>[(0,.slice xo X.length xc),(5,pT w0.heap.size),(6,iV k)]) (fun k w=>k≤X.length∧WrR (fun k=>w0.heap.size≤k) w.heap w0.heap.size (xSt X k).1 (xSt X k).2∧aA nob w0 w) (fun k=>X.length-k) 0 ⟨rfl,rfl,rfl,trivial⟩ ⟨Nat.zero_le _,hP1,(hF1a.any.trans hF1).fresh (fun k hk=>hk)⟩ ?_;rintro k w2 ⟨hk,hP2,hF2⟩;refine fK 6 ?_ ?_<;>intro h23
 ·refine Gz 11 ?_;obtain⟨xa,xc2,hrow0,hxv,hnl⟩:=hv.at (i:=k) rfl (by omega);obtain⟨_,q2,_,q4⟩:=hm.1 k (by omega);have hFW:=hF0.trans hF2;obtain⟨z1,z2⟩:=hlen k hk;refine cL (Tv jH rfl rfl hv.non (by omega)) ?_;refine Gz 1 ?_;refine cL (Tu gU rfl (dZ (hrow0 0 _ rfl) hFW id)) ?_;refine Ts DB rfl (rG _ w0.heap.size _ _ _ w2 hP2 (cR hF2 (fun k hk=>hk)) (by omega) (by omega)) rfl ?_;rintro _ w5 ⟨hP5,hF5⟩;have hF05:aA nob w0 w5:=(hF2.any.trans hF5).fresh (fun k hk=>hk);obtain⟨a1,a2⟩:=jY (s:=xSt X k) (t:=(X.getD k x0).1) z1 (by omega);have a3:(mT (xSt X k).1 (xSt X k).2 (X.getD k x0).1).length=_:=a2;refine Gz 5 ?_;refine cL (Tv jH rfl rfl hv.non (by omega)) ?_;refine Gz 1 ?_;refine cL (Tu aT rfl (dZ (hrow0 1 _ rfl) (hF0.trans hF05) id)) ?_;refine cL (Ui aK ty5 ty9 rfl (hxv.WR (hF0.trans hF05))) ?_;refine Ts DB rfl (rG _ w0.heap.size _ _ _ w5 hP5 (cR hF05 (fun k hk=>hk)) (by omega) (by omega)) rfl ?_;rintro _ w6 ⟨hP6,hF6⟩;refine Gz 8 ?_;refine aG (k+1) ?_ (by show X.length-(k+1)<X.length-k;omega);exact⟨by omega,by rw[vQ X k (by omega)];exact hP6,(hF05.any.trans hF6).fresh (fun k hk=>hk)⟩
 refine Gz 10 ?_;refine Ts BL rfl (gZ _ w0.heap.size _ _ w2 hP2 (by have:=(hlen k hk).2;have:=hm.2;omega)) rfl ?_;rintro _ w3 ⟨ao3,c3,rfl,ho3,hfr3,hf3⟩;refine Gz 6 ?_;have hk2:k=X.length:=by omega
 subst hk2;have z:=(hlen _ (Nat.le_refl _)).1;have e:jK X=(iJ (xSt X X.length).1 (xSt X X.length).2,0):=by unfold jK iJ;rw[if_neg (by intro h;rcases h with h|h;omega;exact h hm),if_neg (by omega)]
 rw[e];exact⟨_,rfl,ao3,c3,rfl,ho3,hfr3.mono (Nat.le_trans hF0.size hF2.size),(hF0.trans hF2).trans hf3⟩
def JR(F:Nat→Int)(s:Int×By)(x:Fd):Int×By:=bR x.b s (F x.o)
def rSt(F:Nat→Int)(k:Nat):Int×By:=((bC (F 0)).take k).foldl (JR F) (bR 1 (0,[]) (F 0))
def iQ(F:Nat→Int)(T:By):Int×By:=if F 0=3 then vU (rSt F (bC (F 0)).length) T else rSt F (bC (F 0)).length
def pK(F:Nat→Int)(T:By):By×Int:=if eO F T then ((iQ F T).2,0) else ([],1)
theorem CU(F:Nat→Int)(k:Nat)(h:k<(bC (F 0)).length):rSt F (k+1)=JR F (rSt F k) ((bC (F 0)).getD k fd0):=by
 unfold rSt;rw[qO h,foldl_append];rfl
theorem lB{s:Int×By}{z n:Int}(h:s.1=0)(hb:¬ gE z n):(bR n s z).1=0∧(bR n s z).2=s.2++le z n.toNat:=by
 have h1:fY s.1 z n=0:=by rw[cP hb,h]
 exact⟨h1,kC h1⟩
theorem fB{z n m:Int}(h1:1≤n)(h4:n≤4)(h0:0≤z)(hm:z≤m)(hb:m<2 ^ (8*n).toNat):¬ gE z n:=by
 unfold gE;have h2:z/2 ^ (8*n).toNat=0:=Int.ediv_eq_zero_of_lt h0 (by omega);rw[h2];omega
theorem oG{F:Nat→Int}{T:By}(h:eO F T):F 0=1∨F 0=2∨F 0=3:=by
 have:=h.1;unfold aX at this;omega
theorem oB{F:Nat→Int}{T:By}(h:eO F T):∀ k,k≤(bC (F 0)).length→(rSt F k).1=0∧(rSt F k).2.length=1+(((bC (F 0)).take k).map (fun x=>x.b.toNat)).sum
|0,_=>by
   have hk:=oG h;obtain⟨a,b⟩:=lB (s:=(0,[])) (z:=F 0) (n:=1) rfl (fB (m:=3) (by decide) (by decide) (by omega) (by omega) (by decide));exact⟨a,by show (bR 1 (0,[]) (F 0)).2.length=_;rw[b,length_append,aR];rfl⟩
|k+1,hk=>by
   obtain⟨h1,h2⟩:=oB h k (by omega);have hm:=rL (k:=F 0) (i:=k) (by omega);obtain⟨_,b1,b4,m0,mb⟩:=gX hm;have ho:=rJ h _ hm;obtain⟨a,b⟩:=lB (s:=rSt F k) (z:=F ((bC (F 0)).getD k fd0).o) (n:=((bC (F 0)).getD k fd0).b) h1 (fB b1 b4 ho.1 ho.2 mb);rw[CU F k (by omega)];refine⟨a,?_⟩;show (bR _ _ _).2.length=_;rw[b,length_append,aR,qO (by omega),map_append,List.sum_append,h2];simp;omega
theorem HE{F:Nat→Int}{T:By}(h:eO F T):(iQ F T).1=0:=by
 obtain⟨h1,h2⟩:=oB h _ (Nat.le_refl _);unfold iQ
 split
 · rename_i h3
   have:=h.1;unfold aX at this;exact(jY h1 (by omega)).1
 ·exact h1
theorem Md(F:Nat→Int)(T:By)(W:World)(hT:T.length≤maxLen) :
 CA 60 [.agg (aZ F T).toArray] W (zH W (pK F T)):=by
 refine cS 59 [(0,_)] Tryz.func60 ?_;refine Gz 2 ?_;refine T1 rfl rfl ?_;intro w1 hg1 hs1 hf1;have hg1:w1.heap[W.heap.size]?=some (.cells (aZ F T).toArray 84 (0,0)):=hg1;refine Gz 6 ?_;refine cL (TI (cs:=aZ F T) cT rfl (fun j v hj=>aE hg1 hj)) ?_;refine cA 0 Qz (Ju F T w1 hT) ?_;rintro _ w2 ⟨rfl,hf2⟩;refine Gz 7 ?_;refine TZ (Uj rfl) rfl (fun h9=>?_) (fun h9=>?_)
 ·have hm:¬ eO F T:=of_decide_eq_false h9;refine Gz 12 ?_;have e:pK F T=([],1):=by unfold pK;rw[if_neg hm]
  rw[e];exact⟨_,rfl,none,0,rfl,WA,Wy,hf1.trans hf2⟩
 have hm:eO F T:=byContradiction fun h=>h9 (decide_eq_false h);have hpw2:=hf2.obj hg1 id;have hF2:=hf1.trans hf2;have hE:=HE hm;have hkind:=oG hm;refine Gz 7 ?_;refine cL (TT qD kW rfl rfl) ?_;refine Tz kW rfl ?_;intro w3 hg3 hs3 hf3;refine sA rfl qS (by simp[Value.oneCell']) hg3 ?_;intro v0 hgv hsv hfv;have hV0:aA nob w2 v0:=hf3.tw hfv;have hp0:=hV0.obj hpw2 id;obtain⟨s0,hs0⟩:∃ s:Int×By,s=(0,[]):=⟨_,rfl⟩
 have hQ0:WrR (fun k=>w2.heap.size≤k) v0.heap w2.heap.size s0.1 s0.2:=by rw[hs0];exact WI hgv (Nat.le_refl _)
 have hl0:s0.2.length=0:=by rw[hs0];rfl
 refine Gz 6 ?_;refine Ts fU rfl (dA _ w2.heap.size _ _ (F 0) 1 v0 hQ0 (cR hV0 (fun k hk=>hk)) (by omega)) rfl ?_;rintro _ v1 ⟨hQ,hv1⟩;obtain⟨s1,hs1⟩:∃ s,s=bR 1 s0 (F 0):=⟨_,rfl⟩
 have hQ1:WrR (fun k=>w2.heap.size≤k) v1.heap w2.heap.size s1.1 s1.2:=by rw[hs1];exact hQ
 have hl1:s1.2.length≤s0.2.length+4:=by rw[hs1];exact fE _ _ _ _
 have hV1:aA nob w2 v1:=(hV0.any.trans hv1).fresh (fun k hk=>hk);have hp1:=hV1.obj hpw2 id;refine Gz 6 ?_;refine Ts fU rfl (dA _ w2.heap.size _ _ (F 1) 2 v1 hQ1 (cR hV1 (fun k hk=>hk)) (by omega)) rfl ?_;rintro _ v2 ⟨hQ,hv2⟩;obtain⟨s2,hs2⟩:∃ s,s=bR 2 s1 (F 1):=⟨_,rfl⟩
 have hQ2:WrR (fun k=>w2.heap.size≤k) v2.heap w2.heap.size s2.1 s2.2:=by rw[hs2];exact hQ
 have hl2:s2.2.length≤s1.2.length+4:=by rw[hs2];exact fE _ _ _ _
 have hV2:aA nob w2 v2:=(hV1.any.trans hv2).fresh (fun k hk=>hk);have hp2:=hV2.obj hpw2 id;refine Gz 6 ?_;refine Ts fU rfl (dA _ w2.heap.size _ _ (F 2) 2 v2 hQ2 (cR hV2 (fun k hk=>hk)) (by omega)) rfl ?_;rintro _ v3 ⟨hQ,hv3⟩;obtain⟨s3,hs3⟩:∃ s,s=bR 2 s2 (F 2):=⟨_,rfl⟩
 have hQ3:WrR (fun k=>w2.heap.size≤k) v3.heap w2.heap.size s3.1 s3.2:=by rw[hs3];exact hQ
 have hl3:s3.2.length≤s2.2.length+4:=by rw[hs3];exact fE _ _ _ _
 have hV3:aA nob w2 v3:=(hV2.any.trans hv3).fresh (fun k hk=>hk);have hp3:=hV3.obj hpw2 id;refine Gz 6 ?_;refine Ts fU rfl (dA _ w2.heap.size _ _ (F 3) 2 v3 hQ3 (cR hV3 (fun k hk=>hk)) (by omega)) rfl ?_;rintro _ v4 ⟨hQ,hv4⟩;obtain⟨s4,hs4⟩:∃ s,s=bR 2 s3 (F 3):=⟨_,rfl⟩
 have hQ4:WrR (fun k=>w2.heap.size≤k) v4.heap w2.heap.size s4.1 s4.2:=by rw[hs4];exact hQ
 have hl4:s4.2.length≤s3.2.length+4:=by rw[hs4];exact fE _ _ _ _
 have hV4:aA nob w2 v4:=(hV3.any.trans hv4).fresh (fun k hk=>hk);have hp4:=hV4.obj hpw2 id;refine Gz 6 ?_;refine Ts fU rfl (dA _ w2.heap.size _ _ (F 4) 2 v4 hQ4 (cR hV4 (fun k hk=>hk)) (by omega)) rfl ?_;rintro _ v5 ⟨hQ,hv5⟩;obtain⟨s5,hs5⟩:∃ s,s=bR 2 s4 (F 4):=⟨_,rfl⟩
 have hQ5:WrR (fun k=>w2.heap.size≤k) v5.heap w2.heap.size s5.1 s5.2:=by rw[hs5];exact hQ
 have hl5:s5.2.length≤s4.2.length+4:=by rw[hs5];exact fE _ _ _ _
 have hV5:aA nob w2 v5:=(hV4.any.trans hv5).fresh (fun k hk=>hk);have hp5:=hV5.obj hpw2 id;refine Gz 6 ?_;refine Ts fU rfl (dA _ w2.heap.size _ _ (F 5) 4 v5 hQ5 (cR hV5 (fun k hk=>hk)) (by omega)) rfl ?_;rintro _ v6 ⟨hQ,hv6⟩;obtain⟨s6,hs6⟩:∃ s,s=bR 4 s5 (F 5):=⟨_,rfl⟩
 have hQ6:WrR (fun k=>w2.heap.size≤k) v6.heap w2.heap.size s6.1 s6.2:=by rw[hs6];exact hQ
 have hl6:s6.2.length≤s5.2.length+4:=by rw[hs6];exact fE _ _ _ _
 have hV6:aA nob w2 v6:=(hV5.any.trans hv6).fresh (fun k hk=>hk);have hp6:=hV6.obj hpw2 id;refine fK 12 ?_ ?_<;>intro h32
 ·refine Gz 8 ?_;refine Ts fU rfl (dA _ w2.heap.size _ _ (F 6) 4 v6 hQ6 (cR hV6 (fun k hk=>hk)) (by omega)) rfl ?_;rintro _ v7 ⟨hQ,hv7⟩;obtain⟨s7,hs7⟩:∃ s,s=bR 4 s6 (F 6):=⟨_,rfl⟩
  have hQ7:WrR (fun k=>w2.heap.size≤k) v7.heap w2.heap.size s7.1 s7.2:=by rw[hs7];exact hQ
  have hl7:s7.2.length≤s6.2.length+4:=by rw[hs7];exact fE _ _ _ _
  have hV7:aA nob w2 v7:=(hV6.any.trans hv7).fresh (fun k hk=>hk);have hp7:=hV7.obj hpw2 id;refine Gz 6 ?_;refine Ts fU rfl (dA _ w2.heap.size _ _ (F 7) 2 v7 hQ7 (cR hV7 (fun k hk=>hk)) (by omega)) rfl ?_;rintro _ v8 ⟨hQ,hv8⟩;obtain⟨s8,hs8⟩:∃ s,s=bR 2 s7 (F 7):=⟨_,rfl⟩
  have hQ8:WrR (fun k=>w2.heap.size≤k) v8.heap w2.heap.size s8.1 s8.2:=by rw[hs8];exact hQ
  have hl8:s8.2.length≤s7.2.length+4:=by rw[hs8];exact fE _ _ _ _
  have hV8:aA nob w2 v8:=(hV7.any.trans hv8).fresh (fun k hk=>hk);have hp8:=hV8.obj hpw2 id;refine Gz 6 ?_;refine Ts fU rfl (dA _ w2.heap.size _ _ (F 8) 2 v8 hQ8 (cR hV8 (fun k hk=>hk)) (by omega)) rfl ?_;rintro _ v9 ⟨hQ,hv9⟩;obtain⟨s9,hs9⟩:∃ s,s=bR 2 s8 (F 8):=⟨_,rfl⟩
  have hQ9:WrR (fun k=>w2.heap.size≤k) v9.heap w2.heap.size s9.1 s9.2:=by rw[hs9];exact hQ
  have hl9:s9.2.length≤s8.2.length+4:=by rw[hs9];exact fE _ _ _ _
  have hV9:aA nob w2 v9:=(hV8.any.trans hv9).fresh (fun k hk=>hk);have hp9:=hV9.obj hpw2 id;refine Gz 5 ?_;refine Ts fU rfl (dA _ w2.heap.size _ _ (F 9) 1 v9 hQ9 (cR hV9 (fun k hk=>hk)) (by omega)) rfl ?_;rintro _ v10 ⟨hQ,hv10⟩;obtain⟨s10,hs10⟩:∃ s,s=bR 1 s9 (F 9):=⟨_,rfl⟩
  have hQ10:WrR (fun k=>w2.heap.size≤k) v10.heap w2.heap.size s10.1 s10.2:=by rw[hs10];exact hQ
  have hl10:s10.2.length≤s9.2.length+4:=by rw[hs10];exact fE _ _ _ _
  have hV10:aA nob w2 v10:=(hV9.any.trans hv10).fresh (fun k hk=>hk);refine Gz 5 ?_;refine Ts BL rfl (gZ _ w2.heap.size _ _ v10 hQ10 (by omega)) rfl ?_;rintro _ w13 ⟨ao13,c13,rfl,ho13,hfr13,hf13⟩;refine Gz 6 ?_;have eE:iQ F T=s10:=by
   unfold iQ rSt bC fH;rw[if_neg (by omega),if_pos (by omega)];simp only[pO,uS,List.cons_append,nil_append,length_cons,length_nil,List.take,List.foldl,JR,hs10,hs9,hs8,hs7,hs6,hs5,hs4,hs3,hs2,hs1,hs0]
  have e:pK F T=(iJ (iQ F T).1 (iQ F T).2,0):=by unfold pK iJ;rw[if_pos hm,hE,if_neg (by omega)]
  rw[e,eE];exact⟨_,rfl,ao13,c13,rfl,ho13,hfr13.mono (hF2.trans hV10).size,(hF2.trans hV10).trans hf13⟩
 refine fK 6 ?_ ?_<;>intro h46
 ·refine Gz 8 ?_;refine Ts fU rfl (dA _ w2.heap.size _ _ (F 6) 4 v6 hQ6 (cR hV6 (fun k hk=>hk)) (by omega)) rfl ?_;rintro _ v7 ⟨hQ,hv7⟩;obtain⟨s7,hs7⟩:∃ s,s=bR 4 s6 (F 6):=⟨_,rfl⟩
  have hQ7:WrR (fun k=>w2.heap.size≤k) v7.heap w2.heap.size s7.1 s7.2:=by rw[hs7];exact hQ
  have hl7:s7.2.length≤s6.2.length+4:=by rw[hs7];exact fE _ _ _ _
  have hV7:aA nob w2 v7:=(hV6.any.trans hv7).fresh (fun k hk=>hk);have hp7:=hV7.obj hpw2 id;refine Gz 5 ?_;refine Ts fU rfl (dA _ w2.heap.size _ _ (F 7) 4 v7 hQ7 (cR hV7 (fun k hk=>hk)) (by omega)) rfl ?_;rintro _ v8 ⟨hQ,hv8⟩;obtain⟨s8,hs8⟩:∃ s,s=bR 4 s7 (F 7):=⟨_,rfl⟩
  have hQ8:WrR (fun k=>w2.heap.size≤k) v8.heap w2.heap.size s8.1 s8.2:=by rw[hs8];exact hQ
  have hl8:s8.2.length≤s7.2.length+4:=by rw[hs8];exact fE _ _ _ _
  have hV8:aA nob w2 v8:=(hV7.any.trans hv8).fresh (fun k hk=>hk);refine Gz 5 ?_;refine Ts BL rfl (gZ _ w2.heap.size _ _ v8 hQ8 (by omega)) rfl ?_;rintro _ w13 ⟨ao13,c13,rfl,ho13,hfr13,hf13⟩;refine Gz 6 ?_;have eE:iQ F T=s8:=by
   unfold iQ rSt bC fH;rw[if_neg (by omega),if_neg (by omega),if_pos (by omega)];simp only[pO,sI,List.cons_append,nil_append,length_cons,length_nil,List.take,List.foldl,JR,hs8,hs7,hs6,hs5,hs4,hs3,hs2,hs1,hs0]
  have e:pK F T=(iJ (iQ F T).1 (iQ F T).2,0):=by unfold pK iJ;rw[if_pos hm,hE,if_neg (by omega)]
  rw[e,eE];exact⟨_,rfl,ao13,c13,rfl,ho13,hfr13.mono (hF2.trans hV8).size,(hF2.trans hV8).trans hf13⟩
 refine fK 6 ?_ ?_<;>intro h54
 ·refine Gz 7 ?_;refine Ts DB rfl (rG _ w2.heap.size _ _ T v6 hQ6 (cR hV6 (fun k hk=>hk)) (by omega) (by have h9:=hm.1;unfold aX at h9;omega)) rfl ?_;rintro _ v7 ⟨hQ7,hv7⟩;have hV7:aA nob w2 v7:=(hV6.any.trans hv7).fresh (fun k hk=>hk);have hl7:(mT s6.1 s6.2 T).length≤s6.2.length+1+T.length:=by
   unfold mT;split
   ·omega
   ·simp only[length_append,length_cons];omega
  have hTl:T.length≤200:=by have h9:=hm.1;unfold aX at h9;omega
  refine Gz 5 ?_;refine Ts BL rfl (gZ _ w2.heap.size _ _ v7 hQ7 (by omega)) rfl ?_;rintro _ w13 ⟨ao13,c13,rfl,ho13,hfr13,hf13⟩;refine Gz 6 ?_;have eE:iQ F T=(lH s6.1 T,mT s6.1 s6.2 T):=by
   unfold iQ rSt bC fH;rw[if_pos (by omega),if_neg (by omega),if_neg (by omega)];simp only[pO,append_nil,length_cons,length_nil,List.take,List.foldl,JR,vU,hs6,hs5,hs4,hs3,hs2,hs1,hs0]
  have e:pK F T=(iJ (iQ F T).1 (iQ F T).2,0):=by unfold pK iJ;rw[if_pos hm,hE,if_neg (by omega)]
  rw[e,eE];exact⟨_,rfl,ao13,c13,rfl,ho13,hfr13.mono (hF2.trans hV7).size,(hF2.trans hV7).trans hf13⟩
 exact absurd h54 (by omega)
theorem F4{F:Nat→Int}{T:By}(h:eO F T):(iQ F T).2.length=(if F 0=2 then 22 else if F 0=1 then 21 else 14+T.length):=by
 obtain⟨h1,h2⟩:=oB h _ (Nat.le_refl _);rw[take_length] at h2;have h9:=h.1;unfold aX at h9;unfold iQ;by_cases h3:F 0=3
 · rw[if_pos h3,if_neg (by omega),if_neg (by omega)]
   have h4:=(jY (s:=rSt F (bC (F 0)).length) (t:=T) h1 (by omega)).2;rw[h4,h2];unfold bC fH;rw[if_neg (by omega),if_neg (by omega)];simp[pO]<;>omega
 · rw[if_neg h3,h2]
   by_cases h4:F 0=2
   · rw[if_pos h4]
     unfold bC fH;rw[if_pos h4];simp[pO,uS]
   · rw[if_neg h4,if_pos (by omega)]
     unfold bC fH;rw[if_neg h4,if_pos (by omega)];simp[pO,sI]
abbrev Rd:=Int×By
def gS(n:Int)(s:Rd):Rd:=(cU (cX s.1 n) s.2 n,oQ (cX s.1 n) s.2 n)
def gV(n:Int)(s:Rd):Int:=bT (eG (cX s.1 n) s.2 n)
def gF(q:Rd×(Nat→Int))(x:Fd):Rd×(Nat→Int):=(gS x.b q.1,upd q.2 x.o (gV x.b q.1))
def gK(b:By):Int:=gV 1 (0,b)
def g0(b:By):Rd×(Nat→Int):=(gS 1 (0,b),upd (fun _=>0) 0 (gK b))
def gSt(b:By)(k:Nat):Rd×(Nat→Int):=((bC (gK b)).take k).foldl gF (g0 b)
def gR(b:By):Rd×(Nat→Int):=(bC (gK b)).foldl gF (g0 b)
def fI(s:Rd):Rd:=(cU (tE s.1 s.2) (tR s.1 s.2) (tN s.1 s.2),oQ (tE s.1 s.2) (tR s.1 s.2) (tN s.1 s.2))
def gTx(s:Rd):By:=eG (tE s.1 s.2) (tR s.1 s.2) (tN s.1 s.2)
def xQ(b:By):Rd:=if gK b=3 then fI (gR b).1 else (gR b).1
def gT(b:By):By:=if gK b=3 then gTx (gR b).1 else []
def gFn(b:By):Nat→Int:=(gR b).2
def oS(b:By):Prop:=Ij (xQ b).1 (xQ b).2=0∧eO (gFn b) (gT b)
instance (b:By):Decidable (oS b):=by unfold oS;exact inferInstance
def tkF(b:By):Nat→Int:=if oS b then gFn b else fun _=>0
def tkT(b:By):By:=if oS b then gT b else []
def tkE(b:By):Int:=if oS b then 0 else 2
theorem oK{n:Int}{s:Rd}(h1:1≤n)(h4:n≤4)(h0:s.1=0)(hl:n≤s.2.length):gS n s=(0,s.2.drop n.toNat)∧gV n s=bT (s.2.take n.toNat):=by
 have e:cU 0 s.2 n=0:=by rw[dG (by omega) (by omega)]
 unfold gS gV;rw[iR h1 h4,h0,e];obtain⟨a,b⟩:=cM e;rw[a,b];exact⟨rfl,rfl⟩
theorem Gy{n:Int}{s:Rd}(h1:1≤n)(h4:n≤4)(h0:s.1=0)(hl:(s.2.length:Int)<n):(gS n s).1≠0:=by
 unfold gS;rw[iR h1 h4,h0,nC (by omega) hl,if_pos rfl];exact(by decide:(2:Int)≠0)
theorem GA{n:Int}{s:Rd}(h:s.1≠0):(gS n s).1≠0:=by
 have:cX s.1 n=s.1:=by unfold cX;rw[if_pos h]
 unfold gS;rw[this,pE h];exact h
def dT(F:Nat→Int)(L:List Fd):By:=L.flatMap (fun x=>le (F x.o) x.b.toNat)
def Ej(L:List Fd):Nat:=(L.map (fun x=>x.b.toNat)).sum
theorem mJ(F:Nat→Int):∀ L:List Fd,(dT F L).length=Ej L
|[]=>rfl
|x::r=>by have:=mJ F r;simp only[dT,Ej] at this ⊢;simp[aR,this]
theorem Gj{ys:By}{n:Nat}(h:n≤ys.length):le (bT (ys.take n)) n=ys.take n:=by
 have:=BC (ys.take n);rwa[length_take,Nat.min_eq_left h] at this
theorem GD:∀ (L:List Fd) (q:Rd×(Nat→Int)),(∀ x∈L,1≤x.b∧x.b≤4)→(L.map (·.o)).Nodup →
 (∀ o,o∉L.map (·.o)→(L.foldl gF q).2 o=q.2 o)∧(q.1.1≠0→(L.foldl gF q).1.1≠0) ∧
 ((L.foldl gF q).1.1=0→q.1.2=dT (L.foldl gF q).2 L++(L.foldl gF q).1.2)∧(q.1.1=0→(L.foldl gF q).1.1≠0→q.1.2.length<Ej L)
|[],q,_,_=>⟨fun _ _=>rfl,id,fun _=>rfl,fun h0 h=>absurd h0 h⟩
|x::r,q,hb,hn=>by
   rw[map_cons,List.nodup_cons] at hn;obtain⟨i1,i2,i3,i4⟩:=GD r (gF q x) (fun y hy=>hb y (by simp[hy])) hn.2;obtain⟨b1,b4⟩:=hb x (by simp);have eo:((x::r).foldl gF q)=r.foldl gF (gF q x):=rfl;rw[eo];obtain⟨R,hR⟩:∃ R,R=r.foldl gF (gF q x):=⟨_,rfl⟩
   rw[←hR] at i1 i2 i3 i4 ⊢;have hx:R.2 x.o=gV x.b q.1:=by rw[i1 x.o hn.1];show upd _ _ _ _=_;simp[upd]
   have he:dT R.2 (x::r)=le (R.2 x.o) x.b.toNat++dT R.2 r:=by simp[dT]
   have hs:Ej (x::r)=x.b.toNat+Ej r:=by simp[Ej]
   refine⟨fun o ho=>?_,fun h=>i2 (GA h),fun h=>?_,fun h0 h=>?_⟩
   · rw[map_cons,mem_cons,not_or] at ho
     rw[i1 o ho.2];show upd _ _ _ _=_;simp[upd,ho.1]
   · have hq0:q.1.1=0:=byContradiction fun h'=>i2 (GA h') h
     have hl:x.b≤q.1.2.length:=byContradiction fun h'=>i2 (Gy b1 b4 hq0 (by omega)) h;obtain⟨g1,g2⟩:=oK b1 b4 hq0 hl;have h3:=i3 h;have h4:(gF q x).1.2=q.1.2.drop x.b.toNat:=by show (gS x.b q.1).2=_;rw[g1]
     rw[h4] at h3;rw[he,hx,g2,Gj (by omega),append_assoc,←h3,take_append_drop]
   · rw[hs]
     by_cases hl:x.b≤q.1.2.length
     · obtain⟨g1,g2⟩:=oK b1 b4 h0 hl
       have h5:(gF q x).1=(0,q.1.2.drop x.b.toNat):=g1;have:=i4 (by rw[h5]) h;rw[h5] at this;simp only[length_drop] at this;omega
     ·omega
theorem F5{F:Nat→Int}{T:By}(h:eO F T):∀ k,k≤(bC (F 0)).length→(rSt F k).2=le (F 0) 1++dT F ((bC (F 0)).take k)
|0,_=>by
   have hk:=oG h;obtain⟨a,b⟩:=lB (s:=(0,[])) (z:=F 0) (n:=1) rfl (fB (m:=3) (by decide) (by decide) (by omega) (by omega) (by decide));show (bR 1 (0,[]) (F 0)).2=_;rw[b];simp[dT]
|k+1,hk=>by
   have h1:=(oB h k (by omega)).1;have h2:=F5 h k (by omega);have hm:=rL (k:=F 0) (i:=k) (by omega);obtain⟨_,b1,b4,m0,mb⟩:=gX hm;have ho:=rJ h _ hm;obtain⟨a,b⟩:=lB (s:=rSt F k) (z:=F ((bC (F 0)).getD k fd0).o) (n:=((bC (F 0)).getD k fd0).b) h1 (fB b1 b4 ho.1 ho.2 mb);rw[CU F k (by omega)];show (bR _ _ _).2=_;rw[b,qO (by omega),h2];simp[dT]
theorem wQ{F:Nat→Int}{T:By}(h:eO F T):(iQ F T).2=le (F 0) 1++dT F (bC (F 0))++(if F 0=3 then UInt8.ofNat T.length::T else []):=by
 have h1:=(oB h _ (Nat.le_refl _)).1;have h2:=F5 h _ (Nat.le_refl _);rw[take_length] at h2;unfold iQ;by_cases h3:F 0=3
 · rw[if_pos h3,if_pos h3,←h2]
   have h9:=h.1;unfold aX at h9;show mT _ _ _=_;unfold mT;rw[if_neg (by omega)]
 ·rw[if_neg h3,if_neg h3,append_nil,h2]
theorem M7{b:By}(h:gK b≠0):∃ c r,b=c::r∧gK b=c.toNat∧g0 b=((0,r),upd (fun _=>0) 0 (gK b)):=by
 cases b with
|nil=>exact absurd rfl h
|cons c r=>
   obtain⟨g1,g2⟩:=oK (n:=1) (s:=(0,c::r)) (by decide) (by decide) rfl (by simp;omega);refine⟨c,r,rfl,?_,?_⟩
   ·unfold gK;rw[g2];simp[bT]
   ·unfold g0;rw[g1];rfl
theorem OB{b:Int}(h:0≤b):(2:Int) ^ (8*b).toNat=256 ^ b.toNat:=by
 rw[show (8*b).toNat=8*b.toNat by omega,Int.pow_mul];rfl
theorem KL(F:Nat→Int):∀ (L:List Fd) (G:Nat→Int) (rest:By),(∀ x∈L,1≤x.b∧x.b≤4∧0≤F x.o∧F x.o<256 ^ x.b.toNat) →
 (L.foldl gF ((0,dT F L++rest),G))=((0,rest),L.foldl (fun g x=>upd g x.o (F x.o)) G)
|[],G,rest,_=>rfl
|x::r,G,rest,h=>by
   obtain⟨b1,b4,f0,f1⟩:=h x (by simp);have e:dT F (x::r)=le (F x.o) x.b.toNat++dT F r:=by simp[dT]
   rw[e,append_assoc,foldl_cons];obtain⟨g1,g2⟩:=oK (n:=x.b) (s:=(0,le (F x.o) x.b.toNat++(dT F r++rest))) b1 b4 rfl (by simp[aR];omega);have e2:gF ((0,le (F x.o) x.b.toNat++(dT F r++rest)),G) x=((0,dT F r++rest),upd G x.o (F x.o)):=by
    unfold gF;rw[g1,g2];simp only;rw[List.drop_left' (aR _ _),List.take_left' (aR _ _),oX _ _ f0 f1]
   rw[e2,KL F r _ rest (fun y hy=>h y (by simp[hy]))];rfl
theorem B8(F:Nat→Int):∀ (L M:List Fd),L.foldl (fun g x=>upd g x.o (F x.o)) (upd (dX F M) 0 (F 0))=upd (dX F (M++L)) 0 (F 0)
|[],M=>by simp
|x::r,M=>by
   rw[foldl_cons];have e:upd (upd (dX F M) 0 (F 0)) x.o (F x.o)=upd (dX F (M++[x])) 0 (F 0):=by
    rw[←uJ];funext q;unfold upd;by_cases h1:q=x.o
    · by_cases h2:q=0
      ·rw[if_pos h1,if_pos h2,←h1,h2]
      ·rw[if_pos h1,if_neg h2,if_pos h1]
    · rw[if_neg h1]
      by_cases h2:q=0
      ·rw[if_pos h2,if_pos h2]
      ·rw[if_neg h2,if_neg h2,if_neg h1]
   rw[e,B8 F r (M++[x]),append_assoc];rfl
theorem Ck{F:Nat→Int}{T:By}(h:eO F T):oS (iQ F T).2∧pU (gFn (iQ F T).2) (gT (iQ F T).2) F T:=by
 have h9:=h.1;unfold aX at h9;have hcat:=wQ h;obtain⟨b,hb⟩:∃ b,b=(iQ F T).2:=⟨_,rfl⟩
 obtain⟨rest,hrest⟩:∃ r,r=(if F 0=3 then UInt8.ofNat T.length::T else []):=⟨_,rfl⟩
 rw[←hb,←hrest] at hcat;rw[←hb];have e0:le (F 0) 1=[UInt8.ofNat (F 0).toNat]:=by have:=BD (F 0).toNat;rwa[show (((F 0).toNat:Nat):Int)=F 0 by omega] at this
 have hb2:b=UInt8.ofNat (F 0).toNat::(dT F (bC (F 0))++rest):=by rw[hcat,e0];simp
 have hK:gK b=F 0:=by
  unfold gK;rw[(oK (n:=1) (s:=(0,b)) (by decide) (by decide) rfl (by rw[hb2];simp;omega)).2,hb2];simp[bT];omega
 obtain⟨c,r,hb3,hc,h0⟩:=M7 (b:=b) (by omega);have er:r=dT F (bC (F 0))++rest:=by rw[hb2] at hb3;simp at hb3;exact hb3.2.symm
 have hR:gR b=((0,rest),upd (dX F (bC (F 0))) 0 (F 0)):=by
  unfold gR;rw[h0,er,hK,KL F _ _ _ (fun x hx=>by
   obtain⟨_,b1,b4,m0,mb⟩:=gX hx;have:=rJ h x hx;unfold okF at this;rw[OB (by omega)] at mb;exact⟨b1,b4,this.1,by omega⟩)]
  have:=B8 F (bC (F 0)) [];rw[xH,nil_append] at this;rw[this]
 have hsame:∀ U,U=T→pU (gFn b) U F T:=fun U hU=>by
  unfold gFn;rw[hR];refine(qI F U T).2 ⟨fun _=>by omega,fun _ _=>by omega,hU⟩
 have hfin:xQ b=(0,[])∧gT b=T:=by
  by_cases h3:F 0=3
  · rw[if_pos h3] at hrest
    have hl:(UInt8.ofNat T.length).toNat=T.length:=by rw[UInt8.toNat_ofNat'];omega
    have z4:cU 0 rest 1=0:=by rw[dG (by decide) (by rw[hrest];simp;omega)]
    obtain⟨c1,c2⟩:=cM z4;have hn:cX 0 1=0:=iR (by decide) (by decide) _;have etE:tE 0 rest=0:=by unfold tE;rw[hn,z4]
    have etR:tR 0 rest=T:=by unfold tR;rw[hn,c2,hrest];rfl
    have etN:tN 0 rest=T.length:=by unfold tN;rw[hn,c1,hrest];simp[bT];omega
    have z5:cU 0 T T.length=0:=by rw[dG (by omega) (by omega)]
    obtain⟨c3,c4⟩:=cM z5;unfold xQ gT fI gTx;rw[hK,if_pos h3,if_pos h3,hR];simp only;rw[etE,etR,etN,z5,c3,c4];simp
  · rw[if_neg h3] at hrest
    have:T=[]:=eq_nil_of_length_eq_zero (by omega);unfold xQ gT;rw[hK,if_neg h3,if_neg h3,hR,hrest];exact⟨rfl,this.symm⟩
 refine⟨⟨by rw[hfin.1];rfl,?_⟩,by rw[hfin.2];exact hsame T rfl⟩;have hs:=(hsame T rfl).1;rw[hfin.2];have hc:=h;unfold eO aX at hc ⊢;rw[hs 0 (by decide),hs 1 (by decide),hs 2 (by decide),hs 3 (by decide),hs 4 (by decide),hs 5 (by decide),hs 6 (by decide),hs 7 (by decide),hs 8 (by decide),hs 9 (by decide)];exact hc
theorem JP{F:Nat→Int}{T:By}(h:eO F T):((iQ F T).2.getD 0 0).toNat=(F 0).toNat:=by
 have hk:=oG h;have e0:le (F 0) 1=[UInt8.ofNat (F 0).toNat]:=by have:=BD (F 0).toNat;rwa[show (((F 0).toNat:Nat):Int)=F 0 by omega] at this
 rw[wQ h,e0];simp;omega
theorem HF{F:Nat→Int}{T:By}(h:eO F T)(h3:F 0=3):((iQ F T).2.getD 13 0).toNat=T.length:=by
 have h9:=h.1;unfold aX at h9;rw[wQ h,if_pos h3];have hl:(le (F 0) 1++dT F (bC (F 0))).length=13:=by
  rw[length_append,aR,mJ];unfold bC fH;rw[if_neg (by omega),if_neg (by omega)];rfl
 rw[List.getD,List.getElem?_append_right (by omega),hl];simp;omega
def TkP(W:World)(b:By):Value→World→Prop:=fun v w'=>v=.tuple #[.agg (aZ (tkF b) (tkT b)).toArray,iV (tkE b)]∧aA nob W w'
theorem Ee{b:By}(h:oS b):tkF b=gFn b∧tkT b=gT b∧tkE b=0:=by unfold tkF tkT tkE;rw[if_pos h,if_pos h,if_pos h];exact⟨rfl,rfl,rfl⟩
theorem FM{b:By}(h:¬ oS b):tkF b=(fun _=>0)∧tkT b=[]∧tkE b=2:=by unfold tkF tkT tkE;rw[if_neg h,if_neg h,if_neg h];exact⟨rfl,rfl,rfl⟩
theorem O4(q:Rd×(Nat→Int))(x:Fd):(gF q x).1.2.length≤q.1.2.length:=fC _ _ _
theorem xP(b:By)(k:Nat)(h:k<(bC (gK b)).length):gSt b (k+1)=gF (gSt b k) ((bC (gK b)).getD k fd0):=by
 unfold gSt;rw[qO h,foldl_append];rfl
theorem vI(b:By):∀ k,k≤(bC (gK b)).length→(gSt b k).1.2.length≤b.length
|0,_=>fC _ _ _
|k+1,h=>by rw[xP b k (by omega)];exact Nat.le_trans (O4 _ _) (vI b k (by omega))
theorem BJ(b:By):gSt b (bC (gK b)).length=gR b:=by unfold gSt gR;rw[take_length]
theorem N2(b:By):∀ k,k≤(bC (gK b)).length→(gSt b k).2 0=gK b
|0,_=>by show upd (fun _=>0) 0 (gK b) 0=_;simp[upd]
|k+1,h=>by
   have hm:=rL (k:=gK b) (i:=k) (by omega);have:=(gX hm).1.2.2.1;rw[xP b k (by omega)];show upd (gSt b k).2 _ _ 0=_;unfold upd;rw[if_neg (by omega)];exact N2 b k (by omega)
theorem No(E:Int)(ys:By)(n:Int):(eG E ys n).length≤ys.length:=by unfold eG;split<;>simp;omega
theorem O3(b:By):(gT b).length≤b.length:=by
 unfold gT
 split
 · have h1:=vI b _ (Nat.le_refl _)
   rw[BJ] at h1;have h2:=I1 (gR b).1.1 (gR b).1.2;have h3:=No (tE (gR b).1.1 (gR b).1.2) (tR (gR b).1.1 (gR b).1.2) (tN (gR b).1.1 (gR b).1.2);unfold gTx;omega
 ·simp
theorem LU(b:By)(ao0:Option Addr)(c0:Nat)(W:World)(hv:Vw b8 W.heap ao0 c0 b)(hb:b.length≤1099511627776) :
 CA 139 [.slice ao0 b.length c0] W (TkP W b):=by
 refine cS 48 [(0,_)] Tryz.func139 ?_;refine Gz 2 ?_;refine Tz vO rfl ?_;intro w1 hg1 hs1 hf1;have hg1:w1.heap[W.heap.size]?=some (.cells (aZ (fun _=>0) []).toArray 84 (0,0)):=hg1;refine Gz 6 ?_;refine Ts KS rfl (oA ao0 c0 b w1 (hv.WR hf1) (by omega)) rfl ?_;rintro _ w2 ⟨p,rfl,hp1,hP2,hf2⟩;have hlp:=hP2.lt;refine cA 6 xT (fR p 0 b 1 w2 hP2 hb) ?_;rintro _ w3 ⟨rfl,hP3,hf3⟩;have hP3:RdL _ w3.heap p (g0 b).1.1 (g0 b).1.2:=hP3;have hg3:=hf3.obj (hf2.obj hg1 id) (by omega);refine cL (bU (aZ (g0 b).2 []) CY vO) ?_;refine Tz vO rfl ?_;intro w4 hg4 hs4 hf4;refine sA rfl cT (by intro v hv;exact dQ _ _ v hv) hg4 ?_;intro w5 hg5 hs5 hf5;have hz2:=hf2.size;have hz3:=hf3.size;have hF5:aA nob w3 w5:=hf4.tw hf5;have hP5:=hP3.WR hF5;have hg5r:=hF5.obj hg3 id;have hFW5:aA nob W w5:=(((hf1.trans hf2).any.trans hf3).fresh (fun k hk=>by have:k=p:=hk;omega)).trans hF5;refine Gz 4 ?_;refine TG 7 (fun H=>H[w3.heap.size]?=some (.cells (aZ (g0 b).2 []).toArray 84 (0,0))) [0,3,4] [1,2,6,0,3,4,5] aL (by kernel_rfl) (hg5) ?_;refine Gz 3 ?_;refine Ty rfl rfl (Ts N4 rfl (AT _) rfl ?_);rintro _ w6 ⟨ao2,c2,rfl,ho2,hfr2,hf6⟩;refine TE (by exact hf6.obj hg5 id) ?_;refine Ty rfl rfl (Ts K4 rfl (tV (gK b) _) rfl ?_);rintro _ w7 ⟨ao3,c3,rfl,ho3,hfr3,hf7⟩;refine TE (by exact hf7.obj (hf6.obj hg5 id) id) ?_;refine Ty rfl rfl (TH eK rfl rB rfl rfl (ho2.WR hf7) (ho3.vw eK) (by have:=kK (gK b);unfold bC at this;rw[length_append] at this;omega) (by have:=kK (gK b);unfold bC at this;rw[length_append] at this;unfold maxLen;omega) rfl ?_);intro ao4 c4 w8 ho4 hf8 hr4 hn4;have hfr2:Fr w5.heap.size ao2:=hfr2;have hf6:=hf6.WP;have hz6:=hf6.size;have hz7:=hf7.size;have hF8:aA nob w5 w8:=(hf6.trans hf7).WO hf8 hfr2.step;have hg8:=hF8.obj hg5 id;have hz8:=hF8.size;have hLlen:=kK (gK b);refine TE (by exact hg8) ?_;refine Gz 4 ?_;have hne4:∀ a,ao4=some a→w5.heap.size≤a.block∧a.block<w8.heap.size:=fun a ha=>⟨by rcases hr4 a ha with h|h;exact hfr2 a h;omega,ho4.lt a ha⟩
 refine TA (β:=Nat) (fun k=>[(2,pT W.heap.size),(4,pT p),(5,pT w3.heap.size),(17,.slice ao4 (bC (gK b)).length c4),(18,iV (bC (gK b)).length),(19,iV k)]) (fun k w=>k≤(bC (gK b)).length∧RdL (fun k=>w1.heap.size≤k∧k<w2.heap.size) w.heap p (gSt b k).1.1 (gSt b k).1.2∧w.heap[w3.heap.size]?=some (.cells (aZ (gSt b k).2 []).toArray 84 (0,0))∧VwM 3 fdV w.heap ao4 c4 (bC (gK b))∧w.heap[W.heap.size]?=some (.cells (aZ (fun _=>0) []).toArray 84 (0,0))∧w8.heap.size≤w.heap.size∧aA nob W w) (fun k=>(bC (gK b)).length-k) 0 ⟨rfl,rfl,rfl,rfl,rfl,rfl,trivial⟩ ⟨Nat.zero_le _,hP5.WR hF8,hg8,ho4.vw eK,hF8.obj hg5r id,Nat.le_refl _,hFW5.trans hF8⟩ ?_;rintro k w9 ⟨hk,hP9,hq,hL,hr9,hlt9,hF9⟩;refine fK 2 ?_ ?_<;>intro h20
 ·refine Gz 10 ?_;have hkL:k<(bC (gK b)).length:=by omega
  have hrow:=Fj hL (k:=k) rfl hkL;have hmem:=rL hkL;obtain⟨⟨hfn,ho10,ho0,hcall⟩,hb1,hb4,hm0,hmb⟩:=gX hmem;obtain⟨x,hx⟩:∃ x,x=(bC (gK b)).getD k fd0:=⟨_,rfl⟩
  rw[←hx] at hrow hmem hfn ho10 ho0 hcall hb1 hb4 hm0;refine cL (Tv rB rfl rfl hL.non (by omega)) ?_;refine cL (TI (cs:=fdV x) uB rfl hrow) ?_;refine Tz iY rfl ?_;intro w10 hg10 hs10 hf10;refine sA rfl uB (by simp[fdV,Value.oneCell']) hg10 ?_;intro w11 hg11 hs11 hf11;have hF11:aA nob w9 w11:=hf10.tw hf11;have hq11:=hF11.obj hq id;have hP11:=hP9.WR hF11;refine Gz 2 ?_;refine TG 8 (fun H=>H[w3.heap.size]?=some (.cells (aZ (gSt b k).2 []).toArray 84 (0,0))∧H[w9.heap.size]?=some (.cells (fdV x).toArray 242 (0,0))) [2,6,8] [0,1,3,4,5,2,6,7,8] aL (by kernel_rfl) (⟨hq11,hg11⟩) ?_;refine Gz 5 ?_;refine Ty rfl rfl (UL hfn rfl rfl (hcall w3.heap.size _) rfl ?_);rintro _ w12 ⟨rfl,hw12⟩;subst w12;refine TE (by exact⟨hq11,hg11⟩) ?_;refine Ty rfl rfl (Ts xT rfl (fR p _ _ x.b _ (hP11.WR (Wt _ _).WP) (Nat.le_trans (vI b k hk) hb)) rfl ?_);rintro _ w13 ⟨rfl,hP13,hf13⟩;have hf13u:=hf13.WP;have hq13:=hf13u.obj hq11 (by omega);refine TE (by exact⟨hf13.WP.obj hq11 (by omega),hf13.WP.obj hg11 (by omega)⟩) ?_;refine Gz 1 ?_;refine Ty rfl rfl (Tx aI rfl rfl rfl hq13 (by simp[aZ];omega) ?_);intro w14 hg14 hs14 hf14;refine T6 rfl ?_;rw[xJ _ _ ho10] at hg14;refine Gz 7 ?_;refine aG (k+1) ?_ (by show (bC (gK b)).length-(k+1)<(bC (gK b)).length-k;omega);have hz13:=hf13u.size;have hS:=xP b k hkL;rw[←hx] at hS;refine⟨by omega,?_,?_,((hL.WR hF11).WS hf13u (fun a ha h=>by have:=hne4 a ha;have h2:a.block=p:=h;omega)).WS hf14 (fun a ha h=>by have:=hne4 a ha;have h2:a.block=w3.heap.size:=h;omega),hf14.obj (hf13u.obj (hF11.obj hr9 id) (by omega)) (by omega),by omega,((hF9.trans hF11).tw hf13u).tw hf14⟩
  ·rw[hS];exact hP13.WS hf14 (fun k hk h=>by omega)
  ·rw[hS];exact hg14
 refine Gz 9 ?_;refine TY (β:=Unit) (fun _u=>[(2,pT W.heap.size),(4,pT p),(5,pT w3.heap.size)]) (fun _u w=>RdL (fun k=>w1.heap.size≤k∧k<w2.heap.size) w.heap p (xQ b).1 (xQ b).2∧w.heap[w3.heap.size]?=some (.cells (aZ (gFn b) (gT b)).toArray 84 (0,0))∧w.heap[W.heap.size]?=some (.cells (aZ (fun _=>0) []).toArray 84 (0,0))∧aA nob W w) ?_ ?_
 ·refine Gz 3 ?_;have hkk:k=(bC (gK b)).length:=by omega
  subst hkk;have e0:=N2 b _ (Nat.le_refl _);rw[BJ] at hP9 hq e0;refine fK 1 ?_ ?_<;>intro h34
  ·have h3:gK b=3:=by omega
   have eE:xQ b=fI (gR b).1:=by unfold xQ;rw[if_pos h3]
   have eT:gT b=gTx (gR b).1:=by unfold gT;rw[if_pos h3]
   refine Gz 5 ?_;refine Ts N6 rfl (An p _ _ w9 hP9 (by have:=vI b _ (Nat.le_refl _);rw[BJ] at this;omega)) rfl ?_;rintro _ w15 ⟨rfl,hP15,hf15⟩;have hq15:=hf15.obj hq (by omega);refine Gz 1 ?_;refine Tx gU rfl rfl rfl hq15 rfl ?_;intro w16 hg16 hs16 hf16;have hg16:w16.heap[w3.heap.size]?=some (.cells (aZ (gFn b) (gTx (gR b).1)).toArray 84 (0,0)):=hg16;have hr16:=hf16.obj (hf15.obj hr9 (by omega)) (fun h=>by have h:W.heap.size=w3.heap.size:=h;omega);have hP16:=hP15.WS hf16 (fun k hk h=>by have h:k=w3.heap.size:=h;omega);have hF16:=(hF9.tw hf15).tw hf16;refine Gz 1 ?_;refine aC () ?_;exact⟨by rw[eE];exact hP16,by rw[eT];exact hg16,hr16,hF16⟩
  have h3:¬ gK b=3:=by omega
  have eE:xQ b=(gR b).1:=by unfold xQ;rw[if_neg h3]
  have eT:gT b=[]:=by unfold gT;rw[if_neg h3]
  refine Gz 4 ?_;refine aC () ?_;exact⟨by rw[eE];exact hP9,by rw[eT];exact hq,hr9,hF9⟩
 rintro _ w17 ⟨hP17,hq17,hr17,hF17⟩;have hTl:(gT b).length≤maxLen:=by have:=O3 b;unfold maxLen;omega
 refine Gz 4 ?_;refine Ts P7 rfl (JK p _ _ w17 hP17) rfl ?_;rintro _ w18 ⟨rfl,hf18⟩;have hq18:=hf18.obj hq17 (by omega);have hr18:=hf18.obj hr17 (by omega);have hF18:=hF17.tw hf18;refine fK 0 ?_ ?_<;>intro h40
 ·have hno:¬ oS b:=fun h=>h40 h.1;have hf19:aA nob w18 w18:=Wt _ _;refine Gz 10 ?_;refine cL (bU (aZ (fun _=>0) []) CY vO) ?_;refine sA rfl cT (by intro v hv;exact dQ _ _ v hv) (hf19.obj hr18 id) ?_;intro w20 hg20 hs20 hf20;refine Gz 5 ?_;refine rC hg20 cT ?_;obtain⟨e1,e2,e3⟩:=FM hno;exact⟨_,rfl,by rw[e1,e2,e3],(hF18.trans hf19).tw hf20⟩
 refine Gz 1 ?_;refine cW (TI (cs:=aZ (gFn b) (gT b)) cT rfl (fun j v hj=>aE hq18 hj)) ?_;refine TJ rfl rfl P6 rfl (OP (gFn b) (gT b) w18 hTl) rfl ?_;rintro _ w19 ⟨rfl,hf19⟩;refine T5 rfl rfl (Uj rfl) rfl (fun h44=>?_) (fun h44=>?_)
 ·have hno:¬ oS b:=fun h=>of_decide_eq_false h44 h.2;refine Gz 6 ?_;refine cL (bU (aZ (fun _=>0) []) CY vO) ?_;refine sA rfl cT (by intro v hv;exact dQ _ _ v hv) (hf19.obj hr18 id) ?_;intro w20 hg20 hs20 hf20;refine Gz 5 ?_;refine rC hg20 cT ?_;obtain⟨e1,e2,e3⟩:=FM hno;exact⟨_,rfl,by rw[e1,e2,e3],(hF18.trans hf19).tw hf20⟩
 have hyes:oS b:=⟨Decidable.not_not.1 h40,byContradiction fun h=>h44 (decide_eq_false h)⟩
 refine Gz 8 ?_;refine cL (TI (cs:=aZ (gFn b) (gT b)) cT rfl (fun j v hj=>aE (hf19.obj hq18 id) hj)) ?_;refine sA rfl cT (by intro v hv;exact dQ _ _ v hv) (hf19.obj hr18 id) ?_;intro w20 hg20 hs20 hf20;refine Gz 4 ?_;refine rC hg20 cT ?_;obtain⟨e1,e2,e3⟩:=Ee hyes;exact⟨_,rfl,by rw[e1,e2,e3],(hF18.trans hf19).tw hf20⟩
def dO(h:By):Int:=if ((h.getD 0 0).toNat:Int)=2 then 22 else if ((h.getD 0 0).toNat:Int)=1 then 21 else if ((h.getD 0 0).toNat:Int)=3 then 14+(h.getD 13 0).toNat else 13
theorem MQ(h:By):13≤dO h∧dO h≤269:=by
 have h1:(h.getD 13 0).toNat<256:=UInt8.toNat_lt _;unfold dO
 split
 ·omega
 · split
   ·omega
   ·split<;>omega
def sY(L:List Fd):Int:=(L.map (fun x=>x.b)).sum
theorem G8(L:List Fd)(x:Fd):sY (L++[x])=sY L+x.b:=by unfold sY;simp
theorem I5(k:Int):sY (fH k)=if k=2 then 9 else if k=1 then 8 else 0:=by
 unfold fH
 split
 ·decide
 ·split<;>decide
theorem AA(h:By):dO h=13+sY (fH ((h.getD 0 0).toNat:Int))+(if ((h.getD 0 0).toNat:Int)=3 then 1+((h.getD 13 0).toNat:Int) else 0):=by
 rw[I5];unfold dO
 split
 ·omega
 · split
   ·omega
   ·split<;>omega
theorem FP(L:List Fd)(h:∀ x∈L,0≤x.b∧x.b≤4):0≤sY L∧sY L≤4*L.length:=by
 induction L with
|nil=>exact⟨Int.le_refl 0,Int.le_refl 0⟩
|cons x r ih=>
   have h1:=h x (by simp);have h2:=ih (fun y hy=>h y (by simp[hy]));have e:sY (x::r)=x.b+sY r:=by unfold sY;simp
   rw[e,length_cons];omega
def bJ(im:By)(fr to ref:Int):((Nat→Int)×By)×Int×Int:=
 if (aD im fr to ref 14).2.2≠0 then ((fun _=>0,[]),0,2) else
 if (aD im fr to ref (dO (aD im fr to ref 14).1)).2.2≠0 then ((fun _=>0,[]),0,2) else
 if oS (aD im fr to ref (dO (aD im fr to ref 14).1)).1 then ((gFn (aD im fr to ref (dO (aD im fr to ref 14).1)).1,gT (aD im fr to ref (dO (aD im fr to ref 14).1)).1),(aD im fr to ref (dO (aD im fr to ref 14).1)).2.1,0)
 else ((fun _=>0,[]),0,2)
section
variable {im:List UInt8}{fr to ref:Int}
theorem OY(h:(aD im fr to ref 14).2.2≠0):bJ im fr to ref=((fun _=>0,[]),0,2):=by unfold bJ;rw[if_pos h]
theorem OX(h:(aD im fr to ref 14).2.2=0)(h2:(aD im fr to ref (dO (aD im fr to ref 14).1)).2.2≠0):bJ im fr to ref=((fun _=>0,[]),0,2):=by unfold bJ;rw[if_neg (fun h'=>h' h),if_pos h2]
theorem OW(h:(aD im fr to ref 14).2.2=0)(h2:(aD im fr to ref (dO (aD im fr to ref 14).1)).2.2=0)(h3:¬ oS (aD im fr to ref (dO (aD im fr to ref 14).1)).1):bJ im fr to ref=((fun _=>0,[]),0,2):=by
 unfold bJ;rw[if_neg (fun h'=>h' h),if_neg (fun h'=>h' h2),if_neg h3]
theorem KA(h:(aD im fr to ref 14).2.2=0)(h2:(aD im fr to ref (dO (aD im fr to ref 14).1)).2.2=0)(h3:oS (aD im fr to ref (dO (aD im fr to ref 14).1)).1) :
 bJ im fr to ref=((gFn (aD im fr to ref (dO (aD im fr to ref 14).1)).1,gT (aD im fr to ref (dO (aD im fr to ref 14).1)).1),(aD im fr to ref (dO (aD im fr to ref 14).1)).2.1,0):=by
 unfold bJ;rw[if_neg (fun h'=>h' h),if_neg (fun h'=>h' h2),if_pos h3]
end
def rwC(fo:Option Addr)(fn fc:Nat)(to:Option Addr)(tn tc:Nat):List Value:=[.slice fo fn fc,.slice to tn tc]
def RwO(D:Nat→Prop)(H:Array Obj)(g:Nat)(f t:By):Prop:=
 ∃ fo fc to tc,H[g]?=some (.cells (rwC fo f.length fc to t.length tc).toArray 73 (0,0))∧Own b8 5 H fo fc f∧Own b8 5 H to tc t∧¬ blk fo g∧¬ blk to g∧Ap fo to∧D g∧(∀ k,blk fo k→D k)∧(∀ k,blk to k→D k)
section
variable {D:Nat→Prop}{g:Nat}{f t:List UInt8}
theorem RwO.lt{H:Array Obj}(h:RwO D H g f t):g<H.size:=by obtain⟨fo,fc,to,tc,hg,_⟩:=h;exact(Array.getElem?_eq_some_iff.1 hg).1
theorem RwO.WS{S:Nat→Prop}{w w':World}(h:RwO D w.heap g f t)(hf:aA S w w')(hs:∀ k,D k→¬ S k):RwO D w'.heap g f t:=by
 obtain⟨fo,fc,to,tc,hg,h1,h2,h3,h4,h5,h6,h7,h8⟩:=h;exact⟨fo,fc,to,tc,hf.obj hg (hs g h6),h1.WS hf (fun a ha=>hs _ (h7 _ ⟨a,ha,rfl⟩)),h2.WS hf (fun a ha=>hs _ (h8 _ ⟨a,ha,rfl⟩)),h3,h4,h5,h6,h7,h8⟩
theorem RwO.shrink{S:Nat→Prop}{w w':World}(h:RwO D w.heap g f t)(hf:aA S w w')(hs:∀ k,D k→¬ S k):RwO (fun k=>D k∧(k<w.heap.size∨w'.heap.size≤k)) w'.heap g f t:=by
 have hl:=h.lt;obtain⟨fo,fc,to,tc,hg,h1,h2,h3,h4,h5,h6,h7,h8⟩:=h;exact⟨fo,fc,to,tc,hf.obj hg (hs g h6),h1.WS hf (fun a ha=>hs _ (h7 _ ⟨a,ha,rfl⟩)),h2.WS hf (fun a ha=>hs _ (h8 _ ⟨a,ha,rfl⟩)),h3,h4,h5,⟨h6,.inl hl⟩,
  fun k ⟨a,ha,hb⟩=>⟨h7 k ⟨a,ha,hb⟩,.inl (by have:=h1.lt a ha;omega)⟩,fun k ⟨a,ha,hb⟩=>⟨h8 k ⟨a,ha,hb⟩,.inl (by have:=h2.lt a ha;omega)⟩⟩
end
theorem Vw.keepN{α:Type}{enc:α→Value}{ao:Option Addr}{cap:Nat}{xs:List α}{w w':World}{S:Nat→Prop}(h:Vw enc w.heap ao cap xs)(f:aA S w w')(hs:xs≠[]→∀ a,ao=some a→¬ S a.block):Vw enc w'.heap ao cap xs:=h.keep' f hs
theorem L8{D:Nat→Prop}{W w1 w2:World}{g:Nat}{f t t':By}{fo to to':Option Addr}{fc tc tc':Nat}(hD:∀ k,W.heap.size≤k→D k)
 (hg:W.heap[g]?=some (.cells (rwC fo f.length fc to t.length tc).toArray 73 (0,0)))(h1:Own b8 5 W.heap fo fc f)(h3:¬ blk fo g)(h4:¬ blk to g)(h5:Ap fo to)(h6:D g)(h7:∀ k,blk fo k→D k)(h8:∀ k,blk to k→D k)
 (ho:Own b8 5 w1.heap to' tc' t')(hf1:aA (blk to) W w1)(hr:∀ a,to'=some a→to=some a∨W.heap.size≤a.block)
 (hg2:w2.heap[g]?=some (.cells (rwC fo f.length fc to' t'.length tc').toArray 73 (0,0)))(hf2:aA (· = g) w1 w2) :
 RwO D w2.heap g f t'∧aA D W w2:=by
 have hgl:=(Array.getElem?_eq_some_iff.1 hg).1;have hD1:aA D W w1:=hf1.mono h8;have hD2:aA D W w2:=hD1.trans (hf2.mono (fun k h=>by have h:k=g:=h;subst h;exact h6));have hn:¬ blk to' g:=fun⟨a,ha,hb⟩=>by
  rcases hr a ha with h|h
  ·exact h4 ⟨a,h,hb⟩
  ·omega
 refine⟨⟨fo,fc,to',tc',hg2,(h1.WS hf1 (fun a ha ⟨b,hb,h⟩=>h5 a b ha hb h.symm)).WS hf2 (fun a ha h=>h3 ⟨a,ha,h⟩),ho.WS hf2 (fun a ha h=>hn ⟨a,ha,h⟩),h3,hn,fun a b ha hb e=>?_,h6,h7,fun k ⟨a,ha,hb⟩=>?_⟩,hD2⟩
 · rcases hr b hb with h|h
   ·exact h5 a b ha h e
   ·have:=h1.lt a ha;omega
 · rcases hr a ha with h|h
   ·exact h8 k ⟨a,h,hb⟩
   ·exact hD k (by omega)
theorem Ma{D:Nat→Prop}{W w1 w2:World}{g:Nat}{f t f':By}{fo to fo':Option Addr}{fc tc fc':Nat}(hD:∀ k,W.heap.size≤k→D k)
 (hg:W.heap[g]?=some (.cells (rwC fo f.length fc to t.length tc).toArray 73 (0,0)))(h2:Own b8 5 W.heap to tc t)(h3:¬ blk fo g)(h4:¬ blk to g)(h5:Ap fo to)(h6:D g)(h7:∀ k,blk fo k→D k)(h8:∀ k,blk to k→D k)
 (ho:Own b8 5 w1.heap fo' fc' f')(hf1:aA (blk fo) W w1)(hr:∀ a,fo'=some a→fo=some a∨W.heap.size≤a.block)
 (hg2:w2.heap[g]?=some (.cells (rwC fo' f'.length fc' to t.length tc).toArray 73 (0,0)))(hf2:aA (· = g) w1 w2) :
 RwO D w2.heap g f' t∧aA D W w2:=by
 have hgl:=(Array.getElem?_eq_some_iff.1 hg).1;have hD1:aA D W w1:=hf1.mono h7;have hD2:aA D W w2:=hD1.trans (hf2.mono (fun k h=>by have h:k=g:=h;subst h;exact h6));have hn:¬ blk fo' g:=fun⟨a,ha,hb⟩=>by
  rcases hr a ha with h|h
  ·exact h3 ⟨a,h,hb⟩
  ·omega
 refine⟨⟨fo',fc',to,tc,hg2,ho.WS hf2 (fun a ha h=>hn ⟨a,ha,h⟩),(h2.WS hf1 (fun a ha ⟨b,hb,h⟩=>h5 b a hb ha h)).WS hf2 (fun a ha h=>h4 ⟨a,ha,h⟩),hn,h4,fun a b ha hb e=>?_,h6,fun k ⟨a,ha,hb⟩=>?_,h8⟩,hD2⟩
 · rcases hr a ha with h|h
   ·exact h5 a b h hb e
   ·have:=h2.lt b hb;omega
 · rcases hr a ha with h|h
   ·exact h7 k ⟨a,h,hb⟩
   ·exact hD k (by omega)
theorem Ow{D:Nat→Prop}{W w2:World}{g:Nat}{f t:By}{fo to:Option Addr}{fc tc:Nat}
 (hg:W.heap[g]?=some (.cells (rwC fo f.length fc to t.length tc).toArray 73 (0,0)))(h1:Own b8 5 W.heap fo fc f)(h3:¬ blk fo g)(h6:D g)(h7:∀ k,blk fo k→D k)
 (hg2:w2.heap[g]?=some (.cells (rwC fo f.length fc none 0 0).toArray 73 (0,0)))(hf2:aA (· = g) W w2) :
 RwO D w2.heap g f []∧aA D W w2:=
 ⟨⟨fo,fc,none,0,hg2,h1.WS hf2 (fun a ha h=>h3 ⟨a,ha,h⟩),WA,h3,(fun⟨a,ha,_⟩=>by cases ha),Wx,h6,h7,(fun k ⟨a,ha,_⟩=>by cases ha)⟩,hf2.mono (fun k h=>by have h:k=g:=h;subst h;exact h6)⟩
theorem AQ(f t:By)(x:UInt8):aY f (t++[x])=if ((aY f t).2++[x]).length=128 then ((aY f t).1++(cF ((aY f t).2++[x])).1,[]) else ((aY f t).1,(aY f t).2++[x]):=by
 have h:=gM f t;rw[sL]
 split
 ·rename_i h1;rw[Io h1]
 ·rename_i h1;rw[cZ (by rw[length_append] at h1 ⊢;simp at h1 ⊢;omega)]
theorem FL{b:By}{i:Nat}(h:i<b.length):b.take (i+1)=b.take i++[b.getD i 0]:=by
 rw[List.take_succ_eq_append_getElem h,List.getD,List.getElem?_eq_getElem h];rfl
theorem Jv(D:Nat→Prop)(g:Nat)(f t:By)(bo:Option Addr)(bc:Nat)(b:By)(W:World)(hM:RwO D W.heap g f t)(hD:∀ k,W.heap.size≤k→D k)(hv:Vw b8 W.heap bo bc b)(hbD:b≠[]→∀ k,blk bo k→¬ D k)(htl:t.length<128)(hb:f.length+2*(t.length+b.length)≤1099511627776) :
 CA 29 [pT g,.slice bo b.length bc] W fun v w'=>v=iV (256*f.length+t.length:Nat)∧RwO D w'.heap g (aY f (t++b)).1 (aY f (t++b)).2∧aA D W w':=by
 have hM0:=hM;obtain⟨fo,fc,to,tc,hg,h1,h2,h3,h4,h5,h6,h7,h8⟩:=hM;have hvl:=hv.WQ;refine cS 67 [(0,_),(1,_)] Tryz.func29 ?_;refine Gz 6 ?_;refine TN 13 [0,1,2,3,4,5,6,7,8,9,10,11,12] aL (by kernel_rfl) ?_;refine Gz 3 ?_;refine xC rfl (Tu aT rfl (aE hg rfl)) ?_;refine Gz 1 ?_;refine xC rfl (Ue rfl rfl (by omega)) ?_;refine Gz 3 ?_;refine xC rfl (Tu aT rfl (aE hg rfl)) ?_;refine Gz 12 ?_;refine TA (β:=Nat×(By×By)) (fun⟨i,⟨f9,t9⟩⟩=>[(0,pT g),(1,.slice bo b.length bc),(5,iV (256*f.length+t.length:Nat)),(6,iV i)]) (fun⟨i,⟨f9,t9⟩⟩ w=>i≤b.length∧aY f (t++b.take i)=(f9,t9)∧RwO D w.heap g f9 t9∧aA D W w) (fun⟨i,⟨f9,t9⟩⟩=>b.length-i) ⟨0,⟨f,t⟩⟩ ⟨rfl,rfl,rfl,rfl,trivial⟩ ⟨Nat.zero_le _,by rw[List.take_zero,append_nil,cZ htl],hM0,(Wt _ _).draws 1⟩ ?_;rintro⟨i,⟨f9,t9⟩⟩ w3 ⟨hi,hcw,hM3,hF3⟩;obtain⟨hoA,hcap,ko,kc,kg,k1,k2,k3,k4,k5,k6,k7,k8⟩:=hM3;have hM3:RwO D w3.heap g f9 t9:=⟨hoA,hcap,ko,kc,kg,k1,k2,k3,k4,k5,k6,k7,k8⟩
 have hv9:Vw b8 w3.heap bo bc b:=hv.keepN hF3 (fun hne a ha h=>hbD hne _ ⟨a,ha,rfl⟩ h);refine fK 6 ?_ ?_<;>intro h24
 ·have hib:i<b.length:=by omega
  have hsn:=AQ f (t++b.take i) (b.getD i 0);rw[append_assoc,←FL hib,hcw] at hsn;have hsn:aY f (t++b.take (i+1))=if (t9++[b.getD i 0]).length=128 then (f9++(cF (t9++[b.getD i 0])).1,[]) else (f9,t9++[b.getD i 0]):=hsn
  have hln:=sK f (t++b.take i);rw[hcw,length_append,length_take] at hln;have hrl:=gM f (t++b.take i);rw[hcw] at hrl;have hln:f9.length+2*t9.length≤f.length+2*(t.length+min i b.length):=hln;have hrl:t9.length<128:=hrl;refine Gz 5 ?_;refine TY (β:=By×By) (fun⟨f8,t8⟩=>[(0,pT g),(1,.slice bo b.length bc),(5,iV (256*f.length+t.length:Nat)),(6,iV i)]) (fun⟨f8,t8⟩ w=>aY f (t++b.take (i+1))=(f8,t8)∧RwO D w.heap g f8 t8∧aA D W w) ?_ ?_
  ·refine Gz 2 ?_;refine TG 13 (fun H=>Vw b8 H bo bc b∧H[g]?=some (.cells (rwC hoA f9.length hcap ko t9.length kc).toArray 73 (0,0))) [9,10,13] [0,1,2,3,4,5,6,7,8,9,10,11,12,13] aL (by kernel_rfl) (⟨hv9,kg⟩) ?_;refine Gz 7 ?_;refine xC rfl (Tt aK rfl rfl hv.non (by omega)) ?_;refine xC rfl (TF gW rfl (fun H hH=>hH.1.gd 0 hib)) ?_;refine Ty rfl rfl (T3 (enc:=b8) (u:=b.getD i 0) aK (aV _) rfl rfl ?_);intro w4 ho4 hs4 hf4;have hf4:=hf4.WP;refine TE (by exact⟨(hv9).WR hf4,hf4.obj kg id⟩) ?_;refine Ty rfl rfl (TB aV aK rfl rfl (k2.WR hf4) ho4.vw (by simp only[length_singleton];omega) (by simp only[length_singleton];unfold maxLen;omega) rfl ?_);intro to5 tc5 w5 ho5 hf5 hr5 hn5;have hg5:=hf5.obj (hf4.obj kg id) k4;have hv5:Vw b8 w5.heap bo bc b:=(hv9.WR hf4).keepN hf5 (fun hne a ha h=>hbD hne _ ⟨a,ha,rfl⟩ (k8 _ h));refine TE (by exact⟨hv5,hg5⟩) ?_;refine Gz 2 ?_;refine Ty rfl rfl (Tx aT rfl rfl rfl hg5 rfl ?_);intro w6 hg6 hs6 hf6;refine T6 rfl ?_;obtain⟨hM6,hF6⟩:=L8 (cR hf4 (cR hF3 hD)) (hf4.obj kg id) (k1.WR hf4) k3 k4 k5 k6 k7 k8 ho5 hf5 hr5 hg6 hf6;have hF6:=hf4.any.trans hF6;obtain⟨jo,jc,lo,lc,jg,j1,j2,j3,j4,j5,j6,j7,j8⟩:=hM6;refine fK 9 ?_ ?_<;>intro h45
   ·rw[if_pos (by omega)] at hsn;have hps:=fS (b:=t9++[b.getD i 0]) (by omega);refine cA 9 Id (lX lo lc (t9++[b.getD i 0]) w6 j2.vw) ?_;rintro _ w7 ⟨o7,c7,rfl,ho7,hfr7,hf7⟩;have hg7:=hf7.obj jg id;refine Gz 15 ?_;refine TB aV aK rfl rfl (j1.WR hf7) ho7.vw (by omega) (by unfold maxLen;omega) rfl ?_;intro fo8 fc8 w8 ho8 hf8 hr8 hn8;have hg8:=hf8.obj hg7 j3;refine Gz 2 ?_;refine Tx aT rfl rfl rfl hg8 rfl ?_;intro w9 hg9 hs9 hf9;obtain⟨hM9,hF9⟩:=Ma (cR hf7 (cR hF6 (cR hF3 hD))) hg7 (j2.WR hf7) j3 j4 j5 j6 j7 j8 ho8 hf8 hr8 hg9 hf9;obtain⟨io,ic,mo,mc,ig,i1,i2,i3,i4,i5,i6,i7,i8⟩:=hM9;refine Gz 6 ?_;refine Tx aT rfl rfl rfl ig rfl ?_;intro w10 hg10 hs10 hf10;obtain⟨hM10,hF10⟩:=Ow ig i1 i3 i6 i7 hg10 hf10;refine Gz 2 ?_;exact aC ⟨f9++(cF (t9++[b.getD i 0])).1,[]⟩ ⟨hsn,hM10,(((hF3.trans hF6).trans hf7.any).trans hF9).trans hF10⟩
   rw[if_neg (by omega)] at hsn;refine Gz 5 ?_;exact aC ⟨f9,t9++[b.getD i 0]⟩ ⟨hsn,⟨jo,jc,lo,lc,jg,j1,j2,j3,j4,j5,j6,j7,j8⟩,hF3.trans hF6⟩
  rintro⟨f8,t8⟩ w12 ⟨hcw12,hM12,hF12⟩;refine Gz 5 ?_;exact aG ⟨i+1,⟨f8,t8⟩⟩ ⟨by omega,hcw12,hM12,hF12⟩ (by show b.length-(i+1)<b.length-i;omega)
 have hib:i=b.length:=by omega
 subst hib;rw[take_length] at hcw;refine Gz 16 ?_;rw[hcw];exact⟨_,rfl,rfl,hM3,hF3⟩
theorem Hl(D:Nat→Prop)(g:Nat)(f t:By)(W:World)(hM:RwO D W.heap g f t)(hb:f.length≤1099511627000)(htl:t.length<128) :
 CA 30 [pT g] W (oT W (nK f t)):=by
 obtain⟨fo,fc,to,tc,hg,h1,h2,h3,h4,h5,h6,h7,h8⟩:=hM;refine cS 30 [(0,_)] Tryz.func30 ?_;refine Gz 7 ?_;refine T2 b8 aK rfl ?_;intro w1 ho1 hs1 hf1;have hg1:=hf1.obj hg id;refine Gz 4 ?_;refine TB aV aK rfl rfl ho1 (h1.WR hf1).vw (by simp only[length_nil];omega) (by simp only[length_nil];unfold maxLen;omega) rfl ?_;intro o2 c2 w2 ho2 hf2 hr2 hn2;rw[nil_append] at ho2 ⊢;have hF2:aA nob W w2:=hf1.WO hf2 (eP _).step;have hfr2:Fr W.heap.size o2:=bK (eP _) hr2 hf1.size;have hg2:=hF2.obj hg id;refine fK 11 ?_ ?_<;>intro h17
 ·have e:nK f t=f++(cF t).1:=by unfold nK;rw[if_neg (by omega)]
  have hps:=fS (b:=t) (by omega);refine cA 9 Id (lX to tc t w2 (h2.WR hF2).vw) ?_;rintro _ w3 ⟨o3,c3,rfl,ho3,hfr3,hf3⟩;refine Gz 10 ?_;refine TB aV aK rfl rfl (ho2.WR hf3) ho3.vw (by omega) (by unfold maxLen;omega) rfl ?_;intro o4 c4 w4 ho4 hf4 hr4 hn4;refine Gz 11 ?_;rw[e];exact⟨_,rfl,o4,c4,rfl,ho4,bK hfr2 hr4 (hF2.trans hf3).size,(hF2.trans hf3).WO hf4 hfr2.step⟩
 have e:nK f t=f:=by unfold nK;rw[if_pos (by omega)]
 refine Gz 13 ?_;rw[e];exact⟨_,rfl,o2,c2,rfl,ho2,hfr2,hF2⟩
abbrev I6:={ z:Int // -9223372036854775808≤z∧z≤9223372036854775807 }
def enI(z:I6):Value:=.int .i64 z.1
theorem Kv:uC Tryz.prog 3 enI:=by
 refine⟨Go.Maps.int_keyed ty3,fun a=>⟨.int .i64 a.1,?_⟩,fun a b h=>by unfold enI at h;exact Subtype.ext (by simpa using h)⟩;have h1:IntKind.i64.min = -9223372036854775808:=rfl;have h2:IntKind.i64.max=9223372036854775807:=rfl;have:=a.2;simp[keyOf,mapKey,enI,Lit.wf,h1,h2,this]
abbrev SK:={s:By // s.length≤maxLen}
def nL(r:By):SK:=if h:r.length≤maxLen then ⟨r,h⟩ else ⟨[],by decide⟩
theorem FY{r:By}(h:r.length≤maxLen):(nL r).1=r:=by unfold nL;rw[dif_pos h]
def N0:Value:=.agg #[sN,iV 0]
theorem mpH:LK Tryz.prog 208 3 235 N0:=⟨by kernel_rfl,by kernel_rfl⟩
theorem Cv{α:Type}[DecidableEq α]{a x:α}{v y:Value}:∀ {m:List (α×Value)},(x,y)∈mU m a v→(x=a∧y=v)∨(x,y)∈m
|[],h=>by
   simp only[mU,mem_singleton,Prod.mk.injEq] at h;exact .inl h
|p::r,h=>by
   unfold mU at h
   split at h
   · rcases mem_cons.1 h with h|h
     ·cases h;exact .inl ⟨rfl,rfl⟩
     ·exact .inr (List.mem_cons_of_mem _ h)
   · rcases mem_cons.1 h with h|h
     ·rw[h];exact .inr (by simp)
     · rcases Cv h with h|h
       ·exact .inl h
       ·exact .inr (List.mem_cons_of_mem _ h)
theorem Fs{α:Type}{enc:α→Value}{H:Array Obj}{gm:Nat}{m:List (α×Value)}(hm:jG enc H gm m){a:Addr}{v:Value}(h:bE H a=some v):a.block≠gm:=by
 intro e;unfold bE at h;rw[e,hm.1] at h;cases h
theorem kB{α:Type}{enc:α→Value}{H:Array Obj}{gm g:Nat}{m:List (α×Value)}(hm:jG enc H gm m){cs:Array Value}{T:TypeId}{z:Nat×Nat}(h:H[g]?=some (.cells cs T z)):g≠gm:=by
 intro e;rw[e,hm.1] at h;cases h
theorem Vw.neMap{α β:Type}{enc:α→Value}{en:β→Value}{H:Array Obj}{gm:Nat}{m:List (β×Value)}{ao:Option Addr}{c:Nat}{xs:List α}(h:Vw enc H ao c xs)(hm:jG en H gm m)(hne:xs≠[]):∀ a,ao=some a→a.block≠gm:=by
 intro a ha;have:=h.at (i:=0) (List.length_pos_iff.2 hne);have:=Fs hm this;rw[ha,kD] at this;exact this
theorem Own.neMap{α β:Type}{enc:α→Value}{en:β→Value}{e:TypeId}{H:Array Obj}{gm:Nat}{m:List (β×Value)}{ao:Option Addr}{c:Nat}{xs:List α}(h:Own enc e H ao c xs)(hm:jG en H gm m):∀ a,ao=some a→a.block≠gm:=by
 intro a ha;rcases h with⟨h,_⟩|⟨g,cur,rfl,hg,_⟩
 ·rw[h] at ha;cases ha
 ·cases ha;exact kB hm hg
def mrC(p:Nat)(io:Option Addr)(il ic:Nat)(fr to:Int)(gm:Nat):List Value:=[pT p,.slice io il ic,iV fr,iV to,.map (some gm)]
def hvC(bo:Option Addr)(bl bc:Nat)(nx:Int):List Value:=[.slice bo bl bc,iV nx]
theorem iX(bo:Option Addr)(bl bc:Nat)(nx:Int):∀ v∈hvC bo bl bc nx,v.oneCell'=true:=by
 intro v hv;simp only[hvC,mem_cons,not_mem_nil,or_false] at hv;rcases hv with rfl|rfl<;>rfl
def HmV(D:Nat→Prop)(H:Array Obj)(im:By)(fr to:Int)(m:List (I6×Value)):Prop:=
 ∀ a v,(a,v)∈m→∃ bo bc b nx,v=.agg (hvC bo b.length bc nx).toArray∧cB im fr to a.1=some (b,nx)∧Vw b8 H bo bc b∧∀ k,blk bo k→D k
def MrO(D:Nat→Prop)(H:Array Obj)(g p:Nat)(im:By)(fr to:Int):Prop:=
 ∃ io ic gm m,H[g]?=some (.cells (mrC p io im.length ic fr to gm).toArray 210 (0,0))∧Own b8 5 H io ic im∧jG enI H gm m∧HmV D H im fr to m∧D g∧D gm∧(∀ k,blk io k→D k)∧TbV H p∧¬ D p
section
variable {D:Nat→Prop}{g p:Nat}{im:List UInt8}{fr to:Int}
theorem MrO.lt{H:Array Obj}(h:MrO D H g p im fr to):g<H.size:=by obtain⟨io,ic,gm,m,hg,_⟩:=h;exact(Array.getElem?_eq_some_iff.1 hg).1
theorem HmV.WS{S:Nat→Prop}{w w':World}{m:List (I6×Value)}(h:HmV D w.heap im fr to m)(hf:aA S w w')(hs:∀ k,D k→¬ S k):HmV D w'.heap im fr to m:=fun a v hv=>by
 obtain⟨bo,bc,b,nx,e,h1,h2,h3⟩:=h a v hv;exact⟨bo,bc,b,nx,e,h1,h2.WS hf (fun x hx=>hs _ (h3 _ ⟨x,hx,rfl⟩)),h3⟩
theorem MrO.WS{S:Nat→Prop}{w w':World}(h:MrO D w.heap g p im fr to)(hf:aA S w w')(hs:∀ k,D k→¬ S k)(hp:¬ S p):MrO D w'.heap g p im fr to:=by
 obtain⟨io,ic,gm,m,hg,h1,h2,h3,h4,h5,h6,h7,h8⟩:=h;exact⟨io,ic,gm,m,hf.obj hg (hs g h4),h1.WS hf (fun a ha=>hs _ (h6 _ ⟨a,ha,rfl⟩)),h2.WS hf (hs _ h5),h3.WS hf hs,h4,h5,h6,hf.obj h7 hp,h8⟩
theorem MrO.WR{w w':World}(h:MrO D w.heap g p im fr to)(hf:aA nob w w'):MrO D w'.heap g p im fr to:=h.WS hf (fun _ _=>id) id
theorem MrO.shrink{S:Nat→Prop}{w w':World}(h:MrO D w.heap g p im fr to)(hf:aA S w w')(hs:∀ k,D k→¬ S k)(hp:¬ S p):MrO (fun k=>D k∧(k<w.heap.size∨w'.heap.size≤k)) w'.heap g p im fr to:=by
 have hl:=h.lt;obtain⟨io,ic,gm,m,hg,h1,h2,h3,h4,h5,h6,h7,h8⟩:=h;refine⟨io,ic,gm,m,hf.obj hg (hs g h4),h1.WS hf (fun a ha=>hs _ (h6 _ ⟨a,ha,rfl⟩)),h2.WS hf (hs _ h5),fun a v hv=>?_,⟨h4,.inl hl⟩,⟨h5,.inl h2.obj⟩,fun k ⟨a,ha,hb⟩=>⟨h6 k ⟨a,ha,hb⟩,.inl (by have:=h1.lt a ha;omega)⟩,hf.obj h7 hp,fun h=>h8 h.1⟩;obtain⟨bo,bc,b,nx,e,k1,k2,k3⟩:=h3 a v hv;have hb:=(eZ k1).2.2.2.2.2.2.1;exact⟨bo,bc,b,nx,e,k1,k2.WS hf (fun x hx=>hs _ (k3 _ ⟨x,hx,rfl⟩)),fun k ⟨x,hx,hk⟩=>⟨k3 k ⟨x,hx,hk⟩,.inl (by have:=k2.lt (fun e=>by rw[e] at hb;cases hb) x hx;omega)⟩⟩
end
theorem Kf(p:Nat)(ao:Option Addr)(c:Nat)(im:By)(fr to:Int)(W:World)(ht:TbV W.heap p)(hv:Vw b8 W.heap ao c im)(hb:im.length≤140737488355328) :
 CA 77 [pT p,.slice ao im.length c,iV fr,iV to] W fun v w'=>∃ g,v=pT g∧W.heap.size≤g∧MrO (fun k=>W.heap.size≤k) w'.heap g p im fr to∧aA nob W w':=by
 refine cS 17 [(0,_),(1,_),(2,_),(3,_)] Tryz.func77 ?_;refine cA 9 Fg (iM ao c im W hv hb) ?_;rintro _ w1 ⟨o1,c1,rfl,ho1,hfr1,hf1⟩;have hz1:=hf1.size;refine Gz 2 ?_;refine UJ (enc:=enI) rfl ?_;intro w2 hm2 hs2 hf2;refine cL (TT (cs:=#[pT p,.slice o1 im.length c1,iV fr,iV to,.map (some w1.heap.size)]) OC Pp rfl (by kernel_rfl)) ?_;refine T1 rfl rfl ?_;intro w3 hg3 hs3 hf3;refine Gz 5 ?_;have hpl:=(Array.getElem?_eq_some_iff.1 ht).1;have hF:=(hf1.trans hf2).trans hf3;exact⟨_,rfl,_,rfl,by omega,⟨o1,c1,w1.heap.size,[],hg3,(ho1.WR hf2).WR hf3,hm2.WS hf3 id,(fun a v h=>by cases h),(by show W.heap.size≤_;omega),hz1,(fun k ⟨a,ha,hk⟩=>by have:=hfr1 a ha;show W.heap.size≤k;omega),hF.obj ht id,(by show ¬ W.heap.size≤p;omega)⟩,hF⟩
theorem MH(D:Nat→Prop)(g p:Nat)(im:By)(fr to:Int)(W:World)(hM:MrO D W.heap g p im fr to) :
 CA 135 [pT g] W fun v w'=>v=.bool (fF im fr to)∧aA nob W w':=by
 obtain⟨io,ic,gm,m,hg,h1,h2,h3,h4,h5,h6,h7,h8⟩:=hM;refine cS 31 [(0,_)] Tryz.func135 ?_;refine Gz 6 ?_;refine TN 29 [0,1,2,3,4,5,6,7,8,9,10,11,12,13,14,15,16,17,18,19,20,21,22,23,24,25,26,27,28] aL (by kernel_rfl) ?_;refine Gz 3 ?_;refine xC rfl (Tu aI rfl (aE hg rfl)) ?_;refine xK 0 ?_ ?_<;>intro h7
 ·refine Gz 4 ?_;refine xV rfl (Tu aI rfl (aE hg rfl)) ?_;refine Gz 3 ?_;refine xV rfl (Tu aI rfl (aE hg rfl)) ?_;refine xW 0 ?_ ?_<;>intro h17
  ·refine Gz 5 ?_;refine xV rfl (Tu aI rfl (aE hg rfl)) ?_;refine Gz 3 ?_;refine xV rfl (Tu aT rfl (aE hg rfl)) ?_;refine xW 1 ?_ ?_<;>intro h29
   ·refine Gz 6 ?_;refine⟨_,rfl,congrArg Value.bool (vE ⟨fun h=>?_,fun h=>?_⟩),(Wt _ _).draws 1⟩
    · first
     |omega
     |exact absurd h (by decide)
    · first
     |rfl
     |exact absurd h (by omega)
   refine Gz 6 ?_;refine⟨_,rfl,congrArg Value.bool (vE ⟨fun h=>?_,fun h=>?_⟩),(Wt _ _).draws 1⟩
   · first
    |omega
    |exact absurd h (by decide)
   · first
    |rfl
    |exact absurd h (by omega)
  refine Gz 18 ?_;refine⟨_,rfl,congrArg Value.bool (vE ⟨fun h=>?_,fun h=>?_⟩),(Wt _ _).draws 1⟩
  · first
   |omega
   |exact absurd h (by decide)
  · first
   |rfl
   |exact absurd h (by omega)
 refine Gz 28 ?_;refine⟨_,rfl,congrArg Value.bool (vE ⟨fun h=>?_,fun h=>?_⟩),(Wt _ _).draws 1⟩
 · first
  |omega
  |exact absurd h (by decide)
 · first
  |rfl
  |exact absurd h (by omega)
def HoP(D:Nat→Prop)(r:Option (By×Int))(v:Value)(H:Array Obj):Prop:=match r with
|none=>v=.tuple #[N0,.bool false]
|some (b,nx)=>∃ bo bc,v=.tuple #[.agg (hvC bo b.length bc nx).toArray,.bool true]∧Vw b8 H bo bc b∧∀ k,blk bo k→D k
theorem HmV.snoc{D:Nat→Prop}{H:Array Obj}{im:By}{fr to nx:Int}{a:I6}{m:List (I6×Value)}{bo:Option Addr}{bc:Nat}{b:By}(h:HmV D H im fr to m)(hh:cB im fr to a.1=some (b,nx))(hv:Vw b8 H bo bc b)(hD:∀ k,blk bo k→D k) :
 HmV D H im fr to (mU m a (.agg (hvC bo b.length bc nx).toArray)):=fun x y hxy=>by
 rcases Cv hxy with⟨rfl,rfl⟩|hm
 ·exact⟨bo,bc,b,nx,rfl,hh,hv,hD⟩
 ·exact h x y hm
theorem MD{D:Nat→Prop}{W w':World}{g p gm r:Nat}{im:By}{fr to nx:Int}{io bo:Option Addr}{ic bc:Nat}{b:By}{m:List (I6×Value)}{a:I6}
 (hD:∀ k,W.heap.size≤k→D k)(hg:W.heap[g]?=some (.cells (mrC p io im.length ic fr to gm).toArray 210 (0,0)))(h1:Own b8 5 W.heap io ic im)(h2:jG enI W.heap gm m)(h3:HmV D W.heap im fr to m)(h4:D g)(h5:D gm)(h6:∀ k,blk io k→D k)(h7:TbV W.heap p)(h8:¬ D p)
 (hF:aA (fun k=>k=gm∨k=r) W w')(hr:W.heap.size≤r)(hm:jG enI w'.heap gm (mU m a (.agg (hvC bo b.length bc nx).toArray)))(hh:cB im fr to a.1=some (b,nx))(hb:Vw b8 w'.heap bo bc b)(hfr:Fr W.heap.size bo) :
 MrO D w'.heap g p im fr to∧aA D W w':=by
 have hgl:=(Array.getElem?_eq_some_iff.1 hg).1;have hpl:=(Array.getElem?_eq_some_iff.1 h7).1;have hn:∀ k,k<W.heap.size→k≠gm→¬ (k=gm∨k=r):=fun k hk hk2 h=>by rcases h with h|h;exact hk2 h;omega
 refine⟨⟨io,ic,gm,_,hF.obj hg (hn g hgl (kB h2 hg)),h1.WS hF (fun x hx=>hn _ (h1.lt x hx) (h1.neMap h2 x hx)),hm,HmV.snoc (fun x v hx=>?_) hh hb (fun k ⟨x,hx,hk⟩=>hD k (by have:=hfr x hx;omega)),h4,h5,h6,hF.obj h7 (hn p hpl (fun e=>h8 (e ▸ h5))),h8⟩,hF.mono (fun k hk=>by rcases hk with rfl|rfl;exact h5;exact hD _ hr)⟩;obtain⟨bo',bc',b',nx',e,k1,k2,k3⟩:=h3 x v hx;have hb':b'≠[]:=fun e=>by have:=(eZ k1).2.2.2.2.2.2.1;rw[e] at this;cases this
 exact⟨bo',bc',b',nx',e,k1,k2.WS hF (fun y hy=>hn _ (k2.lt hb' y hy) (k2.neMap h2 hb' y hy)),k3⟩
theorem HY(D:Nat→Prop)(g p:Nat)(im:By)(fr to a:Int)(W:World)(hM:MrO D W.heap g p im fr to)(hD:∀ k,W.heap.size≤k→D k)(hmay:fF im fr to=true)(him:im.length≤1099511627776)(ha:0≤a∧a≤9223372036854775807) :
 CA 136 [pT g,iV a] W fun v w'=>HoP D (cB im fr to a) v w'.heap∧MrO D w'.heap g p im fr to∧aA D W w':=by
 have hM0:=hM;obtain⟨io,ic,gm,m,hg,h1,h2,h3,h4,h5,h6,h7,h8⟩:=hM;obtain⟨hm1,hm2,hm3⟩:0≤fr∧fr≤to∧to≤im.length:=by
  unfold fF at hmay;simp only[Bool.and_eq_true,decide_eq_true_eq] at hmay;omega
 have hgml:=h2.obj;refine cS 85 [(0,_),(1,_)] Tryz.func136 ?_;refine Gz 2 ?_;refine Tz pP rfl ?_;intro w1 hg1 hs1 hf1;refine Gz 9 ?_;refine cL (Tu Ji rfl (aE (hf1.obj hg id) rfl)) ?_;refine Gz 1 ?_;refine cL (UF mpH (a:=(⟨a,by omega⟩:I6)) Kv rfl rfl (fun _ e=>by rw[e];exact(h2.WS hf1 id))) ?_;refine Gz 2 ?_;refine TZ (TV (T9 rfl rfl)) rfl (fun h20=>?_) (fun h20=>?_)
 ·obtain⟨v,hv⟩:=Option.isSome_iff_exists.1 (of_decide_eq_true h20);rw[hv];obtain⟨bo,bc,b,nx,rfl,k1,k2,k3⟩:=h3 _ v (Dv hv);refine Tz pP rfl ?_;intro w2 hg2 hs2 hf2;refine sA rfl eA (iX _ _ _ _) hg2 ?_;intro w3 hg3 hs3 hf3;have hF13:aA nob w1 w3:=hf2.tw hf3;have hF3:=hf1.trans hF13;have hgr:=hF13.obj hg1 id;refine Gz 11 ?_;refine cL (TI (cs:=hvC bo b.length bc nx) eA rfl (fun j v hj=>aE hg3 hj)) ?_;refine sA rfl eA (iX _ _ _ _) hgr ?_;intro w4 hg4 hs4 hf4;have hF4:aA nob W w4:=hF3.tw hf4;refine Gz 5 ?_;refine rC hg4 eA ?_;exact⟨_,rfl,by rw[k1];exact⟨bo,bc,rfl,k2.WR hF4,k3⟩,hM0.WR hF4,hF4.any⟩
 have hv:mI m (⟨a,by omega⟩:I6)=none:=by simpa using h20
 rw[hv];refine Tz pP rfl ?_;intro w2 hg2 hs2 hf2;refine sA rfl eA (iX _ _ _ _) hg2 ?_;intro w3 hg3 hs3 hf3;have hF13:aA nob w1 w3:=hf2.tw hf3;have hF3:=hf1.trans hF13;have hgr:=hF13.obj hg1 id;have hgg:=hF3.obj hg id;refine Gz 13 ?_;refine TN 11 [0,1,2,3,4,5,6,7,8,9,10] aL (by kernel_rfl) ?_;refine Gz 4 ?_;refine xC rfl (Tu aI rfl (aE hgg rfl)) ?_;refine Gz 3 ?_;refine xC rfl (Tu aI rfl (aE hgg rfl)) ?_;refine xK 1 ?_ ?_<;>intro h33
 ·have hn:cB im fr to a=none:=by unfold cB;rw[if_pos (by omega)]
  refine Gz 5 ?_;refine cL (TT (cs:=#[sN,iV 0]) wR pP rfl (by kernel_rfl)) ?_;refine sA rfl eA (iX _ _ _ _) hgr ?_;intro w4 hg4 hs4 hf4;have hf4:=hf4.WP;have hF4:aA nob W w4:=hF3.tw hf4;refine Gz 5 ?_;refine rC hg4 eA ?_;exact⟨_,rfl,by rw[hn];exact rfl,hM0.WR hF4,hF4.any⟩
 refine Gz 6 ?_;refine TG 22 (fun H=>H[g]?=some (.cells (mrC p io im.length ic fr to gm).toArray 210 (0,0))) [14] [0,1,2,3,4,5,6,7,8,9,10,11,12,13,14,15,16,17,18,19,20,21] aL (by kernel_rfl) (hgg) ?_;refine Gz 14 ?_;refine Ty rfl rfl (Ts K5 rfl (xR p io ic im (fr+a) _ (hF3.obj h7 id) ((h1.WR hF3).vw) him (by omega)) rfl ?_);rintro _ w5 ⟨o5,c5,rfl,ho5,hfr5,hf5⟩;refine TE (by exact hf5.WP.WP.obj hgg id) ?_;have hfr5:Fr w3.heap.size o5:=hfr5;have hf5:=hf5.WP.WP;have hF5:=hF3.trans hf5;have hz3:=hF3.size;have hg5:=hf5.obj hgg id;have hgr5:=hf5.obj hgr id;obtain⟨t,hT⟩:∃ t,t=bB im (fr+a):=⟨_,rfl⟩
 rw[←hT];rw[←hT] at ho5;have hho:cB im fr to a=if t.2.2≠0∨to<t.2.1∨t.1.length=0 then none else some (t.1,t.2.1-fr):=by unfold cB;rw[if_neg (by omega),←hT]
 have htk:=vX (im:=im) (a:=fr+a);rw[←hT] at htk;refine fK 13 ?_ ?_<;>intro h55
 ·rw[if_pos (.inl h55)] at hho;refine Gz 18 ?_;refine cL (TT (cs:=#[sN,iV 0]) wR pP rfl (by kernel_rfl)) ?_;refine sA rfl eA (iX _ _ _ _) hgr5 ?_;intro w4 hg4 hs4 hf4;have hF4:aA nob W w4:=hF5.tw hf4;refine Gz 5 ?_;refine rC hg4 eA ?_;exact⟨_,rfl,by rw[hho];exact rfl,hM0.WR hF4,hF4.any⟩
 have he:t.2.2=0:=Decidable.not_not.1 h55;have htk:=htk he;refine fW 6 ?_ ?_<;>intro h62
 ·rw[if_pos (.inr (.inl h62))] at hho;refine Gz 11 ?_;refine cL (TT (cs:=#[sN,iV 0]) wR pP rfl (by kernel_rfl)) ?_;refine sA rfl eA (iX _ _ _ _) hgr5 ?_;intro w4 hg4 hs4 hf4;have hF4:aA nob W w4:=hF5.tw hf4;refine Gz 5 ?_;refine rC hg4 eA ?_;exact⟨_,rfl,by rw[hho];exact rfl,hM0.WR hF4,hF4.any⟩
 refine fW 4 ?_ ?_<;>intro h67
 ·rw[if_pos (.inr (.inr (by omega)))] at hho;refine Gz 6 ?_;refine cL (TT (cs:=#[sN,iV 0]) wR pP rfl (by kernel_rfl)) ?_;refine sA rfl eA (iX _ _ _ _) hgr5 ?_;intro w4 hg4 hs4 hf4;have hF4:aA nob W w4:=hF5.tw hf4;refine Gz 5 ?_;refine rC hg4 eA ?_;exact⟨_,rfl,by rw[hho];exact rfl,hM0.WR hF4,hF4.any⟩
 rw[if_neg (by rintro(h|h|h);exact h55 h;omega;omega)] at hho;refine Gz 15 ?_;refine cL (TT (cs:=#[.slice o5 t.1.length c5,iV (t.2.1-fr)]) wR pP rfl (by kernel_rfl)) ?_;refine Tz pP rfl ?_;intro w6 hg6 hs6 hf6;refine sA rfl eA (iX _ _ _ _) hg6 ?_;intro w7 hg7 hs7 hf7;have hF57:aA nob w5 w7:=hf6.tw hf7;have hF7:=hF5.trans hF57;have hg7g:=hF57.obj hg5 id;have hm7:=h2.WS hF7 id;have ho7:=ho5.WR hF57;refine Gz 3 ?_;refine TG 7 (fun H=>H[g]?=some (.cells (mrC p io im.length ic fr to gm).toArray 210 (0,0))∧H[w5.heap.size]?=some (.cells (hvC o5 t.1.length c5 (t.2.1-fr)).toArray 235 (0,0))) [6] [0,1,2,3,4,5,6] aL (by kernel_rfl) (⟨hg7g,hg7⟩) ?_;refine Gz 5 ?_;refine xC rfl (Uf (cs:=hvC o5 t.1.length c5 (t.2.1-fr)) eA rfl (fun H hH j v hj=>aE hH.2 hj)) ?_;refine Ty rfl rfl (UM mpH (a:=(⟨a,by omega⟩:I6)) Kv rfl rfl rfl hm7 ?_);intro w8 hm8 hs8 hf8;refine TE (by exact⟨hf8.obj hg7g (kB hm7 hg7g),hf8.obj hg7 (kB hm7 hg7)⟩) ?_;have hf8:=hf8.WP;have hgr8:=hf8.obj (hF57.obj hgr5 id) (kB hm7 (hF57.obj hgr5 id));have hg8:=hf8.obj hg7 (kB hm7 hg7);refine Gz 4 ?_;refine cL (TI (cs:=hvC o5 t.1.length c5 (t.2.1-fr)) eA rfl (fun j v hj=>aE hg8 hj)) ?_;refine sA rfl eA (iX _ _ _ _) hgr8 ?_;intro w9 hg9 hs9 hf9;refine Gz 4 ?_;refine rC hg9 eA ?_;have hF79:aA (fun k=>k=gm∨k=W.heap.size) w7 w9:=(hf8.mono (fun k h=>.inl h)).trans (hf9.mono (fun k h=>.inr h));have ho9:=(ho7.WS hf8 (ho7.neMap hm7)).WS hf9 (fun x hx h=>by have:=hfr5 x hx;have h:x.block=W.heap.size:=h;omega);obtain⟨hM9,hF9⟩:=MD (a:=⟨a,by omega⟩) (r:=W.heap.size) hD hg h1 h2 h3 h4 h5 h6 h7 h8 (hF7.any.trans hF79) (Nat.le_refl _) (hm8.WS hf9 (by omega)) hho ho9.vw (hfr5.mono hz3);exact⟨_,rfl,by rw[hho];exact⟨o5,c5,rfl,ho9.vw,fun k ⟨x,hx,hk⟩=>hD k (by have:=hfr5 x hx;omega)⟩,hM9,hF9⟩
theorem HoP.any{D:Nat→Prop}{r:Option (By×Int)}{v:Value}{H:Array Obj}(h:HoP D r v H):∃ bo bl bc nx ok,v=.tuple #[.agg (hvC bo bl bc nx).toArray,.bool ok] ∧
 (ok=false→r=none∧bl=0)∧(ok=true→∃ b,bl=b.length∧r=some (b,nx)∧Vw b8 H bo bc b∧∀ k,blk bo k→D k):=by
 unfold HoP at h
 split at h
 ·exact⟨none,0,0,0,false,h,(fun _=>⟨rfl,rfl⟩),(fun h=>by cases h)⟩
 · rename_i b nx
   obtain⟨bo,bc,h1,h2,h3⟩:=h;exact⟨bo,b.length,bc,nx,true,h1,(fun h=>by cases h),(fun _=>⟨b,rfl,rfl,h2,h3⟩)⟩
section
variable {D:Nat→Prop}{g p:Nat}{im:List UInt8}{fr to:Int}
theorem MrO.mono{D':Nat→Prop}{H:Array Obj}(h:MrO D H g p im fr to)(hd:∀ k,D k→D' k)(hp:¬ D' p):MrO D' H g p im fr to:=by
 obtain⟨io,ic,gm,m,hg,h1,h2,h3,h4,h5,h6,h7,h8⟩:=h;exact⟨io,ic,gm,m,hg,h1,h2,fun a v hv=>(by obtain⟨bo,bc,b,nx,e,k1,k2,k3⟩:=h3 a v hv;exact⟨bo,bc,b,nx,e,k1,k2,fun k hk=>hd k (k3 k hk)⟩),hd _ h4,hd _ h5,fun k hk=>hd k (h6 k hk),h7,hp⟩
theorem MrO.tab{H:Array Obj}(h:MrO D H g p im fr to):TbV H p∧¬ D p:=by obtain⟨io,ic,gm,m,hg,h1,h2,h3,h4,h5,h6,h7,h8⟩:=h;exact⟨h7,h8⟩
theorem MrO.beside{w w':World}{o o':Option Addr}{c':Nat}{x':By}(h:MrO (fun k=>D k∧¬ blk o k) w.heap g p im fr to)(hf:aA (blk o) w w')(hr:∀ a,o'=some a→o=some a∨w.heap.size≤a.block)(ho:Own b8 5 w'.heap o' c' x')(hp:¬ D p)(hpo:¬ blk o p) :
 MrO (fun k=>D k∧¬ blk o' k) w'.heap g p im fr to:=by
 refine(h.shrink hf (fun k hk=>hk.2) hpo).mono (fun k hk=>⟨hk.1.1,fun⟨a,ha,hb⟩=>?_⟩) (fun h=>hp h.1);have:=ho.lt a ha;rcases hr a ha with h1|h1
 ·exact hk.1.2 ⟨a,h1,hb⟩
 ·rcases hk.2 with h2|h2<;>omega
end
def MrP(D:Nat→Prop)(W:World)(g p:Nat)(im:By)(fr to:Int)(r:By×Int×Int):Value→World→Prop:=fun v w'=>
 ∃ o c,v=.tuple #[.slice o r.1.length c,iV r.2.1,iV r.2.2]∧Own b8 5 w'.heap o c r.1∧Fr W.heap.size o∧MrO (fun k=>D k∧¬ blk o k) w'.heap g p im fr to∧aA D W w'
theorem Kb(D:Nat→Prop)(g p:Nat)(im:By)(fr to ref n:Int)(W:World)(hM:MrO D W.heap g p im fr to)(hD:∀ k,W.heap.size≤k→D k)(him:im.length≤1099511627776)(href : -9223372036854775808≤ref∧ref≤9223372036854775807)(hn:n≤1099511627776) :
 CA 116 [pT g,iV ref,iV n] W (MrP D W g p im fr to (aD im fr to ref n)):=by
 have hM00:∀ w':World,MrO D w'.heap g p im fr to→MrO (fun k=>D k∧¬ blk none k) w'.heap g p im fr to:=fun w' h=>h.mono (fun k hk=>⟨hk,fun⟨a,ha,_⟩=>by cases ha⟩) (fun hp=>h.tab.2 hp.1);obtain⟨htb,hpD⟩:=hM.tab;have hpl:=(Array.getElem?_eq_some_iff.1 htb).1;refine cS 85 [(0,_),(1,_),(2,_)] Tryz.func116 ?_;refine fK 12 ?_ ?_<;>intro h17
 ·have e:aD im fr to ref n=([],0,1):=by unfold aD;rw[if_pos (by omega)]
  refine Gz 19 ?_;exact⟨_,rfl,none,0,by rw[e];rfl,by rw[e];exact WA,Wy,hM00 _ hM,Wt _ _⟩
 refine fW 2 ?_ ?_<;>intro h20
 ·have e:aD im fr to ref n=([],0,1):=by unfold aD;rw[if_pos (by omega)]
  refine Gz 16 ?_;exact⟨_,rfl,none,0,by rw[e];rfl,by rw[e];exact WA,Wy,hM00 _ hM,Wt _ _⟩
 obtain⟨m,rfl⟩:∃ m:Nat,n=m:=⟨n.toNat,by omega⟩
 refine cA 8 Ql (MH D g p im fr to W hM) ?_;rintro _ w1 ⟨rfl,hf1⟩;refine TZ (Uj rfl) rfl (fun h25=>?_) (fun h25=>?_)
 ·have e:aD im fr to ref m=([],0,2):=by unfold aD;rw[if_neg (by omega),if_pos h25]
  refine Gz 15 ?_;exact⟨_,rfl,none,0,by rw[e];rfl,by rw[e];exact WA,Wy,hM00 _ (hM.WR hf1),hf1.any⟩
 have hmay:fF im fr to=true:=by simpa using h25
 obtain⟨hm1,hm2,hm3⟩:0≤fr∧fr≤to∧to≤im.length:=by
  have hmay:=hmay;unfold fF at hmay;simp only[Bool.and_eq_true,decide_eq_true_eq] at hmay;omega
 have e:aD im fr to ref m=rdL im fr to m (ref/256) (ref%256).toNat []:=by unfold aD;rw[if_neg (by omega),if_neg h25,Int.toNat_natCast]
 refine Gz 15 ?_;refine cL (Uz rfl rfl (by omega) (by decide)) ?_;refine Gz 1 ?_;refine cL (Ul rfl rfl (by omega) (by decide)) ?_;refine Gz 6 ?_;refine TA (β:=(Int×Nat)×(By×(Option Addr×Nat))) (fun⟨⟨at_,i⟩,⟨out,⟨o,c⟩⟩⟩=>[(0,pT g),(2,iV m),(9,.slice o out.length c),(10,iV at_),(11,iV i)]) (fun⟨⟨at_,i⟩,⟨out,⟨o,c⟩⟩⟩ w=>rdL im fr to m at_ i out=aD im fr to ref m∧out.length≤m∧0≤at_∧256*at_+i≤9223372036854775807∧i≤255∧Own b8 5 w.heap o c out∧Fr W.heap.size o∧MrO (fun k=>D k∧¬ blk o k) w.heap g p im fr to∧aA D W w) (fun⟨⟨at_,i⟩,⟨out,⟨o,c⟩⟩⟩=>m-out.length) ⟨⟨ref/256,(ref%256).toNat⟩,⟨[],⟨none,0⟩⟩⟩ ⟨rfl,rfl,rfl,rfl,(by show some (Value.int .i64 _)=some (Value.int .i64 _);congr 2;omega),trivial⟩ ⟨e.symm,Nat.zero_le _,by omega,by omega,by omega,WA,Wy,hM00 _ (hM.WR hf1),hf1.any⟩ ?_;rintro⟨⟨at_,i⟩,⟨out,⟨o,c⟩⟩⟩ w2 ⟨hj,hol,hat,hai,hi8,ho2,hfr2,hM2,hF2⟩;refine fK 6 ?_ ?_<;>intro h33
 ·have hon:out.length<m:=by omega
  refine Gz 10 ?_;refine Ts Qk rfl (HY _ g p im fr to at_ w2 hM2 (fun k hk=>⟨hD k (Nat.le_trans hF2.size hk),fun⟨a,ha,hb⟩=>by have:=ho2.lt a ha;omega⟩) hmay him ⟨hat,by omega⟩) rfl ?_;rintro _ w3 ⟨hP,hM3,hF3⟩;obtain⟨bo,bl,bc,nx,ok,rfl,hno,hyes⟩:=hP.any;have ho3:=ho2.WS hF3 (fun a ha h=>h.2 ⟨a,ha,rfl⟩);refine Gz 3 ?_;refine Tz pP rfl ?_;intro w4 hg4 hs4 hf4;refine sA rfl eA (iX _ _ _ _) hg4 ?_;intro w5 hg5 hs5 hf5;have hF35:aA nob w3 w5:=hf4.tw hf5;have ho5:=ho3.WR hF35;have hM5:=hM3.WR hF35;have hF5:aA D W w5:=(hF2.trans (hF3.mono (fun k h=>h.1))).trans hF35.any;refine Gz 7 ?_;refine TZ (Uj rfl) rfl (fun h41=>?_) (fun h41=>?_)
  ·have hbad:rdL im fr to m at_ i out=([],0,2):=lY hon (hno h41).1;refine Gz 24 ?_
   (rw[hbad] at hj;exact⟨_,rfl,none,0,by rw[←hj];rfl,by rw[←hj];exact WA,Wy,hM00 _ (hM5.mono (fun k h=>h.1) hpD),hF5⟩)
  have hok:ok=true:=by simpa using h41
  obtain⟨b,hbl,hh,hvb,hbD⟩:=hyes hok;subst hbl;have hs:=eZ hh;refine fW 5 ?_ ?_<;>intro h47
  ·have hbad:rdL im fr to m at_ i out=([],0,2):=pB hon hh (by omega);refine Gz 18 ?_
   (rw[hbad] at hj;exact⟨_,rfl,none,0,by rw[←hj];rfl,by rw[←hj];exact WA,Wy,hM00 _ (hM5.mono (fun k h=>h.1) hpD),hF5⟩)
  have hib:¬ b.length≤i:=by omega
  have hlb:=hvb.le;obtain⟨x,hx⟩:∃ x,x=(b.drop i).take (m-out.length):=⟨_,rfl⟩
  have hxl:x.length=min (b.length-i) (m-out.length):=by rw[hx,length_take,length_drop];omega
  refine Gz 20 ?_;refine cL (Ux rfl rfl) ?_;refine cL (Tw (u:=.slice (aP bo bc i 1) x.length (bc-i)) (U0 aK rfl rfl rfl (by omega) (by omega)) (by rw[hxl];congr 1;omega)) ?_;have hvx:Vw b8 w5.heap (aP bo bc i 1) (bc-i) x:=by
   have:=(hvb.WR hF35).cut (l:=i) (h:=i+x.length) (m:=bc) (by omega) (by omega) (by omega) (Nat.le_refl _);rw[show i+x.length-i=x.length by omega] at this;rwa[show (b.drop i).take x.length=x by rw[hxl,hx];apply List.ext_getElem?;intro j;rw[List.getElem?_take,List.getElem?_take];by_cases hj1:j<m-out.length<;>by_cases hj2:j<b.length-i<;>simp[hj1,hj2]<;>omega] at this
  refine Gz 7 ?_;refine TB aV aK rfl rfl ho5 hvx (by omega) (by unfold maxLen;omega) rfl ?_;intro o6 c6 w6 ho6 hf6 hr6 hn6;have hM6:=hM5.beside hf6 hr6 ho6 hpD (fun⟨a,ha,hb⟩=>by have:=hfr2 a ha;omega);have hF6:aA D W w6:=hF5.WO hf6 hfr2.step;have hfr6:=bK hfr2 hr6 hF5.size;have hg6:=hf6.obj hg5 (fun⟨a,ha,hb⟩=>by have:=ho3.lt a ha;omega);have hal:(out++x).length=out.length+x.length:=length_append;have hxb:x.length=((b.drop i).take (m-out.length)).length:=by rw[hx]
  refine fK 12 ?_ ?_<;>intro h72
  ·have hgo:=kL (i:=i) (n:=m) hon hh hib (by rw[←hxb];omega);rw[←hx,hj] at hgo;refine Gz 12 ?_;exact aG ⟨⟨nx,0⟩,⟨out++x,⟨o6,c6⟩⟩⟩ ⟨hgo.symm,by omega,by omega,by omega,by omega,ho6,hfr6,hM6,hF6⟩ (by show m-(out++x).length<m-out.length;omega)
  have h128:¬ i+((b.drop i).take (m-out.length)).length=128:=by rw[←hxb];omega
  refine fK 9 ?_ ?_<;>intro h79
  ·have hbad:rdL im fr to m at_ i out=([],0,2):=pC hon hh hib h128 (by rw[←hx];omega);refine Gz 18 ?_
   (rw[hbad] at hj;exact⟨_,rfl,none,0,by rw[←hj];rfl,by rw[←hj];exact WA,Wy,hM00 _ (hM6.mono (fun k h=>h.1) hpD),hF6⟩)
  have hgo:=tI (i:=i) (n:=m) hon hh hib h128 (by rw[←hx];omega);rw[←hx,hj] at hgo;refine Gz 7 ?_;exact aG ⟨⟨at_,i+x.length⟩,⟨out++x,⟨o6,c6⟩⟩⟩ ⟨hgo.symm,by omega,hat,by omega,by omega,ho6,hfr6,hM6,hF6⟩ (by show m-(out++x).length<m-out.length;omega)
 have hon:¬ out.length<m:=by omega
 rw[lA hon] at hj;refine Gz 12 ?_;refine cL (Ue rfl rfl (by omega)) ?_;refine Gz 9 ?_;exact⟨_,rfl,o,c,by rw[←hj],by rw[←hj];exact ho2,hfr2,hM2,hF2⟩
def Nx(A:Nat→Prop)(W w':World):Nat→Prop:=fun k=>A k∨(W.heap.size≤k∧k<w'.heap.size)
theorem aA.nx{A:Nat→Prop}{W w':World}(h:aA (fun k=>A k∨W.heap.size≤k) W w'):aA A W w':=
 ⟨h.os,h.tape,h.output,h.size,fun k hk hn=>h.same k hk (fun h'=>h'.elim hn (fun h2=>by omega))⟩
theorem RwO.tight{D:Nat→Prop}{H:Array Obj}{g:Nat}{f t:By}(h:RwO D H g f t):RwO (fun k=>D k∧k<H.size) H g f t:=by
 have hl:=h.lt;obtain⟨fo,fc,to,tc,hg,h1,h2,h3,h4,h5,h6,h7,h8⟩:=h;exact⟨fo,fc,to,tc,hg,h1,h2,h3,h4,h5,⟨h6,hl⟩,fun k ⟨a,ha,hb⟩=>⟨h7 k ⟨a,ha,hb⟩,by have:=h1.lt a ha;omega⟩,fun k ⟨a,ha,hb⟩=>⟨h8 k ⟨a,ha,hb⟩,by have:=h2.lt a ha;omega⟩⟩
theorem RwO.mono{D D':Nat→Prop}{H:Array Obj}{g:Nat}{f t:By}(h:RwO D H g f t)(hd:∀ k,D k→D' k):RwO D' H g f t:=by
 obtain⟨fo,fc,to,tc,hg,h1,h2,h3,h4,h5,h6,h7,h8⟩:=h;exact⟨fo,fc,to,tc,hg,h1,h2,h3,h4,h5,hd _ h6,fun k hk=>hd _ (h7 k hk),fun k hk=>hd _ (h8 k hk)⟩
theorem RwO.nx{A:Nat→Prop}{W w':World}{g:Nat}{f t:By}(h:RwO (fun k=>A k∨W.heap.size≤k) w'.heap g f t):RwO (Nx A W w') w'.heap g f t:=
 h.tight.mono (fun k hk=>hk.1.elim .inl (fun h2=>.inr ⟨h2,hk.2⟩))
theorem MrO.tight{D:Nat→Prop}{H:Array Obj}{g p:Nat}{im:By}{fr to:Int}(h:MrO D H g p im fr to):MrO (fun k=>D k∧k<H.size) H g p im fr to:=by
 have hl:=h.lt;obtain⟨io,ic,gm,m,hg,h1,h2,h3,h4,h5,h6,h7,h8⟩:=h;refine⟨io,ic,gm,m,hg,h1,h2,fun a v hv=>?_,⟨h4,hl⟩,⟨h5,h2.obj⟩,fun k ⟨a,ha,hb⟩=>⟨h6 k ⟨a,ha,hb⟩,by have:=h1.lt a ha;omega⟩,h7,fun h=>h8 h.1⟩;obtain⟨bo,bc,b,nx,e,k1,k2,k3⟩:=h3 a v hv;have hb:=(eZ k1).2.2.2.2.2.2.1;exact⟨bo,bc,b,nx,e,k1,k2,fun k ⟨x,hx,hk⟩=>⟨k3 k ⟨x,hx,hk⟩,by have:=k2.lt (fun e=>by rw[e] at hb;cases hb) x hx;omega⟩⟩
theorem uY(T b:By):(aY [] T).1.length+2*((aY [] T).2.length+b.length)≤2*(T.length+b.length):=by
 have h:=sK [] T;rw[length_nil,Nat.zero_add] at h;omega
theorem Ag(A:Nat→Prop)(g:Nat)(T:By)(bo:Option Addr)(bc:Nat)(b:By)(W:World)(hM:RwO A W.heap g (aY [] T).1 (aY [] T).2)(hv:Vw b8 W.heap bo bc b)(hbA:b≠[]→∀ k,blk bo k→¬ A k)(hb:T.length+b.length≤274877906944) :
 CA 29 [pT g,.slice bo b.length bc] W fun v w'=>v=iV (aN T T.length:Nat)∧RwO (Nx A W w') w'.heap g (aY [] (T++b)).1 (aY [] (T++b)).2∧aA A W w':=by
 have hs:=uY T b;have hr:=gM [] T;refine(Jv (fun k=>A k∨W.heap.size≤k) g _ _ bo bc b W (hM.mono (fun k h=>.inl h)) (fun k h=>.inr h) hv (fun hne k hk h=>h.elim (hbA hne k hk) (fun h=>by obtain⟨a,ha,rfl⟩:=hk;have:=hv.lt hne a ha;omega)) hr (by omega)).mono ?_;rintro e w' ⟨v,rfl,rfl,h1,h2⟩;rw[←CK,←sL] at *;exact⟨_,rfl,rfl,h1.nx,h2.nx⟩
theorem wI(A:Nat→Prop)(g:Nat)(T:By)(W:World)(hM:RwO A W.heap g (aY [] T).1 (aY [] T).2)(hb:T.length≤274877906944) :
 CA 30 [pT g] W (oT W (frW T (nF T))):=by
 have hs:=uY T [];have hr:=gM [] T;have:=Hl A g _ _ W hM (by rw[length_nil] at hs;omega) hr;rwa[AO] at this
theorem eJ(A:Nat→Prop)(g p:Nat)(im:By)(fr to ref n:Int)(W:World)(hM:MrO A W.heap g p im fr to)(him:im.length≤1099511627776)(href : -9223372036854775808≤ref∧ref≤9223372036854775807)(hn:n≤1099511627776) :
 CA 116 [pT g,iV ref,iV n] W fun v w'=>
  ∃ o c,v=.tuple #[.slice o (aD im fr to ref n).1.length c,iV (aD im fr to ref n).2.1,iV (aD im fr to ref n).2.2]∧Own b8 5 w'.heap o c (aD im fr to ref n).1∧Fr W.heap.size o∧MrO (fun k=>Nx A W w' k∧¬ blk o k) w'.heap g p im fr to∧aA A W w':=by
 obtain⟨ht,hp⟩:=hM.tab;have hpl:=(Array.getElem?_eq_some_iff.1 ht).1;refine(Kb (fun k=>A k∨W.heap.size≤k) g p im fr to ref n W (hM.mono (fun k h=>.inl h) (fun h=>h.elim hp (fun h=>by omega))) (fun k h=>.inr h) him href hn).mono ?_;rintro e w' ⟨v,rfl,o,c,h1,h2,h3,h4,h5⟩;exact⟨_,rfl,o,c,h1,h2,h3,h4.tight.mono (fun k hk=>⟨hk.1.1.elim .inl (fun h=>.inr ⟨h,hk.2⟩),hk.1.2⟩) (fun h=>h.1.elim hp (fun h=>by omega)),h5.nx⟩
theorem RwO.zero{H:Array Obj}{g:Nat}(h:H[g]?=some (.cells #[sN,sN] 73 (0,0))):RwO (· = g) H g (aY [] []).1 (aY [] []).2:=by
 rw[cZ (show ([]:By).length<128 by decide)];exact⟨none,0,none,0,h,WA,WA,(fun⟨a,ha,_⟩=>by cases ha),(fun⟨a,ha,_⟩=>by cases ha),Ww,rfl,(fun k ⟨a,ha,_⟩=>by cases ha),(fun k ⟨a,ha,_⟩=>by cases ha)⟩
section
variable {P:Program}{N:Nat}{l:SF}{w:World}{fn:Func}{R:Ending→World→Prop}
theorem UN{a u u2:Nat}{t:TypeId}{x y:Value}{cs:List Value}{ad:Addr}(hr:fn.results=#[.cell a t,.tmp u,.tmp u2])(ht:fJ P t cs.length=true)(ha:lk l a=some (.pointer (some ad)))(hx:lk l u=some x)(hy:lk l u2=some y)
 (hc:∀ j v,cs[j]?=some v→bE w.heap (ad.add j)=some v)(h:R (.returned (.tuple #[.agg cs.toArray,x,y])) w) :
 At ⟨N,[]⟩ .ret (bodyPost P fn R) l w:=fun act ha'=>by
 refine⟨ha'.dfr,_,?_,h⟩;have h1:=ha'.has a _ ha;have h2:=ha'.has u _ hx;have h4:=ha'.has u2 _ hy;have h3:=nT (P:=P) (w:=w) ht hc;simp[results,hr,h1,h2,h4,asAddr,h3,Result.andThen]
end
section
variable {P:Program}{N:Nt}{Q:Exit→Act→World→Prop}{l:SF}{w:World}{ops:Array Oper}{rest:List Oper}{d:Nat}{ty t:TypeId}{pos:String}{aft:Array Edge}
theorem Uk{α:Type}{k:Nat}{enc:α→List Value}(hk:iF k enc){e:TypeId}{bytes:Nat}(ht:aS P t e k bytes)(hd:Nat.blt d N.n=true)
 (h:∀ w',bF k enc e w'.heap (some ⟨w.heap.size,0,none⟩) 0 ([]:List α)→w'.heap.size=w.heap.size+1→aA nob w w'→Sl P N ops Q rest ((d,.slice (some ⟨w.heap.size,0,none⟩) 0 0)::l) w') :
 Sl P N ops Q (⟨some d,.buildSlice t 0 #[],ty,pos,aft,none⟩::rest) l w:=by
 refine Ua (w':=w.alloc (.cells #[] e)) (fun a ha=>?_) hd (h _ (bL (xs:=[]) hk (heap_alloc_new w _) (Nat.zero_le _)) (by simp) (aA.alloc _ _ _));simp[execOp,Instr.buildSlice,run_underlying ht.und,ht.size,Instr.fill,newRow];rw[wP]
end
theorem Ec(c:UInt8):IntKind.i64.wrap ((c.toNat:Nat):Int)=(c.toNat:Int):=bG (by have:=UInt8.toNat_lt c;omega)
theorem MrO.cell0{A D:Nat→Prop}{W w w':World}{q g p:Nat}{im:By}{fr to:Int}(h:MrO D w.heap g p im fr to)(hf:aA (fun k=>k=q) w w')(hq:q=W.heap.size)(hA:∀ k,A k→k<W.heap.size)(hp:¬ A p)(hpl:p<W.heap.size)
 (hD:∀ k,D k→A k∨(W.heap.size<k∧k<w.heap.size)):MrO (fun k=>A k∨(W.heap.size<k∧k<w'.heap.size)) w'.heap g p im fr to:=by
 have hz:=hf.size;refine(h.WS hf (fun k hk e=>?_) (fun e=>?_)).mono (fun k hk=>?_) (fun e=>?_)
 · have e:k=q:=e
   rcases hD k hk with h3|h3
   ·have:=hA k h3;omega
   ·have:=h3.1;omega
 · have e:p=q:=e
   omega
 ·exact(hD k hk).imp id (fun h3=>⟨h3.1,by omega⟩)
 · rcases e with e|e
   ·exact hp e
   ·omega
theorem MrO.cell{A D:Nat→Prop}{W w w':World}{q g p:Nat}{im:By}{fr to:Int}(h:MrO D w.heap g p im fr to)(hf:aA (fun k=>k=q) w w')(hq:q=W.heap.size)(hA:∀ k,A k→k<W.heap.size)(hp:¬ A p)(hpl:p<W.heap.size)
 (hD:∀ k,D k→A k∨(W.heap.size<k∧k<w.heap.size)):MrO (Nx A W w') w'.heap g p im fr to:=
 (h.cell0 hf hq hA hp hpl hD).mono (fun k hk=>hk.imp id (fun h=>⟨by omega,h.2⟩)) (fun e=>e.elim hp (fun e=>by omega))
theorem LT{b:By}(h:tkE b=0):oS b:=byContradiction fun h'=>by rw[(FM h').2.2] at h;cases h
theorem Kz(A:Nat→Prop)(g p:Nat)(im:By)(fr to ref:Int)(W:World)(hM:MrO A W.heap g p im fr to)(hA:∀ k,A k→k<W.heap.size)(him:im.length≤1099511627776)(href : -9223372036854775808≤ref∧ref≤9223372036854775807) :
 CA 118 [pT g,iV ref] W fun v w'=>
  v=.tuple #[.agg (aZ (bJ im fr to ref).1.1 (bJ im fr to ref).1.2).toArray,iV (bJ im fr to ref).2.1,iV (bJ im fr to ref).2.2]∧MrO (Nx A W w') w'.heap g p im fr to∧aA A W w':=by
 obtain⟨ht,hp⟩:=hM.tab;have hpl:p<W.heap.size:=(Array.getElem?_eq_some_iff.1 ht).1;obtain⟨q,hq⟩:∃ q,q=W.heap.size:=⟨_,rfl⟩
 have hAq:¬ A q:=fun h=>by have:=hA _ h;omega
 obtain⟨R,hR⟩:∃ R,R=aD im fr to ref 14:=⟨_,rfl⟩
 obtain⟨S,hS⟩:∃ S,S=aD im fr to ref (dO R.1):=⟨_,rfl⟩
 obtain⟨n1,n2⟩:=MQ R.1;refine cS 71 [(0,_),(1,_)] Tryz.func118 ?_;refine Gz 2 ?_;refine Tz vO rfl ?_;intro w1 hg1 hs1 hf1;rw[←hq] at hg1 ⊢;have hg1:w1.heap[q]?=some (.cells (aZ (fun _=>0) []).toArray 84 (0,0)):=hg1;refine Gz 8 ?_;refine Ts pX rfl (eJ A g p im fr to ref 14 w1 (hM.WR hf1) him href (by decide)) rfl ?_;rw[←hR];rintro _ w2 ⟨o2,c2,rfl,ho2,hfr2,hM2,hf2⟩;have hg2:=hf2.obj hg1 hAq;have hz2:=hf2.size;have hF2:aA A W w2:=hf1.any.trans hf2;refine fK 13 ?_ ?_<;>intro h20
 ·have e:=OY (im:=im) (fr:=fr) (to:=to) (ref:=ref) (by rw[←hR];exact h20);refine Gz 5 ?_;refine cL (TI (cs:=aZ (fun _=>0) []) cT rfl (fun j v hj=>aE hg2 hj)) ?_;refine sA rfl cT (by intro v hv;exact dQ _ _ v hv) hg2 ?_;intro w20 hg20 hs20 hf20;have hMx:MrO (Nx A W w20) w20.heap g p im fr to:=hM2.cell hf20 hq hA hp hpl (fun k hk=>hk.1.imp id (fun h=>⟨by omega,h.2⟩));have hFx:aA A W w20:=hF2.tw hf20;refine Gz 6 ?_;refine UN (cs:=aZ (fun _=>0) []) rfl cT rfl rfl rfl (fun j v hj=>aE hg20 hj) ?_;exact⟨_,rfl,by rw[e],hMx,hFx⟩
 have e20:R.2.2=0:=Decidable.not_not.1 h20;have hlR:(R.1.length:Int)=14:=by rw[hR] at e20 ⊢;exact(eC e20).2.2.2.1
 refine Gz 14 ?_;refine cL (Tt aK rfl rfl ho2.vw.non (by omega)) ?_;refine cL (Tu gW rfl (ho2.vw.gz 0 0 rfl (by omega))) ?_;refine cL (TD (n:=((R.1.getD 0 0).toNat:Int)) is5 ty3 rfl (Ec _)) ?_;refine cA 0 K4 (tV ((R.1.getD 0 0).toNat:Int) w2) ?_;rintro _ w3 ⟨ao3,c3,rfl,ho3,hfr3,hf3⟩;have hz3:=hf3.size;obtain⟨L,hL⟩:∃ L,L=fH ((R.1.getD 0 0).toNat:Int):=⟨_,rfl⟩
 rw[←hL] at ho3 ⊢;have hl3:=ho3.vw eK;have hsub:∀ x∈L,x∈bC ((R.1.getD 0 0).toNat:Int):=fun x hx=>by unfold bC;rw[mem_append,←hL];exact .inr hx
 have hLlen:L.length≤9:=by have:=kK ((R.1.getD 0 0).toNat:Int);unfold bC at this;rw[length_append,←hL] at this;omega
 refine Gz 5 ?_;refine TA (β:=Nat) (fun k=>[(0,pT g),(1,iV ref),(4,pT q),(7,.slice o2 R.1.length c2),(9,iV (13+sY (L.take k))),(26,.slice ao3 L.length c3),(27,iV L.length),(28,iV k)]) (fun k w=>k≤L.length∧VwM 3 fdV w.heap ao3 c3 L∧aA nob w3 w) (fun k=>L.length-k) 0 ⟨rfl,rfl,rfl,rfl,rfl,rfl,rfl,rfl,trivial⟩ ⟨Nat.zero_le _,hl3,Wt _ _⟩ ?_;rintro k w4 ⟨hk,hL4,hf34⟩;have hz4:=hf34.size;refine fK 2 ?_ ?_<;>intro h29
 ·refine Gz 10 ?_;have hkL:k<L.length:=by omega
  have hrow:=Fj hL4 (k:=k) rfl hkL;have hmem:L.getD k fd0∈L:=by rw[List.getD,List.getElem?_eq_getElem hkL];exact List.getElem_mem _
  obtain⟨_,hb1,hb4,_,_⟩:=gX (hsub _ hmem);obtain⟨x,hx⟩:∃ x,x=L.getD k fd0:=⟨_,rfl⟩
  rw[←hx] at hrow hb1 hb4;obtain⟨s1,s2⟩:=FP (L.take k) (fun y hy=>by have:=gX (hsub _ (List.mem_of_mem_take hy));omega);rw[length_take] at s2;refine cL (Tv rB rfl rfl hL4.non (by omega)) ?_;refine cL (TI (cs:=fdV x) uB rfl hrow) ?_;refine Tz iY rfl ?_;intro w5 hg5 hs5 hf5;refine sA rfl uB (by simp[fdV,Value.oneCell']) hg5 ?_;intro w6 hg6 hs6 hf6;have hf46:aA nob w4 w6:=hf5.tw hf6;refine Gz 15 ?_;refine TO (k+1) ⟨rfl,rfl,rfl,rfl,?_,rfl,rfl,rfl,trivial⟩ ⟨by omega,hL4.WR hf46,hf34.trans hf46⟩ (by show L.length-(k+1)<L.length-k;omega);show lk _ 9=_;rw[qO hkL,G8,←hx];exact congrArg (fun z=>some (Value.int .i64 z)) (Int.add_assoc _ _ _)
 refine Gz 9 ?_;refine TY (β:=Unit) (fun _u=>[(0,pT g),(1,iV ref),(4,pT q),(9,iV (dO R.1))]) (fun _u w=>MrO (fun k=>Nx A w1 w2 k∧¬ blk o2 k) w.heap g p im fr to∧w.heap[q]?=some (.cells (aZ (fun _=>0) []).toArray 84 (0,0))∧aA A W w∧w2.heap.size≤w.heap.size) ?_ ?_
 ·refine Gz 3 ?_;have hkk:k=L.length:=by omega
  subst hkk;rw[take_length] at *;refine cL (Tt aK rfl rfl (ho2.WR (hf3.trans hf34)).vw.non (by omega)) ?_;refine cL (Tu gW rfl ((ho2.WR (hf3.trans hf34)).vw.gz 0 0 rfl (by omega))) ?_;refine cL (TD (n:=((R.1.getD 0 0).toNat:Int)) is5 ty3 rfl (Ec _)) ?_;refine fK 0 ?_ ?_<;>intro h41
  ·have en:dO R.1=13+sY L+(1+((R.1.getD 13 0).toNat:Int)):=by rw[AA,if_pos h41,←hL]
   refine Gz 6 ?_;refine cL (Tt aK rfl rfl (ho2.WR (hf3.trans hf34)).vw.non (by omega)) ?_;refine cL (Tu gW rfl ((ho2.WR (hf3.trans hf34)).vw.gz 0 13 rfl (by omega))) ?_;refine cL (TD (n:=((R.1.getD 13 0).toNat:Int)) is5 ty3 rfl (Ec _)) ?_;have hu13:=UInt8.toNat_lt (R.1.getD 13 0);obtain⟨u1,u2⟩:=FP L (fun y hy=>by have:=gX (hsub _ hy);omega);refine Gz 4 ?_;refine T8 () ⟨rfl,rfl,rfl,?_,trivial⟩ ⟨hM2.WR (hf3.trans hf34),(hf3.trans hf34).obj hg2 id,hF2.trans (hf3.trans hf34).any,by omega⟩;rw[en]
   first|rfl|exact congrArg (fun z=>some (Value.int .i64 z)) (by omega)
  have en:dO R.1=13+sY L:=by rw[AA,if_neg h41,←hL];omega
  refine Gz 4 ?_;refine T8 () ⟨rfl,rfl,rfl,?_,trivial⟩ ⟨hM2.WR (hf3.trans hf34),(hf3.trans hf34).obj hg2 id,hF2.trans (hf3.trans hf34).any,by omega⟩;rw[en]
  first|rfl|exact congrArg (fun z=>some (Value.int .i64 z)) (by omega)
 rintro _ w7 ⟨hM7,hq7,hF7,hz7⟩;refine Gz 5 ?_;refine Ts pX rfl (eJ _ g p im fr to ref (dO R.1) w7 hM7 him href (by omega)) rfl ?_;rw[←hS];rintro _ w8 ⟨o8,c8,rfl,ho8,hfr8,hM8,hf8⟩;have hz8:=hf8.size;have hq8:=hf8.obj hq7 (fun h=>h.1.elim hAq (fun h=>by have:=h.1;omega));have hF8:aA A W w8:=hF7.WO hf8 (fun k hk=>hk.1.imp id (fun h=>by have:=h.1;omega));refine fK 13 ?_ ?_<;>intro h58
 ·have e:=OX (im:=im) (fr:=fr) (to:=to) (ref:=ref) (by rw[←hR];exact e20) (by rw[←hR,←hS];exact h58);refine Gz 5 ?_;refine cL (TI (cs:=aZ (fun _=>0) []) cT rfl (fun j v hj=>aE hq8 hj)) ?_;refine sA rfl cT (by intro v hv;exact dQ _ _ v hv) hq8 ?_;intro w20 hg20 hs20 hf20;have hMx:MrO (Nx A W w20) w20.heap g p im fr to:=hM8.cell hf20 hq hA hp hpl (fun k hk=>hk.1.elim (fun h=>h.1.imp id (fun h=>⟨by omega,by omega⟩)) (fun h=>.inr ⟨by omega,h.2⟩));have hFx:aA A W w20:=hF8.tw hf20;refine Gz 6 ?_;refine UN (cs:=aZ (fun _=>0) []) rfl cT rfl rfl rfl (fun j v hj=>aE hg20 hj) ?_;exact⟨_,rfl,by rw[e],hMx,hFx⟩
 have e58:S.2.2=0:=Decidable.not_not.1 h58;have hlS:(S.1.length:Int)=dO R.1:=by rw[hS] at e58 ⊢;exact(eC e58).2.2.2.1
 refine Gz 9 ?_;refine Ts Qi rfl (LU S.1 o8 c8 w8 ho8.vw (by omega)) rfl ?_;rintro _ w9 ⟨rfl,hf9⟩;have hq9:=hf9.obj hq8 id;have hz9:=hf9.size;refine Gz 3 ?_;refine sA rfl cT (by intro v hv;exact dQ _ _ v hv) hq9 ?_;intro w10 hg10 hs10 hf10;have hM10:=(hM8.WR hf9).cell0 hf10 hq hA hp hpl (fun k hk=>hk.1.elim (fun h=>h.1.imp id (fun h=>⟨by omega,by omega⟩)) (fun h=>.inr ⟨by omega,by omega⟩));have hF10:aA A W w10:=(hF8.trans hf9.any).tw hf10;refine fK 6 ?_ ?_<;>intro h66
 ·have hno:¬ oS S.1:=fun h=>h66 (Ee h).2.2;have e:=OW (im:=im) (fr:=fr) (to:=to) (ref:=ref) (by rw[←hR];exact e20) (by rw[←hR,←hS];exact e58) (by rw[←hR,←hS];exact hno);obtain⟨k1,k2,k3⟩:=FM hno;rw[k1,k2] at hg10;refine Gz 5 ?_;refine cL (TI (cs:=aZ (fun _=>0) []) cT rfl (fun j v hj=>aE hg10 hj)) ?_;refine Gz 1 ?_;refine sA rfl cT (by intro v hv;exact dQ _ _ v hv) hg10 ?_;intro w20 hg20 hs20 hf20;have hMx:MrO (Nx A W w20) w20.heap g p im fr to:=hM10.cell hf20 hq hA hp hpl (fun k hk=>hk);have hFx:aA A W w20:=hF10.tw hf20;refine Gz 6 ?_;refine UN (cs:=aZ (fun _=>0) []) rfl cT rfl rfl rfl (fun j v hj=>aE hg20 hj) ?_;exact⟨_,rfl,by rw[e,k3],hMx,hFx⟩
 have hyes:oS S.1:=LT (Decidable.not_not.1 h66);have e:=KA (im:=im) (fr:=fr) (to:=to) (ref:=ref) (by rw[←hR];exact e20) (by rw[←hR,←hS];exact e58) (by rw[←hR,←hS];exact hyes);obtain⟨k1,k2,k3⟩:=Ee hyes;rw[k1,k2] at hg10;refine Gz 7 ?_;refine cL (TI (cs:=aZ (gFn S.1) (gT S.1)) cT rfl (fun j v hj=>aE hg10 hj)) ?_;refine Gz 1 ?_;refine sA rfl cT (by intro v hv;exact dQ _ _ v hv) hg10 ?_;intro w20 hg20 hs20 hf20;have hMx:MrO (Nx A W w20) w20.heap g p im fr to:=hM10.cell hf20 hq hA hp hpl (fun k hk=>hk);have hFx:aA A W w20:=hF10.tw hf20;refine Gz 5 ?_;refine UN (cs:=aZ (gFn S.1) (gT S.1)) rfl cT rfl rfl rfl (fun j v hj=>aE hg20 hj) ?_;exact⟨_,rfl,by rw[e,←hR,←hS],hMx,hFx⟩
theorem Gi{x:By}(h:x.length≤128):eF x≤135∧3≤eF x:=by unfold eF;split<;>omega
theorem GP{im:By}{a:Int}{r:By×Nat×Bool}(h:dE im a=some r):0≤a∧a≤im.length:=by
 unfold dE at h
 split at h
 ·cases h
 ·omega
theorem Ct(im:By)(a:Int):0≤(dH im a).1∧(dH im a).1≤im.length+135:=by
 unfold dH;cases h:dE im a with
|none=>exact⟨Int.le_refl _,by show (0:Int)≤_;omega⟩
|some r=>
   obtain⟨x,s,st⟩:=r;have h1:=GP h;have h2:=Gi (sM h).1;show 0≤a+(eF x:Nat)∧a+(eF x:Nat)≤_;omega
theorem IY{r:Option (By×Nat×Bool)}(h:∀ x s st,r=some (x,s,st)→x.length≤128):(cE r).2.1≤135:=by
 unfold cE
 split
 ·exact Nat.zero_le _
 · rename_i x s st
   have h2:=(Gi (h x s st rfl)).1
   split
   ·exact(by decide:3≤135)
   · split
     ·exact Nat.zero_le _
     · split
       ·exact h2
       · split
         ·exact Nat.zero_le _
         ·exact h2
theorem IX(im:By)(a:Int):0≤(bB im a).2.1∧(bB im a).2.1≤im.length+135:=by
 show 0≤(if (cE (dE im a)).2.2=0 then a+((cE (dE im a)).2.1:Nat) else 0)∧(if (cE (dE im a)).2.2=0 then a+((cE (dE im a)).2.1:Nat) else 0)≤_;cases h:dE im a with
|none=>
   rw[if_neg (show ¬ (cE none).2.2=0 from by simp[cE])];omega
|some r=>
   have h1:=GP h;have h2:=IY (r:=some r) (fun x s st e=>(sM (by rw[h,e])).1)
   split<;>omega
def DV(x:By):By:=if x.length=0 then List.replicate 128 0 else x
def kU(im:By)(off n:Nat):Nat→Nat→Int→By→By×Int
|0,_,_,out=>(out,0)
|k+1,i,a,out=>if n≤out.length then (out,0) else
   if i*128+128≤off then (if (dH im a).2≠0 then ([],35) else kU im off n k (i+1) (dH im a).1 out) else
   if (bB im a).2.2≠0∨((bB im a).1.length≠0∧(bB im a).1.length≠128) then ([],35) else
   kU im off n k (i+1) (bB im a).2.1 (out++((DV (bB im a).1).drop (off-i*128)).take (n-out.length))
def gY(im:By)(start size off n:Int):By×Int:=
 if size<0∨off<0∨n<0∨4096<size then ([],1) else if size.toNat/128*128≤off.toNat then ([],0) else kU im off.toNat n.toNat (size.toNat/128) 0 start []
section
variable {im:List UInt8}{off n k i:Nat}{a:Int}{out:List UInt8}
theorem JN(h:n≤out.length):kU im off n k i a out=(out,0):=by
 cases k with
|zero=>rfl
|succ k=>unfold kU;rw[if_pos h]
theorem HB(h:out.length<n)(h1:i*128+128≤off)(h2:(dH im a).2≠0):kU im off n (k+1) i a out=([],35):=by
 rw[kU,if_neg (by omega),if_pos h1,if_pos h2]
theorem HA(h:out.length<n)(h1:i*128+128≤off)(h2:¬ (dH im a).2≠0):kU im off n (k+1) i a out=kU im off n k (i+1) (dH im a).1 out:=by
 rw[kU,if_neg (by omega),if_pos h1,if_neg h2]
theorem CQ(h:out.length<n)(h1:¬ i*128+128≤off)(h2:(bB im a).2.2≠0∨((bB im a).1.length≠0∧(bB im a).1.length≠128)):kU im off n (k+1) i a out=([],35):=by
 rw[kU,if_neg (by omega),if_neg h1,if_pos h2]
theorem tJ(h:out.length<n)(h1:¬ i*128+128≤off)(h2:¬ ((bB im a).2.2≠0∨((bB im a).1.length≠0∧(bB im a).1.length≠128))) :
 kU im off n (k+1) i a out=kU im off n k (i+1) (bB im a).2.1 (out++((DV (bB im a).1).drop (off-i*128)).take (n-out.length)):=by
 rw[kU,if_neg (by omega),if_neg h1,if_neg h2]
theorem DU{x:By}(h:¬ (x.length≠0∧x.length≠128)):(DV x).length=128:=by
 unfold DV
 split
 ·exact List.length_replicate
 ·omega
end
theorem pA{im:By}{start size off n:Int}(h:size<0∨off<0∨n<0∨4096<size):gY im start size off n=([],1):=if_pos h
theorem tH{im:By}{start:Int}{size off n:Nat}(h:size≤4096)(h2:size/128*128≤off):gY im start size off n=([],0):=by
 unfold gY;rw[if_neg (by omega)];exact if_pos h2
theorem CN{im:By}{start:Int}{size off n:Nat}(h:size≤4096)(h2:¬ size/128*128≤off):gY im start size off n=kU im off n (size/128) 0 start []:=by
 unfold gY;rw[if_neg (by omega)];exact if_neg h2
def uO(im:By)(e:Int):Nat→Int→Int×Int
|0,a=>(a,0)
|k+1,a=>if (dH im a).2≠0∨e<(dH im a).1 then (0,2) else uO im e k (dH im a).1
def pQ(im:By)(start size e:Int):Int×Int:=if size<0∨4096<size then (0,1) else uO im e (size.toNat/128) start
theorem zM{im:By}{start size e:Int}(h:size<0∨4096<size):pQ im start size e=(0,1):=if_pos h
theorem B7{im:By}{start e:Int}{size:Nat}(h:size≤4096):pQ im start size e=uO im e (size/128) start:=by unfold pQ;rw[if_neg (by omega)];rfl
theorem B4{im:By}{e a:Int}{k:Nat}(h:(dH im a).2≠0∨e<(dH im a).1):uO im e (k+1) a=(0,2):=by rw[uO,if_pos h]
theorem FD{im:By}{e a:Int}{k:Nat}(h:¬ ((dH im a).2≠0∨e<(dH im a).1)):uO im e (k+1) a=uO im e k (dH im a).1:=by rw[uO,if_neg h]
def WkP(W:World)(r:Int×Int):Value→World→Prop:=fun v w'=>v=.tuple #[iV r.1,iV r.2]∧aA nob W w'
theorem Lj(io:Option Addr)(ic:Nat)(im:By)(start size e:Int)(W:World)(hv:Vw b8 W.heap io ic im)(him:im.length≤1099511627776)(hst:start≤9223372036854775807) :
 CA 120 [.slice io im.length ic,iV start,iV size,iV e] W (WkP W (pQ im start size e)):=by
 refine cS 38 [(0,_),(1,_),(2,_),(3,_)] Tryz.func120 ?_;refine fK 10 ?_ ?_<;>intro h13
 ·have hR:=zM (im:=im) (start:=start) (e:=e) (.inl h13);refine Gz 16 ?_;rw[hR];exact⟨_,rfl,rfl,Wt _ _⟩
 refine fW 2 ?_ ?_<;>intro h16
 ·have hR:=zM (im:=im) (start:=start) (e:=e) (.inr (show (4096:Int)<size from h16));refine Gz 13 ?_;rw[hR];exact⟨_,rfl,rfl,Wt _ _⟩
 obtain⟨S,rfl⟩:=Int.eq_ofNat_of_zero_le (show 0≤size by omega);have hR:=B7 (im:=im) (start:=start) (e:=e) (size:=S) (by omega);refine Gz 10 ?_;refine cL (Tw (u:=iV ((S/128:Nat):Int)) (Uz rfl rfl (by omega) (by decide)) (by congr 1)) ?_;refine Gz 4 ?_;refine TA (β:=Nat×Int) (fun⟨i,a⟩=>[(0,.slice io im.length ic),(1,iV a),(3,iV e),(19,iV ((S/128:Nat):Int)),(20,iV i)]) (fun⟨i,a⟩ w=>i≤S/128∧a≤9223372036854775807∧uO im e (S/128-i) a=pQ im start S e∧aA nob W w) (fun⟨i,a⟩=>S/128-i) ⟨0,start⟩ ⟨rfl,rfl,rfl,rfl,rfl,trivial⟩ ⟨Nat.zero_le _,hst,hR.symm,Wt _ _⟩ ?_;rintro⟨i,a⟩ w2 ⟨hi,ha,hgo,hF2⟩;refine fK 2 ?_ ?_<;>intro h21
 ·obtain⟨k,hk⟩:∃ k,S/128-i=k+1:=⟨S/128-i-1,by omega⟩
  rw[hk] at hgo;refine Gz 12 ?_;refine Ts N9 rfl (Dw io ic im a w2 (hv.WR hF2) him (by omega)) rfl ?_;rintro _ w3 ⟨rfl,hf3⟩;have hbd:=Ct im a;refine fK 11 ?_ ?_<;>intro h29
  ·rw[B4 (.inl h29)] at hgo;refine Gz 22 ?_;rw[←hgo];exact⟨_,rfl,rfl,hF2.trans hf3⟩
  refine fW 3 ?_ ?_<;>intro h33
  ·rw[B4 (.inr h33)] at hgo;refine Gz 18 ?_;rw[←hgo];exact⟨_,rfl,rfl,hF2.trans hf3⟩
  rw[FD (by rintro(h|h);exact h29 h;exact h33 h)] at hgo;refine Gz 16 ?_;have hk2:k=S/128-(i+1):=by omega
  rw[hk2] at hgo;exact aG ⟨i+1,(dH im a).1⟩ ⟨by omega,by omega,hgo,hF2.trans hf3⟩ (by show S/128-(i+1)<S/128-i;omega)
 have hk:S/128-i=0:=by omega
 rw[hk] at hgo;refine Gz 18 ?_;rw[←hgo];exact⟨_,rfl,rfl,hF2⟩
def DrP(W:World)(r:By×Int):Value→World→Prop:=fun v w'=>∃ o c,v=.tuple #[.slice o r.1.length c,iV r.2]∧Own b8 5 w'.heap o c r.1∧Fr W.heap.size o∧aA nob W w'
theorem Ll(p:Nat)(io:Option Addr)(ic:Nat)(im:By)(start size off n:Int)(W:World)(ht:TbV W.heap p)(hv:Vw b8 W.heap io ic im)(him:im.length≤1099511627776)(hst:start≤9223372036854775807)(hbo:off≤9223372036854775807)(hbn:n≤9223372036854775807) :
 CA 84 [pT p,.slice io im.length ic,iV start,iV size,iV off,iV n] W (DrP W (gY im start size off n)):=by
 refine cS 109 [(0,_),(1,_),(2,_),(3,_),(4,_),(5,_)] Tryz.func84 ?_;refine fK 10 ?_ ?_<;>intro h23
 ·have hR:=pA (im:=im) (start:=start) (size:=size) (off:=off) (n:=n) (.inl h23);refine Gz 24 ?_;rw[hR];exact⟨_,rfl,none,0,rfl,WA,Wy,Wt _ _⟩
 refine fW 2 ?_ ?_<;>intro h26
 ·have hR:=pA (im:=im) (start:=start) (size:=size) (off:=off) (n:=n) (.inr (.inl h26));refine Gz 21 ?_;rw[hR];exact⟨_,rfl,none,0,rfl,WA,Wy,Wt _ _⟩
 refine fW 3 ?_ ?_<;>intro h30
 ·have hR:=pA (im:=im) (start:=start) (size:=size) (off:=off) (n:=n) (.inr (.inr (.inl h30)));refine Gz 17 ?_;rw[hR];exact⟨_,rfl,none,0,rfl,WA,Wy,Wt _ _⟩
 refine fW 3 ?_ ?_<;>intro h34
 ·have hR:=pA (im:=im) (start:=start) (size:=size) (off:=off) (n:=n) (.inr (.inr (.inr (show (4096:Int)<size from h34))));refine Gz 13 ?_;rw[hR];exact⟨_,rfl,none,0,rfl,WA,Wy,Wt _ _⟩
 obtain⟨S,rfl⟩:=Int.eq_ofNat_of_zero_le (show 0≤size by omega);obtain⟨O,rfl⟩:=Int.eq_ofNat_of_zero_le (show 0≤off by omega);obtain⟨n,rfl⟩:=Int.eq_ofNat_of_zero_le (show 0≤n by omega);obtain⟨N,hN⟩:∃ N,N=S/128:=⟨_,rfl⟩
 refine Gz 9 ?_;refine cL (Tw (u:=iV (N:Int)) (Uz rfl rfl (by omega) (by decide)) (by congr 1;omega)) ?_;refine cL (Tw (u:=iV ((N*128:Nat):Int)) (Ue rfl rfl (by omega)) (by congr 1)) ?_;refine fK 8 ?_ ?_<;>intro h41
 ·have hR:=tH (im:=im) (start:=start) (size:=S) (off:=O) (n:=n) (by omega) (by omega);refine Gz 12 ?_;rw[hR];exact⟨_,rfl,none,0,rfl,WA,Wy,Wt _ _⟩
 have hR:=CN (im:=im) (start:=start) (size:=S) (off:=O) (n:=n) (by omega) (by omega);rw[←hN] at hR;obtain⟨m,hm⟩:∃ m,m=min n (N*128-O):=⟨_,rfl⟩
 refine Gz 11 ?_;refine cL (Tw (u:=iV (m:Int)) (Ux rfl rfl) (by congr 1;split<;>omega)) ?_;refine Gz 15 ?_;refine TA (β:=Nat×Int×By×(Option Addr×Nat)) (fun⟨i,a,out,⟨oo,oc⟩⟩=>[(0,pT p),(1,.slice io im.length ic),(2,iV a),(4,iV (O:Nat)),(5,iV (m:Nat)),(15,.slice oo out.length oc),(16,iV (i*128:Nat))]) (fun⟨i,a,out,⟨oo,oc⟩⟩ w=>i≤N∧a≤9223372036854775807∧kU im O n (N-i) i a out=gY im start S O n∧out.length=min n (i*128-O)∧Own b8 5 w.heap oo oc out∧Fr W.heap.size oo∧aA nob W w) (fun⟨i,a,out,⟨oo,oc⟩⟩=>N-i) ⟨0,start,[],⟨none,0⟩⟩ ⟨rfl,rfl,rfl,rfl,rfl,rfl,rfl,trivial⟩ ⟨Nat.zero_le _,hst,hR.symm,by simp,WA,Wy,Wt _ _⟩ ?_;rintro⟨i,a,out,⟨oo,oc⟩⟩ w2 ⟨hi,ha,hgo,hol,hoo,hfro,hF2⟩;refine fK 6 ?_ ?_<;>intro h50
 ·have hiN:i<N:=by omega
  have hon:out.length<n:=by omega
  obtain⟨k,hk⟩:∃ k,N-i=k+1:=⟨N-i-1,by omega⟩
  rw[hk] at hgo;refine Gz 1 ?_;refine aW [(0,_),(1,_),(2,_),(4,_),(5,_),(15,_),(16,_),(50,_)] ?_;refine fK 12 ?_ ?_<;>intro h56
  ·have h56:i*128+128≤O:=by omega
   refine Gz 7 ?_;refine Ts N9 rfl (Dw io ic im a w2 (hv.WR hF2) him (by omega)) rfl ?_;rintro _ w3 ⟨rfl,hf3⟩;have hbd:=Ct im a;refine fK 11 ?_ ?_<;>intro h64
   ·rw[HB hon h56 h64] at hgo;refine Gz 18 ?_;rw[←hgo];exact⟨_,rfl,none,0,rfl,WA,Wy,hF2.trans hf3⟩
   rw[HA hon h56 h64] at hgo;refine Gz 20 ?_;have hk2:k=N-(i+1):=by omega
   rw[hk2] at hgo;exact TO ⟨i+1,(dH im a).1,out,⟨oo,oc⟩⟩ ⟨rfl,rfl,rfl,rfl,rfl,rfl,congrArg (fun z:Int=>some (Value.int .i64 z)) (show ((i*128:Nat):Int)+128=(((i+1)*128:Nat):Int) by omega),trivial⟩ ⟨by omega,by omega,hgo,by omega,hoo.WR hf3,hfro,hF2.trans hf3⟩ (by show N-(i+1)<N-i;omega)
  have h56:¬ i*128+128≤O:=by omega
  refine Gz 10 ?_;refine Ts K5 rfl (xR p io ic im a w2 (hF2.obj ht id) (hv.WR hF2) him (by omega)) rfl ?_;rintro _ w3 ⟨o3,c3,rfl,ho3,hfr3,hf3⟩;have hbd:=IX im a;obtain⟨T,hT⟩:∃ T,T=bB im a:=⟨_,rfl⟩
  rw[←hT] at ho3 hbd ⊢;have hz3:=hf3.size;have hz2:=hF2.size;refine fK 13 ?_ ?_<;>intro h75
  ·rw[CQ hon h56 (.inl (by rw[←hT];exact h75))] at hgo;refine Gz 27 ?_;rw[←hgo];exact⟨_,rfl,none,0,rfl,WA,Wy,hF2.trans hf3⟩
  refine fW 3 ?_ ?_<;>intro h79
  ·refine fW 3 ?_ ?_<;>intro h83
   ·rw[CQ hon h56 (.inr ⟨by rw[←hT];omega,by rw[←hT];omega⟩)] at hgo;refine Gz 19 ?_;rw[←hgo];exact⟨_,rfl,none,0,rfl,WA,Wy,hF2.trans hf3⟩
   have hgood:¬ (T.1.length≠0∧T.1.length≠128):=by omega
   rw[tJ hon h56 (by rw[←hT];rintro(h|h);exact h75 h;exact hgood h),←hT] at hgo;have hBl:=DU hgood;obtain⟨B,hB⟩:∃ B,B=DV T.1:=⟨_,rfl⟩
   rw[←hB] at hgo hBl;refine Gz 7 ?_;refine TY (β:=Option Addr×Nat) (fun⟨bo,bc⟩=>[(0,pT p),(1,.slice io im.length ic),(4,iV (O:Nat)),(5,iV (m:Nat)),(15,.slice oo out.length oc),(16,iV (i*128:Nat)),(19,.slice bo B.length bc),(20,iV T.2.1)]) (fun⟨bo,bc⟩ w=>Vw b8 w.heap bo bc B∧aA nob w3 w) ?_ ?_
   ·refine fK 4 ?_ ?_<;>intro h88
    ·have hBz:B=List.replicate 128 0:=by rw[hB];exact if_pos (by omega)
     refine Gz 4 ?_;refine UC b8 (0:UInt8) aK z5 rfl rfl rfl (by decide) (by decide) (by decide) (by decide) rfl ?_;intro w4 ho4 hs4 hf4;refine Gz 2 ?_;exact T8 ⟨some ⟨w3.heap.size,0,none⟩,128⟩ ⟨rfl,rfl,rfl,rfl,rfl,rfl,(by rw[hBl];rfl),rfl,trivial⟩ ⟨by rw[hBz];exact ho4.vw,hf4⟩
    have hBz:B=T.1:=by rw[hB];exact if_neg (by omega)
    refine Gz 4 ?_;exact T8 ⟨o3,c3⟩ ⟨rfl,rfl,rfl,rfl,rfl,rfl,(by rw[hBz];rfl),rfl,trivial⟩ ⟨by rw[hBz];exact ho3.vw,Wt _ _⟩
   rintro⟨bo,bc⟩ w5 ⟨hbv,hf35⟩;refine Gz 6 ?_;refine cL (Tw (u:=iV ((O-i*128:Nat):Int)) (UT rfl rfl) (by congr 1;split<;>omega)) ?_;obtain⟨d,hd⟩:∃ d,d=O-i*128:=⟨_,rfl⟩
   rw[←hd] at hgo ⊢;have hdl:(B.drop d).length=128-d:=by rw[length_drop,hBl]
   have hbcl:=hbv.le;refine cL (Tw (u:=.slice (aP bo bc d 1) (B.drop d).length (bc-d)) (T4 aK rfl rfl (by omega)) (by rw[hdl,hBl];rfl)) ?_;refine Gz 12 ?_;obtain⟨e,he⟩:∃ e,e=min (128-d) (m-out.length):=⟨_,rfl⟩
   refine cL (Tw (u:=iV (e:Int)) (Ux rfl rfl) (by congr 1;split<;>omega)) ?_;refine cL (Tw (u:=.slice (aP bo bc d 1) ((B.drop d).take e).length (bc-d)) (TP aK rfl rfl (by omega)) (by rw[aU,length_take,Nat.min_eq_left (by omega)];rfl)) ?_;have hcd:=sJ (n:=d) hbv (by omega) (by omega);rw[show (d:Int).toNat=d from rfl] at hcd;have hte:(B.drop d).take e=(B.drop d).take (n-out.length):=by
    by_cases h:e=n-out.length
    ·rw[h]
    ·rw[take_of_length_le (by omega),take_of_length_le (by omega)]
   have hz5:=hf35.size;have hel:((B.drop d).take e).length=e:=by rw[length_take];omega
   refine TB aV aK rfl rfl ((hoo.WR hf3).WR hf35) (hcd.take e) (by omega) (by unfold maxLen;omega) rfl ?_;intro o6 c6 w6 ho6 hf6 hr6 hn6;refine Gz 11 ?_;have hk2:k=N-(i+1):=by omega
   rw[hk2,←hte] at hgo;exact TO ⟨i+1,T.2.1,out++(B.drop d).take e,⟨o6,c6⟩⟩ ⟨rfl,rfl,rfl,rfl,rfl,rfl,congrArg (fun z:Int=>some (Value.int .i64 z)) (show ((i*128:Nat):Int)+128=(((i+1)*128:Nat):Int) by omega),trivial⟩ ⟨by omega,by omega,hgo,by rw[length_append,hel];omega,ho6,bK hfro hr6 (by omega),((hF2.trans hf3).trans hf35).WO hf6 (fun k ⟨a,ha,e⟩=>.inr (by have:=hfro a ha;omega))⟩ (by show N-(i+1)<N-i;omega)
  have hgood:¬ (T.1.length≠0∧T.1.length≠128):=by omega
  rw[tJ hon h56 (by rw[←hT];rintro(h|h);exact h75 h;exact hgood h),←hT] at hgo;have hBl:=DU hgood;obtain⟨B,hB⟩:∃ B,B=DV T.1:=⟨_,rfl⟩
  rw[←hB] at hgo hBl;refine Gz 11 ?_;refine TY (β:=Option Addr×Nat) (fun⟨bo,bc⟩=>[(0,pT p),(1,.slice io im.length ic),(4,iV (O:Nat)),(5,iV (m:Nat)),(15,.slice oo out.length oc),(16,iV (i*128:Nat)),(19,.slice bo B.length bc),(20,iV T.2.1)]) (fun⟨bo,bc⟩ w=>Vw b8 w.heap bo bc B∧aA nob w3 w) ?_ ?_
  ·refine fK 4 ?_ ?_<;>intro h88
   ·have hBz:B=List.replicate 128 0:=by rw[hB];exact if_pos (by omega)
    refine Gz 4 ?_;refine UC b8 (0:UInt8) aK z5 rfl rfl rfl (by decide) (by decide) (by decide) (by decide) rfl ?_;intro w4 ho4 hs4 hf4;refine Gz 2 ?_;exact T8 ⟨some ⟨w3.heap.size,0,none⟩,128⟩ ⟨rfl,rfl,rfl,rfl,rfl,rfl,(by rw[hBl];rfl),rfl,trivial⟩ ⟨by rw[hBz];exact ho4.vw,hf4⟩
   have hBz:B=T.1:=by rw[hB];exact if_neg (by omega)
   refine Gz 4 ?_;exact T8 ⟨o3,c3⟩ ⟨rfl,rfl,rfl,rfl,rfl,rfl,(by rw[hBz];rfl),rfl,trivial⟩ ⟨by rw[hBz];exact ho3.vw,Wt _ _⟩
  rintro⟨bo,bc⟩ w5 ⟨hbv,hf35⟩;refine Gz 6 ?_;refine cL (Tw (u:=iV ((O-i*128:Nat):Int)) (UT rfl rfl) (by congr 1;split<;>omega)) ?_;obtain⟨d,hd⟩:∃ d,d=O-i*128:=⟨_,rfl⟩
  rw[←hd] at hgo ⊢;have hdl:(B.drop d).length=128-d:=by rw[length_drop,hBl]
  have hbcl:=hbv.le;refine cL (Tw (u:=.slice (aP bo bc d 1) (B.drop d).length (bc-d)) (T4 aK rfl rfl (by omega)) (by rw[hdl,hBl];rfl)) ?_;refine Gz 12 ?_;obtain⟨e,he⟩:∃ e,e=min (128-d) (m-out.length):=⟨_,rfl⟩
  refine cL (Tw (u:=iV (e:Int)) (Ux rfl rfl) (by congr 1;split<;>omega)) ?_;refine cL (Tw (u:=.slice (aP bo bc d 1) ((B.drop d).take e).length (bc-d)) (TP aK rfl rfl (by omega)) (by rw[aU,length_take,Nat.min_eq_left (by omega)];rfl)) ?_;have hcd:=sJ (n:=d) hbv (by omega) (by omega);rw[show (d:Int).toNat=d from rfl] at hcd;have hte:(B.drop d).take e=(B.drop d).take (n-out.length):=by
   by_cases h:e=n-out.length
   ·rw[h]
   ·rw[take_of_length_le (by omega),take_of_length_le (by omega)]
  have hz5:=hf35.size;have hel:((B.drop d).take e).length=e:=by rw[length_take];omega
  refine TB aV aK rfl rfl ((hoo.WR hf3).WR hf35) (hcd.take e) (by omega) (by unfold maxLen;omega) rfl ?_;intro o6 c6 w6 ho6 hf6 hr6 hn6;refine Gz 11 ?_;have hk2:k=N-(i+1):=by omega
  rw[hk2,←hte] at hgo;exact TO ⟨i+1,T.2.1,out++(B.drop d).take e,⟨o6,c6⟩⟩ ⟨rfl,rfl,rfl,rfl,rfl,rfl,congrArg (fun z:Int=>some (Value.int .i64 z)) (show ((i*128:Nat):Int)+128=(((i+1)*128:Nat):Int) by omega),trivial⟩ ⟨by omega,by omega,hgo,by rw[length_append,hel];omega,ho6,bK hfro hr6 (by omega),((hF2.trans hf3).trans hf35).WO hf6 (fun k ⟨a,ha,e⟩=>.inr (by have:=hfro a ha;omega))⟩ (by show N-(i+1)<N-i;omega)
 have hend:kU im O n (N-i) i a out=(out,0):=by
  by_cases h:n≤out.length
  ·exact JN h
  ·rw[show N-i=0 by omega];rfl
 rw[hend] at hgo;refine Gz 1 ?_;refine aW [(0,_),(1,_),(2,_),(4,_),(5,_),(15,_),(16,_),(50,_)] ?_;refine Gz 16 ?_;rw[←hgo];exact⟨_,rfl,oo,oc,rfl,hoo,hfro,hF2⟩
def zE(t:By):Bool:=t.length<1 || 128≤t.length
theorem yO{t:By}(h:t.length<1∨128≤t.length):zE t=true:=by unfold zE;simpa only[Bool.or_eq_true,decide_eq_true_eq] using h
theorem vN{t:By}(h:1≤t.length∧t.length<128):zE t=false:=by
 unfold zE;rw[Bool.or_eq_false_iff];simp only[decide_eq_false_iff_not];omega
def uU(D:Nat→Prop)(H:Array Obj)(p:Nat)(L:List By):Prop:=
 ∃ Din ao c hs,H[p]?=some (.cells [.slice ao hs.length c].toArray 82 (0,0))∧Own hd 25 H ao c hs∧eQ Din H hs L∧(¬ blk ao p)∧D p∧(∀ k,blk ao k→D k)∧(∀ k,Din k→D k∧k≠p∧¬ blk ao k)
theorem uU.WS{D S:Nat→Prop}{w w':World}{p:Nat}{L:List By}(h:uU D w.heap p L)(f:aA S w w')(hs:∀ k,D k→¬ S k):uU D w'.heap p L:=by
 obtain⟨Din,ao,c,gs,h1,h2,h3,h4,h5,h6,h7⟩:=h;exact⟨Din,ao,c,gs,f.obj h1 (hs p h5),h2.WS f (fun a ha=>hs _ (h6 _ ⟨a,ha,rfl⟩)),h3.WS f (fun k hk=>hs k (h7 k hk).1),h4,h5,h6,h7⟩
def yU(D:Nat→Prop)(W:World)(p:Nat)(L:List By)(w':World):Prop:=
 ∃ D',uU D' w'.heap p L∧(∀ k,D' k→D k∨W.heap.size≤k)∧(∀ k,D' k→k<w'.heap.size)∧aA D W w'
def dU(L:List By)(t:By):List By×Nat×Nat:=
 if zE t then (L,0,0) else
 if L=[]∨128<(L.getD (L.length-1) []).length+t.length then (L++[t],L.length+1,0) else (L.set (L.length-1) (L.getD (L.length-1) []++t),L.length,(L.getD (L.length-1) []).length)
theorem eQ.set{D:Nat→Prop}{H:Array Obj}{hs:List Hd}{L:List By}(h:eQ D H hs L){k:Nat}{x:Hd}{xs:By}(h1:x.n=xs.length)(h2:Vw b8 H x.a x.c xs)(h3:xs≠[]→∀ k,blk x.a k→D k):eQ D H (hs.set k x) (L.set k xs):=by
 refine⟨by simp[h.1],fun i y ys hy hys=>?_⟩;by_cases hik:k=i
 · subst hik
   have hk1:k<hs.length:=by have:=(List.getElem?_eq_some_iff.1 hy).1;simpa using this
   have hk2:k<L.length:=by rw[←h.1];exact hk1
   rw[List.getElem?_set_self hk1] at hy;rw[List.getElem?_set_self hk2] at hys;cases hy;cases hys;exact⟨h1,h2,h3⟩
 · rw[List.getElem?_set_ne hik] at hy hys
   exact h.2 i y ys hy hys
theorem CT{D Din:Nat→Prop}{W w3 w4 w5:World}{p:Nat}{L:List By}{t:By}{gs:List Hd}{ao to2 ao4:Option Addr}{c2 c4:Nat}(hD:∀ k,D k→k<W.heap.size)
 (hrg:eQ Din W.heap gs L)(hap:¬ blk ao p)(hDp:D p)(hDa:∀ k,blk ao k→D k)(hDin:∀ k,Din k→D k∧k≠p∧¬ blk ao k)(hF3:aA nob W w3)
 (ho2:Own b8 5 w3.heap to2 c2 t)(hfr2:Fr W.heap.size to2)(ho4:Own hd 25 w4.heap ao4 c4 (gs++[⟨to2,t.length,c2⟩]))(hf4:aA (blk ao) w3 w4)(hr4:∀ a,ao4=some a→ao=some a∨w3.heap.size≤a.block)
 (hg5:w5.heap[p]?=some (.cells [.slice ao4 (gs++[(⟨to2,t.length,c2⟩:Hd)]).length c4].toArray 82 (0,0)))(hf5:aA (· = p) w4 w5):yU D W p (L++[t]) w5:=by
 have hWp:=hD p hDp;have s3:=hF3.size;have s4:=hf4.size;have s5:=hf5.size;have hap4:¬ blk ao4 p:=fun⟨a,ha,hb⟩=>by
  rcases hr4 a ha with h|h
  ·exact hap ⟨a,h,hb⟩
  ·omega
 have hto:∀ a,to2=some a→¬ blk ao a.block∧a.block≠p∧a.block<w3.heap.size∧W.heap.size≤a.block:=fun a ha=>by
  have h1:=hfr2 a ha;refine⟨fun⟨b,hb,e⟩=>by have:=hD _ (hDa _ ⟨b,hb,e⟩);omega,by omega,ho2.lt a ha,h1⟩
 refine⟨fun k=>D k∨(W.heap.size≤k∧k<w5.heap.size),⟨fun k=>Din k∨blk to2 k,ao4,c4,_,hg5,ho4.WS hf5 (fun a ha h=>hap4 ⟨a,ha,h⟩),?_,hap4,.inl hDp,?_,?_⟩,?_,?_,?_⟩
 · have h1:=((hrg.WS hF3 (fun _ _ h=>h)).WS hf4 (fun k hk=>(hDin k hk).2.2)).WS hf5 (fun k hk=>(hDin k hk).2.1)
   exact(h1.mono (D':=fun k=>Din k∨blk to2 k) (fun k h=>.inl h)).snoc rfl ((ho2.WS hf4 (fun a ha=>(hto a ha).1)).WS hf5 (fun a ha=>(hto a ha).2.1)).vw (fun _ k hk=>.inr hk)
 · rintro k ⟨a,ha,rfl⟩
   rcases hr4 a ha with h|h
   ·exact .inl (hDa _ ⟨a,h,rfl⟩)
   ·have:=ho4.lt a ha;exact .inr ⟨by omega,by omega⟩
 · intro k hk
   rcases hk with hk|⟨a,ha,rfl⟩
   · refine⟨.inl (hDin k hk).1,(hDin k hk).2.1,fun⟨b,hb,e⟩=>?_⟩
     rcases hr4 b hb with h|h
     ·exact(hDin k hk).2.2 ⟨b,h,e⟩
     ·have:=hD k (hDin k hk).1;omega
   · have h1:=hto a ha
     refine⟨.inr ⟨h1.2.2.2,by omega⟩,h1.2.1,fun⟨b,hb,e⟩=>?_⟩;rcases hr4 b hb with h|h
     ·exact h1.1 ⟨b,h,e⟩
     ·omega
 · intro k hk;rcases hk with hk|hk
   ·exact .inl hk
   ·exact .inr hk.1
 · intro k hk;rcases hk with hk|hk
   ·have:=hD k hk;omega
   ·exact hk.2
 ·exact((hF3.mono (fun _ h=>h.elim)).trans (hf4.mono (fun k h=>hDa k h))).trans (hf5.mono (fun k h=>by subst h;exact hDp))
theorem JO{D Din:Nat→Prop}{W w3 w4:World}{p:Nat}{L:List By}{xs:By}{gs:List Hd}{ao to3:Option Addr}{c c3 i:Nat}(hD:∀ k,D k→k<W.heap.size)
 (hobj:W.heap[p]?=some (.cells [.slice ao gs.length c].toArray 82 (0,0)))(hrg:eQ Din W.heap gs L)(hap:¬ blk ao p)(hDp:D p)(hDa:∀ k,blk ao k→D k)(hDin:∀ k,Din k→D k∧k≠p∧¬ blk ao k)(hF3:aA nob W w3)
 (ho3:Own b8 5 w3.heap to3 c3 xs)(hfr3:Fr W.heap.size to3)(ho4:Own hd 25 w4.heap ao c (gs.set i ⟨to3,xs.length,c3⟩))(hf4:aA (blk ao) w3 w4):yU D W p (L.set i xs) w4:=by
 have hWp:=hD p hDp;have s3:=hF3.size;have s4:=hf4.size;have hto:∀ a,to3=some a→¬ blk ao a.block∧a.block≠p∧a.block<w3.heap.size∧W.heap.size≤a.block:=fun a ha=>by
  have h1:=hfr3 a ha;refine⟨fun⟨b,hb,e⟩=>by have:=hD _ (hDa _ ⟨b,hb,e⟩);omega,by omega,ho3.lt a ha,h1⟩
 refine⟨fun k=>D k∨(W.heap.size≤k∧k<w4.heap.size),⟨fun k=>Din k∨blk to3 k,ao,c,_,?_,ho4,?_,hap,.inl hDp,fun k hk=>.inl (hDa k hk),?_⟩,?_,?_,?_⟩
 ·rw[List.length_set];exact hf4.obj (hF3.obj hobj (fun h=>h)) hap
 · have h1:=(hrg.WS hF3 (fun _ _ h=>h)).WS hf4 (fun k hk=>(hDin k hk).2.2)
   exact(h1.mono (D':=fun k=>Din k∨blk to3 k) (fun k h=>.inl h)).set rfl (ho3.WS hf4 (fun a ha=>(hto a ha).1)).vw (fun _ k hk=>.inr hk)
 · intro k hk
   rcases hk with hk|⟨a,ha,rfl⟩
   ·exact⟨.inl (hDin k hk).1,(hDin k hk).2⟩
   · have h1:=hto a ha
     exact⟨.inr ⟨h1.2.2.2,by omega⟩,h1.2.1,h1.1⟩
 · intro k hk;rcases hk with hk|hk
   ·exact .inl hk
   ·exact .inr hk.1
 · intro k hk;rcases hk with hk|hk
   ·have:=hD k hk;omega
   ·exact hk.2
 ·exact(hF3.mono (fun _ h=>h.elim)).trans (hf4.mono (fun k h=>hDa k h))
theorem Mq(D:Nat→Prop)(p:Nat)(L:List By)(to:Option Addr)(tc:Nat)(t:By)(W:World)(hP:uU D W.heap p L)(hD:∀ k,D k→k<W.heap.size)
 (hv:Vw b8 W.heap to tc t)(hb2:L.length≤1099511627776)(hb3:∀ x∈L,x.length≤1099511627776) :
 CA 25 [pT p,.slice to t.length tc] W fun v w'=>v=.tuple #[inN (dU L t).2.1,inN (dU L t).2.2]∧yU D W p (dU L t).1 w':=by
 have hl:=hv.WQ;have hPP:=hP;obtain⟨Din,ao,c,gs,hobj,hout,hrg,hap,hDp,hDa,hDin⟩:=hP;have hgl:=hrg.1;refine cS 80 [(0,_),(1,_)] Tryz.func25 ?_;refine fK 11 ?_ ?_<;>intro h10
 ·refine Gz 17 ?_;have hbad:zE t=true:=yO (by omega);exact⟨_,rfl,by simp[dU,hbad,inN],⟨D,by rw[show dU L t=(L,0,0) from by simp[dU,hbad]];exact hPP,fun _ h=>.inl h,hD,Wt _ _⟩⟩
 refine fW 3 ?_ ?_<;>intro h14
 ·refine Gz 13 ?_;have hbad:zE t=true:=yO (by omega);exact⟨_,rfl,by simp[dU,hbad,inN],⟨D,by rw[show dU L t=(L,0,0) from by simp[dU,hbad]];exact hPP,fun _ h=>.inl h,hD,Wt _ _⟩⟩
 refine fK 21 ?_ ?_<;>intro h23
 ·refine Gz 18 ?_;refine TG 12 (fun H=>H[p]?=some (.cells [.slice ao gs.length c].toArray 82 (0,0))) [5,7,8,9,12] [0,1,2,3,4,6,5,7,8,9,10,11,12] aL (by kernel_rfl) (hobj) ?_;refine Gz 6 ?_;refine Ty rfl rfl (T2 b8 aK rfl ?_);intro w1 ho1 hs1 hf1;refine TE (by exact hf1.obj hobj (fun h=>h)) ?_;refine Ty rfl rfl (TB aV aK rfl rfl ho1 (hv.WR hf1.WP) (by simp only[length_nil];omega) (by simp only[length_nil];unfold maxLen;omega) rfl ?_);intro to2 c2 w2 ho2 hf2 hr2 hn2;have hp:p<W.heap.size:=hD p hDp;have hnp1:¬ blk (some (⟨W.heap.size,0,none⟩:Addr)) p:=fun⟨a,ha,hb⟩=>by cases ha;exact absurd hb (by show W.heap.size≠p;omega)
  refine TE (by exact hf2.obj (hf1.obj hobj (fun h=>h)) (fun h=>hnp1 h)) ?_;refine Ty rfl rfl (T3 (enc:=hd) (u:=⟨to2,t.length,c2⟩) pJ rfl rfl rfl ?_);intro w3 ho3 hs3 hf3;refine TE (by exact hf3.obj (hf2.obj (hf1.obj hobj (fun h=>h)) hnp1) (fun h=>h)) ?_;have hao1:∀ a,ao=some a→¬ blk (some (⟨W.heap.size,0,none⟩:Addr)) a.block:=fun a ha ⟨b,hb,e⟩=>by cases hb;have:=hout.lt a ha;have e2:W.heap.size=a.block:=e;omega
  have hout3:=((hout.WR hf1.WP).WS hf2 hao1).WR hf3;refine Ty rfl rfl (TB xN pJ rfl rfl hout3 ho3.vw (by simp only[length_singleton];omega) (by simp only[length_singleton];unfold maxLen;omega) rfl ?_);intro ao4 c4 w4 ho4 hf4 hr4 hn4;refine TE (by exact hf4.obj (hf3.obj (hf2.obj (hf1.obj hobj (fun h=>h)) hnp1) (fun h=>h)) hap) ?_;refine Gz 2 ?_;refine Ty rfl rfl (Tx Aa rfl rfl rfl (hf4.obj (hf3.obj (hf2.obj (hf1.obj hobj (fun h=>h)) hnp1) (fun h=>h)) hap) rfl ?_);intro w5 hg5 hs5 hf5;refine T6 rfl ?_;refine Gz 13 ?_;have hgood:zE t=false:=vN (by omega);have hnew:dU L t=(L++[t],L.length+1,0):=by simp only[dU,hgood,Bool.false_eq_true,if_false];rw[if_pos (.inl (eq_nil_of_length_eq_zero (by omega)))]
  refine⟨_,rfl,by rw[hnew];exact Ok (by show _=((L.length+1:Nat):Int);omega) rfl,?_⟩;rw[hnew];have hfr2:Fr W.heap.size to2:=bK (eP _) hr2 hf1.WP.size;exact CT hD hrg hap hDp hDa hDin ((hf1.WP.WO hf2 (eP _).step).trans hf3) (ho2.WR hf3) hfr2 ho4 hf4 hr4 hg5 hf5
 refine Gz 6 ?_;have hne:L≠[]:=by intro e;subst e;simp at hgl;simp[hgl] at h23
 obtain⟨⟨xa,xn,xc⟩,hx,hxn,hxv,hxD⟩:=(hrg.at (i:=L.length-1) (by omega))
 obtain rfl:xn=(L.getD (L.length-1) []).length:=hxn;have hcell:bE W.heap (adr ao ((gs.length:Int)-1).toNat)=some (.slice xa (L.getD (L.length-1) []).length xc):=by rw[show ((gs.length:Int)-1).toNat=L.length-1 from by omega];exact hout.vw.get _ _ hx
 have hxm:(L.getD (L.length-1) []).length≤1099511627776:=hb3 _ (by rw[List.getD,List.getElem?_eq_getElem (by omega:L.length-1<L.length)];exact List.getElem_mem _);refine cW (Tt pJ rfl rfl hout.vw.non (by omega)) ?_;refine cW (Tu aT rfl hcell) ?_;refine fW 4 ?_ ?_<;>intro h36
 ·refine Gz 5 ?_;refine TG 12 (fun H=>H[p]?=some (.cells [.slice ao gs.length c].toArray 82 (0,0))) [5,7,8,9,12] [0,1,2,3,4,6,5,7,8,9,10,11,12] aL (by kernel_rfl) (hobj) ?_;refine Gz 6 ?_;refine Ty rfl rfl (T2 b8 aK rfl ?_);intro w1 ho1 hs1 hf1;refine TE (by exact hf1.obj hobj (fun h=>h)) ?_;refine Ty rfl rfl (TB aV aK rfl rfl ho1 (hv.WR hf1.WP) (by simp only[length_nil];omega) (by simp only[length_nil];unfold maxLen;omega) rfl ?_);intro to2 c2 w2 ho2 hf2 hr2 hn2;have hp:p<W.heap.size:=hD p hDp;have hnp1:¬ blk (some (⟨W.heap.size,0,none⟩:Addr)) p:=fun⟨a,ha,hb⟩=>by cases ha;exact absurd hb (by show W.heap.size≠p;omega)
  refine TE (by exact hf2.obj (hf1.obj hobj (fun h=>h)) (fun h=>hnp1 h)) ?_;refine Ty rfl rfl (T3 (enc:=hd) (u:=⟨to2,t.length,c2⟩) pJ rfl rfl rfl ?_);intro w3 ho3 hs3 hf3;refine TE (by exact hf3.obj (hf2.obj (hf1.obj hobj (fun h=>h)) hnp1) (fun h=>h)) ?_;have hao1:∀ a,ao=some a→¬ blk (some (⟨W.heap.size,0,none⟩:Addr)) a.block:=fun a ha ⟨b,hb,e⟩=>by cases hb;have:=hout.lt a ha;have e2:W.heap.size=a.block:=e;omega
  have hout3:=((hout.WR hf1.WP).WS hf2 hao1).WR hf3;refine Ty rfl rfl (TB xN pJ rfl rfl hout3 ho3.vw (by simp only[length_singleton];omega) (by simp only[length_singleton];unfold maxLen;omega) rfl ?_);intro ao4 c4 w4 ho4 hf4 hr4 hn4;refine TE (by exact hf4.obj (hf3.obj (hf2.obj (hf1.obj hobj (fun h=>h)) hnp1) (fun h=>h)) hap) ?_;refine Gz 2 ?_;refine Ty rfl rfl (Tx Aa rfl rfl rfl (hf4.obj (hf3.obj (hf2.obj (hf1.obj hobj (fun h=>h)) hnp1) (fun h=>h)) hap) rfl ?_);intro w5 hg5 hs5 hf5;refine T6 rfl ?_;refine Gz 13 ?_;have hgood:zE t=false:=vN (by omega);have hnew:dU L t=(L++[t],L.length+1,0):=by simp only[dU,hgood,Bool.false_eq_true,if_false];rw[if_pos (.inr (by omega))]
  refine⟨_,rfl,by rw[hnew];exact Ok (by show _=((L.length+1:Nat):Int);omega) rfl,?_⟩;rw[hnew];have hfr2:Fr W.heap.size to2:=bK (eP _) hr2 hf1.WP.size;exact CT hD hrg hap hDp hDa hDin ((hf1.WP.WO hf2 (eP _).step).trans hf3) (ho2.WR hf3) hfr2 ho4 hf4 hr4 hg5 hf5
 refine Gz 13 ?_;refine cL (Tt pJ rfl rfl hout.vw.non (by omega)) ?_;refine cL (Tu aT rfl hcell) ?_;refine Gz 5 ?_;refine TG 17 (fun H=>H[p]?=some (.cells [.slice ao gs.length c].toArray 82 (0,0))∧bE H (adr ao ((gs.length:Int)-1).toNat)=some (.slice xa (L.getD (L.length-1) []).length xc)) [5,13,15,17] [0,1,2,3,4,6,7,8,9,10,11,12,14,5,13,15,16,17] aL (by kernel_rfl) (⟨hobj,hcell⟩) ?_;refine Gz 10 ?_;refine xC rfl (Tt pJ rfl rfl hout.vw.non (by omega)) ?_;refine xC rfl (TF aT rfl (fun H hH=>hH.2)) ?_;refine Gz 1 ?_;refine Ty rfl rfl (T2 b8 aK rfl ?_);intro w1 ho1 hs1 hf1;have hcell1:bE w1.heap (adr ao ((gs.length:Int)-1).toNat)=some (.slice xa (L.getD (L.length-1) []).length xc):=by rw[show ((gs.length:Int)-1).toNat=L.length-1 from by omega];exact(hout.WR hf1.WP).vw.get _ _ hx
 refine TE (by exact⟨hf1.obj hobj (fun h=>h),hcell1⟩) ?_;refine Ty rfl rfl (TB aV aK rfl rfl ho1 (hxv.WR hf1.WP) (by simp only[length_nil];omega) (by simp only[length_nil];unfold maxLen;omega) rfl ?_);intro to2 c2 w2 ho2 hf2 hr2 hn2;have hp:p<W.heap.size:=hD p hDp;have hnp1:¬ blk (some (⟨W.heap.size,0,none⟩:Addr)) p:=fun⟨a,ha,hb⟩=>by cases ha;exact absurd hb (by show W.heap.size≠p;omega)
 have hF2:aA nob W w2:=hf1.WP.WO hf2 (eP _).step;have hcell2:bE w2.heap (adr ao ((gs.length:Int)-1).toNat)=some (.slice xa (L.getD (L.length-1) []).length xc):=by rw[show ((gs.length:Int)-1).toNat=L.length-1 from by omega];exact(hout.WR hF2).vw.get _ _ hx
 refine TE (by exact⟨hf2.obj (hf1.obj hobj (fun h=>h)) hnp1,hcell2⟩) ?_;refine Ty rfl rfl (TB aV aK rfl rfl ho2 (hv.WR hF2) (by simp only[nil_append];omega) (by simp only[nil_append];unfold maxLen;omega) rfl ?_);intro to3 c3 w3 ho3 hf3 hr3 hn3;have hfr2:Fr W.heap.size to2:=bK (eP _) hr2 hf1.WP.size;have hF3:aA nob W w3:=hF2.WO hf3 hfr2.step;have hcell3:bE w3.heap (adr ao ((gs.length:Int)-1).toNat)=some (.slice xa (L.getD (L.length-1) []).length xc):=by rw[show ((gs.length:Int)-1).toNat=L.length-1 from by omega];exact(hout.WR hF3).vw.get _ _ hx
 refine TE (by exact⟨hF3.obj hobj (fun h=>h),hcell3⟩) ?_;refine xC rfl (Tt pJ rfl rfl hout.vw.non (by omega)) ?_;refine Ty rfl rfl (T7 xN aT (z:=(gs.length:Int)-1) (u:=⟨to3,([]++L.getD (L.length-1) []++t).length,c3⟩) rfl rfl (hout.WR hF3) (by omega) ?_);intro w4 ho4 hs4 hf4;refine T6 rfl ?_;refine Gz 13 ?_;have hgood:zE t=false:=vN (by omega);have hold:dU L t=(L.set (L.length-1) (L.getD (L.length-1) []++t),L.length,(L.getD (L.length-1) []).length):=by simp only[dU,hgood,Bool.false_eq_true,if_false];rw[if_neg (by intro h;rcases h with h|h;exact hne h;omega)]
 refine⟨_,rfl,by rw[hold];exact Ok (by show _=((L.length:Nat):Int);omega) rfl,?_⟩;rw[hold];have hfr3:Fr W.heap.size to3:=bK hfr2 hr3 (by have:=hF2.size;omega);rw[show ((gs.length:Int)-1).toNat=L.length-1 from by omega] at ho4;exact JO hD hobj hrg hap hDp hDa hDin hF3 ho3 hfr3 ho4 hf4
def kS(t:By×Int×Int)(off n:Int):By×Int:=
 if t.2.2≠0∨t.1.length=0∨(t.1.length:Int)<off∨(t.1.length:Int)-off<n then ([],35) else ((t.1.drop off.toNat).take n.toNat,0)
def fA(im:By)(pl:List Int)(num off n:Int):By×Int:=
 if num<1∨(pl.length:Int)<num∨off<0∨n<0 then ([],1) else kS (bB im (pl.getD (num-1).toNat 0)) off n
theorem KP(p:Nat)(io:Option Addr)(ic:Nat)(im:By)(po:Option Addr)(pc:Nat)(pl:List Int)(num off n:Int)(W:World)(ht:TbV W.heap p)(hv:Vw b8 W.heap io ic im)(hb:im.length≤1099511627776)(hp:Vw i64 W.heap po pc pl)(hpb:∀ x∈pl,bd x)(hnb:bd num)(hob:bd off)(hnn:bd n) :
 CA 85 [pT p,.slice io im.length ic,.slice po pl.length pc,iV num,iV off,iV n] W (zH W (fA im pl num off n)):=by
 unfold bd at hnb hob hnn;refine cS 73 [(0,_),(1,_),(2,_),(3,_),(4,_),(5,_)] Tryz.func85 ?_;refine fK 10 ?_ ?_<;>intro h18
 ·have e:fA im pl num off n=([],1):=by unfold fA;rw[if_pos (by omega)]
  refine Gz 26 ?_
  (rw[e];exact⟨_,rfl,none,0,rfl,WA,Wy,Wt _ _⟩)
 refine fW 4 ?_ ?_<;>intro h23
 ·have e:fA im pl num off n=([],1):=by unfold fA;rw[if_pos (by omega)]
  refine Gz 21 ?_
  (rw[e];exact⟨_,rfl,none,0,rfl,WA,Wy,Wt _ _⟩)
 refine fW 3 ?_ ?_<;>intro h27
 ·have e:fA im pl num off n=([],1):=by unfold fA;rw[if_pos (by omega)]
  refine Gz 17 ?_
  (rw[e];exact⟨_,rfl,none,0,rfl,WA,Wy,Wt _ _⟩)
 refine fW 3 ?_ ?_<;>intro h31
 ·have e:fA im pl num off n=([],1):=by unfold fA;rw[if_pos (by omega)]
  refine Gz 13 ?_
  (rw[e];exact⟨_,rfl,none,0,rfl,WA,Wy,Wt _ _⟩)
 have e:fA im pl num off n=kS (bB im (pl.getD (num-1).toNat 0)) off n:=by unfold fA;rw[if_neg (by omega)]
 have hi:(num-1).toNat<pl.length:=by omega
 refine Gz 13 ?_;refine cL (Tt bP rfl rfl hp.non (by omega)) ?_;refine cL (Tu aI rfl (hp.gz 0 (num-1).toNat (by omega) hi)) ?_;have hpa:bd (pl.getD (num-1).toNat 0):=hpb _ (by rw[List.getD,List.getElem?_eq_getElem hi];exact List.getElem_mem _);obtain⟨t,hT⟩:∃ t,t=bB im (pl.getD (num-1).toNat 0):=⟨_,rfl⟩
 refine Ts K5 rfl (xR p io ic im _ W ht hv hb hpa.2) rfl ?_;rw[←hT];rintro _ w1 ⟨o1,c1,rfl,ho1,hfr1,hf1⟩;rw[←hT] at e;have hl:=ho1.vw.WQ;have hle:=ho1.vw.le;refine fK 13 ?_ ?_<;>intro h46
 ·have e2:kS t off n=([],35):=by unfold kS;rw[if_pos (.inl h46)]
  refine Gz 31 ?_
  (rw[e,e2];exact⟨_,rfl,none,0,rfl,WA,Wy,hf1⟩)
 refine fW 3 ?_ ?_<;>intro h50
 ·have e2:kS t off n=([],35):=by unfold kS;rw[if_pos (.inr (.inl (by omega)))]
  refine Gz 27 ?_
  (rw[e,e2];exact⟨_,rfl,none,0,rfl,WA,Wy,hf1⟩)
 refine fW 5 ?_ ?_<;>intro h56
 ·have e2:kS t off n=([],35):=by unfold kS;rw[if_pos (.inr (.inr (.inl (by omega))))]
  refine Gz 21 ?_
  (rw[e,e2];exact⟨_,rfl,none,0,rfl,WA,Wy,hf1⟩)
 refine fW 7 ?_ ?_<;>intro h64
 ·have e2:kS t off n=([],35):=by unfold kS;rw[if_pos (.inr (.inr (.inr (by omega))))]
  refine Gz 13 ?_
  (rw[e,e2];exact⟨_,rfl,none,0,rfl,WA,Wy,hf1⟩)
 have e2:kS t off n=((t.1.drop off.toNat).take n.toNat,0):=by unfold kS;rw[if_neg (by rintro(h|h|h|h);exact h46 h;omega;omega;omega)]
 have htl:t.1.length≤128:=by rw[hT];exact zT _ _
 have hcl:((t.1.drop off.toNat).take n.toNat).length=n.toNat:=by rw[length_take,length_drop];omega
 refine Gz 13 ?_;refine cL (Tw (u:=.slice (aP o1 c1 off.toNat 1) ((t.1.drop off.toNat).take n.toNat).length (c1-off.toNat)) (U0 aK rfl rfl rfl (by omega) (by omega)) (by rw[hcl,show (off+n).toNat-off.toNat=n.toNat by omega])) ?_;refine Ts Fg rfl (iM (aP o1 c1 off.toNat 1) (c1-off.toNat) ((t.1.drop off.toNat).take n.toNat) w1 (by have:=ho1.vw.cut (l:=off.toNat) (h:=off.toNat+n.toNat) (m:=c1) (by omega) (by omega) (by omega) (Nat.le_refl _);rwa[show off.toNat+n.toNat-off.toNat=n.toNat by omega] at this) (by rw[hcl];omega)) rfl ?_;rintro _ w2 ⟨o2,c2,rfl,ho2,hfr2,hf2⟩;refine Gz 6 ?_
 (rw[e,e2];exact⟨_,rfl,o2,c2,rfl,ho2,hfr2.mono hf1.size,hf1.trans hf2⟩)
section
variable {im:List UInt8}{fr to:Int}
theorem Mp(n:Nat)(m:Nat):∀ (at_:Int) (i:Nat) (out:By),n-out.length=m→out.length≤n→(rdL im fr to n at_ i out).2.2=0 →
 256*at_+i+((n-out.length:Nat):Int)≤(rdL im fr to n at_ i out).2.1:=by
 induction m using Nat.strongRecOn with
|ind m ih=>
   intro at_ i out hm hle h0;by_cases h:out.length<n
   · cases hh:cB im fr to at_ with
    |none=>rw[lY h hh] at h0;cases h0
    |some p=>
       obtain⟨b,nx⟩:=p;by_cases hi:b.length≤i
       ·rw[pB h hh hi] at h0;cases h0
       · obtain⟨s1,s2,s3,s4,s5,s6,s7,s8⟩:=eZ hh
         obtain⟨x,hx⟩:∃ x,x=(b.drop i).take (n-out.length):=⟨_,rfl⟩
         have hxl:x.length=min (b.length-i) (n-out.length):=by rw[hx,length_take,length_drop];omega
         have hal:(out++x).length=out.length+x.length:=length_append;by_cases h1:i+x.length=128
         · rw[kL h hh hi (by rw[←hx];exact h1),←hx] at h0 ⊢
           have:=ih (n-(out++x).length) (by omega) nx 0 (out++x) rfl (by omega) h0;omega
         · by_cases h2:(out++x).length<n
           ·rw[pC h hh hi (by rw[←hx];exact h1) (by rw[←hx];exact h2)] at h0;cases h0
           · rw[tI h hh hi (by rw[←hx];exact h1) (by rw[←hx];exact h2),←hx] at h0 ⊢
             have:=ih (n-(out++x).length) (by omega) at_ (i+x.length) (out++x) rfl (by omega) h0;omega
   · rw[lA h]
     show _≤256*at_+(i:Int)
     omega
theorem Hw{ref n:Int}(h:(aD im fr to ref n).2.2=0):ref+n≤(aD im fr to ref n).2.1:=by
 obtain⟨h1,h2,h3,_⟩:=eC h;have e:aD im fr to ref n=rdL im fr to n.toNat (ref/256) (ref%256).toNat []:=by unfold aD;rw[if_neg (by omega),if_neg (by rw[h3];simp)]
 rw[e] at h ⊢;have:=Mp (im:=im) (fr:=fr) (to:=to) n.toNat n.toNat (ref/256) (ref%256).toNat [] (by simp) (by simp) h;simp only[length_nil,Nat.sub_zero] at this;omega
theorem Hu{ref n:Int}(h:fF im fr to=false):(aD im fr to ref n).2.2≠0:=fun e=>by have:=(eC e).2.2.1;rw[h] at this;cases this
def kF(im:By)(fr to wide:Int):Nat→Int→Option (List Int×Int)
|0,ref=>some ([],ref)
|k+1,ref=>if (aD im fr to ref wide).2.2≠0 then none else (kF im fr to wide k (aD im fr to ref wide).2.1).map fun p=>(((bT (aD im fr to ref wide).1:Nat):Int)::p.1,p.2)
def tnS(im:By)(fr to many wide:Int):List Int×Int:=
 if many<0∨¬ (wide=2∨wide=4) then ([],1) else if fF im fr to=false then ([],2) else
 match kF im fr to wide many.toNat 0 with
|none=>([],2)
|some (l,r)=>if (aD im fr to r 1).2.2=0 then ([],2) else (l,0)
def TnI(im:By)(fr to wide:Int)(k:Nat)(os:List Int)(ref:Int):Prop:=
 os.length≤k∧kF im fr to wide k 0=(kF im fr to wide (k-os.length) ref).map (fun p=>(os++p.1,p.2))∧(os.length:Int)≤ref∧ref≤256*im.length+128
variable {wide many:Int}{k:Nat}{os:List Int}{ref:Int}
theorem kG(k:Nat)(ref:Int):kF im fr to wide (k+1) ref=if (aD im fr to ref wide).2.2≠0 then none else (kF im fr to wide k (aD im fr to ref wide).2.1).map fun p=>(((bT (aD im fr to ref wide).1:Nat):Int)::p.1,p.2):=rfl
theorem TnI.zero:TnI im fr to wide k [] 0:=⟨Nat.zero_le _,by cases kF im fr to wide k 0<;>simp,by simp,by omega⟩
theorem TnI.bad(h:TnI im fr to wide k os ref)(hl:os.length<k)(he:(aD im fr to ref wide).2.2≠0):kF im fr to wide k 0=none:=by
 obtain⟨m,hm⟩:∃ m,k-os.length=m+1:=⟨k-os.length-1,by omega⟩
 have:=h.2.1;rw[hm] at this;rw[this,kG,if_pos he];rfl
theorem TnI.next(h:TnI im fr to wide k os ref)(hl:os.length<k)(hw:1≤wide)(he:(aD im fr to ref wide).2.2=0):TnI im fr to wide k (os++[((bT (aD im fr to ref wide).1:Nat):Int)]) (aD im fr to ref wide).2.1:=by
 obtain⟨h1,h2,h3,h4⟩:=h;obtain⟨m,hm⟩:∃ m,k-os.length=m+1:=⟨k-os.length-1,by omega⟩
 have ha:=Hw he;obtain⟨r1,r2,r3,r4,r5,r6⟩:=eC he;refine⟨by simp;omega,?_,by simp;omega,by omega⟩;rw[h2,hm];have e:k-(os++[((bT (aD im fr to ref wide).1:Nat):Int)]).length=m:=by simp;omega
 rw[e,kG,if_neg (fun h'=>h' he)];cases kF im fr to wide m (aD im fr to ref wide).2.1<;>simp
theorem TnI.done(h:TnI im fr to wide k os ref)(hl:¬ os.length<k):kF im fr to wide k 0=some (os,ref):=by
 have:=h.2.1;rw[show k-os.length=0 by omega] at this;rw[this];simp[kF]
theorem Be(h:many<0∨¬ (wide=2∨wide=4)):tnS im fr to many wide=([],1):=by unfold tnS;rw[if_pos h]
theorem FK(h:¬ (many<0∨¬ (wide=2∨wide=4)))(hm:fF im fr to=false):tnS im fr to many wide=([],2):=by unfold tnS;rw[if_neg h,if_pos hm]
theorem Cg(h:¬ (many<0∨¬ (wide=2∨wide=4)))(hn:kF im fr to wide many.toNat 0=none):tnS im fr to many wide=([],2):=by
 unfold tnS;rw[if_neg h,hn];split<;>rfl
theorem vV(h:¬ (many<0∨¬ (wide=2∨wide=4)))(hn:kF im fr to wide many.toNat 0=some (os,ref))(he:(aD im fr to ref 1).2.2=0):tnS im fr to many wide=([],2):=by
 unfold tnS;rw[if_neg h,hn];split
 ·rfl
 ·show (if _ then _ else _)=_;rw[if_pos he]
theorem qU(h:¬ (many<0∨¬ (wide=2∨wide=4)))(hm:fF im fr to=true)(hn:kF im fr to wide many.toNat 0=some (os,ref))(he:(aD im fr to ref 1).2.2≠0):tnS im fr to many wide=(os,0):=by
 unfold tnS;rw[if_neg h,if_neg (by rw[hm];simp),hn];show (if _ then _ else _)=_;rw[if_neg he]
end
def bdT(z:Int):Prop:=-9223372036854775808≤z∧z≤9223372036854775807
def jQ(im:By)(fr to ref:Int):By×Int×Int:=
 if (aD im fr to ref 1).2.2≠0 then ([],0,(aD im fr to ref 1).2.2) else aD im fr to (aD im fr to ref 1).2.1 ((aD im fr to ref 1).1.getD 0 0).toNat
def jP(im:By)(fr to:Int):Nat→Int→Option (List By×Int)
|0,ref=>some ([],ref)
|k+1,ref=>if (jQ im fr to ref).2.2≠0 then none else (jP im fr to k (jQ im fr to ref).2.1).map fun p=>((jQ im fr to ref).1::p.1,p.2)
def cN(l:List By):List Xa:=(List.range (l.length/2)).map fun i=>(l.getD (2*i) [],l.getD (2*i+1) [])
def iO(im:By)(fr to ref:Int):List Xa×Int:=
 if (aD im fr to ref 1).2.2≠0∨((aD im fr to ref 1).1.getD 0 0).toNat=0∨8<((aD im fr to ref 1).1.getD 0 0).toNat then ([],2) else
 match jP im fr to (2*((aD im fr to ref 1).1.getD 0 0).toNat) (aD im fr to ref 1).2.1 with
|none=>([],2)
|some (l,_)=>if eD (cN l) then (cN l,0) else ([],2)
section
variable {im:List UInt8}{fr to:Int}
theorem rM{ref n:Int}(hr:bdT ref)(him:im.length≤1073741824):bdT (aD im fr to ref n).2.1:=by
 unfold bdT at *;rcases tG (im:=im) (fr:=fr) (to:=to) ref n with e|e|⟨_,h2,h3,h4,h5,h6,h7⟩
 ·rw[e];decide
 ·rw[e];decide
 ·omega
theorem Ew{ref:Int}(h:(aD im fr to ref 1).2.2≠0):jQ im fr to ref=([],0,(aD im fr to ref 1).2.2):=by unfold jQ;rw[if_pos h]
theorem Bm{ref:Int}(h:(aD im fr to ref 1).2.2=0):jQ im fr to ref=aD im fr to (aD im fr to ref 1).2.1 ((aD im fr to ref 1).1.getD 0 0).toNat:=by unfold jQ;rw[if_neg (fun h'=>h' h)]
theorem Mc{ref:Int}(hr:bdT ref)(him:im.length≤1073741824):bdT (jQ im fr to ref).2.1:=by
 by_cases h:(aD im fr to ref 1).2.2=0
 ·rw[Bm h];exact rM (rM hr him) him
 ·rw[Ew h];exact⟨by show (_:Int)≤0;decide,by show (0:Int)≤_;decide⟩
theorem Jo(ref:Int):(jQ im fr to ref).1.length≤255:=by
 by_cases h:(aD im fr to ref 1).2.2=0
 · rw[Bm h]
   have hu:=UInt8.toNat_lt ((aD im fr to ref 1).1.getD 0 0);rcases tG (im:=im) (fr:=fr) (to:=to) (aD im fr to ref 1).2.1 ((aD im fr to ref 1).1.getD 0 0).toNat with e|e|⟨_,_,_,_,h5,_⟩
   ·rw[e];exact Nat.zero_le _
   ·rw[e];exact Nat.zero_le _
   ·omega
 ·rw[Ew h];exact Nat.zero_le _
def TxI(im:By)(fr to r0:Int)(k:Nat)(ls:List By)(ref:Int):Prop:=
 ls.length≤k∧jP im fr to k r0=(jP im fr to (k-ls.length) ref).map (fun p=>(ls++p.1,p.2))∧bdT ref∧∀ x∈ls,x.length≤255
variable {r0 ref:Int}{k:Nat}{ls:List (List UInt8)}
theorem iP(k:Nat)(ref:Int):jP im fr to (k+1) ref=if (jQ im fr to ref).2.2≠0 then none else (jP im fr to k (jQ im fr to ref).2.1).map fun p=>((jQ im fr to ref).1::p.1,p.2):=rfl
theorem TxI.zero(h:bdT r0):TxI im fr to r0 k [] r0:=⟨Nat.zero_le _,by cases jP im fr to k r0<;>simp,h,by simp⟩
theorem TxI.bad(h:TxI im fr to r0 k ls ref)(hl:ls.length<k)(he:(jQ im fr to ref).2.2≠0):jP im fr to k r0=none:=by
 obtain⟨m,hm⟩:∃ m,k-ls.length=m+1:=⟨k-ls.length-1,by omega⟩
 have:=h.2.1;rw[hm] at this;rw[this,iP,if_pos he];rfl
theorem TxI.next(h:TxI im fr to r0 k ls ref)(hl:ls.length<k)(him:im.length≤1073741824)(he:(jQ im fr to ref).2.2=0):TxI im fr to r0 k (ls++[(jQ im fr to ref).1]) (jQ im fr to ref).2.1:=by
 obtain⟨h1,h2,h3,h4⟩:=h;obtain⟨m,hm⟩:∃ m,k-ls.length=m+1:=⟨k-ls.length-1,by omega⟩
 refine⟨by simp;omega,?_,Mc h3 him,fun x hx=>?_⟩
 · rw[h2,hm]
   have e:k-(ls++[(jQ im fr to ref).1]).length=m:=by simp;omega
   rw[e,iP,if_neg (fun h'=>h' he)];cases jP im fr to m (jQ im fr to ref).2.1<;>simp
 · rcases mem_append.1 hx with h|h
   ·exact h4 x h
   ·rw[mem_singleton.1 h];exact Jo ref
theorem TxI.done(h:TxI im fr to r0 k ls ref)(hl:¬ ls.length<k):jP im fr to k r0=some (ls,ref):=by
 have:=h.2.1;rw[show k-ls.length=0 by omega] at this;rw[this];simp[jP]
theorem wG(h:(aD im fr to ref 1).2.2≠0∨((aD im fr to ref 1).1.getD 0 0).toNat=0∨8<((aD im fr to ref 1).1.getD 0 0).toNat):iO im fr to ref=([],2):=by unfold iO;rw[if_pos h]
theorem Hh(h:¬ ((aD im fr to ref 1).2.2≠0∨((aD im fr to ref 1).1.getD 0 0).toNat=0∨8<((aD im fr to ref 1).1.getD 0 0).toNat))(hn:jP im fr to (2*((aD im fr to ref 1).1.getD 0 0).toNat) (aD im fr to ref 1).2.1=none):iO im fr to ref=([],2):=by
 unfold iO;rw[if_neg h,hn]
theorem CD(h:¬ ((aD im fr to ref 1).2.2≠0∨((aD im fr to ref 1).1.getD 0 0).toNat=0∨8<((aD im fr to ref 1).1.getD 0 0).toNat)){l:List By}{r:Int}(hn:jP im fr to (2*((aD im fr to ref 1).1.getD 0 0).toNat) (aD im fr to ref 1).2.1=some (l,r))(hm:eD (cN l)):iO im fr to ref=(cN l,0):=by
 unfold iO;rw[if_neg h,hn];show (if _ then _ else _)=_;rw[if_pos hm]
theorem Jn(h:¬ ((aD im fr to ref 1).2.2≠0∨((aD im fr to ref 1).1.getD 0 0).toNat=0∨8<((aD im fr to ref 1).1.getD 0 0).toNat)){l:List By}{r:Int}(hn:jP im fr to (2*((aD im fr to ref 1).1.getD 0 0).toNat) (aD im fr to ref 1).2.1=some (l,r))(hm:¬ eD (cN l)):iO im fr to ref=([],2):=by
 unfold iO;rw[if_neg h,hn];show (if _ then _ else _)=_;rw[if_neg hm]
end
theorem CE{im:By}{fr to:Int}:∀ (k:Nat) (ref:Int) (l:List By) (r:Int),jP im fr to k ref=some (l,r)→l.length=k
|0,_,_,_,h=>by cases h;rfl
|k+1,ref,l,r,h=>by
   rw[iP] at h
   split at h
   ·cases h
   · cases hh:jP im fr to k (jQ im fr to ref).2.1 with
    |none=>rw[hh] at h;cases h
    |some p=>rw[hh] at h;cases h;have:=CE k _ p.1 p.2 hh;simp[this]
theorem kN(l:List By):(cN l).length=l.length/2:=by simp[cN]
theorem Au{l:List By}{i:Nat}(h:i<l.length/2):(cN l)[i]?=some (l.getD (2*i) [],l.getD (2*i+1) []):=by simp[cN,h]
theorem FF(c:UInt8):IntKind.i64.wrap ((c.toNat:Nat):Int)=(c.toNat:Int):=bG (by have:=UInt8.toNat_lt c;omega)
theorem G3(A:Nat→Prop)(g p:Nat)(im:By)(fr to ref:Int)(many:Nat)(W:World)(hM:MrO A W.heap g p im fr to)(hA:∀ k,A k→k<W.heap.size)(him:im.length≤1073741824)(href:bdT ref)(hm:many≤1000) :
 CA 140 [pT g,iV ref,iV many] W fun v w'=>∃ o c hs l e,∃ B:Nat→Prop,
  v=.tuple #[.slice o (List.length (α:=By) l) c,iV e]∧((jP im fr to many ref=none∧e≠0)∨(e=0∧(∃ r,jP im fr to many ref=some (l,r))∧(∀ x∈l,x.length≤255)∧Own hd 25 w'.heap o c hs∧eQ (fun k=>W.heap.size≤k∧k<w'.heap.size∧¬ B k) w'.heap hs l)) ∧
  Fr W.heap.size o∧MrO B w'.heap g p im fr to∧(∀ k,B k→Nx A W w' k)∧aA A W w':=by
 obtain⟨ht,hp⟩:=hM.tab;have hpl:p<W.heap.size:=(Array.getElem?_eq_some_iff.1 ht).1;refine cS 48 [(0,_),(1,_),(2,_)] Tryz.func140 ?_;refine Gz 19 ?_;refine TA (β:=((List By×List Hd)×Int×(Nat→Prop))×(Option Addr×Nat)) (fun⟨⟨⟨ls,hs⟩,q,B⟩,⟨oo,oc⟩⟩=>[(0,pT g),(1,iV q),(8,.slice oo ls.length oc),(14,iV many),(15,iV ls.length)]) (fun⟨⟨⟨ls,hs⟩,q,B⟩,⟨oo,oc⟩⟩ w=>TxI im fr to ref many ls q∧MrO B w.heap g p im fr to∧(∀ k,B k→A k∨(W.heap.size≤k∧k<w.heap.size))∧(∀ k,blk oo k→¬ B k)∧Own hd 25 w.heap oo oc hs∧eQ (fun k=>W.heap.size≤k∧k<w.heap.size∧¬ B k∧¬ blk oo k) w.heap hs ls∧Fr W.heap.size oo∧aA A W w) (fun⟨⟨⟨ls,hs⟩,q,B⟩,⟨oo,oc⟩⟩=>many-ls.length) ⟨⟨⟨[],[]⟩,ref,A⟩,⟨none,0⟩⟩ ⟨rfl,rfl,rfl,rfl,rfl,trivial⟩ ⟨TxI.zero href,hM,(fun k hk=>.inl hk),(fun k ⟨a,ha,_⟩=>by cases ha),WA,WF,Wy,Wt _ _⟩ ?_;rintro⟨⟨⟨ls,hs⟩,q,B⟩,⟨oo,oc⟩⟩ w2 ⟨hI,hB,hBA,hBo,hoo,hrw,hfro,hF2⟩;have hz2:=hF2.size;refine fK 2 ?_ ?_<;>intro h16
 ·have hlt:ls.length<many:=by omega
  obtain⟨i1,i2,i3,i4⟩:=hI;have hI:TxI im fr to ref many ls q:=⟨i1,i2,i3,i4⟩
  obtain⟨R,hR⟩:∃ R,R=aD im fr to q 1:=⟨_,rfl⟩
  obtain⟨S,hS⟩:∃ S,S=jQ im fr to q:=⟨_,rfl⟩
  refine Gz 12 ?_;refine Ts pX rfl (eJ B g p im fr to q 1 w2 hB (by omega) i3 (by decide)) rfl ?_;rw[←hR];rintro _ w3 ⟨o3,c3,rfl,ho3,hfr3,hM3,hF3⟩;have hz3:=hF3.size;have hFW3:aA A W w3:=hF2.WO hF3 (fun k hk=>(hBA k hk).imp id (fun h=>h.1));have hoo3:=hoo.WS hF3 (fun a ha e=>hBo _ ⟨a,ha,rfl⟩ e);have hrw3:=hrw.WS hF3 (fun k hk=>hk.2.2.1);have hB3:∀ k,(Nx B w2 w3 k∧¬ blk o3 k)→A k∨(W.heap.size≤k∧k<w3.heap.size):=fun k hk=>hk.1.elim (fun h=>(hBA k h).imp id (fun h=>⟨h.1,by omega⟩)) (fun h=>.inr ⟨by omega,h.2⟩);have hlo:=hoo.lt;refine Gz 8 ?_;refine aW [(0,_),(1,_),(8,_),(9,_),(10,_),(11,_),(14,_),(15,_),(16,_)] ?_;refine fK 5 ?_ ?_<;>intro h25
  ·have e5:jP im fr to many ref=none:=hI.bad hlt (by rw[Ew (by rw[←hR];exact h25),←hR];exact h25);refine Gz 18 ?_;exact⟨_,rfl,none,0,[],[],_,_,rfl,.inl ⟨e5,h25⟩,Wy,hM3,hB3,hFW3⟩
  have e25:R.2.2=0:=Decidable.not_not.1 h25;have hl3:(R.1.length:Int)=1:=by have:=e25;rw[hR] at this ⊢;exact(eC this).2.2.2.1
  have eS:S=aD im fr to R.2.1 (R.1.getD 0 0).toNat:=by rw[hS,Bm (by rw[←hR];exact e25),←hR]
  have hu:=UInt8.toNat_lt (R.1.getD 0 0);have hRb:bdT R.2.1:=by rw[hR];exact rM i3 him
  refine Gz 10 ?_;refine cL (Tt aK rfl rfl ho3.vw.non (by omega)) ?_;refine cL (Tu gW rfl (ho3.vw.gz 0 0 rfl (by omega))) ?_;refine cL (TD (n:=((R.1.getD 0 0).toNat:Int)) is5 ty3 rfl (FF _)) ?_;refine Ts pX rfl (eJ (fun k=>Nx B w2 w3 k∧¬ blk o3 k) g p im fr to R.2.1 (R.1.getD 0 0).toNat w3 hM3 (by omega) hRb (by omega)) rfl ?_;rw[←eS];rintro _ w4 ⟨o4,c4,rfl,ho4,hfr4,hM4,hF4⟩;have hz4:=hF4.size;have hFW4:aA A W w4:=hFW3.WO hF4 (fun k hk=>(hB3 k hk).imp id (fun h=>h.1));have hB4:∀ k,(Nx (fun k=>Nx B w2 w3 k∧¬ blk o3 k) w3 w4 k∧¬ blk o4 k)→A k∨(W.heap.size≤k∧k<w4.heap.size):=fun k hk=>hk.1.elim (fun h=>(hB3 k h).imp id (fun h=>⟨h.1,by omega⟩)) (fun h=>.inr ⟨by omega,h.2⟩);have hnb:∀ k,k<w2.heap.size→¬ B k→¬ (Nx B w2 w3 k∧¬ blk o3 k):=fun k hk hn h=>h.1.elim hn (fun h=>by omega);have hoo4:=hoo3.WS hF4 (fun a ha e=>hnb _ (hlo a ha) (hBo _ ⟨a,ha,rfl⟩) e);have hrw4:=hrw3.WS hF4 (fun k hk=>hnb k hk.2.1 hk.2.2.1);have hlo4:=ho4.lt;refine fK 13 ?_ ?_<;>intro h39
  ·have e5:jP im fr to many ref=none:=hI.bad hlt (by rw[←hS];exact h39);refine Gz 18 ?_;exact⟨_,rfl,none,0,[],[],_,_,rfl,.inl ⟨e5,h39⟩,Wy,hM4,hB4,hFW4⟩
  have e39:S.2.2=0:=Decidable.not_not.1 h39;have hI5:=hI.next hlt him (by rw[←hS];exact e39)
  rw[←hS] at hI5;refine Gz 8 ?_;refine T3 (enc:=hd) (u:=(⟨o4,S.1.length,c4⟩:Hd)) pJ rfl rfl rfl ?_;intro w5 ho5 hs5 hf5;have hhl:=hrw.1;rw[show ls.length=hs.length from hrw.1.symm];refine TB xN pJ rfl rfl (hoo4.WR hf5) ho5.vw (by rw[hrw.1];simp only[length_singleton];omega) (by rw[hrw.1];simp only[length_singleton];unfold maxLen;omega) rfl ?_;intro o6 c6 w6 ho6 hf6 hr6 hn6;have hz6:=hf6.size;have hM6:=(hM4.WR hf5).WS hf6 (fun k hk ⟨a,ha,e⟩=>by have h8:=hlo a ha;rcases hk.1 with h|h;exact hnb k (by omega) (hBo k ⟨a,ha,e⟩) h;have:=h.1;omega) (fun⟨a,ha,e⟩=>by have:=hfro a ha;omega);have hFW6:aA A W w6:=(hFW4.trans hf5.any).WO hf6 (fun k ⟨a,ha,e⟩=>.inr (by have:=hfro a ha;omega));have hrw6:=(hrw4.WS hf5 (fun _ _=>id)).WS hf6 (fun k hk=>hk.2.2.2);have hv6:=((ho4.WR hf5).WS hf6 (fun a ha ⟨b,hb,e⟩=>by have h1:=hfr4 a ha;have h2:=hlo b hb;omega)).vw;refine Gz 10 ?_;refine TO ⟨⟨⟨ls++[S.1],hs++[⟨o4,S.1.length,c4⟩]⟩,S.2.1,fun k=>Nx (fun k=>Nx B w2 w3 k∧¬ blk o3 k) w3 w4 k∧¬ blk o4 k⟩,⟨o6,c6⟩⟩ ⟨rfl,rfl,?_,rfl,?_,trivial⟩ ⟨hI5,hM6,(fun k hk=>(hB4 k hk).imp id (fun h=>⟨h.1,by omega⟩)),?_,ho6,?_,bK hfro hr6 (by omega),hFW6⟩ ?_
  · show some (Value.slice o6 (hs++_).length c6)=_
    rw[length_append,length_append,hrw.1];rfl
  · show some (Value.int .i64 ((hs.length:Int)+1))=_
    rw[length_append,length_singleton,hrw.1];rfl
  · intro k ⟨a,ha,e⟩ hk
    rcases hr6 a ha with h|h
    · rcases hk.1 with h2|h2
      ·exact hnb k (by have:=hlo a h;omega) (hBo k ⟨a,h,e⟩) h2
      ·have:=hlo a h;have:=h2.1;omega
    · rcases hk.1 with h2|h2
      · rcases h2.1 with h3|h3
        · rcases hBA k h3 with h4|h4
          ·have:=hA k h4;omega
          ·omega
        ·omega
      ·omega
  · refine(hrw6.mono ?_).snoc rfl hv6 ?_
    · intro k hk
      refine⟨hk.1,by omega,fun h=>?_,fun⟨a,ha,e⟩=>?_⟩
      · rcases h.1 with h2|h2
        ·exact hnb k hk.2.1 hk.2.2.1 h2
        ·have:=h2.1;have:=hk.2.1;omega
      · rcases hr6 a ha with h|h
        ·exact hk.2.2.2 ⟨a,h,e⟩
        ·have:=hk.2.1;omega
    · intro _ k ⟨a,ha,e⟩
      have ha:o4=some a:=ha;have h1:=hfr4 a ha;have h2:=hlo4 a ha;refine⟨by omega,by omega,fun h=>h.2 ⟨a,ha,e⟩,fun⟨b,hb,e2⟩=>?_⟩;rcases hr6 b hb with h|h
      ·have:=hlo b h;omega
      ·omega
  · show many-(ls++_).length<many-ls.length
    rw[length_append,length_singleton];omega
 refine Gz 15 ?_;refine aW [(0,_),(1,_),(6,_),(7,_),(8,_),(14,_),(15,_),(16,_)] ?_;refine Gz 3 ?_;have hdn:=hI.done (by omega);exact⟨_,rfl,oo,oc,hs,ls,0,B,rfl,.inr ⟨rfl,⟨_,hdn⟩,hI.2.2.2,hoo,hrw.mono (fun k hk=>⟨hk.1,hk.2.1,hk.2.2.1⟩)⟩,hfro,hB,hBA,hF2⟩
def vB(o:Oper):Bool:=match o.op with|.defer _=>false|_=>true
def Rr(Q:Exit→Act→World→Prop):Prop:=¬ LetsOut Q
section
variable {P:Program}{lp n:Nat}
abbrev FR(lp:Nat):Fence:=Fence.wide.inRound lp
theorem LB{f:FuncId}{args:Array Value}{w:World}{R:Ending→World→Prop}(h:Calls P f args w R):CallsIn (FR lp) n P f args w R:=CallsIn.inRound lp (callsIn_wide.2 h)
theorem Me{row:String}{args:Array Value}{w:World}{R:Value→World→Prop}(h:Rows P row args w R):RowsIn (FR lp) n P row args w R:=fun c cs _=>by
 obtain⟨v,w',r,s⟩:=h c cs;exact⟨v,w',r,stepsIn_wide.2 s⟩
theorem LR{o:Oper}{a:Act}{next next':Act→World→Prop}{Q:Exit→Act→World→Prop}(hn:∀ a w,next a w→next' a w){r:Result Next}(h:o.upon P a next Q r):o.uponIn (FR lp) n P a next' Q r:=by
 rcases r with⟨x,w'⟩|⟨c,w'⟩
 · cases x with
  |value v=>exact hn _ _ h
  |skip=>exact hn _ _ h
  |defer d=>exact hn _ _ h
  |enter f args=>
     refine⟨fun hd=>absurd hd (by simp[FR,Fence.wide]),LB (Calls.mono h ?_)⟩;rintro e w'' he;cases e with
    |returned v=>exact hn _ _ he
    |panicked ch=>exact he
    |outgrown=>exact he
  |row row args=>exact⟨fun hd=>absurd hd (by simp[FR,Fence.wide]),Me (Rows.mono h (fun v w'' he=>hn _ _ he))⟩
  |_=>exact h.elim
 ·cases c<;>first|exact h|exact h.elim
theorem BX{ops:Array Oper}{Q:Exit→Act→World→Prop}(hQ:Rr Q)(hd:∀ (i:Nat) (o:Oper),ops[i]?=some o→vB o=true):∀ (fuel:Nat) (listed:Array Bool) (a:Act) (w:World),wpAny P .any ops Q fuel listed a w→wpAnyIn (FR lp) n P .any ops Q fuel listed a w
|0,_,_,_,h=>h
|fuel+1,listed,a,w,h=>⟨h.1,fun i hi=>by
   have h2:=h.2 i hi;unfold wpOp at h2;unfold wpOpIn;cases ho:ops[i]? with
  |none=>rw[ho] at h2;exact BX hQ hd fuel _ a w h2
  |some o=>
     rw[ho] at h2;simp only at h2 ⊢;by_cases hw:Region.wanted o (yielded ops a.tmps)
     · rw[if_pos hw] at h2 ⊢
       rcases h2 with h2|⟨_,h2⟩
       · refine⟨fun _ _=>trivial,?_⟩
         rw[Oper.semAt_eq _ _ _ (fun c hc=>by have:=hd i o ho;simp[vB,hc] at this)];exact LR (BX hQ hd fuel _) h2
       ·exact absurd h2 hQ
     · rw[if_neg hw] at h2 ⊢
       exact⟨fun _ _=>trivial,BX hQ hd fuel _ _ _ h2⟩⟩
end
def Rc(lp n:Nat)(P:Program)(N:Nt)(c:Code)(Q:Exit→Act→World→Prop)(l:SF)(w:World):Prop:=∀ a,cK N l a→c.wpIn (FR lp) n P Q a w
section
variable {P:Program}{N:Nt}{Q:Exit→Act→World→Prop}{l:SF}{w:World}{lp n:Nat}
theorem Rc.block{id:Nat}{c:Code}(h:Rc lp n P N c (Exit.inBlock id Q) l w):Rc lp n P N (.block id c) Q l w:=fun a ha=>wpIn_block (h a ha)
theorem WJ{id:Nat}{lops:List Oper}(m:Nat)(CH:Array Obj→Prop)(effs ord:List Nat)(hm:P.follows .mixedOrders=true)(hs:(Region.noSelect lops.toArray && rZ lops.toArray m &&
 pV lops.toArray m effs ord (Array.replicate lops.length false) && Nat.ble ord.length lops.length)=true)(hd:lops.all vB=true)(hc:CH w.heap)
 (h:Sx P N lops.toArray m CH effs (fun a w=>Q .normal a w) ord l (w.drewN 1)):Rc lp n P N (.region id lops.toArray true) Q l w:=fun a ha=>by
 simp only[Bool.and_eq_true] at hs;obtain⟨⟨⟨hs,hfin⟩,hok⟩,hlen⟩:=hs;have h1:=nR (P:=P) (N:=N) (K0:=fun a w=>Q .normal a w) hs hfin ord CH lops.length _ l a (w.drewN 1) (by simpa[Nat.ble_eq] using hlen) hok ha
  (.inl ⟨by have:=rX (ops:=lops.toArray) (n:=m);simpa using this,hc⟩) h
 have h3:∀ (i:Nat) (o:Oper),lops.toArray[i]?=some o→vB o=true:=fun i o ho=>List.all_eq_true.1 hd o (List.mem_of_getElem? (by simpa using ho));have h2:=wpIn_region_any (F:=FR lp) (n:=n) (P:=P) (id:=id) (ops:=lops.toArray) (Q:=lQ fun a w=>Q .normal a w) (a:=a) (w:=w) hm (by
  have:=BX (lp:=lp) (n:=n) (fun⟨_,_,e⟩=>e) h3 _ _ _ _ h1.any;simpa[World.drewN] using this)
 refine wpIn_mono h2 ?_;intro e a' w' hq;cases e<;>first|exact hq|exact hq.elim
theorem Vm{α:Type}{B:Nat}{Kp:World→World→Prop}{I:List α→World→Prop}{Ix:Code→List α→World→Prop}{xs:List α}{W:World}(h:KeepsFrom B W w∧Kp W w∧I xs w):At N .normal (ownPostG B Kp I Ix xs W) l w:=fun _ _=>h
end
def Si(n:Nat)(P:Program)(N:Nt)(ops:Array Oper)(Q:Exit→Act→World→Prop)(rest:List Oper)(l:SF)(w:World):Prop:=∀ a,cK N l a→wpListIn Fence.wide n P ops Q rest a w
section
variable {P:Program}{N:Nt}{Q:Exit→Act→World→Prop}{l:SF}{w:World}{n:Nat}{ops:Array Oper}{rest:List Oper}
variable {op:Op}{ty:TypeId}{pos:String}{aft:Array Edge}{d:Nat}{v:Value}{x:Operand}
theorem Vu(n:Nat){id:Nat}{ops:List Oper}(h:Si n P N ops.toArray Q ops l w):Sc P N (.region id ops.toArray false) Q l w:=fun a ha=>wpIn_wide.1 (wpIn_region_lit (h a ha))
theorem WK(hv:Cm P N (· = w.heap) l ⟨some d,op,ty,pos,aft,none⟩ v)(hd:Nat.blt d N.n=true)(h:Si n P N ops Q rest ((d,v)::l) w) :
 Si n P N ops Q (⟨some d,op,ty,pos,aft,none⟩::rest) l w:=fun a ha=>by
 unfold wpListIn;rw[if_pos (by simp[Region.wanted])];refine⟨fun _ _=>trivial,?_⟩;show Oper.uponIn _ _ _ _ _ _ _ ((execOp a.eval _).run P w);rw[hv a w ha rfl];exact h _ (ha.put hd v)
theorem WL(h:At N .normal Q l w):Si n P N ops Q [] l w:=fun a ha=>wpListIn_nil (h a ha)
theorem Si.yield{r:Nat}{xs:List Operand}{vs:List Value}{ts:Array TypeId}{A B:World→Prop}(hc:evL l x=some (.func (.yield r) #[] #[]))(hx:uT l xs=some vs)
 (hy:YieldAt Fence.wide (n-1) P r vs.toArray w (fun e W'=>(e=.returned (.bool true)∧A W')∨(e=.returned (.bool false)∧B W')))(hd:Nat.blt d N.n=true)
 (h1:∀ W',A W'→Si n P N ops Q rest ((d,.bool true)::l) W')(h2:∀ W',B W'→Si n P N ops Q rest ((d,.bool false)::l) W') :
 Si n P N ops Q (⟨some d,.call ⟨.value x,xs.toArray,ts⟩,ty,pos,aft,none⟩::rest) l w:=fun a ha=>by
 unfold wpListIn;rw[if_pos (by simp[Region.wanted])];refine⟨fun _ _=>trivial,?_⟩;obtain⟨fn,tmps,assign,body,hrun,hR⟩:=hy;have e:(execOp a.eval ⟨some d,.call ⟨.value x,xs.toArray,ts⟩,ty,pos,aft,none⟩).run P w=.ok (.round r fn tmps assign body) w:=by
  have h1:=ha.ev hc;simp[execOp,resolve,h1,Deferred.ofValue,invoke,callFunc];rw[←ha.evs hx] at hrun;exact hrun
 have e2:(Oper.semAt Fence.wide.round a.eval ⟨some d,.call ⟨.value x,xs.toArray,ts⟩,ty,pos,aft,none⟩).run P w=.ok (.round r fn tmps assign body) w:=e;rw[e2];refine⟨fun hd=>absurd hd (by simp[Fence.wide]),hR.mono ?_⟩;rintro e W' (⟨rfl,hA⟩|⟨rfl,hB⟩)
 ·exact h1 W' hA _ (ha.put hd _)
 ·exact h2 W' hB _ (ha.put hd _)
end
def Nt.col(N:Nt)(D:Nat):Nt:=⟨N.n,{ target:=.collected D,args:=#[] } :: N.ds⟩
theorem BV{P:Program}{f:FuncId}{fn:Func}{c:Code}{args:List Value}{w:World}{R:Ending→World→Prop}(N:Nat)(l:SF)
 (hf:P.funcs[f]?=some fn)(hb:fn.body=some c)(hN:fn.ntmps=N)(hle:Nat.ble args.length N=true)
 (hl:∀ t v,lk l t=some v→args[t]?=some v)
 (h:Sc P ⟨N,[]⟩ c (bodyPostM Fence.wide 4 P fn R) l w):Calls P f args.toArray w R:=by
 refine callsIn_wide.1 (callsIn_of_wp_marks (F:=Fence.wide) (n:=4) hf hb trivial (wpIn_wide.2 (h _ ⟨rfl,?_,?_⟩)))
 · have:args.length≤N:=by simpa[Nat.ble_eq] using hle
   simp[hN];omega
 · intro t v ht
   have:=hl t v ht;have hlt:t<args.length:=(List.getElem?_eq_some_iff.1 this).1;rw[List.getElem?_eq_getElem hlt] at this;simpa[Array.getElem?_append,hlt] using this
section
variable {P:Program}{N D:Nat}{fn:Func}{R:Ending→World→Prop}{l:SF}{w:World}
theorem xD{tmps:Array Value}{v:Value}(hr:(results fn tmps).run P w=.ok v w)(h:R (.returned v) w):LeavesInM Fence.wide 4 P fn tmps R [] .returning w:=by
 unfold LeavesInM LeavesIn;exact⟨v,hr,h⟩
theorem Dh{tmps:Array Value}{v:Value}(hD:w.heap[D]?=some (.deferred (some [])))(hr:(results fn tmps).run P (w.putObj D (.deferred none))=.ok v (w.putObj D (.deferred none)))(h:R (.returned v) (w.putObj D (.deferred none))) :
 LeavesInM Fence.wide 4 P fn tmps R [{ target:=.collected D,args:=#[] }] .returning w:=
 ⟨by simp,.inl ⟨_,_,rfl,run_takeDeferred hD,xD hr h⟩⟩
theorem Ic(hD:w.heap[D]?=some (.deferred (some []))):aA (· = D) w (w.putObj D (.deferred none)):=
 ⟨rfl,rfl,rfl,by simp,fun k _ hk=>World.putObj_heap_other hk⟩
theorem UO{t u:Nat}{v x:Value}(hr:fn.results=#[.tmp t,.tmp u])(hv:lk l t=some v)(hx:lk l u=some x)(h:R (.returned (.tuple #[v,x])) w):At ⟨N,[]⟩ .ret (bodyPostM Fence.wide 4 P fn R) l w:=fun a ha=>by
 show LeavesInM _ _ _ _ _ _ a.defers _ _;rw[ha.dfr];exact xD (by rw[results_tmp2 hr]) (by simpa[ha.has t v hv,ha.has u x hx] using h)
theorem Vn{t u:Nat}{v x:Value}(hr:fn.results=#[.tmp t,.tmp u])(hv:lk l t=some v)(hx:lk l u=some x)(hD:w.heap[D]?=some (.deferred (some [])))
 (h:∀ w',w'=w.putObj D (.deferred none)→aA (· = D) w w'→R (.returned (.tuple #[v,x])) w'):At (Nt.col ⟨N,[]⟩ D) .ret (bodyPostM Fence.wide 4 P fn R) l w:=fun a ha=>by
 show LeavesInM _ _ _ _ _ _ a.defers _ _;rw[ha.dfr];exact Dh hD (by rw[results_tmp2 hr]) (by simpa[ha.has t v hv,ha.has u x hx] using h _ rfl (Ic hD))
end
theorem HM{α:Type}{B:Nat}(c:Code):OwnFrom B ((fun(_:Code) (_:List α) (_:World)=>False) c):=fun _ _ _ _ h _ _=>h.elim
theorem VU{α:Type}{P:Program}{N:Nt}{l:SF}{w w0:World}{Q:Exit→Act→World→Prop}{f p q:Nat}{rid:Nat}{ty:TypeId}{pos:String}{aft:Array Edge}{body:Code}{gf:Nat}{lb:Array Value}{enc:α→Value}
 {Kp:World→World→Prop}{S Sp:List α→Prop}{M:Nat}
 (hf:lk l f=some (.func (.func gf) #[] lb))(hg:fnB P gf=true)(hseq:SeqStopsK Fence.wide 3 P gf lb (fun x=>#[enc x]) Kp S Sp M w0)
 (hKt:∀ {A B C:World},Kp A B→Kp B C→Kp A C)(hKb:∀ (W:World) (l:Nat) (o o':Obj),w.heap.size≤l→W.heap[l]?=some o→o.isCells=false→o.isWalk=false→Kp W (W.putObj l o'))(hb0:Below w0.heap.size w0 w)
 (hp:Nat.blt p N.n=true)(hq:Nat.blt q N.n=true)
 (I:List α→World→Prop)(hI:OwnFrom w.heap.size I)(h0:I [] w)
 (hbody:∀ (lp:Nat) (pre:List α) (x:α) (W:World),I pre W→pre.length<M→Rc lp 2 P ⟨N.n,[]⟩ body (ownPostG w.heap.size Kp I (fun _ _ _=>False) (pre++[x]) W) ((q,enc x)::(p,enc x)::l) W)
 (hdone:∀ (D:Nat) (xs:List α) (W:World),w.heap.size≤D→S xs→I xs W→W.heap[D]?=some (.deferred (some []))→At (N.col D) .normal Q l W) :
 Sc P N (.rangeFunc (.tmp f) #[p] (.region rid #[⟨some q,.assign (.tmp p),ty,pos,aft,none⟩] false) body) Q l w:=fun a ha=>by
 refine wpIn_wide.1 (wpIn_rangeFunc_ownG (F:=Fence.wide) (n:=4) rfl (by decide) (gf:=gf) (lb:=lb) (ha.ev (x:=.tmp f) hf) trivial (iN hg) hseq hKt hKb hb0 (fun _=>rfl) I (fun _ _ _=>False) hI HM h0
  (fun x=>{ tmps:=(a.tmps.setIfInBounds p (enc x)).setIfInBounds q (enc x),defers:=[] }) ?_ ?_ ?_ ?_)
 · intro lp x W K hK
   refine wpIn_region_lit (l:=[_]) ?_;unfold wpListIn;rw[if_pos (by simp[Region.wanted])];refine⟨fun _ _=>trivial,?_⟩;have hps:p<a.tmps.size:=by rw[ha.siz];simpa[Nat.blt_eq] using hp
   have e:(execOp (Act.eval { tmps:=a.tmps.setIfInBounds p (enc x),defers:=[] }) ⟨some q,.assign (.tmp p),ty,pos,aft,none⟩).run P W=.ok (.value (enc x)) W:=by
    simp[execOp,Act.eval,hps]
   have ez:(#[p].zip #[enc x]).foldl (fun t (x:Nat×Value)=>match x with|(p,v)=>t.setIfInBounds p v) a.tmps=a.tmps.setIfInBounds p (enc x):=by simp
   rw[ez,Oper.semAt_eq _ _ _ (fun c hc=>by cases hc),e];exact hK
 · intro lp pre x W hi hlt
   refine hbody lp pre x W hi hlt _ ⟨rfl,by simp[ha.siz],?_⟩;have h1:cK N ((q,enc x)::(p,enc x)::l) ((a.put (some p) (enc x)).put (some q) (enc x)):=(ha.put hp _).put hq _;exact h1.has
 · intro D xs W hD hS hi hK
   exact hdone D xs W hD hS hi hK _ ⟨by show _::a.defers=_;rw[ha.dfr];rfl,ha.siz,ha.has⟩
 · intro D c pre W _ _ h _
   exact h.elim
def ID(sb nb:Nat)(W W':World):Prop:=W'.heap[sb]?=W.heap[sb]?∧W'.heap[nb]?=W.heap[nb]?
theorem ID.trans{sb nb:Nat}{A B C:World}(h:ID sb nb A B)(k:ID sb nb B C):ID sb nb A C:=⟨k.1.trans h.1,k.2.trans h.2⟩
def nD(len k:Nat):Nat:=(len+k-1)/k
def It(len k i:Nat):Nat:=min k (len-i*k)
def Fq(o:Option Addr)(len k i:Nat):Value:=.slice (aP o (i*k+It len k i) (i*k) 1) (It len k i) (It len k i)
theorem Ls{len k i:Nat}(hk:1≤k):i<nD len k↔i*k<len:=by
 unfold nD;rw[Nat.lt_div_iff_mul_lt (by omega)];omega
theorem Lr(i k:Nat):(i+1)*k=i*k+k:=Nat.succ_mul i k
def Iu(sb nb:Nat):List Value:=[pT sb,pT nb]
theorem Lv(sb nb:Nat)(o:Option Addr)(c len k:Nat)(w0:World)(hs:w0.heap[sb]?=some (.cells [Value.slice o len c].toArray 80 (0,0)))(hn:w0.heap[nb]?=some (.cells [Value.int .i64 k].toArray 3 (0,0)))
 (hk:1≤k)(hk2:k≤1099511627776)(hl:len≤c)(hlb:len≤1099511627776) :
 SeqStopsK Fence.wide 3 Tryz.prog 165 (Iu sb nb).toArray (fun i:Fin (nD len k)=>#[Fq o len k i.1]) (ID sb nb) (fun xs=>xs.map (·.1)=List.range (nD len k)) (fun _=>True) (nD len k) w0:=by
 intro l J Jx W hW hJ hJx hY h0;refine callsIn_wide.2 ?_;have hs1:W.heap[sb]?=some (.cells [Value.slice o len c].toArray 80 (0,0)):=(hW.block sb (Array.getElem?_eq_some_iff.1 hs).1).trans hs;have hn1:W.heap[nb]?=some (.cells [Value.int .i64 k].toArray 3 (0,0)):=(hW.block nb (Array.getElem?_eq_some_iff.1 hn).1).trans hn;have ea:(#[Value.func (.yield l) #[] #[]]++(Iu sb nb).toArray)=[.func (.yield l) #[] #[],pT sb,pT nb].toArray:=by simp[Iu]
 rw[ea];refine cS 31 [(0,_),(1,_),(2,_)] Tryz.func165 ?_;refine Gz 6 ?_;refine TA (β:=Nat) (fun i=>[(0,.func (.yield l) #[] #[]),(1,pT sb),(2,pT nb),(4,iV (i*k:Nat))]) (fun i w=>i≤nD len k∧(∃ xs:List (Fin (nD len k)),xs.map (·.1)=List.range i∧J xs w)∧w.heap[sb]?=some (.cells [Value.slice o len c].toArray 80 (0,0))∧w.heap[nb]?=some (.cells [Value.int .i64 k].toArray 3 (0,0))) (fun i=>nD len k-i) 0 ⟨rfl,rfl,rfl,(by rw[Nat.zero_mul];rfl),trivial⟩ ⟨Nat.zero_le _,⟨[],rfl,h0⟩,hs1,hn1⟩ ?_;rintro i w ⟨hi,⟨xs,hx,hJw⟩,hs2,hn2⟩;have hxl:i=xs.length:=by have:=congrArg List.length hx;simpa using this.symm
 refine Gz 4 ?_;refine cL (Tu Aa rfl (bS hs2 rfl)) ?_;refine fK 1 ?_ ?_<;>intro h9
 ·have hilt:i<nD len k:=(Ls hk).2 (by omega);obtain⟨e,he⟩:∃ e,e=It len k i:=⟨_,rfl⟩
  have he2:e=min k (len-i*k):=he;have hcv:Fq o len k i=.slice (aP o (i*k+e) (i*k) 1) e e:=by unfold Fq;rw[←he]
  refine Gz 8 ?_;refine TN 7 [0,1,2,3,4,5,6] aL (by kernel_rfl) ?_;refine xC rfl (Tu aI rfl (bS hn2 rfl)) ?_;refine xC rfl (Tu Aa rfl (bS hs2 rfl)) ?_;refine Gz 1 ?_;refine xC rfl (T4 pJ rfl rfl (by omega)) ?_;refine Gz 1 ?_;refine xC rfl (Tw (u:=iV (e:Int)) (Ux rfl rfl) (by rw[he2];congr 1;omega)) ?_;refine Gz 4 ?_;refine Vu 3 ?_;refine WK (TR rfl) rfl ?_;refine WK (Tu Aa rfl (bS hs2 rfl)) rfl ?_;refine WK (TR rfl) rfl ?_;refine WK (TR rfl) rfl ?_;refine WK (TR rfl) rfl ?_;refine WK (Us rfl rfl (by omega)) rfl ?_;refine WK (TR rfl) rfl ?_;refine WK (TR rfl) rfl ?_;refine WK (Us rfl rfl (by omega)) rfl ?_;refine WK (Tw (u:=Fq o len k i) (Vd pJ rfl rfl rfl rfl (by omega) (by omega) (by omega)) (by rw[hcv,show ((i*k:Nat):Int).toNat=i*k from rfl,show (((i*k:Nat):Int)+(e:Int)).toNat=i*k+e by omega,Nat.add_sub_cancel_left])) rfl ?_;refine Si.yield rfl rfl (hY xs ⟨i,hilt⟩ (w.drewN 1) (hJ _ _ _ none hJw ⟨rfl,rfl,rfl,Nat.le_refl _,fun _ _ _=>rfl⟩ (fun r e=>by cases e)) (by rw[←hxl];exact hilt)) rfl ?_ ?_
  ·rintro W' ⟨hJ',hK'⟩;refine WK (T0 rfl) rfl ?_;refine WL ?_;refine Gz 7 ?_;refine cL (Tu aI rfl (bS (hK'.2.trans hn2) rfl)) ?_;refine Gz 3 ?_;refine TO (i+1) ⟨rfl,rfl,rfl,?_,trivial⟩ ⟨by omega,⟨xs++[⟨i,hilt⟩],by rw[map_append,hx,List.range_succ];rfl,hJ'⟩,hK'.1.trans hs2,hK'.2.trans hn2⟩ (by show nD len k-(i+1)<nD len k-i;omega);rw[Lr];rfl
  rintro W' hJ';refine WK (T0 rfl) rfl ?_;refine WL ?_;refine Gz 8 ?_;exact⟨⟨_,rfl⟩,.inr ⟨_,trivial,hJ'⟩⟩
 have h9n:¬ i<nD len k:=fun q=>(show ¬ i*k<len by omega) ((Ls (len:=len) (i:=i) hk).1 q)
 have hie:i=nD len k:=by omega
 refine Gz 7 ?_;refine Uw rfl ?_;exact⟨⟨_,rfl⟩,.inl ⟨xs,by show xs.map (·.1)=_;rw[hx,hie],hJw⟩⟩
theorem Lu(o:Option Addr)(c len k:Nat)(W:World)(hk:1≤k) :
 CA 141 [.slice o len c,iV k] W fun v w'=>v=.func (.func 165) #[] (Iu W.heap.size (W.heap.size+1)).toArray∧w'.heap[W.heap.size]?=some (.cells [Value.slice o len c].toArray 80 (0,0))∧w'.heap[W.heap.size+1]?=some (.cells [Value.int .i64 k].toArray 3 (0,0))∧W.heap.size+2≤w'.heap.size∧aA nob W w':=by
 refine cS 9 [(0,_),(1,_)] Tryz.func141 ?_;refine Gz 2 ?_;refine T1 rfl rfl ?_;intro w1 hg1 hs1 hf1;refine T1 rfl rfl ?_;intro w2 hg2 hs2 hf2;have hg1b:=hf2.obj hg1 id;rw[hs1] at hg2 ⊢;refine Gz 6 ?_;refine cL (Tu aI rfl (bS (cs:=[Value.int .i64 k]) hg2 rfl)) ?_;refine cL (Um (Ut rfl rfl) (by omega)) ?_;refine Gz 7 ?_;refine cL (by refine Vl (cs:=[.tmp 2,.tmp 3]) (vs:=Iu W.heap.size (W.heap.size+1)) ?_;rfl) ?_;refine Gz 5 ?_;exact⟨_,rfl,rfl,hg1b,hg2,by omega,hf1.trans hf2⟩
theorem Fa{W W':World}{row:Option Nat}(h:W.grownBy W' row):aA (fun k=>some k=row) W W':=⟨h.os,h.tape,h.output,h.size,fun k hk hn=>h.block k hk hn⟩
theorem Kw{B:Nat}{S:Nat→Prop}{W w:World}(h:aA S W w)(hs:∀ k,S k→k<W.heap.size→∃ cur T fr,W.heap[k]?=some (.cells cur T fr)):KeepsFrom B W w:=
 ⟨h.size,fun k o _ hk ho=>(h.same k (Array.getElem?_eq_some_iff.1 hk).1 (fun hS=>by
  obtain⟨cur,T,fr,e⟩:=hs k hS (Array.getElem?_eq_some_iff.1 hk).1;rw[hk] at e;cases e;cases ho)).trans hk⟩
theorem bF.cells{α:Type}{k:Nat}{enc:α→List Value}{e:TypeId}{H:Array Obj}{ao:Option Addr}{cap:Nat}{xs:List α}(h:bF k enc e H ao cap xs){a:Addr}(ha:ao=some a):∃ cur,H[a.block]?=some (.cells cur e (0,0)):=by
 rcases h with⟨rfl,_⟩|⟨g,cur,rfl,hg,_⟩
 ·cases ha
 ·cases ha;exact⟨_,hg⟩
def BxI{α β:Type}(k:Nat)(enc:β→List Value)(e T:TypeId)(bx:Nat)(w0:World)(f:α→β)(pre:List α)(w:World):Prop:=
 ∃ oo oc,w.heap[bx]?=some (.cells [Value.slice oo pre.length oc].toArray T (0,0))∧bF k enc e w.heap oo oc (pre.map f)∧Fr w0.heap.size oo∧aA (· = bx) w0 w
theorem WM{α β:Type}{k:Nat}{enc:β→List Value}{e T:TypeId}{bx:Nat}{w0:World}{f:α→β}:OwnFrom w0.heap.size (BxI (α:=α) k enc e T bx w0 f):=fun pre W W' row ⟨oo,oc,h1,h2,h3,h4⟩ hg hr=>by
 have g:=Fa hg;refine⟨oo,oc,g.obj h1 (fun e=>?_),h2.WS g (fun a ha e=>?_),h3,h4.WO g (fun k e=>.inr (hr k e.symm).1)⟩
 · obtain⟨_,o,ho,hc⟩:=hr bx e.symm
   rw[h1] at ho;cases ho;cases hc
 · obtain⟨_,o,ho,hc⟩:=hr a.block e.symm
   obtain⟨cur,hcur⟩:=h2.cells ha;rw[hcur] at ho;cases ho;cases hc
def hdT:Hd:=⟨none,0,0⟩
def lC(l:List By)(hs:List Hd)(i:Nat):By×Hd:=(l.getD (2*i) [],hs.getD (2*i+1) hdT)
theorem HL{D:Nat→Prop}{H:Array Obj}{hs:List Hd}{l:List By}(h:eQ D H hs l)(h255:∀ x∈l,x.length≤255)(i:Nat)(x:By×Hd)(y:Xa)
 (hx:((List.range (l.length/2)).map (lC l hs))[i]?=some x)(hy:(cN l)[i]?=some y):x.1=y.1∧x.2.n=y.2.length∧Vw b8 H x.2.a x.2.c y.2∧y.1.length≤maxLen:=by
 have hi:i<l.length/2:=by have:=(List.getElem?_eq_some_iff.1 hy).1;rwa[kN] at this
 rw[Au hi] at hy;simp[hi] at hx;cases hy;subst hx;obtain⟨z,hz,h1,h2,h3⟩:=h.at (i:=2*i+1) (by omega);have e:(lC l hs i).2=z:=by unfold lC;simp[List.getD,hz]
 have hm:l.getD (2*i) []∈l:=by rw[List.getD,List.getElem?_eq_getElem (by omega)];exact List.getElem_mem _
 rw[e];exact⟨rfl,h1,h2,Nat.le_trans (h255 _ hm) (by unfold maxLen;decide)⟩
theorem EN{D:Nat→Prop}{H:Array Obj}{hs:List Hd}{l:List By}(h:eQ D H hs l)(h255:∀ x∈l,x.length≤255)(i:Nat)(x:By×Hd)(y:Xa)
 (hx:((List.range (l.length/2)).map (lC l hs))[i]?=some x)(hy:(cN l)[i]?=some y):x.1=y.1∧ByV D H x.2 y.2:=by
 have hi:i<l.length/2:=by have:=(List.getElem?_eq_some_iff.1 hy).1;rwa[kN] at this
 rw[Au hi] at hy;simp[hi] at hx;cases hy;subst hx;obtain⟨z,hz,h1,h2,h3⟩:=h.at (i:=2*i+1) (by omega);have e:(lC l hs i).2=z:=by unfold lC;simp[List.getD,hz]
 rw[e];exact⟨rfl,h1,h2,h3⟩
theorem HK{l:List By}(h:∀ x∈l,x.length≤255):∀ x∈cN l,x.1.length≤255:=by
 intro x hx;unfold cN at hx;obtain⟨i,hi,rfl⟩:=List.mem_map.1 hx;rw[List.mem_range] at hi;have hm:l.getD (2*i) []∈l:=by rw[List.getD,List.getElem?_eq_getElem (by omega)];exact List.getElem_mem _
 exact h _ hm
theorem XsV.zero{D:Nat→Prop}{H:Array Obj}:XsV D H ⟨none,0,0⟩ []:=⟨rfl,[],WD 0 (Nat.zero_le _),rfl,fun h=>absurd rfl h,by simp⟩
theorem Ce(A:Nat→Prop)(g p:Nat)(im:By)(fr to ref:Int)(W:World)(hM:MrO A W.heap g p im fr to)(hA:∀ k,A k→k<W.heap.size)(him:im.length≤1073741824)(href:bdT ref) :
 CA 119 [pT g,iV ref] W fun v w'=>∃ o c,
  v=.tuple #[.slice o (iO im fr to ref).1.length c,iV (iO im fr to ref).2]∧∃ B:Nat→Prop,XsV (fun k=>W.heap.size≤k∧k<w'.heap.size∧¬ B k) w'.heap ⟨o,(iO im fr to ref).1.length,c⟩ (iO im fr to ref).1∧(∀ x∈(iO im fr to ref).1,x.1.length≤255)∧MrO B w'.heap g p im fr to∧(∀ k,B k→Nx A W w' k)∧aA A W w':=by
 obtain⟨ht,hp⟩:=hM.tab;have hpl:p<W.heap.size:=(Array.getElem?_eq_some_iff.1 ht).1;obtain⟨R,hR⟩:∃ R,R=aD im fr to ref 1:=⟨_,rfl⟩
 refine BV 64 [(0,_),(1,_)] Tryz.func119 rfl rfl rfl (uM ⟨rfl,rfl,trivial⟩) ?_;refine Gz 10 ?_;refine Ts pX rfl (eJ A g p im fr to ref 1 W hM (by omega) href (by decide)) rfl ?_;rw[←hR];rintro _ w1 ⟨o1,c1,rfl,ho1,hfr1,hM1,hF1⟩;have hz1:=hF1.size;have hA1:∀ k,(Nx A W w1 k∧¬ blk o1 k)→k<w1.heap.size:=fun k hk=>hk.1.elim (fun h=>by have:=hA k h;omega) (fun h=>h.2);have hM1x:MrO (Nx A W w1) w1.heap g p im fr to:=hM1.mono (fun k hk=>hk.1) (fun h=>h.elim hp (fun h=>by omega));refine fK 13 ?_ ?_<;>intro h20
 ·have e:iO im fr to ref=([],2):=wG (.inl (by rw[←hR];exact h20));refine Gz 23 ?_;refine UO rfl rfl rfl ?_;exact⟨_,rfl,none,0,by rw[e];rfl,_,by rw[e];exact XsV.zero,by rw[e];simp,hM1x,fun _ h=>h,hF1⟩
 have e20:R.2.2=0:=Decidable.not_not.1 h20;have hl1:(R.1.length:Int)=1:=by have:=e20;rw[hR] at this ⊢;exact(eC this).2.2.2.1
 have hu:=UInt8.toNat_lt (R.1.getD 0 0);obtain⟨n,hn⟩:∃ n,n=(R.1.getD 0 0).toNat:=⟨_,rfl⟩
 have hRb:bdT R.2.1:=by rw[hR];exact rM href him
 refine Gz 2 ?_;refine cW (Tt aK rfl rfl ho1.vw.non (by omega)) ?_;refine cW (Tu gW rfl (ho1.vw.gz 0 0 rfl (by omega))) ?_;refine fW 0 ?_ ?_<;>intro h25
 ·have e:iO im fr to ref=([],2):=wG (.inr (.inl (by rw[←hR];omega)));refine Gz 18 ?_;refine UO rfl rfl rfl ?_;exact⟨_,rfl,none,0,by rw[e];rfl,_,by rw[e];exact XsV.zero,by rw[e];simp,hM1x,fun _ h=>h,hF1⟩
 have h25:¬ ((R.1.getD 0 0).toNat:Int)=0:=h25;refine Gz 3 ?_;refine cW (Tt aK rfl rfl ho1.vw.non (by omega)) ?_;refine cW (Tu gW rfl (ho1.vw.gz 0 0 rfl (by omega))) ?_;refine fW 0 ?_ ?_<;>intro h31
 ·have e:iO im fr to ref=([],2):=wG (.inr (.inr (by rw[←hR];omega)));refine Gz 12 ?_;refine UO rfl rfl rfl ?_;exact⟨_,rfl,none,0,by rw[e];rfl,_,by rw[e];exact XsV.zero,by rw[e];simp,hM1x,fun _ h=>h,hF1⟩
 have hgood:¬ ((aD im fr to ref 1).2.2≠0∨((aD im fr to ref 1).1.getD 0 0).toNat=0∨8<((aD im fr to ref 1).1.getD 0 0).toNat):=by rw[←hR];rintro(h|h|h);exact h e20;omega;omega
 refine Gz 11 ?_;refine cL (Tt aK rfl rfl ho1.vw.non (by omega)) ?_;refine cL (Tu gW rfl (ho1.vw.gz 0 0 rfl (by omega))) ?_;refine cL (TD (n:=(n:Int)) is5 ty3 rfl (by rw[hn];exact FF _)) ?_;refine cL (Tw (u:=iV ((2*n:Nat):Int)) (Ue rfl rfl (by omega)) (by congr 1)) ?_;refine Ts Qh rfl (G3 (fun k=>Nx A W w1 k∧¬ blk o1 k) g p im fr to R.2.1 (2*n) w1 hM1 hA1 him hRb (by omega)) rfl ?_;rintro _ w2 ⟨o2,c2,hs,l,ee,B,rfl,hE,hfr2,hM2,hBN,hF2⟩;have hz2:=hF2.size;have hFW2:aA A W w2:=hF1.WO hF2 (fun k hk=>hk.1.imp id (fun h=>h.1));have hB2:∀ k,B k→A k∨(W.heap.size≤k∧k<w2.heap.size):=fun k hk=>(hBN k hk).elim (fun h=>h.1.imp id (fun h=>⟨h.1,by omega⟩)) (fun h=>.inr ⟨by omega,h.2⟩);refine fK 11 ?_ ?_<;>intro h45
 ·have hnone:=(hE.resolve_right (fun h=>h45 h.1)).1;have e:iO im fr to ref=([],2):=Hh hgood (by rw[←hR,←hn];exact hnone);refine Gz 11 ?_;refine UO rfl rfl rfl ?_;exact⟨_,rfl,none,0,by rw[e];rfl,B,by rw[e];exact XsV.zero,by rw[e];simp,hM2,hB2,hFW2⟩
 have e45:ee=0:=Decidable.not_not.1 h45;obtain⟨_,⟨r,hr⟩,h255,ho2,hrw2⟩:=hE.resolve_left (fun h=>h.2 e45);have hll:=CE _ _ _ _ hr;have hhl:=hrw2.1;refine Gz 7 ?_;refine Tz Sq rfl ?_;intro w3 hg3 hs3 hf3;obtain⟨bx,hbx⟩:∃ bx,bx=w2.heap.size:=⟨_,rfl⟩
 rw[←hbx] at hg3 ⊢;refine Gz 6 ?_;refine Ts Qg rfl (Lu o2 c2 l.length 2 w3 (by decide)) rfl ?_;rintro _ w4 ⟨rfl,hsb4,hnb4,hz4,hf4⟩;have hg4:w4.heap[bx]?=some (.cells [Value.slice none ([]:List (Fin (nD l.length 2))).length 0].toArray 66 (0,0)):=hf4.obj hg3 id;have hf24:=hf3.trans hf4;have ho4:=ho2.WR hf24;have hrw4:=hrw2.WS hf24 (fun _ _=>id);have hm:nD l.length 2=n:=by unfold nD;omega
 have hm2:l.length/2=n:=by omega
 refine Gz 3 ?_;refine VU (α:=Fin (nD l.length 2)) (f:=47) (p:=48) (q:=11) (gf:=165) (lb:=(Iu w3.heap.size (w3.heap.size+1)).toArray) (enc:=fun i=>Fq o2 l.length 2 i.1) (M:=nD l.length 2) rfl P5 (Lv w3.heap.size (w3.heap.size+1) o2 c2 l.length 2 w4 hsb4 hnb4 (by decide) (by decide) (by have:=ho2.vw.le;omega) (by omega)) ID.trans (fun W1 l1 _ _ hl1 _ _ _=>⟨World.putObj_heap_other (by omega),World.putObj_heap_other (by omega)⟩) (Below.refl _ _) rfl rfl (BxI 2 sC 183 66 bx w4 (fun i=>lC l hs i.1)) WM ⟨none,0,hg4,WE,Wy,Wt _ _⟩ ?_ ?_
 ·rintro lp pre x w ⟨oo,oc,hbw,hoo,hfro,hFw⟩ hlt;have hxn:x.1<n:=by have:=x.2;omega
  have hpl2:(pre.map (fun i=>lC l hs i.1)).length=pre.length:=length_map _;have ho4w:=ho4.WS hFw (fun a ha e=>by have e:a.block=bx:=e;have:=ho2.lt a ha;omega);have hrww:=hrw4.WS hFw (fun k hk e=>by have e:k=bx:=e;have:=hk.2;omega);obtain⟨y0,hy0,hy0n,hy0v,hy0D⟩:=hrww.at (i:=2*x.1) (by omega);obtain⟨y1,hy1,hy1n,hy1v,_⟩:=hrww.at (i:=2*x.1+1) (by omega);obtain⟨s,hse⟩:∃ s,s=l.getD (2*x.1) []:=⟨_,rfl⟩
  rw[←hse] at hy0n hy0v hy0D;have hfx:lC l hs x.1=(s,y1):=by unfold lC;rw[←hse];simp[List.getD,hy1]
  obtain⟨co,hco⟩:∃ co,co=aP o2 (x.1*2+2) (x.1*2) 1:=⟨_,rfl⟩
  have hke:It l.length 2 x.1=2:=by unfold It;omega
  have hck:Fq o2 l.length 2 x.1=.slice co 2 2:=by unfold Fq;rw[hke,←hco]
  rw[hck];have hcv:=ho4w.vw.cut (l:=x.1*2) (h:=x.1*2+2) (m:=x.1*2+2) (by omega) (by omega) (by have:=ho2.vw.le;omega) (by have:=ho2.vw.le;omega);rw[←hco,Nat.add_sub_cancel_left] at hcv;have hcl:((hs.drop (x.1*2)).take 2).length=2:=by rw[length_take,length_drop];omega
  have hnon:(2:Nat)≠0→co≠none:=fun _=>hcv.non (by rw[hcl];decide);have hc0:bE w.heap (adr co 0)=some (.slice y0.a s.length y0.c):=by
   have h:=hcv.get 0 y0 (by rw[List.getElem?_take,if_pos (by decide),List.getElem?_drop,show x.1*2+0=2*x.1 by omega];exact hy0);unfold hd at h;rwa[hy0n] at h
  have hc1:bE w.heap (adr co 1)=some (hd y1):=hcv.get 1 y1 (by rw[List.getElem?_take,if_pos (by decide),List.getElem?_drop,show x.1*2+1=2*x.1+1 by omega];exact hy1);have hcb:∀ i,(adr co i).block<w4.heap.size:=fun i=>by
   obtain⟨a0,ha0⟩:=Option.ne_none_iff_exists'.1 (hnon (by decide));have ha0:co=some a0:=ha0;have hb:blk co a0.block:=⟨a0,ha0,rfl⟩
   rw[hco] at hb;obtain⟨a1,ha1,hb1⟩:=vM hb;have:=ho4.lt a1 ha1;rw[ha0,kD];omega
  rw[←hpl2] at hbw;refine Rc.block ?_;refine WJ 11 (fun H=>H[bx]?=some (.cells [Value.slice oo (pre.map (fun i=>lC l hs i.1)).length oc].toArray 66 (0,0))∧bE H (adr co 0)=some (.slice y0.a s.length y0.c)∧bE H (adr co 1)=some (hd y1)∧Vw b8 H y0.a y0.c s) [9,10,11] [0,1,2,3,4,5,6,7,8,9,10,11] aL (by kernel_rfl) rfl (⟨hbw,hc0,hc1,hy0v⟩) ?_;refine xC rfl (TF dN rfl (fun H hH=>bS hH.1 rfl)) ?_;refine Gz 1 ?_;refine xC rfl (Tt pJ rfl rfl hnon (by omega)) ?_;refine xC rfl (TF aT rfl (fun H hH=>hH.2.1)) ?_;refine xC rfl (U8 aK ty5 ty9 rfl (fun H hH=>hH.2.2.2)) ?_;refine Gz 1 ?_;refine xC rfl (Tt pJ rfl rfl hnon (by omega)) ?_;refine xC rfl (TF aT rfl (fun H hH=>hH.2.2.1)) ?_;refine xC rfl (TT (cs:=#[.string (bs s),hd y1]) OD Fy rfl (by kernel_rfl)) ?_;refine Ty rfl rfl (TS jH (cs:=[.string (bs s),hd y1].toArray) Fy rfl rfl rfl (by kernel_rfl) rfl ?_);intro v1 hv1 hvs1 hvf1;have hdz:(w.drewN 1).heap.size=w.heap.size:=rfl;have hvf1:=hvf1.WP;have hvo1:bF 2 sC 183 v1.heap (some ⟨w.heap.size,0,none⟩) 1 [(s,y1)]:=bL (xs:=[(s,y1)]) dK hv1 (by show 1≤maxLen;decide);refine TE (by exact⟨hvf1.obj hbw id,dZ hc0 hvf1 id,dZ hc1 hvf1 id,hy0v.WR hvf1⟩) ?_;refine Ty rfl rfl (TH dK rfl jH rfl rfl (hoo.WR hvf1) (hvo1.vw dK) (by simp only[length_singleton,length_map];omega) (by simp only[length_singleton,length_map];unfold maxLen;omega) rfl ?_);intro o7 c7 v2 ho7 hvf2 hr7 hn7;have hnb:∀ k,k<w4.heap.size→¬ blk oo k:=fun k hk ⟨a,ha,e⟩=>by have:=hfro a ha;omega
  refine TE (by exact⟨hvf2.obj (hvf1.obj hbw id) (hnb bx (by omega)),dZ (dZ hc0 hvf1 id) hvf2 (hnb _ (hcb _)),dZ (dZ hc1 hvf1 id) hvf2 (hnb _ (hcb _)),(hy0v.WR hvf1).keep' hvf2 (fun hne a ha=>hnb _ (by have:=(hy0D hne a.block ⟨a,ha,rfl⟩).2;omega))⟩) ?_;refine Ty rfl rfl (Tx dN rfl rfl rfl (hvf2.obj (hvf1.obj hbw id) (hnb bx (by omega))) rfl ?_);intro v3 hg3b hs3b hvf3;refine T6 rfl ?_;have hFv:aA (fun k=>k=bx∨blk oo k) w v3:=(hvf1.any.WO hvf2 (fun k hk=>.inl (.inr hk))).WO hvf3 (fun k hk=>.inl (.inl hk));have ho73:=ho7.WS hvf3 (fun a ha e=>by rcases hr7 a ha with h|h;have:=hfro a h;have e:a.block=bx:=e;omega;have e:a.block=bx:=e;have:=hvf1.size;have:=hFw.size;omega);refine Gz 2 ?_;refine Vm ⟨Kw hFv (fun k hk _=>?_),⟨hFv.same _ (by have:=hFw.size;omega) ?_,hFv.same _ (by have:=hFw.size;omega) ?_⟩,⟨o7,c7,?_,?_,bK hfro hr7 (by have:=hFw.size;have:=hvf1.size;omega),(hFw.WO hFv (fun k hk=>hk.imp id (fun⟨a,ha,e⟩=>by have:=hfro a ha;omega)))⟩⟩
  · rcases hk with rfl|⟨a,ha,rfl⟩
    ·exact⟨_,_,_,hbw⟩
    ·obtain⟨cur,h⟩:=hoo.cells ha;exact⟨_,_,_,h⟩
  · rintro(h|⟨a,ha,e⟩)
    ·omega
    ·have:=hfro a ha;omega
  · rintro(h|⟨a,ha,e⟩)
    ·omega
    ·have:=hfro a ha;omega
  · have e:(pre++[x]).length=(pre.map (fun i=>lC l hs i.1)++[(s,y1)]).length:=by simp
    rw[e];exact hg3b
  ·rw[map_append,List.map_singleton,hfx];exact ho73
 intro D xs w5 hD hS ⟨oo,oc,hb5,ho5,hfro,hF5⟩ hK;have hS:xs.map (·.1)=List.range (nD l.length 2):=hS;have hmap:xs.map (fun i=>lC l hs i.1)=(List.range (l.length/2)).map (lC l hs):=by rw[hm2,←hm,←hS,List.map_map];rfl
 have hxl:xs.length=(cN l).length:=by have:=congrArg List.length hS;simp at this;rw[kN];omega
 rw[hmap] at ho5;rw[hxl] at hb5;have hrw5:=hrw4.WS hF5 (fun k hk e=>by have e:k=bx:=e;have:=hk.2;omega);have hX5:XaV w5.heap oo oc (cN l):=⟨_,ho5.vw dK,by rw[length_map,List.length_range,kN],fun i x y hx hy=>HL hrw5 h255 i x y hx hy⟩
 refine Gz 5 ?_;refine cL (Tu dN rfl (bS hb5 rfl)) ?_;refine cA 0 Qf (MM oo oc (cN l) w5 hX5) ?_;rintro _ w6 ⟨rfl,hf6⟩;have hK6:=hf6.obj hK id;have hz6:=hf6.size;have hz5:=hF5.size;have hMf:∀ wf,aA (· = D) w6 wf→MrO B wf.heap g p im fr to∧(∀ k,B k→Nx A W wf k)∧aA A W wf:=fun wf hfD=>⟨(((hM2.WR hf24).WS hF5 (fun k hk e=>by have e:k=bx:=e;rcases hB2 k hk with h|h;have:=hA k h;omega;have:=h.2;omega) (fun e=>by have e:p=bx:=e;omega)).WR hf6).WS hfD (fun k hk e=>by have e:k=D:=e;rcases hB2 k hk with h|h;have:=hA k h;omega;have:=h.2;omega) (fun e=>by have e:p=D:=e;omega),(fun k hk=>(hB2 k hk).imp id (fun h=>⟨h.1,by have:=hfD.size;omega⟩)),((hFW2.trans hf24.any).WO hF5 (fun k e=>.inr (by have e:k=bx:=e;omega)) |>.trans hf6.any).WO hfD (fun k e=>.inr (by have e:k=D:=e;omega))⟩
 refine TZ (Uj rfl) rfl (fun h62=>?_) (fun h62=>?_)
 ·have hno:¬ eD (cN l):=of_decide_eq_false h62;have e:iO im fr to ref=([],2):=Jn hgood (by rw[←hR,←hn];exact hr) hno;refine Gz 11 ?_;refine Vn rfl rfl rfl hK6 ?_;intro wf _ hfD;obtain⟨m1,m2,m3⟩:=hMf wf hfD;exact⟨_,rfl,none,0,by rw[e];rfl,B,by rw[e];exact XsV.zero,by rw[e];simp,m1,m2,m3⟩
 have hyes:eD (cN l):=byContradiction fun h=>h62 (decide_eq_false h);have e:iO im fr to ref=(cN l,0):=CD hgood (by rw[←hR,←hn];exact hr) hyes;refine Gz 7 ?_;refine cL (Tu dN rfl (bS (hf6.obj hb5 id) rfl)) ?_;refine Gz 5 ?_;refine Vn rfl rfl rfl hK6 ?_;intro wf _ hfD;obtain⟨m1,m2,m3⟩:=hMf wf hfD;have hzf:=hfD.size;have hlD:=ho5.lt;have ho6:=ho5.WR hf6;have hX:XsV (fun k=>W.heap.size≤k∧k<wf.heap.size∧¬ B k) wf.heap ⟨oo,(cN l).length,oc⟩ (cN l):=⟨rfl,_,(ho6.WS hfD (fun a ha e=>by obtain⟨cur,h⟩:=ho6.cells ha;have e:a.block=D:=e;rw[e,hK6] at h;cases h)).vw dK,by rw[length_map,List.length_range,kN],(fun _ k ⟨a,ha,e⟩=>by have h1:=hfro a ha;have h2:=hlD a ha;subst e;refine⟨by omega,by omega,fun hB=>?_⟩;rcases hB2 _ hB with h|h;have:=hA _ h;omega;have:=h.2;omega),fun i x y hx hy=>EN ((hrw5.WS hf6 (fun _ _=>id)).WS hfD (fun k hk e=>by have e:k=D:=e;have:=hk.2.1;omega) |>.mono (fun k hk=>⟨by have:=hk.1;omega,by have:=hk.2.1;omega,hk.2.2⟩)) h255 i x y hx hy⟩
 exact⟨_,rfl,oo,oc,by rw[e],B,by rw[e];exact hX,by rw[e];exact HK h255,m1,m2,m3⟩
theorem XsV.xa{D:Nat→Prop}{H:Array Obj}{o:Option Addr}{n c:Nat}{X:List Xa}(h:XsV D H ⟨o,n,c⟩ X)(h255:∀ x∈X,x.1.length≤255):XaV H o c X:=by
 obtain⟨_,ys,h1,h2,_,h4⟩:=h;refine⟨ys,h1,h2,fun i x y hx hy=>?_⟩;obtain⟨a,b,c,_⟩:=h4 i x y hx hy;exact⟨a,b,c,Nat.le_trans (h255 _ (List.mem_of_getElem? hy)) (by unfold maxLen;decide)⟩
theorem Dm(x:Int):(i64 x).oneCell'=true:=rfl
theorem HQ{b:By}{n:Int}(h1:1≤n)(h4:n≤4)(hl:(b.length:Int)=n):eG (cX 0 n) b n=b:=by
 rw[iR h1 h4,(cM (dG (by omega) (by omega))).1];exact take_of_length_le (by omega)
theorem Cf(A:Nat→Prop)(g p:Nat)(im:By)(fr to many wide:Int)(W:World)(hM:MrO A W.heap g p im fr to)(hA:∀ k,A k→k<W.heap.size)(him:im.length≤1073741824)(hm:many≤9223372036854775807) :
 CA 78 [pT g,iV many,iV wide] W fun v w'=>∃ o c,
  v=.tuple #[.slice o (tnS im fr to many wide).1.length c,iV (tnS im fr to many wide).2]∧Own i64 3 w'.heap o c (tnS im fr to many wide).1∧Fr W.heap.size o∧MrO (fun k=>Nx A W w' k∧¬ blk o k) w'.heap g p im fr to∧aA A W w':=by
 obtain⟨ht,hp⟩:=hM.tab;have hpl:p<W.heap.size:=(Array.getElem?_eq_some_iff.1 ht).1;obtain⟨T,hT⟩:∃ T,T=tnS im fr to many wide:=⟨_,rfl⟩
 obtain⟨Z,hZ⟩:∃ Z,Z=aD im fr to 0 0:=⟨_,rfl⟩
 have hfin:∀ {B:Nat→Prop} {w:World} {o:Option Addr},MrO B w.heap g p im fr to→W.heap.size≤w.heap.size→(∀ k,B k→A k∨(W.heap.size≤k∧k<w.heap.size))→(∀ k,blk o k→¬ B k)→MrO (fun k=>Nx A W w k∧¬ blk o k) w.heap g p im fr to:=fun h hs hB ho=>h.mono (fun k hk=>⟨hB k hk,fun h2=>ho k h2 hk⟩) (fun h2=>h2.1.elim hp (fun h3=>by omega));refine cS 66 [(0,_),(1,_),(2,_)] Tryz.func78 ?_;refine fK 10 ?_ ?_<;>intro h17
 ·have e:T=([],1):=by rw[hT];exact Be (.inl h17)
  refine Gz 17 ?_;rw[←hT,e];exact⟨_,rfl,none,0,rfl,WA,Wy,hM.mono (fun k hk=>⟨.inl hk,fun⟨a,ha,_⟩=>by cases ha⟩) (fun h=>h.1.elim hp (fun h=>by omega)),Wt _ _⟩
 refine Gz 2 ?_;refine TJ rfl rfl Qt rfl (Nf wide W) rfl ?_;rintro _ w0 ⟨rfl,hw0⟩;subst w0;refine T5 rfl rfl (Uj rfl) rfl (fun h21=>?_) (fun h21=>?_)
 ·have e:T=([],1):=by rw[hT];exact Be (.inr (by simpa using h21))
  refine Gz 13 ?_;rw[←hT,e];exact⟨_,rfl,none,0,rfl,WA,Wy,hM.mono (fun k hk=>⟨.inl hk,fun⟨a,ha,_⟩=>by cases ha⟩) (fun h=>h.1.elim hp (fun h=>by omega)),Wt _ _⟩
 have hw:wide=2∨wide=4:=byContradiction fun h=>h21 (decide_eq_false h);have hok:¬ (many<0∨¬ (wide=2∨wide=4)):=by omega
 refine Gz 9 ?_;refine Ts pX rfl (eJ A g p im fr to 0 0 W hM (by omega) (by decide) (by decide)) rfl ?_;rw[←hZ];rintro _ w1 ⟨o1,c1,rfl,ho1,hfr1,hM1,hF1⟩;have h0:(Z.2.2=0∧fF im fr to=true∧TnI im fr to wide many.toNat [] Z.2.1)∨(Z.2.2≠0∧T=([],2)):=by
  cases hms:fF im fr to with
 |true=>exact .inl (by rw[hZ,EH (Int.le_refl 0) hms];exact⟨rfl,rfl,TnI.zero⟩)
 |false=>exact .inr ⟨by rw[hZ];exact Hu hms,by rw[hT];exact FK hok hms⟩
 refine Gz 16 ?_;refine TA (β:=((List Int×Int×Int)×(Nat→Prop))×(Option Addr×Nat)) (fun⟨⟨⟨os,q,e⟩,B⟩,⟨oo,oc⟩⟩=>[(0,pT g),(1,iV many),(2,iV wide),(9,iV q),(10,iV e),(11,.slice oo os.length oc)]) (fun⟨⟨⟨os,q,e⟩,B⟩,⟨oo,oc⟩⟩ w=>((e=0∧fF im fr to=true∧TnI im fr to wide many.toNat os q)∨(e≠0∧T=([],2)))∧MrO B w.heap g p im fr to∧(∀ k,B k→A k∨(W.heap.size≤k∧k<w.heap.size))∧(∀ k,blk oo k→¬ B k)∧Own i64 3 w.heap oo oc os∧Fr W.heap.size oo∧aA A W w) (fun⟨⟨⟨os,q,e⟩,B⟩,⟨oo,oc⟩⟩=>if e=0 then many.toNat-os.length+1 else 0) ⟨⟨⟨[],Z.2.1,Z.2.2⟩,fun k=>Nx A W w1 k∧¬ blk o1 k⟩,⟨none,0⟩⟩ ⟨rfl,rfl,rfl,rfl,rfl,rfl,trivial⟩ ⟨h0,hM1,(fun k hk=>hk.1),(fun k ⟨a,ha,_⟩=>by cases ha),WA,Wy,hF1⟩ ?_;rintro⟨⟨⟨os,q,e⟩,B⟩,⟨oo,oc⟩⟩ w2 ⟨hJ,hB,hBA,hBo,hoo,hfro,hF2⟩;have hz2:=hF2.size;refine fK 6 ?_ ?_<;>intro h32
 ·have hlt:os.length<many.toNat:=by omega
  refine fW 2 ?_ ?_<;>intro h35
  ·obtain⟨_,hmay,hI⟩:=hJ.resolve_right (fun h=>h.1 h35);obtain⟨i1,i2,i3,i4⟩:=hI;have hI:TnI im fr to wide many.toNat os q:=⟨i1,i2,i3,i4⟩
   obtain⟨R,hR⟩:∃ R,R=aD im fr to q wide:=⟨_,rfl⟩
   refine Gz 2 ?_;refine aW [(0,_),(1,_),(2,_),(9,_),(10,_),(11,_),(36,_)] ?_;refine Gz 15 ?_;refine Ts pX rfl (eJ B g p im fr to q wide w2 hB (by omega) (by omega) (by omega)) rfl ?_;rw[←hR];rintro _ w3 ⟨o3,c3,rfl,ho3,hfr3,hM3,hF3⟩;have hz3:=hF3.size;have hFW3:aA A W w3:=hF2.WO hF3 (fun k hk=>(hBA k hk).imp id (fun h=>h.1));have hoo3:=hoo.WS hF3 (fun a ha e=>hBo _ ⟨a,ha,rfl⟩ e);refine fK 12 ?_ ?_<;>intro h46
   ·have hl3:(R.1.length:Int)=wide:=by have:=h46;rw[hR] at this ⊢;exact(eC this).2.2.2.1
    have hI5:=hI.next hlt (by omega) (by rw[←hR];exact h46)
    rw[←hR] at hI5;have ev:=HQ (b:=R.1) (by omega) (by omega) hl3;refine Gz 6 ?_;refine Ts KS rfl (oA o3 c3 R.1 w3 ho3.vw (by omega)) rfl ?_;rintro _ w4 ⟨p4,rfl,hp4,hP4,hf4⟩;have hlp:=hP4.lt;refine Gz 1 ?_;refine Ts xT rfl (fR p4 0 R.1 wide w4 hP4 (by omega)) rfl ?_;rintro _ w5 ⟨rfl,hP5,hf5⟩;rw[ev];have hz5:=hf5.size;have hf35:aA nob w3 w5:=hf4.tw hf5;refine T3 (enc:=i64) (u:=((bT R.1:Nat):Int)) bP (Dm _) rfl rfl ?_;intro w6 ho6 hs6 hf6;have hf36:=hf35.trans hf6;refine TB Dm bP rfl rfl (hoo3.WR hf36) ho6.vw (by simp only[length_singleton];omega) (by simp only[length_singleton];unfold maxLen;omega) rfl ?_;intro o7 c7 w7 ho7 hf7 hr7 hn7;have hz7:=hf7.size;have hlo:=hoo.lt;have hM7:=(hM3.WR hf36).WS hf7 (fun k hk ⟨a,ha,e⟩=>by have h8:=hlo a ha;rcases hk.1 with h|h;exact hBo k ⟨a,ha,e⟩ h;have:=h.1;omega) (fun⟨a,ha,e⟩=>by have:=hfro a ha;omega);have hFW7:aA A W w7:=(hFW3.trans hf36.any).WO hf7 (fun k ⟨a,ha,e⟩=>.inr (by have:=hfro a ha;omega));refine Gz 3 ?_;refine aG ⟨⟨⟨os++[((bT R.1:Nat):Int)],R.2.1,R.2.2⟩,fun k=>Nx B w2 w3 k∧¬ blk o3 k⟩,⟨o7,c7⟩⟩ ⟨.inl ⟨h46,hmay,hI5⟩,hM7,(fun k hk=>hk.1.elim (fun h=>(hBA k h).imp id (fun h=>⟨h.1,by omega⟩)) (fun h=>.inr ⟨by omega,by omega⟩)),(fun k ⟨a,ha,e⟩ hk=>by rcases hr7 a ha with h|h;rcases hk.1 with h2|h2;exact hBo k ⟨a,h,e⟩ h2;have:=hlo a h;omega;rcases hk.1 with h2|h2;rcases hBA k h2 with h3|h3;have:=hA k h3;omega;omega;omega),ho7,(fun a ha=>by rcases hr7 a ha with h|h;exact hfro a h;omega),hFW7⟩ ?_;show (if R.2.2=0 then _ else _)<(if e=0 then _ else _);rw[if_pos h46,if_pos h35];simp only[length_append,length_singleton];omega
   have e5:T=([],2):=by rw[hT];exact Cg hok (hI.bad hlt (by rw[←hR];exact h46))
   refine Gz 5 ?_;refine aG ⟨⟨⟨os,R.2.1,R.2.2⟩,fun k=>Nx B w2 w3 k∧¬ blk o3 k⟩,⟨oo,oc⟩⟩ ⟨.inr ⟨h46,e5⟩,hM3,(fun k hk=>hk.1.elim (fun h=>(hBA k h).imp id (fun h=>⟨h.1,by omega⟩)) (fun h=>.inr ⟨by omega,h.2⟩)),(fun k hb hk=>by rcases hk.1 with h2|h2;exact hBo k hb h2;obtain⟨a,ha,e⟩:=hb;have:=hoo.lt a ha;omega),hoo3,hfro,hFW3⟩ ?_;show (if R.2.2=0 then _ else _)<(if e=0 then _ else _);rw[if_neg h46,if_pos h35];omega
  refine Gz 2 ?_;refine aW [(0,_),(1,_),(2,_),(9,_),(10,_),(11,_),(36,_)] ?_;refine fK 11 ?_ ?_<;>intro h55
  ·have e:T=([],2):=by rcases hJ with h|h;exact absurd h.1 h55;exact h.2
   refine Gz 12 ?_;rw[←hT,e];exact⟨_,rfl,none,0,rfl,WA,Wy,hfin hB hz2 hBA (fun k ⟨a,ha,_⟩=>by cases ha),hF2⟩
  have e0:e=0:=Decidable.not_not.1 h55;obtain⟨_,hmay,hI⟩:=hJ.resolve_right (fun h=>h.1 e0);obtain⟨i1,i2,i3,i4⟩:=hI;have hdn:=(show TnI im fr to wide many.toNat os q from ⟨i1,i2,i3,i4⟩).done (by omega);obtain⟨R,hR⟩:∃ R,R=aD im fr to q 1:=⟨_,rfl⟩
  refine Gz 10 ?_;refine Ts pX rfl (eJ B g p im fr to q 1 w2 hB (by omega) (by omega) (by decide)) rfl ?_;rw[←hR];rintro _ w3 ⟨o3,c3,rfl,ho3,hfr3,hM3,hF3⟩;have hz3:=hF3.size;have hFW3:aA A W w3:=hF2.WO hF3 (fun k hk=>(hBA k hk).imp id (fun h=>h.1));have hoo3:=hoo.WS hF3 (fun a ha e=>hBo _ ⟨a,ha,rfl⟩ e);have hlo:=hoo.lt;have hB3:∀ k,(Nx B w2 w3 k∧¬ blk o3 k)→A k∨(W.heap.size≤k∧k<w3.heap.size):=fun k hk=>hk.1.elim (fun h=>(hBA k h).imp id (fun h=>⟨h.1,by omega⟩)) (fun h=>.inr ⟨by omega,h.2⟩);refine fK 12 ?_ ?_<;>intro h64
  ·have e:T=([],2):=by rw[hT];exact vV hok hdn (by rw[←hR];exact h64)
   refine Gz 12 ?_;rw[←hT,e];exact⟨_,rfl,none,0,rfl,WA,Wy,hfin hM3 (by omega) hB3 (fun k ⟨a,ha,_⟩=>by cases ha),hFW3⟩
  have e:T=(os,0):=by rw[hT];exact qU hok hmay hdn (by rw[←hR];exact h64)
  refine Gz 14 ?_;rw[←hT,e];exact⟨_,rfl,oo,oc,rfl,hoo3,hfro,hfin hM3 (by omega) hB3 (fun k hb hk=>by rcases hk.1 with h2|h2;exact hBo k hb h2;obtain⟨a,ha,e⟩:=hb;have:=hlo a ha;omega),hFW3⟩
 refine Gz 5 ?_;refine aW [(0,_),(1,_),(2,_),(9,_),(10,_),(11,_),(36,_)] ?_;refine fK 11 ?_ ?_<;>intro h55
 ·have e:T=([],2):=by rcases hJ with h|h;exact absurd h.1 h55;exact h.2
  refine Gz 12 ?_;rw[←hT,e];exact⟨_,rfl,none,0,rfl,WA,Wy,hfin hB hz2 hBA (fun k ⟨a,ha,_⟩=>by cases ha),hF2⟩
 have e0:e=0:=Decidable.not_not.1 h55;obtain⟨_,hmay,hI⟩:=hJ.resolve_right (fun h=>h.1 e0);obtain⟨i1,i2,i3,i4⟩:=hI;have hdn:=(show TnI im fr to wide many.toNat os q from ⟨i1,i2,i3,i4⟩).done (by omega);obtain⟨R,hR⟩:∃ R,R=aD im fr to q 1:=⟨_,rfl⟩
 refine Gz 10 ?_;refine Ts pX rfl (eJ B g p im fr to q 1 w2 hB (by omega) (by omega) (by decide)) rfl ?_;rw[←hR];rintro _ w3 ⟨o3,c3,rfl,ho3,hfr3,hM3,hF3⟩;have hz3:=hF3.size;have hFW3:aA A W w3:=hF2.WO hF3 (fun k hk=>(hBA k hk).imp id (fun h=>h.1));have hoo3:=hoo.WS hF3 (fun a ha e=>hBo _ ⟨a,ha,rfl⟩ e);have hlo:=hoo.lt;have hB3:∀ k,(Nx B w2 w3 k∧¬ blk o3 k)→A k∨(W.heap.size≤k∧k<w3.heap.size):=fun k hk=>hk.1.elim (fun h=>(hBA k h).imp id (fun h=>⟨h.1,by omega⟩)) (fun h=>.inr ⟨by omega,h.2⟩);refine fK 12 ?_ ?_<;>intro h64
 ·have e:T=([],2):=by rw[hT];exact vV hok hdn (by rw[←hR];exact h64)
  refine Gz 12 ?_;rw[←hT,e];exact⟨_,rfl,none,0,rfl,WA,Wy,hfin hM3 (by omega) hB3 (fun k ⟨a,ha,_⟩=>by cases ha),hFW3⟩
 have e:T=(os,0):=by rw[hT];exact qU hok hmay hdn (by rw[←hR];exact h64)
 refine Gz 14 ?_;rw[←hT,e];exact⟨_,rfl,oo,oc,rfl,hoo3,hfro,hfin hM3 (by omega) hB3 (fun k hb hk=>by rcases hk.1 with h2|h2;exact hBo k hb h2;obtain⟨a,ha,e⟩:=hb;have:=hlo a ha;omega),hFW3⟩
section
variable {P:Program}{N:Nt}{Q:Exit→Act→World→Prop}{l:SF}{w:World}{ops:Array Oper}{rest:List Oper}
variable {ty:TypeId}{pos:String}{aft:Array Edge}{d g:Nat}{x:Operand}{s:ByteArray}{p:Nat}
theorem Vo{t:TypeId}(ht:P.underlying t=some .string)(hx:evL l x=some (.string s))(hd:Nat.blt d N.n=true)
 (h:∀ w',w'.heap[w.heap.size]?=some (.stringIter s 0)→w'.heap.size=w.heap.size+1→aA nob w w'→Sl P N ops Q rest ((d,pT w.heap.size)::l) w') :
 Sl P N ops Q (⟨some d,.range t x,ty,pos,aft,none⟩::rest) l w:=by
 refine Ua (w':=w.alloc (.stringIter s 0)) (fun a ha=>?_) hd (h _ (heap_alloc_new w _) (by simp) (aA.alloc _ _ _));simp[execOp,ha.ev hx,Instr.range,run_underlying ht,newObj];rfl
theorem VV(hx:evL l x=some (pT g))(hg:w.heap[g]?=some (.stringIter s p))(hp:p<s.size)(hd:Nat.blt d N.n=true)
 (h:∀ w',w'.heap[g]?=some (.stringIter s (p+(Utf8.decode s p).2))→w'.heap.size=w.heap.size→aA (· = g) w w'→Sl P N ops Q rest ((d,.tuple #[.bool true,iV p,.int .i32 (Utf8.decode s p).1])::l) w') :
 Sl P N ops Q (⟨some d,.next x true,ty,pos,aft,none⟩::rest) l w:=by
 obtain⟨s1,s2,s3⟩:=uZ (o':=.stringIter s (p+(Utf8.decode s p).2)) hg;refine Ua (w':=ChangeMaps.setBlock w g (.stringIter s (p+(Utf8.decode s p).2))) (fun b hb=>?_) hd (h _ s1 s2 s3);simp[execOp,hb.ev hx,Instr.next,getObj,setObj,Sem.run,hg,hp,Result.andThen,ChangeMaps.setBlock,goInt]
theorem VW(hx:evL l x=some (pT g))(hg:w.heap[g]?=some (.stringIter s p))(hp:¬ p<s.size)(hd:Nat.blt d N.n=true)
 (h:Sl P N ops Q rest ((d,.tuple #[.bool false])::l) w) :
 Sl P N ops Q (⟨some d,.next x true,ty,pos,aft,none⟩::rest) l w:=by
 refine Ua (w':=w) (fun b hb=>?_) hd h;simp[execOp,hb.ev hx,Instr.next,getObj,Sem.run,hg,hp,Result.andThen]
end
theorem LD(s:By){i:Nat}(h:i<s.length):(bs s).get! i=s[i]:=by
 show (s.toArray)[i]! = _;rw[getElem!_pos s.toArray i (by simpa using h)];simp
theorem Bl{s:By}{p:Nat}(hp:p<s.length) :
 1≤(Utf8.decode (bs s) p).2∧p+(Utf8.decode (bs s) p).2≤s.length∧(Utf8.decode (bs s) p).1<1114112 ∧
 ((s.getD p 0).toNat<128→(Utf8.decode (bs s) p).1=(s.getD p 0).toNat)∧(128≤(s.getD p 0).toNat→128≤(Utf8.decode (bs s) p).1) ∧
 ∀ k,p<k→k<p+(Utf8.decode (bs s) p).2→128≤(s.getD k 0).toNat:=by
 have hz:=nE s;have e0:(bs s).get! (p+0)=s.getD p 0:=by rw[Nat.add_zero,LD s hp];simp[List.getD,hp]
 have ek:∀ k,p+k<s.length→(bs s).get! (p+k)=s.getD (p+k) 0:=fun k h=>by rw[LD s h];simp[List.getD,h]
 have b0:=(s.getD p 0).toNat_lt;unfold Utf8.decode;simp only[e0,hz];by_cases h1:(s.getD p 0).toNat<0x80
 · rw[if_pos h1]
   exact⟨by simp,by simp;omega,by show (s.getD p 0).toNat<1114112;omega,fun _=>rfl,fun h=>by omega,fun k h2 h3=>by simp at h3;omega⟩
 · rw[if_neg h1]
   have bad:∀ r:Nat×Nat,r=(Utf8.runeError,1)→1≤r.2∧p+r.2≤s.length∧r.1<1114112∧((s.getD p 0).toNat<128→r.1=(s.getD p 0).toNat)∧(128≤(s.getD p 0).toNat→128≤r.1)∧∀ k,p<k→k<p+r.2→128≤(s.getD k 0).toNat:=by
    rintro r rfl;exact⟨by simp,by simp;omega,by simp[Utf8.runeError],fun h=>by omega,fun h=>by simp[Utf8.runeError],fun k h2 h3=>by simp at h3;omega⟩
   have cont:∀ k,(decide (p+k<s.length) && ((bs s).get! (p+k)).toNat/64 == 2)=true→p+k<s.length∧128≤(s.getD (p+k) 0).toNat:=fun k h=>by
    simp only[Bool.and_eq_true,decide_eq_true_eq,beq_iff_eq] at h;have:=h.2;rw[ek k h.1] at this;exact⟨h.1,by omega⟩
   split
   · rename_i h2
     rw[Bool.and_eq_true] at h2;obtain⟨c1,d1⟩:=cont 1 h2.2
     split
     · rename_i h3
       refine⟨by simp,by simp;omega,?_,fun h=>by omega,fun _=>h3,fun k h4 h5=>?_⟩
       ·show _<1114112;omega
       · have h5:k<p+2:=h5
         have:k=p+1:=by omega
         subst this;exact d1
     ·exact bad _ rfl
   · split
     · rename_i h2
       simp only[Bool.and_eq_true] at h2;obtain⟨c1,d1⟩:=cont 1 (by simpa using h2.1.2);obtain⟨c2,d2⟩:=cont 2 (by simpa using h2.2)
       split
       · rename_i h3
         simp only[Bool.and_eq_true,decide_eq_true_eq] at h3;refine⟨by simp,by simp;omega,?_,fun h=>by omega,fun _=>Nat.le_trans (by decide) h3.1,fun k h4 h5=>?_⟩
         ·show _<1114112;omega
         · have h5:k<p+3:=h5
           rcases(by omega:k=p+1∨k=p+2) with rfl|rfl
           ·exact d1
           ·exact d2
       ·exact bad _ rfl
     · split
       · rename_i h2
         simp only[Bool.and_eq_true] at h2;obtain⟨c1,d1⟩:=cont 1 (by simpa using h2.1.1.2);obtain⟨c2,d2⟩:=cont 2 (by simpa using h2.1.2);obtain⟨c3,d3⟩:=cont 3 (by simpa using h2.2)
         split
         · rename_i h3
           simp only[Bool.and_eq_true,decide_eq_true_eq,ge_iff_le] at h3;refine⟨by simp,by simp;omega,?_,fun h=>by omega,fun _=>Nat.le_trans (by decide) h3.1,fun k h4 h5=>?_⟩
           · have h6:=h3.2
             simp only[Utf8.valid,Bool.or_eq_true,Bool.and_eq_true,decide_eq_true_eq] at h6;show _<1114112;omega
           · have h5:k<p+4:=h5
             rcases(by omega:k=p+1∨k=p+2∨k=p+3) with rfl|rfl|rfl
             ·exact d1
             ·exact d2
             ·exact d3
         ·exact bad _ rfl
       ·exact bad _ rfl
def sO(s:By)(p:Nat):Prop:=∀ k,k<p→s.getD k 0≠0∧s.getD k 0≠47
theorem Fp{s:By}{p:Nat}(hp:p<s.length)(h:sO s p)(h0:(Utf8.decode (bs s) p).1≠0)(h47:(Utf8.decode (bs s) p).1≠47):sO s (p+(Utf8.decode (bs s) p).2):=by
 obtain⟨r1,r2,r3,r4,r5,r6⟩:=Bl hp;intro k hk;by_cases hkp:k<p
 ·exact h k hkp
 by_cases hkp2:k=p
 · subst hkp2
   by_cases hlt:(s.getD k 0).toNat<128
   · have e:=r4 hlt
     exact⟨fun h=>h0 (by rw[e,h];rfl),fun h=>h47 (by rw[e,h];rfl)⟩
   ·exact⟨fun h=>by rw[h] at hlt;exact hlt (by decide),fun h=>by rw[h] at hlt;exact hlt (by decide)⟩
 · have:=r6 k (by omega) hk
   exact⟨fun h=>by rw[h] at this;revert this;decide,fun h=>by rw[h] at this;revert this;decide⟩
theorem AV{s:By}{p:Nat}(hp:p<s.length){c:UInt8}(hc:c.toNat<128)(h:(Utf8.decode (bs s) p).1=c.toNat):c∈s:=by
 obtain⟨r1,r2,r3,r4,r5,r6⟩:=Bl hp;by_cases hlt:(s.getD p 0).toNat<128
 · have e:=r4 hlt
   have:s.getD p 0=c:=UInt8.toNat_inj.1 (by omega);rw[←this];simp[List.getD,hp]
 ·have:=r5 (by omega);omega
theorem AW{s:By}(h:sO s s.length):(0:UInt8)∉s∧(47:UInt8)∉s:=by
 constructor
 · intro hm
   obtain⟨i,hi,e⟩:=List.getElem_of_mem hm;exact(h i hi).1 (by simp[List.getD,hi,e])
 · intro hm
   obtain⟨i,hi,e⟩:=List.getElem_of_mem hm;exact(h i hi).2 (by simp[List.getD,hi,e])
def dV(s:By):Int:=if 255<s.length then 23 else if s=[]∨s=[46]∨s=[46,46]∨(0:UInt8)∈s∨(47:UInt8)∈s then 22 else 0
theorem kX{s:By}(h:dV s=0):s.length≤255∧s≠[]∧(0:UInt8)∉s∧(47:UInt8)∉s:=by
 unfold dV at h
 split at h
 ·simp at h
 · split at h
   ·simp at h
   · rename_i h1 h2
     simp only[not_or] at h2;exact⟨by omega,h2.1,h2.2.2.2.1,h2.2.2.2.2⟩
def jA:List By→Int
|[]=>0
|s::r=>if dV s=0 then jA r else dV s
theorem qF:∀ {A B:List By},(∀ s∈A,dV s=0)→jA (A++B)=jA B
|[],B,_=>rfl
|a::A,B,h=>by
   show (if dV a=0 then jA (A++B) else dV a)=_;rw[if_pos (h a (by simp)),qF (fun s hs=>h s (by simp[hs]))]
theorem HS{A B:List By}{s:By}(h:∀ s∈A,dV s=0)(hs:dV s≠0):jA (A++s::B)=dV s:=by
 rw[qF h];show (if dV s=0 then _ else _)=_;rw[if_neg hs]
theorem wU{A:List By}(h:∀ s∈A,dV s=0):jA A=0:=by
 have:=qF (B:=[]) h;rw[append_nil] at this;exact this
theorem C9{A:List By}(h:jA A=0):∀ s∈A,dV s=0:=by
 induction A with
|nil=>simp
|cons a A ih=>
   have h:(if dV a=0 then jA A else dV a)=0:=h;by_cases ha:dV a=0
   · rw[if_pos ha] at h
     intro s hs;rcases mem_cons.1 hs with rfl|hs
     ·exact ha
     ·exact ih h s hs
   ·rw[if_neg ha] at h;exact absurd h ha
def gP(l:List Nd):List By:=l.flatMap (·.names)
theorem J9{l:List Nd}{n:Nd}{i k:Nat}{s:By}(hn:l[i]?=some n)(hs:n.names[k]?=some s)(h1:∀ s∈gP (l.take i),dV s=0)(h2:∀ s∈n.names.take k,dV s=0)(h3:dV s≠0):jA (gP l)=dV s:=by
 have e1:l=l.take i++n::l.drop (i+1):=by rw[←(List.getElem?_eq_some_iff.1 hn).2,List.getElem_cons_drop,take_append_drop]
 have e2:n.names=n.names.take k++s::n.names.drop (k+1):=by rw[←(List.getElem?_eq_some_iff.1 hs).2,List.getElem_cons_drop,take_append_drop]
 have e3:gP l=(gP (l.take i)++n.names.take k)++s::(n.names.drop (k+1)++gP (l.drop (i+1))):=by
  conv=>lhs;rw[e1]
  simp only[gP,List.flatMap_append,List.flatMap_cons]
  conv=>lhs;rw[e2]
  simp
 rw[e3];exact HS (fun s hs=>(mem_append.1 hs).elim (h1 s) (h2 s)) h3
theorem tkL{α:Type}{l:List α}{i:Nat}{x:α}(h:l[i]?=some x):l.take (i+1)=l.take i++[x]:=by
 rw[List.take_succ_eq_append_getElem (List.getElem?_eq_some_iff.1 h).1,(List.getElem?_eq_some_iff.1 h).2]
theorem Fv(l:List Nd)(n:Nd):gP (l++[n])=gP l++n.names:=by simp[gP]
def okT(n:Nd):Prop:=if n.kind=3 then n.tgt≠[]∧n.tgt.length≤200∧(0:UInt8)∉n.tgt else n.tgt=[]
instance (n:Nd):Decidable (okT n):=by unfold okT;exact inferInstance
def pM(n:Nd):Prop:=(1≤n.kind∧n.kind≤3)∧n.opq=false∧(0≤n.md∧n.md≤511)∧(0≤n.ud∧n.ud≤65535)∧(0≤n.gd∧n.gd≤65535)∧(n.kind=2∨n.data=[])∧n.data.length≤4096∧okT n∧eD n.xs
instance (n:Nd):Decidable (pM n):=by unfold pM;exact inferInstance
def Alk(a b:Nd):Prop:=a.kind=b.kind∧(a.md=b.md∧a.ud=b.ud∧a.gd=b.gd)∧a.tgt=b.tgt∧a.opq=b.opq∧a.data=b.data∧a.xs=b.xs
instance (a b:Nd):Decidable (Alk a b):=by unfold Alk;exact inferInstance
theorem WN(a:Nd):Alk a a:=⟨rfl,⟨rfl,rfl,rfl⟩,rfl,rfl,rfl,rfl⟩
theorem Alk.symm{a b:Nd}(h:Alk a b):Alk b a:=⟨h.1.symm,⟨h.2.1.1.symm,h.2.1.2.1.symm,h.2.1.2.2.symm⟩,h.2.2.1.symm,h.2.2.2.1.symm,h.2.2.2.2.1.symm,h.2.2.2.2.2.symm⟩
def dM(l:List Nd):Prop:=¬ l.Pairwise fun a b=>a.names≠b.names
def gL(l:List Nd)(s:List By):Prop:=∃ n∈l,n.names=s∧n.kind=1
def oI(b a:Nd):Prop:=a.ino=b.ino→a.kind≠1∧Alk a b
instance (b a:Nd):Decidable (oI b a):=by unfold oI;exact inferInstance
instance (l:List Nd):Decidable (dM l):=by unfold dM;exact inferInstance
instance (l:List Nd)(s:List By):Decidable (gL l s):=by unfold gL;exact inferInstance
def chk(l:List Nd):Int:=
 if 1024<l.length then 3 else if jA (gP l)≠0 then jA (gP l) else if ∃ n∈l,16<n.names.length then 9 else if dM l then 6
 else if ¬ gL l [] then 4 else if ∃ n∈l,n.names≠[]∧¬ gL l n.names.dropLast then 5 else if ∃ n∈l,¬ pM n then 7 else if l.Pairwise oI then 0 else 8
theorem zN{s:By}(h:(255:Int)<s.length):dV s=23:=by unfold dV;rw[if_pos (by omega)]
theorem fL{s:By}(h:¬ (255:Int)<s.length)(h2:s=[]∨s=[46]∨s=[46,46]∨(0:UInt8)∈s∨(47:UInt8)∈s):dV s=22:=by unfold dV;rw[if_neg (by omega),if_pos h2]
theorem zO{s:By}(h:¬ (255:Int)<s.length)(h1:¬ s=[])(h2:¬ s=[46])(h3:¬ s=[46,46])(h4:(0:UInt8)∉s∧(47:UInt8)∉s):dV s=0:=by
 unfold dV;rw[if_neg (by omega),if_neg (fun e=>e.elim h1 fun e=>e.elim h2 fun e=>e.elim h3 fun e=>e.elim h4.1 h4.2)]
theorem IP(s:By)(W:World)(hs:s.length≤maxLen):CA 167 [.string (bs s)] W fun v w'=>v=iV (dV s)∧aA nob W w':=by
 refine cS 31 [(0,_)] Tryz.func167 ?_;refine Gz 10 ?_;refine cL (TU ty9 rfl) ?_;refine fK 0 ?_ ?_<;>intro h8
 ·refine Gz 13 ?_;exact⟨_,rfl,by rw[zN h8],Wt _ _⟩
 refine fK 7 ?_ ?_<;>intro h11
 ·refine Gz 21 ?_;exact⟨_,rfl,by rw[fL h8 (.inl h11)],Wt _ _⟩
 refine fW 2 ?_ ?_<;>intro h14
 ·refine Gz 18 ?_;exact⟨_,rfl,by rw[fL h8 (.inr (.inl h14))],Wt _ _⟩
 refine fW 3 ?_ ?_<;>intro h18
 ·refine Gz 14 ?_;exact⟨_,rfl,by rw[fL h8 (.inr (.inr (.inl h18)))],Wt _ _⟩
 refine Gz 12 ?_;refine Vo ty9 rfl rfl ?_;intro w1 hg1 hs1 hf1;obtain⟨g,hg⟩:∃ g,g=W.heap.size:=⟨_,rfl⟩
 rw[←hg] at hg1 ⊢;refine Gz 3 ?_;refine TA (β:=Nat) (fun p=>[(0,.string (bs s)),(21,pT g)]) (fun p w=>w.heap[g]?=some (.stringIter (bs s) p)∧p≤s.length∧sO s p∧aA nob W w) (fun p=>s.length-p) 0 ⟨rfl,rfl,trivial⟩ ⟨hg1,Nat.zero_le _,fun k hk=>by omega,hf1⟩ ?_;rintro p w2 ⟨hg2,hp,hcl,hF2⟩;refine Gz 2 ?_;by_cases h22:p<(bs s).size
 ·refine VV rfl hg2 h22 rfl ?_;intro w3 hg3 hs3 hf3;have hpl:p<s.length:=by rw[nE] at h22;exact h22
  obtain⟨r1,r2,r3,r4,r5,r6⟩:=Bl hpl;refine fK 17 ?_ ?_<;>intro h26
  ·have hb:dV s=22:=fL h8 (.inr (.inr (.inr (.inl (AV hpl (c:=0) (by decide) (by show _=0;omega))))));refine Gz 18 ?_;exact⟨_,rfl,by rw[hb],hF2.WO hf3 (fun k e=>.inr (by have e:k=g:=e;omega))⟩
  refine fW 2 ?_ ?_<;>intro h29
  ·have hb:dV s=22:=fL h8 (.inr (.inr (.inr (.inr (AV hpl (c:=47) (by decide) (by show _=47;omega))))));refine Gz 15 ?_;exact⟨_,rfl,by rw[hb],hF2.WO hf3 (fun k e=>.inr (by have e:k=g:=e;omega))⟩
  refine Gz 6 ?_;have hF3:aA nob W w3:=hF2.WO hf3 (fun k e=>.inr (by have e:k=g:=e;omega));exact aG (p+(Utf8.decode (bs s) p).2) ⟨hg3,r2,Fp hpl hcl (by omega) (by omega),hF3⟩ (by show s.length-(p+(Utf8.decode (bs s) p).2)<s.length-p;omega)
 refine VW rfl hg2 h22 rfl ?_;have hpe:p=s.length:=by rw[nE] at h22;omega
 subst hpe;refine Gz 17 ?_;exact⟨_,rfl,by rw[zO h8 h11 h14 h18 (AW hcl)],hF2⟩
theorem Ac(s:By)(W:World)(hs:s.length≤maxLen):CA 104 [.string (bs s)] W fun v w'=>v=iV (dV s)∧w'=W:=by
 have hl:(s.length:Int)≤9223372036854775807:=by unfold maxLen at hs;omega
 refine cS 33 [(0,_)] Tryz.func104 ?_;refine Gz 9 ?_;refine cL (TU ty9 rfl) ?_;refine fK 0 ?_ ?_<;>intro h6
 ·refine Gz 11 ?_;exact⟨_,rfl,by rw[zN h6],rfl⟩
 refine Gz 12 ?_;refine TA (β:=Nat) (fun k=>[(0,.string (bs s)),(3,iV k)]) (fun k w=>k≤s.length∧sO s k∧w=W) (fun k=>s.length-k) 0 ⟨rfl,rfl,trivial⟩ ⟨Nat.zero_le _,fun k hk=>by omega,rfl⟩ ?_;rintro k w2 ⟨hk,hcl,hw2⟩;subst hw2;refine Gz 5 ?_;refine cL (TU ty9 rfl) ?_;refine fK 0 ?_ ?_<;>intro h10
 ·refine Gz 11 ?_;refine cL (UW ty9 rfl rfl (by omega)) ?_;refine fK 0 ?_ ?_<;>intro h16
  ·have hm:(0:UInt8)∈s:=by have e:s.getD k 0=0:=UInt8.toNat_inj.1 (by have h16:((s.getD ((k:Int)).toNat 0).toNat:Int)=0:=h16;have e2:((k:Int)).toNat=k:=rfl;rw[e2] at h16;show _=0;omega);have hk2:k<s.length:=(by omega);rw[List.getD,List.getElem?_eq_getElem hk2] at e;rw[←e];exact List.getElem_mem hk2
   refine Gz 21 ?_;exact⟨_,rfl,by rw[fL h6 (.inr (.inr (.inr (.inl hm))))],rfl⟩
  have g1:s.getD k 0≠0:=by intro e;apply h16;show ((s.getD k 0).toNat:Int)=0;rw[e];rfl
  refine Gz 3 ?_;refine cW (UW ty9 rfl rfl (by omega)) ?_;refine fW 0 ?_ ?_<;>intro h21
  ·have hm:(47:UInt8)∈s:=by have e:s.getD k 0=47:=UInt8.toNat_inj.1 (by have h21:((s.getD ((k:Int)).toNat 0).toNat:Int)=47:=h21;have e2:((k:Int)).toNat=k:=rfl;rw[e2] at h21;show _=47;omega);have hk2:k<s.length:=(by omega);rw[List.getD,List.getElem?_eq_getElem hk2] at e;rw[←e];exact List.getElem_mem hk2
   refine Gz 16 ?_;exact⟨_,rfl,by rw[fL h6 (.inr (.inr (.inr (.inr hm))))],rfl⟩
  have g2:s.getD k 0≠47:=by intro e;apply h21;show ((s.getD k 0).toNat:Int)=47;rw[e];rfl
  refine Gz 12 ?_;refine aG (k+1) ⟨by omega,fun i hi=>?_,rfl⟩ (by show s.length-(k+1)<s.length-k;omega);by_cases hik:i=k
  ·subst hik;exact⟨g1,g2⟩
  ·exact hcl i (by omega)
 refine fK 12 ?_ ?_<;>intro h24
 ·refine Gz 19 ?_;exact⟨_,rfl,by rw[fL h6 (.inl h24)],rfl⟩
 refine fW 2 ?_ ?_<;>intro h27
 ·refine Gz 16 ?_;exact⟨_,rfl,by rw[fL h6 (.inr (.inl h27))],rfl⟩
 refine fW 3 ?_ ?_<;>intro h31
 ·refine Gz 12 ?_;exact⟨_,rfl,by rw[fL h6 (.inr (.inr (.inl h31)))],rfl⟩
 refine Gz 13 ?_;have hke:k=s.length:=by omega
 subst hke;exact⟨_,rfl,by rw[zO h6 h24 h27 h31 (AW hcl)],rfl⟩
end Go.Proofs.YthdecfkdgdagcaaGreat
