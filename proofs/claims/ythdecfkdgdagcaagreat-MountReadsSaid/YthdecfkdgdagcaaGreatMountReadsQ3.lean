/- lamella: what the law needs. No condition beyond the bounds that each states. -/
import Derived.RangeFuncWrites
import Derived.RangeFuncCalls
import Derived.RangeFuncLeaves
import Derived.RangeFuncBound
import Derived.OrdersIn
import Derived.Lib.Join
import Derived.Laws.StructEq
import Derived.Test.YthdecfkdgdagcaaGreatMountReadsQ2
namespace Go.Proofs.YthdecfkdgdagcaaGreat
open Go Go.RowKit
set_option linter.unusedVariables false
set_option linter.unusedSectionVars false
set_option maxHeartbeats 64000000
open List (append_inj)
open List renaming getElem?_eq_getElem → ZQ, length_append → ZR, getElem?_eq_some_iff → ZS, length_take → ZT, length_singleton → ZU, mem_of_getElem? → ZW, length_drop → ZX, getD → Z2, take_of_length_le → Z4, append_assoc → Z6, length_nil → Z7, length_map → aa, getElem?_of_mem → ab, mem_singleton → ai, length_cons → al, take_succ_eq_append_getElem → am, mem_append → an, nil_append → aq, getElem?_take → ar, getElem?_append_left → au, mem_map → av, mem_cons → aw, getElem?_map → ax, take_append_drop → ay, take_length → be, replicate → bg, pairwise_iff_getElem → bj, getElem_mem → bm, append_nil → bp, getElem?_eq_none → bq, mem_range → bt, range → bu, drop_eq_getElem_cons → bz, drop_drop → ca, ext_getElem? → cd, getElem_of_mem → cf, length_replicate → cj, length_set → cm, flatMap_cons → cq, drop_left' → ct, length → cv, findIdx?_eq_some_iff_getElem → cw, foldl_append → cy, take_left' → cz, getElem?_drop → dc, drop_of_length_le → de, cons_append → df, length_eq_zero_iff → dh, mem_of_mem_take → dj, findIdx?_eq_none_iff → dk, take_take → dq, map_append → dr, foldl_cons → dt, forall_mem_cons → dv, pairwise_cons → eh, pairwise_append → ff, flatMap_append → fk, all_eq_true → fu, take_drop → iw
open Classical renaming byContradiction → ZY, not_not → br
open _root_.Nat renaming zero_le → ZZ, le_refl → Z0, le_trans → aj, blt → ba, lt_of_lt_of_le → cl, min_eq_left → cn, zero_add → cx, blt_eq → dg, mul_le_mul_right → di, add_mul → dy, eq_zero_or_pos → ef, add_sub_cancel_left → fp, ble_eq → gv, zero_mul → ii, ble → ik, add_sub_cancel → iu
open _root_.Array renaming getElem?_eq_some_iff → Z1, replicate → fa
open Decidable renaming not_not → Z5
open Go.Op renaming bytesLess → Z8, equalIn → gi
open _root_.Option renaming map_eq_some_iff → ae, some → dx
open UInt8 renaming ofNat → af, toNat_lt → dl, toNat_inj → dn, lt_iff_toNat_lt → du
open _root_.Bool renaming and_eq_true → ag, or_eq_true → ew, false_eq_true → fz, not_eq_true' → gw
open _root_.Int renaming toNat_natCast → ak, le_refl → fx, natCast_nonneg → fy
open Prod renaming ext → fm
theorem tO(c:UInt8):IntKind.i64.wrap ((c.toNat:Nat):Int)=(c.toNat:Int):=aU (by have:=dl c;omega)
theorem I0(A:Nat→Prop)(g p:Nat)(im:By)(fr to ref:Int)(many:Nat)(W:World)(hM:MrO A W.heap g p im fr to)(hA:∀ k,A k→k<W.heap.size)(him:im.length≤1073741824)(href:bdT ref)(hm:many≤1000) :
 CA 140 [pT g,iV ref,iV many] W fun v w'=>∃ o c hs l e,∃ B:Nat→Prop,
  v=.tuple #[.slice o (cv (α:=By) l) c,iV e]∧((lB im fr to many ref=none∧e≠0)∨(e=0∧(∃ r,lB im fr to many ref=some (l,r))∧(∀ x∈l,x.length≤255)∧Own hd 25 w'.heap o c hs∧gG (fun k=>W.heap.size≤k∧k<w'.heap.size∧¬ B k) w'.heap hs l)) ∧
  Fr W.heap.size o∧MrO B w'.heap g p im fr to∧(∀ k,B k→Nx A W w' k)∧aA A W w':=by
 obtain⟨ht,hp⟩:=hM.tab;have hpl:p<W.heap.size:=(Z1.1 ht).1;refine cS 48 [(0,_),(1,_),(2,_)] Tryz.func140 ?_;refine Gz 19 ?_;refine Wp (β:=((List By×List Hd)×Int×(Nat→Prop))×(Option Addr×Nat)) (fun⟨⟨⟨ls,hs⟩,q,B⟩,⟨oo,oc⟩⟩=>[(0,pT g),(1,iV q),(8,.slice oo ls.length oc),(14,iV many),(15,iV ls.length)]) (fun⟨⟨⟨ls,hs⟩,q,B⟩,⟨oo,oc⟩⟩ w=>TxI im fr to ref many ls q∧MrO B w.heap g p im fr to∧(∀ k,B k→A k∨(W.heap.size≤k∧k<w.heap.size))∧(∀ k,blk oo k→¬ B k)∧Own hd 25 w.heap oo oc hs∧gG (fun k=>W.heap.size≤k∧k<w.heap.size∧¬ B k∧¬ blk oo k) w.heap hs ls∧Fr W.heap.size oo∧aA A W w) (fun⟨⟨⟨ls,hs⟩,q,B⟩,⟨oo,oc⟩⟩=>many-ls.length) ⟨⟨⟨[],[]⟩,ref,A⟩,⟨none,0⟩⟩ ⟨rfl,rfl,rfl,rfl,rfl,trivial⟩ ⟨TxI.zero href,hM,(fun k hk=>.inl hk),(fun k ⟨a,ha,_⟩=>by cases ha),Zu,Zz,Zs,Zn _ _⟩ ?_;rintro⟨⟨⟨ls,hs⟩,q,B⟩,⟨oo,oc⟩⟩ w2 ⟨hI,hB,hBA,hBo,hoo,hrw,hfro,hF2⟩;have hz2:=hF2.size;refine fK 2 ?_ ?_<;>intro h16
 ·have hlt:ls.length<many:=by omega
  obtain⟨i1,i2,i3,i4⟩:=hI;have hI:TxI im fr to ref many ls q:=⟨i1,i2,i3,i4⟩
  obtain⟨R,hR⟩:∃ R,R=aD im fr to q 1:=⟨_,rfl⟩
  obtain⟨S,hS⟩:∃ S,S=jF im fr to q:=⟨_,rfl⟩
  refine Gz 12 ?_;refine Wh sL rfl (fX B g p im fr to q 1 w2 hB (by omega) i3 (by decide)) rfl ?_;rw[←hR];rintro _ w3 ⟨o3,c3,rfl,ho3,hfr3,hM3,hF3⟩;have hz3:=hF3.size;have hFW3:aA A W w3:=hF2.ZJ hF3 (fun k hk=>(hBA k hk).imp id (fun h=>h.1));have hoo3:=hoo.ZN hF3 (fun a ha e=>hBo _ ⟨a,ha,rfl⟩ e);have hrw3:=hrw.ZN hF3 (fun k hk=>hk.2.2.1);have hB3:∀ k,(Nx B w2 w3 k∧¬ blk o3 k)→A k∨(W.heap.size≤k∧k<w3.heap.size):=fun k hk=>hk.1.elim (fun h=>(hBA k h).imp id (fun h=>⟨h.1,by omega⟩)) (fun h=>.inr ⟨by omega,h.2⟩);have hlo:=hoo.lt;refine Gz 8 ?_;refine aW [(0,_),(1,_),(8,_),(9,_),(10,_),(11,_),(14,_),(15,_),(16,_)] ?_;refine fK 5 ?_ ?_<;>intro h25
  ·have e5:lB im fr to many ref=none:=hI.bad hlt (by rw[C6 (by rw[←hR];exact h25),←hR];exact h25);refine Gz 18 ?_;exact⟨_,rfl,none,0,[],[],_,_,rfl,.inl ⟨e5,h25⟩,Zs,hM3,hB3,hFW3⟩
  have e25:R.2.2=0:=Z5.1 h25;have hl3:(R.1.length:Int)=1:=by have:=e25;rw[hR] at this ⊢;exact(cJ this).2.2.2.1
  have eS:S=aD im fr to R.2.1 (R.1.getD 0 0).toNat:=by rw[hS,zV (by rw[←hR];exact e25),←hR]
  have hu:=dl (R.1.getD 0 0);have hRb:bdT R.2.1:=by rw[hR];exact nY i3 him
  refine Gz 10 ?_;refine cL (Wi aH rfl rfl ho3.vw.non (by omega)) ?_;refine cL (Wk eC rfl (ho3.vw.gz 0 0 rfl (by omega))) ?_;refine cL (Wr (n:=((R.1.getD 0 0).toNat:Int)) is5 ty3 rfl (tO _)) ?_;refine Wh sL rfl (fX (fun k=>Nx B w2 w3 k∧¬ blk o3 k) g p im fr to R.2.1 (R.1.getD 0 0).toNat w3 hM3 (by omega) hRb (by omega)) rfl ?_;rw[←eS];rintro _ w4 ⟨o4,c4,rfl,ho4,hfr4,hM4,hF4⟩;have hz4:=hF4.size;have hFW4:aA A W w4:=hFW3.ZJ hF4 (fun k hk=>(hB3 k hk).imp id (fun h=>h.1));have hB4:∀ k,(Nx (fun k=>Nx B w2 w3 k∧¬ blk o3 k) w3 w4 k∧¬ blk o4 k)→A k∨(W.heap.size≤k∧k<w4.heap.size):=fun k hk=>hk.1.elim (fun h=>(hB3 k h).imp id (fun h=>⟨h.1,by omega⟩)) (fun h=>.inr ⟨by omega,h.2⟩);have hnb:∀ k,k<w2.heap.size→¬ B k→¬ (Nx B w2 w3 k∧¬ blk o3 k):=fun k hk hn h=>h.1.elim hn (fun h=>by omega);have hoo4:=hoo3.ZN hF4 (fun a ha e=>hnb _ (hlo a ha) (hBo _ ⟨a,ha,rfl⟩) e);have hrw4:=hrw3.ZN hF4 (fun k hk=>hnb k hk.2.1 hk.2.2.1);have hlo4:=ho4.lt;refine fK 13 ?_ ?_<;>intro h39
  ·have e5:lB im fr to many ref=none:=hI.bad hlt (by rw[←hS];exact h39);refine Gz 18 ?_;exact⟨_,rfl,none,0,[],[],_,_,rfl,.inl ⟨e5,h39⟩,Zs,hM4,hB4,hFW4⟩
  have e39:S.2.2=0:=Z5.1 h39;have hI5:=hI.next hlt him (by rw[←hS];exact e39)
  rw[←hS] at hI5;refine Gz 8 ?_;refine WS (enc:=hd) (u:=(⟨o4,S.1.length,c4⟩:Hd)) sC rfl rfl rfl ?_;intro w5 ho5 hs5 hf5;have hhl:=hrw.1;rw[show ls.length=hs.length from hrw.1.symm];refine Wq AI sC rfl rfl (hoo4.ZM hf5) ho5.vw (by rw[hrw.1];simp only[ZU];omega) (by rw[hrw.1];simp only[ZU];unfold maxLen;omega) rfl ?_;intro o6 c6 w6 ho6 hf6 hr6 hn6;have hz6:=hf6.size;have hM6:=(hM4.ZM hf5).ZN hf6 (fun k hk ⟨a,ha,e⟩=>by have h8:=hlo a ha;rcases hk.1 with h|h;exact hnb k (by omega) (hBo k ⟨a,ha,e⟩) h;have:=h.1;omega) (fun⟨a,ha,e⟩=>by have:=hfro a ha;omega);have hFW6:aA A W w6:=(hFW4.trans hf5.any).ZJ hf6 (fun k ⟨a,ha,e⟩=>.inr (by have:=hfro a ha;omega));have hrw6:=(hrw4.ZN hf5 (fun _ _=>id)).ZN hf6 (fun k hk=>hk.2.2.2);have hv6:=((ho4.ZM hf5).ZN hf6 (fun a ha ⟨b,hb,e⟩=>by have h1:=hfr4 a ha;have h2:=hlo b hb;omega)).vw;refine Gz 10 ?_;refine Wz ⟨⟨⟨ls++[S.1],hs++[⟨o4,S.1.length,c4⟩]⟩,S.2.1,fun k=>Nx (fun k=>Nx B w2 w3 k∧¬ blk o3 k) w3 w4 k∧¬ blk o4 k⟩,⟨o6,c6⟩⟩ ⟨rfl,rfl,?_,rfl,?_,trivial⟩ ⟨hI5,hM6,(fun k hk=>(hB4 k hk).imp id (fun h=>⟨h.1,by omega⟩)),?_,ho6,?_,aS hfro hr6 (by omega),hFW6⟩ ?_
  · show some (Value.slice o6 (hs++_).length c6)=_
    rw[ZR,ZR,hrw.1];rfl
  · show some (Value.int .i64 ((hs.length:Int)+1))=_
    rw[ZR,ZU,hrw.1];rfl
  · intro k ⟨a,ha,e⟩ hk
    rcases hr6 a ha with h|h
    · rcases hk.1 with h2|h2
      ·exact hnb k (by have:=hlo a h;omega) (hBo k ⟨a,h,e⟩) h2
      ·have:=hlo a h;have:=h2.1;omega
    · rcases hk.1 with h2|h2
      · rcases h2.1 with h3|h3
        · rcases hBA k h3 with h4|h4
          ·have:=hA k h4;omega
          ·omega
        ·omega
      ·omega
  · refine(hrw6.mono ?_).snoc rfl hv6 ?_
    · intro k hk
      refine⟨hk.1,by omega,fun h=>?_,fun⟨a,ha,e⟩=>?_⟩
      · rcases h.1 with h2|h2
        ·exact hnb k hk.2.1 hk.2.2.1 h2
        ·have:=h2.1;have:=hk.2.1;omega
      · rcases hr6 a ha with h|h
        ·exact hk.2.2.2 ⟨a,h,e⟩
        ·have:=hk.2.1;omega
    · intro _ k ⟨a,ha,e⟩
      have ha:o4=some a:=ha;have h1:=hfr4 a ha;have h2:=hlo4 a ha;refine⟨by omega,by omega,fun h=>h.2 ⟨a,ha,e⟩,fun⟨b,hb,e2⟩=>?_⟩;rcases hr6 b hb with h|h
      ·have:=hlo b h;omega
      ·omega
  · show many-(ls++_).length<many-ls.length
    rw[ZR,ZU];omega
 refine Gz 15 ?_;refine aW [(0,_),(1,_),(6,_),(7,_),(8,_),(14,_),(15,_),(16,_)] ?_;refine Gz 3 ?_;have hdn:=hI.done (by omega);exact⟨_,rfl,oo,oc,hs,ls,0,B,rfl,.inr ⟨rfl,⟨_,hdn⟩,hI.2.2.2,hoo,hrw.mono (fun k hk=>⟨hk.1,hk.2.1,hk.2.2.1⟩)⟩,hfro,hB,hBA,hF2⟩
def yL(o:Oper):Bool:=match o.op with|.defer _=>false|_=>true
def Uk(Q:Exit→Act→World→Prop):Prop:=¬ LetsOut Q
section
variable {P:Program}{lp n:Nat}
abbrev FR(lp:Nat):Fence:=Fence.wide.inRound lp
theorem NA{f:FuncId}{args:Array Value}{w:World}{R:Ending→World→Prop}(h:Calls P f args w R):CallsIn (FR lp) n P f args w R:=CallsIn.inRound lp (callsIn_wide.2 h)
theorem Oi{row:String}{args:Array Value}{w:World}{R:Value→World→Prop}(h:Rows P row args w R):RowsIn (FR lp) n P row args w R:=fun c cs _=>by
 obtain⟨v,w',r,s⟩:=h c cs;exact⟨v,w',r,stepsIn_wide.2 s⟩
theorem NV{o:Oper}{a:Act}{next next':Act→World→Prop}{Q:Exit→Act→World→Prop}(hn:∀ a w,next a w→next' a w){r:Result Next}(h:o.upon P a next Q r):o.uponIn (FR lp) n P a next' Q r:=by
 rcases r with⟨x,w'⟩|⟨c,w'⟩
 · cases x with
  |value v=>exact hn _ _ h
  |skip=>exact hn _ _ h
  |defer d=>exact hn _ _ h
  |enter f args=>
     refine⟨fun hd=>absurd hd (by simp[FR,Fence.wide]),NA (Calls.mono h ?_)⟩;rintro e w'' he;cases e with
    |returned v=>exact hn _ _ he
    |panicked ch=>exact he
    |outgrown=>exact he
  |row row args=>exact⟨fun hd=>absurd hd (by simp[FR,Fence.wide]),Oi (Rows.mono h (fun v w'' he=>hn _ _ he))⟩
  |_=>exact h.elim
 ·cases c<;>first|exact h|exact h.elim
theorem DI{ops:Array Oper}{Q:Exit→Act→World→Prop}(hQ:Uk Q)(hd:∀ (i:Nat) (o:Oper),ops[i]?=some o→yL o=true):∀ (fuel:Nat) (listed:Array Bool) (a:Act) (w:World),wpAny P .any ops Q fuel listed a w→wpAnyIn (FR lp) n P .any ops Q fuel listed a w
|0,_,_,_,h=>h
|fuel+1,listed,a,w,h=>⟨h.1,fun i hi=>by
   have h2:=h.2 i hi;unfold wpOp at h2;unfold wpOpIn;cases ho:ops[i]? with
  |none=>rw[ho] at h2;exact DI hQ hd fuel _ a w h2
  |some o=>
     rw[ho] at h2;simp only at h2 ⊢;by_cases hw:Region.wanted o (yielded ops a.tmps)
     · rw[ZP hw] at h2 ⊢
       rcases h2 with h2|⟨_,h2⟩
       · refine⟨fun _ _=>trivial,?_⟩
         rw[Oper.semAt_eq _ _ _ (fun c hc=>by have:=hd i o ho;simp[yL,hc] at this)];exact NV (DI hQ hd fuel _) h2
       ·exact absurd h2 hQ
     · rw[ZO hw] at h2 ⊢
       exact⟨fun _ _=>trivial,DI hQ hd fuel _ _ _ h2⟩⟩
end
def Rc(lp n:Nat)(P:Program)(N:Nt)(c:Code)(Q:Exit→Act→World→Prop)(l:SF)(w:World):Prop:=∀ a,dN N l a→c.wpIn (FR lp) n P Q a w
section
variable {P:Program}{N:Nt}{Q:Exit→Act→World→Prop}{l:SF}{w:World}{lp n:Nat}
theorem Rc.block{id:Nat}{c:Code}(h:Rc lp n P N c (Exit.inBlock id Q) l w):Rc lp n P N (.block id c) Q l w:=fun a ha=>wpIn_block (h a ha)
theorem ZD{id:Nat}{lops:List Oper}(m:Nat)(CH:Array Obj→Prop)(effs ord:List Nat)(hm:P.follows .mixedOrders=true)(hs:(Region.noSelect lops.toArray && vB lops.toArray m &&
 sJ lops.toArray m effs ord (fa lops.length false) && ik ord.length lops.length)=true)(hd:lops.all yL=true)(hc:CH w.heap)
 (h:Sx P N lops.toArray m CH effs (fun a w=>Q .normal a w) ord l (w.drewN 1)):Rc lp n P N (.region id lops.toArray true) Q l w:=fun a ha=>by
 simp only[ag] at hs;obtain⟨⟨⟨hs,hfin⟩,hok⟩,hlen⟩:=hs;have h1:=qD (P:=P) (N:=N) (K0:=fun a w=>Q .normal a w) hs hfin ord CH lops.length _ l a (w.drewN 1) (by simpa[gv] using hlen) hok ha
  (.inl ⟨by have:=uY (ops:=lops.toArray) (n:=m);simpa using this,hc⟩) h
 have h3:∀ (i:Nat) (o:Oper),lops.toArray[i]?=some o→yL o=true:=fun i o ho=>fu.1 hd o (ZW (by simpa using ho));have h2:=wpIn_region_any (F:=FR lp) (n:=n) (P:=P) (id:=id) (ops:=lops.toArray) (Q:=nN fun a w=>Q .normal a w) (a:=a) (w:=w) hm (by
  have:=DI (lp:=lp) (n:=n) (fun⟨_,_,e⟩=>e) h3 _ _ _ _ h1.any;simpa[World.drewN] using this)
 refine wpIn_mono h2 ?_;intro e a' w' hq;cases e<;>first|exact hq|exact hq.elim
theorem Yh{α:Type}{B:Nat}{Kp:World→World→Prop}{I:List α→World→Prop}{Ix:Code→List α→World→Prop}{xs:List α}{W:World}(h:KeepsFrom B W w∧Kp W w∧I xs w):At N .normal (ownPostG B Kp I Ix xs W) l w:=fun _ _=>h
end
def Si(n:Nat)(P:Program)(N:Nt)(ops:Array Oper)(Q:Exit→Act→World→Prop)(rest:List Oper)(l:SF)(w:World):Prop:=∀ a,dN N l a→wpListIn Fence.wide n P ops Q rest a w
section
variable {P:Program}{N:Nt}{Q:Exit→Act→World→Prop}{l:SF}{w:World}{n:Nat}{ops:Array Oper}{rest:List Oper}
variable {op:Op}{ty:TypeId}{pos:String}{aft:Array Edge}{d:Nat}{v:Value}{x:Operand}
theorem Yp(n:Nat){id:Nat}{ops:List Oper}(h:Si n P N ops.toArray Q ops l w):Sc P N (.region id ops.toArray false) Q l w:=fun a ha=>wpIn_wide.1 (wpIn_region_lit (h a ha))
theorem ZE(hv:Cm P N (· = w.heap) l ⟨some d,op,ty,pos,aft,none⟩ v)(hd:ba d N.n=true)(h:Si n P N ops Q rest ((d,v)::l) w) :
 Si n P N ops Q (⟨some d,op,ty,pos,aft,none⟩::rest) l w:=fun a ha=>by
 unfold wpListIn;rw[ZP (by simp[Region.wanted])];refine⟨fun _ _=>trivial,?_⟩;show Oper.uponIn _ _ _ _ _ _ _ ((execOp a.eval _).run P w);rw[hv a w ha rfl];exact h _ (ha.put hd v)
theorem ZF(h:At N .normal Q l w):Si n P N ops Q [] l w:=fun a ha=>wpListIn_nil (h a ha)
theorem Si.yield{r:Nat}{xs:List Operand}{vs:List Value}{ts:Array TypeId}{A B:World→Prop}(hc:evL l x=some (.func (.yield r) #[] #[]))(hx:yA l xs=some vs)
 (hy:YieldAt Fence.wide (n-1) P r vs.toArray w (fun e W'=>(e=.returned (.bool true)∧A W')∨(e=.returned (.bool false)∧B W')))(hd:ba d N.n=true)
 (h1:∀ W',A W'→Si n P N ops Q rest ((d,.bool true)::l) W')(h2:∀ W',B W'→Si n P N ops Q rest ((d,.bool false)::l) W') :
 Si n P N ops Q (⟨some d,.call ⟨.value x,xs.toArray,ts⟩,ty,pos,aft,none⟩::rest) l w:=fun a ha=>by
 unfold wpListIn;rw[ZP (by simp[Region.wanted])];refine⟨fun _ _=>trivial,?_⟩;obtain⟨fn,tmps,assign,body,hrun,hR⟩:=hy;have e:(execOp a.eval ⟨some d,.call ⟨.value x,xs.toArray,ts⟩,ty,pos,aft,none⟩).run P w=.ok (.round r fn tmps assign body) w:=by
  have h1:=ha.ev hc;simp[execOp,resolve,h1,Deferred.ofValue,invoke,callFunc];rw[←ha.evs hx] at hrun;exact hrun
 have e2:(Oper.semAt Fence.wide.round a.eval ⟨some d,.call ⟨.value x,xs.toArray,ts⟩,ty,pos,aft,none⟩).run P w=.ok (.round r fn tmps assign body) w:=e;rw[e2];refine⟨fun hd=>absurd hd (by simp[Fence.wide]),hR.mono ?_⟩;rintro e W' (⟨rfl,hA⟩|⟨rfl,hB⟩)
 ·exact h1 W' hA _ (ha.put hd _)
 ·exact h2 W' hB _ (ha.put hd _)
end
def Nt.col(N:Nt)(D:Nat):Nt:=⟨N.n,{ target:=.collected D,args:=#[] } :: N.ds⟩
theorem DG{P:Program}{f:FuncId}{fn:Func}{c:Code}{args:List Value}{w:World}{R:Ending→World→Prop}(N:Nat)(l:SF)
 (hf:P.funcs[f]?=some fn)(hb:fn.body=some c)(hN:fn.ntmps=N)(hle:ik args.length N=true)
 (hl:∀ t v,lk l t=some v→args[t]?=some v)
 (h:Sc P ⟨N,[]⟩ c (bodyPostM Fence.wide 4 P fn R) l w):Calls P f args.toArray w R:=by
 refine callsIn_wide.1 (callsIn_of_wp_marks (F:=Fence.wide) (n:=4) hf hb trivial (wpIn_wide.2 (h _ ⟨rfl,?_,?_⟩)))
 · have:args.length≤N:=by simpa[gv] using hle
   simp[hN];omega
 · intro t v ht
   have:=hl t v ht;have hlt:t<args.length:=(ZS.1 this).1;rw[ZQ hlt] at this;simpa[Array.getElem?_append,hlt] using this
section
variable {P:Program}{N D:Nat}{fn:Func}{R:Ending→World→Prop}{l:SF}{w:World}
theorem Ay{tmps:Array Value}{v:Value}(hr:(results fn tmps).run P w=.ok v w)(h:R (.returned v) w):LeavesInM Fence.wide 4 P fn tmps R [] .returning w:=by
 unfold LeavesInM LeavesIn;exact⟨v,hr,h⟩
theorem Fl{tmps:Array Value}{v:Value}(hD:w.heap[D]?=some (.deferred (some [])))(hr:(results fn tmps).run P (w.putObj D (.deferred none))=.ok v (w.putObj D (.deferred none)))(h:R (.returned v) (w.putObj D (.deferred none))) :
 LeavesInM Fence.wide 4 P fn tmps R [{ target:=.collected D,args:=#[] }] .returning w:=
 ⟨by simp,.inl ⟨_,_,rfl,run_takeDeferred hD,Ay hr h⟩⟩
theorem Kd(hD:w.heap[D]?=some (.deferred (some []))):aA (· = D) w (w.putObj D (.deferred none)):=
 ⟨rfl,rfl,rfl,by simp,fun k _ hk=>World.putObj_heap_other hk⟩
theorem XK{t u:Nat}{v x:Value}(hr:fn.results=#[.tmp t,.tmp u])(hv:lk l t=some v)(hx:lk l u=some x)(h:R (.returned (.tuple #[v,x])) w):At ⟨N,[]⟩ .ret (bodyPostM Fence.wide 4 P fn R) l w:=fun a ha=>by
 show LeavesInM _ _ _ _ _ _ a.defers _ _;rw[ha.dfr];exact Ay (by rw[results_tmp2 hr]) (by simpa[ha.has t v hv,ha.has u x hx] using h)
theorem Yi{t u:Nat}{v x:Value}(hr:fn.results=#[.tmp t,.tmp u])(hv:lk l t=some v)(hx:lk l u=some x)(hD:w.heap[D]?=some (.deferred (some [])))
 (h:∀ w',w'=w.putObj D (.deferred none)→aA (· = D) w w'→R (.returned (.tuple #[v,x])) w'):At (Nt.col ⟨N,[]⟩ D) .ret (bodyPostM Fence.wide 4 P fn R) l w:=fun a ha=>by
 show LeavesInM _ _ _ _ _ _ a.defers _ _;rw[ha.dfr];exact Fl hD (by rw[results_tmp2 hr]) (by simpa[ha.has t v hv,ha.has u x hx] using h _ rfl (Kd hD))
end
theorem JK{α:Type}{B:Nat}(c:Code):OwnFrom B ((fun(_:Code) (_:List α) (_:World)=>False) c):=fun _ _ _ _ h _ _=>h.elim
theorem YQ{α:Type}{P:Program}{N:Nt}{l:SF}{w w0:World}{Q:Exit→Act→World→Prop}{f p q:Nat}{rid:Nat}{ty:TypeId}{pos:String}{aft:Array Edge}{body:Code}{gf:Nat}{lb:Array Value}{enc:α→Value}
 {Kp:World→World→Prop}{S Sp:List α→Prop}{M:Nat}
 (hf:lk l f=some (.func (.func gf) #[] lb))(hg:fnB P gf=true)(hseq:SeqStopsK Fence.wide 3 P gf lb (fun x=>#[enc x]) Kp S Sp M w0)
 (hKt:∀ {A B C:World},Kp A B→Kp B C→Kp A C)(hKb:∀ (W:World) (l:Nat) (o o':Obj),w.heap.size≤l→W.heap[l]?=some o→o.isCells=false→o.isWalk=false→Kp W (W.putObj l o'))(hb0:Below w0.heap.size w0 w)
 (hp:ba p N.n=true)(hq:ba q N.n=true)
 (I:List α→World→Prop)(hI:OwnFrom w.heap.size I)(h0:I [] w)
 (hbody:∀ (lp:Nat) (pre:List α) (x:α) (W:World),I pre W→pre.length<M→Rc lp 2 P ⟨N.n,[]⟩ body (ownPostG w.heap.size Kp I (fun _ _ _=>False) (pre++[x]) W) ((q,enc x)::(p,enc x)::l) W)
 (hdone:∀ (D:Nat) (xs:List α) (W:World),w.heap.size≤D→S xs→I xs W→W.heap[D]?=some (.deferred (some []))→At (N.col D) .normal Q l W) :
 Sc P N (.rangeFunc (.tmp f) #[p] (.region rid #[⟨some q,.assign (.tmp p),ty,pos,aft,none⟩] false) body) Q l w:=fun a ha=>by
 refine wpIn_wide.1 (wpIn_rangeFunc_ownG (F:=Fence.wide) (n:=4) rfl (by decide) (gf:=gf) (lb:=lb) (ha.ev (x:=.tmp f) hf) trivial (kC hg) hseq hKt hKb hb0 (fun _=>rfl) I (fun _ _ _=>False) hI JK h0
  (fun x=>{ tmps:=(a.tmps.setIfInBounds p (enc x)).setIfInBounds q (enc x),defers:=[] }) ?_ ?_ ?_ ?_)
 · intro lp x W K hK
   refine wpIn_region_lit (l:=[_]) ?_;unfold wpListIn;rw[ZP (by simp[Region.wanted])];refine⟨fun _ _=>trivial,?_⟩;have hps:p<a.tmps.size:=by rw[ha.siz];simpa[dg] using hp
   have e:(execOp (Act.eval { tmps:=a.tmps.setIfInBounds p (enc x),defers:=[] }) ⟨some q,.assign (.tmp p),ty,pos,aft,none⟩).run P W=.ok (.value (enc x)) W:=by
    simp[execOp,Act.eval,hps]
   have ez:(#[p].zip #[enc x]).foldl (fun t (x:Nat×Value)=>match x with|(p,v)=>t.setIfInBounds p v) a.tmps=a.tmps.setIfInBounds p (enc x):=by simp
   rw[ez,Oper.semAt_eq _ _ _ (fun c hc=>by cases hc),e];exact hK
 · intro lp pre x W hi hlt
   refine hbody lp pre x W hi hlt _ ⟨rfl,by simp[ha.siz],?_⟩;have h1:dN N ((q,enc x)::(p,enc x)::l) ((a.put (some p) (enc x)).put (some q) (enc x)):=(ha.put hp _).put hq _;exact h1.has
 · intro D xs W hD hS hi hK
   exact hdone D xs W hD hS hi hK _ ⟨by show _::a.defers=_;rw[ha.dfr];rfl,ha.siz,ha.has⟩
 · intro D c pre W _ _ h _
   exact h.elim
def KG(sb nb:Nat)(W W':World):Prop:=W'.heap[sb]?=W.heap[sb]?∧W'.heap[nb]?=W.heap[nb]?
theorem KG.trans{sb nb:Nat}{A B C:World}(h:KG sb nb A B)(k:KG sb nb B C):KG sb nb A C:=⟨k.1.trans h.1,k.2.trans h.2⟩
def pH(len k:Nat):Nat:=(len+k-1)/k
def Kv(len k i:Nat):Nat:=min k (len-i*k)
def Hj(o:Option Addr)(len k i:Nat):Value:=.slice (aO o (i*k+Kv len k i) (i*k) 1) (Kv len k i) (Kv len k i)
theorem Np{len k i:Nat}(hk:1≤k):i<pH len k↔i*k<len:=by
 unfold pH;rw[Nat.lt_div_iff_mul_lt (by omega)];omega
theorem No(i k:Nat):(i+1)*k=i*k+k:=Nat.succ_mul i k
def Kw(sb nb:Nat):List Value:=[pT sb,pT nb]
theorem Nr(sb nb:Nat)(o:Option Addr)(c len k:Nat)(w0:World)(hs:w0.heap[sb]?=some (.cells [Value.slice o len c].toArray 80 (0,0)))(hn:w0.heap[nb]?=some (.cells [Value.int .i64 k].toArray 3 (0,0)))
 (hk:1≤k)(hk2:k≤1099511627776)(hl:len≤c)(hlb:len≤1099511627776) :
 SeqStopsK Fence.wide 3 Tryz.prog 165 (Kw sb nb).toArray (fun i:Fin (pH len k)=>#[Hj o len k i.1]) (KG sb nb) (fun xs=>xs.map (·.1)=bu (pH len k)) (fun _=>True) (pH len k) w0:=by
 intro l J Jx W hW hJ hJx hY h0;refine callsIn_wide.2 ?_;have hs1:W.heap[sb]?=some (.cells [Value.slice o len c].toArray 80 (0,0)):=(hW.block sb (Z1.1 hs).1).trans hs;have hn1:W.heap[nb]?=some (.cells [Value.int .i64 k].toArray 3 (0,0)):=(hW.block nb (Z1.1 hn).1).trans hn;have ea:(#[Value.func (.yield l) #[] #[]]++(Kw sb nb).toArray)=[.func (.yield l) #[] #[],pT sb,pT nb].toArray:=by simp[Kw]
 rw[ea];refine cS 31 [(0,_),(1,_),(2,_)] Tryz.func165 ?_;refine Gz 6 ?_;refine Wp (β:=Nat) (fun i=>[(0,.func (.yield l) #[] #[]),(1,pT sb),(2,pT nb),(4,iV (i*k:Nat))]) (fun i w=>i≤pH len k∧(∃ xs:List (Fin (pH len k)),xs.map (·.1)=bu i∧J xs w)∧w.heap[sb]?=some (.cells [Value.slice o len c].toArray 80 (0,0))∧w.heap[nb]?=some (.cells [Value.int .i64 k].toArray 3 (0,0))) (fun i=>pH len k-i) 0 ⟨rfl,rfl,rfl,(by rw[ii];rfl),trivial⟩ ⟨ZZ _,⟨[],rfl,h0⟩,hs1,hn1⟩ ?_;rintro i w ⟨hi,⟨xs,hx,hJw⟩,hs2,hn2⟩;have hxl:i=xs.length:=by have:=congrArg cv hx;simpa using this.symm
 refine Gz 4 ?_;refine cL (Wk BN rfl (cN hs2 rfl)) ?_;refine fK 1 ?_ ?_<;>intro h9
 ·have hilt:i<pH len k:=(Np hk).2 (by omega);obtain⟨e,he⟩:∃ e,e=Kv len k i:=⟨_,rfl⟩
  have he2:e=min k (len-i*k):=he;have hcv:Hj o len k i=.slice (aO o (i*k+e) (i*k) 1) e e:=by unfold Hj;rw[←he]
  refine Gz 8 ?_;refine Ww 7 [0,1,2,3,4,5,6] aK (by kernel_rfl) ?_;refine xC rfl (Wk aF rfl (cN hn2 rfl)) ?_;refine xC rfl (Wk BN rfl (cN hs2 rfl)) ?_;refine Gz 1 ?_;refine xC rfl (WR sC rfl rfl (by omega)) ?_;refine Gz 1 ?_;refine xC rfl (Wm (u:=iV (e:Int)) (Xh rfl rfl) (by rw[he2];congr 1;omega)) ?_;refine Gz 4 ?_;refine Yp 3 ?_;refine ZE (WU rfl) rfl ?_;refine ZE (Wk BN rfl (cN hs2 rfl)) rfl ?_;refine ZE (WU rfl) rfl ?_;refine ZE (WU rfl) rfl ?_;refine ZE (WU rfl) rfl ?_;refine ZE (W5 rfl rfl (by omega)) rfl ?_;refine ZE (WU rfl) rfl ?_;refine ZE (WU rfl) rfl ?_;refine ZE (W5 rfl rfl (by omega)) rfl ?_;refine ZE (Wm (u:=Hj o len k i) (X8 sC rfl rfl rfl rfl (by omega) (by omega) (by omega)) (by rw[hcv,show ((i*k:Nat):Int).toNat=i*k from rfl,show (((i*k:Nat):Int)+(e:Int)).toNat=i*k+e by omega,fp])) rfl ?_;refine Si.yield rfl rfl (hY xs ⟨i,hilt⟩ (w.drewN 1) (hJ _ _ _ none hJw ⟨rfl,rfl,rfl,Z0 _,fun _ _ _=>rfl⟩ (fun r e=>by cases e)) (by rw[←hxl];exact hilt)) rfl ?_ ?_
  ·rintro W' ⟨hJ',hK'⟩;refine ZE (WQ rfl) rfl ?_;refine ZF ?_;refine Gz 7 ?_;refine cL (Wk aF rfl (cN (hK'.2.trans hn2) rfl)) ?_;refine Gz 3 ?_;refine Wz (i+1) ⟨rfl,rfl,rfl,?_,trivial⟩ ⟨by omega,⟨xs++[⟨i,hilt⟩],by rw[dr,hx,List.range_succ];rfl,hJ'⟩,hK'.1.trans hs2,hK'.2.trans hn2⟩ (by show pH len k-(i+1)<pH len k-i;omega);rw[No];rfl
  rintro W' hJ';refine ZE (WQ rfl) rfl ?_;refine ZF ?_;refine Gz 8 ?_;exact⟨⟨_,rfl⟩,.inr ⟨_,trivial,hJ'⟩⟩
 have h9n:¬ i<pH len k:=fun q=>(show ¬ i*k<len by omega) ((Np (len:=len) (i:=i) hk).1 q)
 have hie:i=pH len k:=by omega
 refine Gz 7 ?_;refine Xi rfl ?_;exact⟨⟨_,rfl⟩,.inl ⟨xs,by show xs.map (·.1)=_;rw[hx,hie],hJw⟩⟩
theorem Nq(o:Option Addr)(c len k:Nat)(W:World)(hk:1≤k) :
 CA 141 [.slice o len c,iV k] W fun v w'=>v=.func (.func 165) #[] (Kw W.heap.size (W.heap.size+1)).toArray∧w'.heap[W.heap.size]?=some (.cells [Value.slice o len c].toArray 80 (0,0))∧w'.heap[W.heap.size+1]?=some (.cells [Value.int .i64 k].toArray 3 (0,0))∧W.heap.size+2≤w'.heap.size∧aA nob W w':=by
 refine cS 9 [(0,_),(1,_)] Tryz.func141 ?_;refine Gz 2 ?_;refine WO rfl rfl ?_;intro w1 hg1 hs1 hf1;refine WO rfl rfl ?_;intro w2 hg2 hs2 hf2;have hg1b:=hf2.obj hg1 id;rw[hs1] at hg2 ⊢;refine Gz 6 ?_;refine cL (Wk aF rfl (cN (cs:=[Value.int .i64 k]) hg2 rfl)) ?_;refine cL (W8 (Xr rfl rfl) (by omega)) ?_;refine Gz 7 ?_;refine cL (by refine Yg (cs:=[.tmp 2,.tmp 3]) (vs:=Kw W.heap.size (W.heap.size+1)) ?_;rfl) ?_;refine Gz 5 ?_;exact⟨_,rfl,rfl,hg1b,hg2,by omega,hf1.trans hf2⟩
theorem G5{W W':World}{row:Option Nat}(h:W.grownBy W' row):aA (fun k=>some k=row) W W':=⟨h.os,h.tape,h.output,h.size,fun k hk hn=>h.block k hk hn⟩
theorem Mz{B:Nat}{S:Nat→Prop}{W w:World}(h:aA S W w)(hs:∀ k,S k→k<W.heap.size→∃ cur T fr,W.heap[k]?=some (.cells cur T fr)):KeepsFrom B W w:=
 ⟨h.size,fun k o _ hk ho=>(h.same k (Z1.1 hk).1 (fun hS=>by
  obtain⟨cur,T,fr,e⟩:=hs k hS (Z1.1 hk).1;rw[hk] at e;cases e;cases ho)).trans hk⟩
theorem bJ.cells{α:Type}{k:Nat}{enc:α→List Value}{e:TypeId}{H:Array Obj}{ao:Option Addr}{cap:Nat}{xs:List α}(h:bJ k enc e H ao cap xs){a:Addr}(ha:ao=some a):∃ cur,H[a.block]?=some (.cells cur e (0,0)):=by
 rcases h with⟨rfl,_⟩|⟨g,cur,rfl,hg,_⟩
 ·cases ha
 ·cases ha;exact⟨_,hg⟩
def BxI{α β:Type}(k:Nat)(enc:β→List Value)(e T:TypeId)(bx:Nat)(w0:World)(f:α→β)(pre:List α)(w:World):Prop:=
 ∃ oo oc,w.heap[bx]?=some (.cells [Value.slice oo pre.length oc].toArray T (0,0))∧bJ k enc e w.heap oo oc (pre.map f)∧Fr w0.heap.size oo∧aA (· = bx) w0 w
theorem ZG{α β:Type}{k:Nat}{enc:β→List Value}{e T:TypeId}{bx:Nat}{w0:World}{f:α→β}:OwnFrom w0.heap.size (BxI (α:=α) k enc e T bx w0 f):=fun pre W W' row ⟨oo,oc,h1,h2,h3,h4⟩ hg hr=>by
 have g:=G5 hg;refine⟨oo,oc,g.obj h1 (fun e=>?_),h2.ZN g (fun a ha e=>?_),h3,h4.ZJ g (fun k e=>.inr (hr k e.symm).1)⟩
 · obtain⟨_,o,ho,hc⟩:=hr bx e.symm
   rw[h1] at ho;cases ho;cases hc
 · obtain⟨_,o,ho,hc⟩:=hr a.block e.symm
   obtain⟨cur,hcur⟩:=h2.cells ha;rw[hcur] at ho;cases ho;cases hc
def hdT:Hd:=⟨none,0,0⟩
def mX(l:List By)(hs:List Hd)(i:Nat):By×Hd:=(l.getD (2*i) [],hs.getD (2*i+1) hdT)
theorem JJ{D:Nat→Prop}{H:Array Obj}{hs:List Hd}{l:List By}(h:gG D H hs l)(h255:∀ x∈l,x.length≤255)(i:Nat)(x:By×Hd)(y:Xa)
 (hx:((bu (l.length/2)).map (mX l hs))[i]?=some x)(hy:(bZ l)[i]?=some y):x.1=y.1∧x.2.n=y.2.length∧Vw b8 H x.2.a x.2.c y.2∧y.1.length≤maxLen:=by
 have hi:i<l.length/2:=by have:=(ZS.1 hy).1;rwa[kE] at this
 rw[Cc hi] at hy;simp[hi] at hx;cases hy;subst hx;obtain⟨z,hz,h1,h2,h3⟩:=h.at (i:=2*i+1) (by omega);have e:(mX l hs i).2=z:=by unfold mX;simp[Z2,hz]
 have hm:l.getD (2*i) []∈l:=by rw[Z2,ZQ (by omega)];exact bm _
 rw[e];exact⟨rfl,h1,h2,aj (h255 _ hm) (by unfold maxLen;decide)⟩
theorem GO{D:Nat→Prop}{H:Array Obj}{hs:List Hd}{l:List By}(h:gG D H hs l)(h255:∀ x∈l,x.length≤255)(i:Nat)(x:By×Hd)(y:Xa)
 (hx:((bu (l.length/2)).map (mX l hs))[i]?=some x)(hy:(bZ l)[i]?=some y):x.1=y.1∧ByV D H x.2 y.2:=by
 have hi:i<l.length/2:=by have:=(ZS.1 hy).1;rwa[kE] at this
 rw[Cc hi] at hy;simp[hi] at hx;cases hy;subst hx;obtain⟨z,hz,h1,h2,h3⟩:=h.at (i:=2*i+1) (by omega);have e:(mX l hs i).2=z:=by unfold mX;simp[Z2,hz]
 rw[e];exact⟨rfl,h1,h2,h3⟩
theorem Cb{l:List By}(h:∀ x∈l,x.length≤255):∀ x∈bZ l,x.1.length≤255:=by
 intro x hx;unfold bZ at hx;obtain⟨i,hi,rfl⟩:=av.1 hx;rw[bt] at hi;have hm:l.getD (2*i) []∈l:=by rw[Z2,ZQ (by omega)];exact bm _
 exact h _ hm
theorem XsV.zero{D:Nat→Prop}{H:Array Obj}:XsV D H ⟨none,0,0⟩ []:=⟨rfl,[],Zx 0 (ZZ _),rfl,fun h=>absurd rfl h,by simp⟩
theorem DU(A:Nat→Prop)(g p:Nat)(im:By)(fr to ref:Int)(W:World)(hM:MrO A W.heap g p im fr to)(hA:∀ k,A k→k<W.heap.size)(him:im.length≤1073741824)(href:bdT ref) :
 CA 119 [pT g,iV ref] W fun v w'=>∃ o c,
  v=.tuple #[.slice o (fG im fr to ref).1.length c,iV (fG im fr to ref).2]∧∃ B:Nat→Prop,XsV (fun k=>W.heap.size≤k∧k<w'.heap.size∧¬ B k) w'.heap ⟨o,(fG im fr to ref).1.length,c⟩ (fG im fr to ref).1∧(∀ x∈(fG im fr to ref).1,x.1.length≤255)∧MrO B w'.heap g p im fr to∧(∀ k,B k→Nx A W w' k)∧aA A W w':=by
 obtain⟨ht,hp⟩:=hM.tab;have hpl:p<W.heap.size:=(Z1.1 ht).1;obtain⟨R,hR⟩:∃ R,R=aD im fr to ref 1:=⟨_,rfl⟩
 refine DG 64 [(0,_),(1,_)] Tryz.func119 rfl rfl rfl (xR ⟨rfl,rfl,trivial⟩) ?_;refine Gz 10 ?_;refine Wh sL rfl (fX A g p im fr to ref 1 W hM (by omega) href (by decide)) rfl ?_;rw[←hR];rintro _ w1 ⟨o1,c1,rfl,ho1,hfr1,hM1,hF1⟩;have hz1:=hF1.size;have hA1:∀ k,(Nx A W w1 k∧¬ blk o1 k)→k<w1.heap.size:=fun k hk=>hk.1.elim (fun h=>by have:=hA k h;omega) (fun h=>h.2);have hM1x:MrO (Nx A W w1) w1.heap g p im fr to:=hM1.mono (fun k hk=>hk.1) (fun h=>h.elim hp (fun h=>by omega));refine fK 13 ?_ ?_<;>intro h20
 ·have e:fG im fr to ref=([],2):=nV (.inl (by rw[←hR];exact h20));refine Gz 23 ?_;refine XK rfl rfl rfl ?_;exact⟨_,rfl,none,0,by rw[e];rfl,_,by rw[e];exact XsV.zero,by rw[e];simp,hM1x,fun _ h=>h,hF1⟩
 have e20:R.2.2=0:=Z5.1 h20;have hl1:(R.1.length:Int)=1:=by have:=e20;rw[hR] at this ⊢;exact(cJ this).2.2.2.1
 have hu:=dl (R.1.getD 0 0);obtain⟨n,hn⟩:∃ n,n=(R.1.getD 0 0).toNat:=⟨_,rfl⟩
 have hRb:bdT R.2.1:=by rw[hR];exact nY href him
 refine Gz 2 ?_;refine cW (Wi aH rfl rfl ho1.vw.non (by omega)) ?_;refine cW (Wk eC rfl (ho1.vw.gz 0 0 rfl (by omega))) ?_;refine fW 0 ?_ ?_<;>intro h25
 ·have e:fG im fr to ref=([],2):=nV (.inr (.inl (by rw[←hR];omega)));refine Gz 18 ?_;refine XK rfl rfl rfl ?_;exact⟨_,rfl,none,0,by rw[e];rfl,_,by rw[e];exact XsV.zero,by rw[e];simp,hM1x,fun _ h=>h,hF1⟩
 have h25:¬ ((R.1.getD 0 0).toNat:Int)=0:=h25;refine Gz 3 ?_;refine cW (Wi aH rfl rfl ho1.vw.non (by omega)) ?_;refine cW (Wk eC rfl (ho1.vw.gz 0 0 rfl (by omega))) ?_;refine fW 0 ?_ ?_<;>intro h31
 ·have e:fG im fr to ref=([],2):=nV (.inr (.inr (by rw[←hR];omega)));refine Gz 12 ?_;refine XK rfl rfl rfl ?_;exact⟨_,rfl,none,0,by rw[e];rfl,_,by rw[e];exact XsV.zero,by rw[e];simp,hM1x,fun _ h=>h,hF1⟩
 have hgood:¬ ((aD im fr to ref 1).2.2≠0∨((aD im fr to ref 1).1.getD 0 0).toNat=0∨8<((aD im fr to ref 1).1.getD 0 0).toNat):=by rw[←hR];rintro(h|h|h);exact h e20;omega;omega
 refine Gz 11 ?_;refine cL (Wi aH rfl rfl ho1.vw.non (by omega)) ?_;refine cL (Wk eC rfl (ho1.vw.gz 0 0 rfl (by omega))) ?_;refine cL (Wr (n:=(n:Int)) is5 ty3 rfl (by rw[hn];exact tO _)) ?_;refine cL (Wm (u:=iV ((2*n:Nat):Int)) (WN rfl rfl (by omega)) (by congr 1)) ?_;refine Wh SO rfl (I0 (fun k=>Nx A W w1 k∧¬ blk o1 k) g p im fr to R.2.1 (2*n) w1 hM1 hA1 him hRb (by omega)) rfl ?_;rintro _ w2 ⟨o2,c2,hs,l,ee,B,rfl,hE,hfr2,hM2,hBN,hF2⟩;have hz2:=hF2.size;have hFW2:aA A W w2:=hF1.ZJ hF2 (fun k hk=>hk.1.imp id (fun h=>h.1));have hB2:∀ k,B k→A k∨(W.heap.size≤k∧k<w2.heap.size):=fun k hk=>(hBN k hk).elim (fun h=>h.1.imp id (fun h=>⟨h.1,by omega⟩)) (fun h=>.inr ⟨by omega,h.2⟩);refine fK 11 ?_ ?_<;>intro h45
 ·have hnone:=(hE.resolve_right (fun h=>h45 h.1)).1;have e:fG im fr to ref=([],2):=wG hgood (by rw[←hR,←hn];exact hnone);refine Gz 11 ?_;refine XK rfl rfl rfl ?_;exact⟨_,rfl,none,0,by rw[e];rfl,B,by rw[e];exact XsV.zero,by rw[e];simp,hM2,hB2,hFW2⟩
 have e45:ee=0:=Z5.1 h45;obtain⟨_,⟨r,hr⟩,h255,ho2,hrw2⟩:=hE.resolve_left (fun h=>h.2 e45);have hll:=Eu _ _ _ _ hr;have hhl:=hrw2.1;refine Gz 7 ?_;refine Wn Vf rfl ?_;intro w3 hg3 hs3 hf3;obtain⟨bx,hbx⟩:∃ bx,bx=w2.heap.size:=⟨_,rfl⟩
 rw[←hbx] at hg3 ⊢;refine Gz 6 ?_;refine Wh SN rfl (Nq o2 c2 l.length 2 w3 (by decide)) rfl ?_;rintro _ w4 ⟨rfl,hsb4,hnb4,hz4,hf4⟩;have hg4:w4.heap[bx]?=some (.cells [Value.slice none ([]:List (Fin (pH l.length 2))).length 0].toArray 66 (0,0)):=hf4.obj hg3 id;have hf24:=hf3.trans hf4;have ho4:=ho2.ZM hf24;have hrw4:=hrw2.ZN hf24 (fun _ _=>id);have hm:pH l.length 2=n:=by unfold pH;omega
 have hm2:l.length/2=n:=by omega
 refine Gz 3 ?_;refine YQ (α:=Fin (pH l.length 2)) (f:=47) (p:=48) (q:=11) (gf:=165) (lb:=(Kw w3.heap.size (w3.heap.size+1)).toArray) (enc:=fun i=>Hj o2 l.length 2 i.1) (M:=pH l.length 2) rfl Sv (Nr w3.heap.size (w3.heap.size+1) o2 c2 l.length 2 w4 hsb4 hnb4 (by decide) (by decide) (by have:=ho2.vw.le;omega) (by omega)) KG.trans (fun W1 l1 _ _ hl1 _ _ _=>⟨World.putObj_heap_other (by omega),World.putObj_heap_other (by omega)⟩) (Below.refl _ _) rfl rfl (BxI 2 pY 183 66 bx w4 (fun i=>mX l hs i.1)) ZG ⟨none,0,hg4,Zy,Zs,Zn _ _⟩ ?_ ?_
 ·rintro lp pre x w ⟨oo,oc,hbw,hoo,hfro,hFw⟩ hlt;have hxn:x.1<n:=by have:=x.2;omega
  have hpl2:(pre.map (fun i=>mX l hs i.1)).length=pre.length:=aa _;have ho4w:=ho4.ZN hFw (fun a ha e=>by have e:a.block=bx:=e;have:=ho2.lt a ha;omega);have hrww:=hrw4.ZN hFw (fun k hk e=>by have e:k=bx:=e;have:=hk.2;omega);obtain⟨y0,hy0,hy0n,hy0v,hy0D⟩:=hrww.at (i:=2*x.1) (by omega);obtain⟨y1,hy1,hy1n,hy1v,_⟩:=hrww.at (i:=2*x.1+1) (by omega);obtain⟨s,hse⟩:∃ s,s=l.getD (2*x.1) []:=⟨_,rfl⟩
  rw[←hse] at hy0n hy0v hy0D;have hfx:mX l hs x.1=(s,y1):=by unfold mX;rw[←hse];simp[Z2,hy1]
  obtain⟨co,hco⟩:∃ co,co=aO o2 (x.1*2+2) (x.1*2) 1:=⟨_,rfl⟩
  have hke:Kv l.length 2 x.1=2:=by unfold Kv;omega
  have hck:Hj o2 l.length 2 x.1=.slice co 2 2:=by unfold Hj;rw[hke,←hco]
  rw[hck];have hcv:=ho4w.vw.cut (l:=x.1*2) (h:=x.1*2+2) (m:=x.1*2+2) (by omega) (by omega) (by have:=ho2.vw.le;omega) (by have:=ho2.vw.le;omega);rw[←hco,fp] at hcv;have hcl:((hs.drop (x.1*2)).take 2).length=2:=by rw[ZT,ZX];omega
  have hnon:(2:Nat)≠0→co≠none:=fun _=>hcv.non (by rw[hcl];decide);have hc0:bK w.heap (adr co 0)=some (.slice y0.a s.length y0.c):=by
   have h:=hcv.get 0 y0 (by rw[ar,ZP (by decide),dc,show x.1*2+0=2*x.1 by omega];exact hy0);unfold hd at h;rwa[hy0n] at h
  have hc1:bK w.heap (adr co 1)=some (hd y1):=hcv.get 1 y1 (by rw[ar,ZP (by decide),dc,show x.1*2+1=2*x.1+1 by omega];exact hy1);have hcb:∀ i,(adr co i).block<w4.heap.size:=fun i=>by
   obtain⟨a0,ha0⟩:=Option.ne_none_iff_exists'.1 (hnon (by decide));have ha0:co=some a0:=ha0;have hb:blk co a0.block:=⟨a0,ha0,rfl⟩
   rw[hco] at hb;obtain⟨a1,ha1,hb1⟩:=yX hb;have:=ho4.lt a1 ha1;rw[ha0,lT];omega
  rw[←hpl2] at hbw;refine Rc.block ?_;refine ZD 11 (fun H=>H[bx]?=some (.cells [Value.slice oo (pre.map (fun i=>mX l hs i.1)).length oc].toArray 66 (0,0))∧bK H (adr co 0)=some (.slice y0.a s.length y0.c)∧bK H (adr co 1)=some (hd y1)∧Vw b8 H y0.a y0.c s) [9,10,11] [0,1,2,3,4,5,6,7,8,9,10,11] aK (by kernel_rfl) rfl (⟨hbw,hc0,hc1,hy0v⟩) ?_;refine xC rfl (Wt eK rfl (fun H hH=>cN hH.1 rfl)) ?_;refine Gz 1 ?_;refine xC rfl (Wi sC rfl rfl hnon (by omega)) ?_;refine xC rfl (Wt aX rfl (fun H hH=>hH.2.1)) ?_;refine xC rfl (XS aH ty5 ty9 rfl (fun H hH=>hH.2.2.2)) ?_;refine Gz 1 ?_;refine xC rfl (Wi sC rfl rfl hnon (by omega)) ?_;refine xC rfl (Wt aX rfl (fun H hH=>hH.2.2.1)) ?_;refine xC rfl (WA (cs:=#[.string (bs s),hd y1]) LR Bz rfl (by kernel_rfl)) ?_;refine Wo rfl rfl (WD iC (cs:=[.string (bs s),hd y1].toArray) Bz rfl rfl rfl (by kernel_rfl) rfl ?_);intro v1 hv1 hvs1 hvf1;have hdz:(w.drewN 1).heap.size=w.heap.size:=rfl;have hvf1:=hvf1.ZK;have hvo1:bJ 2 pY 183 v1.heap (some ⟨w.heap.size,0,none⟩) 1 [(s,y1)]:=bS (xs:=[(s,y1)]) cE hv1 (by show 1≤maxLen;decide);refine Wu (by exact⟨hvf1.obj hbw id,dR hc0 hvf1 id,dR hc1 hvf1 id,hy0v.ZM hvf1⟩) ?_;refine Wo rfl rfl (Wx cE rfl iC rfl rfl (hoo.ZM hvf1) (hvo1.vw cE) (by simp only[ZU,aa];omega) (by simp only[ZU,aa];unfold maxLen;omega) rfl ?_);intro o7 c7 v2 ho7 hvf2 hr7 hn7;have hnb:∀ k,k<w4.heap.size→¬ blk oo k:=fun k hk ⟨a,ha,e⟩=>by have:=hfro a ha;omega
  refine Wu (by exact⟨hvf2.obj (hvf1.obj hbw id) (hnb bx (by omega)),dR (dR hc0 hvf1 id) hvf2 (hnb _ (hcb _)),dR (dR hc1 hvf1 id) hvf2 (hnb _ (hcb _)),(hy0v.ZM hvf1).keep' hvf2 (fun hne a ha=>hnb _ (by have:=(hy0D hne a.block ⟨a,ha,rfl⟩).2;omega))⟩) ?_;refine Wo rfl rfl (Wl eK rfl rfl rfl (hvf2.obj (hvf1.obj hbw id) (hnb bx (by omega))) rfl ?_);intro v3 hg3b hs3b hvf3;refine WW rfl ?_;have hFv:aA (fun k=>k=bx∨blk oo k) w v3:=(hvf1.any.ZJ hvf2 (fun k hk=>.inl (.inr hk))).ZJ hvf3 (fun k hk=>.inl (.inl hk));have ho73:=ho7.ZN hvf3 (fun a ha e=>by rcases hr7 a ha with h|h;have:=hfro a h;have e:a.block=bx:=e;omega;have e:a.block=bx:=e;have:=hvf1.size;have:=hFw.size;omega);refine Gz 2 ?_;refine Yh ⟨Mz hFv (fun k hk _=>?_),⟨hFv.same _ (by have:=hFw.size;omega) ?_,hFv.same _ (by have:=hFw.size;omega) ?_⟩,⟨o7,c7,?_,?_,aS hfro hr7 (by have:=hFw.size;have:=hvf1.size;omega),(hFw.ZJ hFv (fun k hk=>hk.imp id (fun⟨a,ha,e⟩=>by have:=hfro a ha;omega)))⟩⟩
  · rcases hk with rfl|⟨a,ha,rfl⟩
    ·exact⟨_,_,_,hbw⟩
    ·obtain⟨cur,h⟩:=hoo.cells ha;exact⟨_,_,_,h⟩
  · rintro(h|⟨a,ha,e⟩)
    ·omega
    ·have:=hfro a ha;omega
  · rintro(h|⟨a,ha,e⟩)
    ·omega
    ·have:=hfro a ha;omega
  · have e:(pre++[x]).length=(pre.map (fun i=>mX l hs i.1)++[(s,y1)]).length:=by simp
    rw[e];exact hg3b
  ·rw[dr,List.map_singleton,hfx];exact ho73
 intro D xs w5 hD hS ⟨oo,oc,hb5,ho5,hfro,hF5⟩ hK;have hS:xs.map (·.1)=bu (pH l.length 2):=hS;have hmap:xs.map (fun i=>mX l hs i.1)=(bu (l.length/2)).map (mX l hs):=by rw[hm2,←hm,←hS,List.map_map];rfl
 have hxl:xs.length=(bZ l).length:=by have:=congrArg cv hS;simp at this;rw[kE];omega
 rw[hmap] at ho5;rw[hxl] at hb5;have hrw5:=hrw4.ZN hF5 (fun k hk e=>by have e:k=bx:=e;have:=hk.2;omega);have hX5:XaV w5.heap oo oc (bZ l):=⟨_,ho5.vw cE,by rw[aa,List.length_range,kE],fun i x y hx hy=>JJ hrw5 h255 i x y hx hy⟩
 refine Gz 5 ?_;refine cL (Wk eK rfl (cN hb5 rfl)) ?_;refine cA 0 SM (OR oo oc (bZ l) w5 hX5) ?_;rintro _ w6 ⟨rfl,hf6⟩;have hK6:=hf6.obj hK id;have hz6:=hf6.size;have hz5:=hF5.size;have hMf:∀ wf,aA (· = D) w6 wf→MrO B wf.heap g p im fr to∧(∀ k,B k→Nx A W wf k)∧aA A W wf:=fun wf hfD=>⟨(((hM2.ZM hf24).ZN hF5 (fun k hk e=>by have e:k=bx:=e;rcases hB2 k hk with h|h;have:=hA k h;omega;have:=h.2;omega) (fun e=>by have e:p=bx:=e;omega)).ZM hf6).ZN hfD (fun k hk e=>by have e:k=D:=e;rcases hB2 k hk with h|h;have:=hA k h;omega;have:=h.2;omega) (fun e=>by have e:p=D:=e;omega),(fun k hk=>(hB2 k hk).imp id (fun h=>⟨h.1,by have:=hfD.size;omega⟩)),((hFW2.trans hf24.any).ZJ hF5 (fun k e=>.inr (by have e:k=bx:=e;omega)) |>.trans hf6.any).ZJ hfD (fun k e=>.inr (by have e:k=D:=e;omega))⟩
 refine WF (WX rfl) rfl (fun h62=>?_) (fun h62=>?_)
 ·have hno:¬ fB (bZ l):=of_decide_eq_false h62;have e:fG im fr to ref=([],2):=Et hgood (by rw[←hR,←hn];exact hr) hno;refine Gz 11 ?_;refine Yi rfl rfl rfl hK6 ?_;intro wf _ hfD;obtain⟨m1,m2,m3⟩:=hMf wf hfD;exact⟨_,rfl,none,0,by rw[e];rfl,B,by rw[e];exact XsV.zero,by rw[e];simp,m1,m2,m3⟩
 have hyes:fB (bZ l):=ZY fun h=>h62 (ZV h);have e:fG im fr to ref=(bZ l,0):=zS hgood (by rw[←hR,←hn];exact hr) hyes;refine Gz 7 ?_;refine cL (Wk eK rfl (cN (hf6.obj hb5 id) rfl)) ?_;refine Gz 5 ?_;refine Yi rfl rfl rfl hK6 ?_;intro wf _ hfD;obtain⟨m1,m2,m3⟩:=hMf wf hfD;have hzf:=hfD.size;have hlD:=ho5.lt;have ho6:=ho5.ZM hf6;have hX:XsV (fun k=>W.heap.size≤k∧k<wf.heap.size∧¬ B k) wf.heap ⟨oo,(bZ l).length,oc⟩ (bZ l):=⟨rfl,_,(ho6.ZN hfD (fun a ha e=>by obtain⟨cur,h⟩:=ho6.cells ha;have e:a.block=D:=e;rw[e,hK6] at h;cases h)).vw cE,by rw[aa,List.length_range,kE],(fun _ k ⟨a,ha,e⟩=>by have h1:=hfro a ha;have h2:=hlD a ha;subst e;refine⟨by omega,by omega,fun hB=>?_⟩;rcases hB2 _ hB with h|h;have:=hA _ h;omega;have:=h.2;omega),fun i x y hx hy=>GO ((hrw5.ZN hf6 (fun _ _=>id)).ZN hfD (fun k hk e=>by have e:k=D:=e;have:=hk.2.1;omega) |>.mono (fun k hk=>⟨by have:=hk.1;omega,by have:=hk.2.1;omega,hk.2.2⟩)) h255 i x y hx hy⟩
 exact⟨_,rfl,oo,oc,by rw[e],B,by rw[e];exact hX,by rw[e];exact Cb h255,m1,m2,m3⟩
theorem XsV.xa{D:Nat→Prop}{H:Array Obj}{o:Option Addr}{n c:Nat}{X:List Xa}(h:XsV D H ⟨o,n,c⟩ X)(h255:∀ x∈X,x.1.length≤255):XaV H o c X:=by
 obtain⟨_,ys,h1,h2,_,h4⟩:=h;refine⟨ys,h1,h2,fun i x y hx hy=>?_⟩;obtain⟨a,b,c,_⟩:=h4 i x y hx hy;exact⟨a,b,c,aj (h255 _ (ZW hy)) (by unfold maxLen;decide)⟩
def XdV(D:Nat→Prop)(H:Array Obj)(ys:List (By×Hd))(X:List Xa):Prop:=
 ys.length=X.length∧∀ (i:Nat) (x:By×Hd) (y:Xa),ys[i]?=some x→X[i]?=some y→x.1=y.1∧x.2.n=y.2.length∧Vw b8 H x.2.a x.2.c y.2∧y.1.length≤maxLen∧∀ k,blk x.2.a k→D k
section
variable {D D':Nat→Prop}{H:Array Obj}{ys:List (List UInt8×Hd)}{X:List Xa}
theorem ZH:XdV D H [] []:=⟨rfl,by simp⟩
theorem XdV.ZN{S:Nat→Prop}{w w':World}(h:XdV D w.heap ys X)(f:aA S w w')(hS:∀ k,D k→¬ S k):XdV D w'.heap ys X:=
 ⟨h.1,fun i x y hx hy=>by
  obtain⟨h1,h2,h3,h4,h5⟩:=h.2 i x y hx hy;exact⟨h1,h2,h3.ZN f (fun a ha=>hS _ (h5 _ ⟨a,ha,rfl⟩)),h4,h5⟩⟩
theorem XdV.mono(h:XdV D H ys X)(hd:∀ k,D k→D' k):XdV D' H ys X:=
 ⟨h.1,fun i x y hx hy=>by obtain⟨h1,h2,h3,h4,h5⟩:=h.2 i x y hx hy;exact⟨h1,h2,h3,h4,fun k hk=>hd k (h5 k hk)⟩⟩
theorem XdV.snoc(h:XdV D H ys X){s v:By}{z:Hd}(h1:z.n=v.length)(h2:Vw b8 H z.a z.c v)(h3:s.length≤maxLen)(h4:∀ k,blk z.a k→D k):XdV D H (ys++[(s,z)]) (X++[(s,v)]):=by
 refine⟨by simp[h.1],fun i x y hx hy=>?_⟩;by_cases hi:i<ys.length
 · rw[au hi] at hx
   rw[au (by rw[←h.1];exact hi)] at hy;exact h.2 i x y hx hy
 · have hi':i=ys.length:=by
    have:=(ZS.1 hx).1;simp at this;omega
   subst hi';simp at hx;rw[h.1] at hy;simp at hy;subst hx;subst hy;exact⟨rfl,h1,h2,h3,h4⟩
theorem XdV.xs{e:TypeId}{D D':Nat→Prop}{w w':World}{ys:List (By×Hd)}{X:List Xa}{ao:Option Addr}{cap:Nat}(h:XdV D w.heap ys X)(ho:bJ 2 pY e w.heap ao cap ys)(h1:∀ k,D k→D' k)(h2:∀ k,blk ao k→D' k)(f:aA nob w w'):XsV D' w'.heap ⟨ao,X.length,cap⟩ X:=
 ⟨rfl,ys,(ho.vw cE).ZM f,h.1,fun _=>h2,fun i x y hx hy=>by
  obtain⟨a,b,c,_,d⟩:=h.2 i x y hx hy;exact⟨a,b,c.ZM f,fun _ k hk=>h1 k (d k hk)⟩⟩
theorem XdV.xav{e:TypeId}{ao:Option Addr}{cap:Nat}(h:XdV D H ys X)(ho:bJ 2 pY e H ao cap ys):XaV H ao cap X:=
 ⟨ys,ho.vw cE,h.1,fun i x y hx hy=>by obtain⟨h1,h2,h3,h4,_⟩:=h.2 i x y hx hy;exact⟨h1,h2,h3,h4⟩⟩
end
theorem oK(x:Int):(i64 x).oneCell'=true:=rfl
theorem wK{b:By}{n:Int}(h1:1≤n)(h4:n≤4)(hl:(b.length:Int)=n):fD (cO 0 n) b n=b:=by
 rw[fH h1 h4,(cF (dQ (by omega) (by omega))).1];exact Z4 (by omega)
theorem DV(A:Nat→Prop)(g p:Nat)(im:By)(fr to many wide:Int)(W:World)(hM:MrO A W.heap g p im fr to)(hA:∀ k,A k→k<W.heap.size)(him:im.length≤1073741824)(hm:many≤9223372036854775807) :
 CA 78 [pT g,iV many,iV wide] W fun v w'=>∃ o c,
  v=.tuple #[.slice o (tnS im fr to many wide).1.length c,iV (tnS im fr to many wide).2]∧Own i64 3 w'.heap o c (tnS im fr to many wide).1∧Fr W.heap.size o∧MrO (fun k=>Nx A W w' k∧¬ blk o k) w'.heap g p im fr to∧aA A W w':=by
 obtain⟨ht,hp⟩:=hM.tab;have hpl:p<W.heap.size:=(Z1.1 ht).1;obtain⟨T,hT⟩:∃ T,T=tnS im fr to many wide:=⟨_,rfl⟩
 obtain⟨Z,hZ⟩:∃ Z,Z=aD im fr to 0 0:=⟨_,rfl⟩
 have hfin:∀ {B:Nat→Prop} {w:World} {o:Option Addr},MrO B w.heap g p im fr to→W.heap.size≤w.heap.size→(∀ k,B k→A k∨(W.heap.size≤k∧k<w.heap.size))→(∀ k,blk o k→¬ B k)→MrO (fun k=>Nx A W w k∧¬ blk o k) w.heap g p im fr to:=fun h hs hB ho=>h.mono (fun k hk=>⟨hB k hk,fun h2=>ho k h2 hk⟩) (fun h2=>h2.1.elim hp (fun h3=>by omega));refine cS 66 [(0,_),(1,_),(2,_)] Tryz.func78 ?_;refine fK 10 ?_ ?_<;>intro h17
 ·have e:T=([],1):=by rw[hT];exact tQ (.inl h17)
  refine Gz 17 ?_;rw[←hT,e];exact⟨_,rfl,none,0,rfl,Zu,Zs,hM.mono (fun k hk=>⟨.inl hk,fun⟨a,ha,_⟩=>by cases ha⟩) (fun h=>h.1.elim hp (fun h=>by omega)),Zn _ _⟩
 refine Gz 2 ?_;refine Wy rfl rfl S3 rfl (Pf wide W) rfl ?_;rintro _ w0 ⟨rfl,hw0⟩;subst w0;refine WV rfl rfl (WX rfl) rfl (fun h21=>?_) (fun h21=>?_)
 ·have e:T=([],1):=by rw[hT];exact tQ (.inr (by simpa using h21))
  refine Gz 13 ?_;rw[←hT,e];exact⟨_,rfl,none,0,rfl,Zu,Zs,hM.mono (fun k hk=>⟨.inl hk,fun⟨a,ha,_⟩=>by cases ha⟩) (fun h=>h.1.elim hp (fun h=>by omega)),Zn _ _⟩
 have hw:wide=2∨wide=4:=ZY fun h=>h21 (ZV h);have hok:¬ (many<0∨¬ (wide=2∨wide=4)):=by omega
 refine Gz 9 ?_;refine Wh sL rfl (fX A g p im fr to 0 0 W hM (by omega) (by decide) (by decide)) rfl ?_;rw[←hZ];rintro _ w1 ⟨o1,c1,rfl,ho1,hfr1,hM1,hF1⟩;have h0:(Z.2.2=0∧dX im fr to=true∧TnI im fr to wide many.toNat [] Z.2.1)∨(Z.2.2≠0∧T=([],2)):=by
  cases hms:dX im fr to with
 |true=>exact .inl (by rw[hZ,sQ (fx 0) hms];exact⟨rfl,rfl,TnI.zero⟩)
 |false=>exact .inr ⟨by rw[hZ];exact wI hms,by rw[hT];exact yF hok hms⟩
 refine Gz 16 ?_;refine Wp (β:=((List Int×Int×Int)×(Nat→Prop))×(Option Addr×Nat)) (fun⟨⟨⟨os,q,e⟩,B⟩,⟨oo,oc⟩⟩=>[(0,pT g),(1,iV many),(2,iV wide),(9,iV q),(10,iV e),(11,.slice oo os.length oc)]) (fun⟨⟨⟨os,q,e⟩,B⟩,⟨oo,oc⟩⟩ w=>((e=0∧dX im fr to=true∧TnI im fr to wide many.toNat os q)∨(e≠0∧T=([],2)))∧MrO B w.heap g p im fr to∧(∀ k,B k→A k∨(W.heap.size≤k∧k<w.heap.size))∧(∀ k,blk oo k→¬ B k)∧Own i64 3 w.heap oo oc os∧Fr W.heap.size oo∧aA A W w) (fun⟨⟨⟨os,q,e⟩,B⟩,⟨oo,oc⟩⟩=>if e=0 then many.toNat-os.length+1 else 0) ⟨⟨⟨[],Z.2.1,Z.2.2⟩,fun k=>Nx A W w1 k∧¬ blk o1 k⟩,⟨none,0⟩⟩ ⟨rfl,rfl,rfl,rfl,rfl,rfl,trivial⟩ ⟨h0,hM1,(fun k hk=>hk.1),(fun k ⟨a,ha,_⟩=>by cases ha),Zu,Zs,hF1⟩ ?_;rintro⟨⟨⟨os,q,e⟩,B⟩,⟨oo,oc⟩⟩ w2 ⟨hJ,hB,hBA,hBo,hoo,hfro,hF2⟩;have hz2:=hF2.size;refine fK 6 ?_ ?_<;>intro h32
 ·have hlt:os.length<many.toNat:=by omega
  refine fW 2 ?_ ?_<;>intro h35
  ·obtain⟨_,hmay,hI⟩:=hJ.resolve_right (fun h=>h.1 h35);obtain⟨i1,i2,i3,i4⟩:=hI;have hI:TnI im fr to wide many.toNat os q:=⟨i1,i2,i3,i4⟩
   obtain⟨R,hR⟩:∃ R,R=aD im fr to q wide:=⟨_,rfl⟩
   refine Gz 2 ?_;refine aW [(0,_),(1,_),(2,_),(9,_),(10,_),(11,_),(36,_)] ?_;refine Gz 15 ?_;refine Wh sL rfl (fX B g p im fr to q wide w2 hB (by omega) (by omega) (by omega)) rfl ?_;rw[←hR];rintro _ w3 ⟨o3,c3,rfl,ho3,hfr3,hM3,hF3⟩;have hz3:=hF3.size;have hFW3:aA A W w3:=hF2.ZJ hF3 (fun k hk=>(hBA k hk).imp id (fun h=>h.1));have hoo3:=hoo.ZN hF3 (fun a ha e=>hBo _ ⟨a,ha,rfl⟩ e);refine fK 12 ?_ ?_<;>intro h46
   ·have hl3:(R.1.length:Int)=wide:=by have:=h46;rw[hR] at this ⊢;exact(cJ this).2.2.2.1
    have hI5:=hI.next hlt (by omega) (by rw[←hR];exact h46)
    rw[←hR] at hI5;have ev:=wK (b:=R.1) (by omega) (by omega) hl3;refine Gz 6 ?_;refine Wh MU rfl (qO o3 c3 R.1 w3 ho3.vw (by omega)) rfl ?_;rintro _ w4 ⟨p4,rfl,hp4,hP4,hf4⟩;have hlp:=hP4.lt;refine Gz 1 ?_;refine Wh AO rfl (iF p4 0 R.1 wide w4 hP4 (by omega)) rfl ?_;rintro _ w5 ⟨rfl,hP5,hf5⟩;rw[ev];have hz5:=hf5.size;have hf35:aA nob w3 w5:=hf4.tw hf5;refine WS (enc:=i64) (u:=((bV R.1:Nat):Int)) bP (oK _) rfl rfl ?_;intro w6 ho6 hs6 hf6;have hf36:=hf35.trans hf6;refine Wq oK bP rfl rfl (hoo3.ZM hf36) ho6.vw (by simp only[ZU];omega) (by simp only[ZU];unfold maxLen;omega) rfl ?_;intro o7 c7 w7 ho7 hf7 hr7 hn7;have hz7:=hf7.size;have hlo:=hoo.lt;have hM7:=(hM3.ZM hf36).ZN hf7 (fun k hk ⟨a,ha,e⟩=>by have h8:=hlo a ha;rcases hk.1 with h|h;exact hBo k ⟨a,ha,e⟩ h;have:=h.1;omega) (fun⟨a,ha,e⟩=>by have:=hfro a ha;omega);have hFW7:aA A W w7:=(hFW3.trans hf36.any).ZJ hf7 (fun k ⟨a,ha,e⟩=>.inr (by have:=hfro a ha;omega));refine Gz 3 ?_;refine aG ⟨⟨⟨os++[((bV R.1:Nat):Int)],R.2.1,R.2.2⟩,fun k=>Nx B w2 w3 k∧¬ blk o3 k⟩,⟨o7,c7⟩⟩ ⟨.inl ⟨h46,hmay,hI5⟩,hM7,(fun k hk=>hk.1.elim (fun h=>(hBA k h).imp id (fun h=>⟨h.1,by omega⟩)) (fun h=>.inr ⟨by omega,by omega⟩)),(fun k ⟨a,ha,e⟩ hk=>by rcases hr7 a ha with h|h;rcases hk.1 with h2|h2;exact hBo k ⟨a,h,e⟩ h2;have:=hlo a h;omega;rcases hk.1 with h2|h2;rcases hBA k h2 with h3|h3;have:=hA k h3;omega;omega;omega),ho7,(fun a ha=>by rcases hr7 a ha with h|h;exact hfro a h;omega),hFW7⟩ ?_;show (if R.2.2=0 then _ else _)<(if e=0 then _ else _);rw[ZP h46,ZP h35];simp only[ZR,ZU];omega
   have e5:T=([],2):=by rw[hT];exact tP hok (hI.bad hlt (by rw[←hR];exact h46))
   refine Gz 5 ?_;refine aG ⟨⟨⟨os,R.2.1,R.2.2⟩,fun k=>Nx B w2 w3 k∧¬ blk o3 k⟩,⟨oo,oc⟩⟩ ⟨.inr ⟨h46,e5⟩,hM3,(fun k hk=>hk.1.elim (fun h=>(hBA k h).imp id (fun h=>⟨h.1,by omega⟩)) (fun h=>.inr ⟨by omega,h.2⟩)),(fun k hb hk=>by rcases hk.1 with h2|h2;exact hBo k hb h2;obtain⟨a,ha,e⟩:=hb;have:=hoo.lt a ha;omega),hoo3,hfro,hFW3⟩ ?_;show (if R.2.2=0 then _ else _)<(if e=0 then _ else _);rw[ZO h46,ZP h35];omega
  refine Gz 2 ?_;refine aW [(0,_),(1,_),(2,_),(9,_),(10,_),(11,_),(36,_)] ?_;refine fK 11 ?_ ?_<;>intro h55
  ·have e:T=([],2):=by rcases hJ with h|h;exact absurd h.1 h55;exact h.2
   refine Gz 12 ?_;rw[←hT,e];exact⟨_,rfl,none,0,rfl,Zu,Zs,hfin hB hz2 hBA (fun k ⟨a,ha,_⟩=>by cases ha),hF2⟩
  have e0:e=0:=Z5.1 h55;obtain⟨_,hmay,hI⟩:=hJ.resolve_right (fun h=>h.1 e0);obtain⟨i1,i2,i3,i4⟩:=hI;have hdn:=(show TnI im fr to wide many.toNat os q from ⟨i1,i2,i3,i4⟩).done (by omega);obtain⟨R,hR⟩:∃ R,R=aD im fr to q 1:=⟨_,rfl⟩
  refine Gz 10 ?_;refine Wh sL rfl (fX B g p im fr to q 1 w2 hB (by omega) (by omega) (by decide)) rfl ?_;rw[←hR];rintro _ w3 ⟨o3,c3,rfl,ho3,hfr3,hM3,hF3⟩;have hz3:=hF3.size;have hFW3:aA A W w3:=hF2.ZJ hF3 (fun k hk=>(hBA k hk).imp id (fun h=>h.1));have hoo3:=hoo.ZN hF3 (fun a ha e=>hBo _ ⟨a,ha,rfl⟩ e);have hlo:=hoo.lt;have hB3:∀ k,(Nx B w2 w3 k∧¬ blk o3 k)→A k∨(W.heap.size≤k∧k<w3.heap.size):=fun k hk=>hk.1.elim (fun h=>(hBA k h).imp id (fun h=>⟨h.1,by omega⟩)) (fun h=>.inr ⟨by omega,h.2⟩);refine fK 12 ?_ ?_<;>intro h64
  ·have e:T=([],2):=by rw[hT];exact qB hok hdn (by rw[←hR];exact h64)
   refine Gz 12 ?_;rw[←hT,e];exact⟨_,rfl,none,0,rfl,Zu,Zs,hfin hM3 (by omega) hB3 (fun k ⟨a,ha,_⟩=>by cases ha),hFW3⟩
  have e:T=(os,0):=by rw[hT];exact nQ hok hmay hdn (by rw[←hR];exact h64)
  refine Gz 14 ?_;rw[←hT,e];exact⟨_,rfl,oo,oc,rfl,hoo3,hfro,hfin hM3 (by omega) hB3 (fun k hb hk=>by rcases hk.1 with h2|h2;exact hBo k hb h2;obtain⟨a,ha,e⟩:=hb;have:=hlo a ha;omega),hFW3⟩
 refine Gz 5 ?_;refine aW [(0,_),(1,_),(2,_),(9,_),(10,_),(11,_),(36,_)] ?_;refine fK 11 ?_ ?_<;>intro h55
 ·have e:T=([],2):=by rcases hJ with h|h;exact absurd h.1 h55;exact h.2
  refine Gz 12 ?_;rw[←hT,e];exact⟨_,rfl,none,0,rfl,Zu,Zs,hfin hB hz2 hBA (fun k ⟨a,ha,_⟩=>by cases ha),hF2⟩
 have e0:e=0:=Z5.1 h55;obtain⟨_,hmay,hI⟩:=hJ.resolve_right (fun h=>h.1 e0);obtain⟨i1,i2,i3,i4⟩:=hI;have hdn:=(show TnI im fr to wide many.toNat os q from ⟨i1,i2,i3,i4⟩).done (by omega);obtain⟨R,hR⟩:∃ R,R=aD im fr to q 1:=⟨_,rfl⟩
 refine Gz 10 ?_;refine Wh sL rfl (fX B g p im fr to q 1 w2 hB (by omega) (by omega) (by decide)) rfl ?_;rw[←hR];rintro _ w3 ⟨o3,c3,rfl,ho3,hfr3,hM3,hF3⟩;have hz3:=hF3.size;have hFW3:aA A W w3:=hF2.ZJ hF3 (fun k hk=>(hBA k hk).imp id (fun h=>h.1));have hoo3:=hoo.ZN hF3 (fun a ha e=>hBo _ ⟨a,ha,rfl⟩ e);have hlo:=hoo.lt;have hB3:∀ k,(Nx B w2 w3 k∧¬ blk o3 k)→A k∨(W.heap.size≤k∧k<w3.heap.size):=fun k hk=>hk.1.elim (fun h=>(hBA k h).imp id (fun h=>⟨h.1,by omega⟩)) (fun h=>.inr ⟨by omega,h.2⟩);refine fK 12 ?_ ?_<;>intro h64
 ·have e:T=([],2):=by rw[hT];exact qB hok hdn (by rw[←hR];exact h64)
  refine Gz 12 ?_;rw[←hT,e];exact⟨_,rfl,none,0,rfl,Zu,Zs,hfin hM3 (by omega) hB3 (fun k ⟨a,ha,_⟩=>by cases ha),hFW3⟩
 have e:T=(os,0):=by rw[hT];exact nQ hok hmay hdn (by rw[←hR];exact h64)
 refine Gz 14 ?_;rw[←hT,e];exact⟨_,rfl,oo,oc,rfl,hoo3,hfro,hfin hM3 (by omega) hB3 (fun k hb hk=>by rcases hk.1 with h2|h2;exact hBo k hb h2;obtain⟨a,ha,e⟩:=hb;have:=hlo a ha;omega),hFW3⟩
theorem BR(g:Nat)(io:Option Addr)(ic:Nat)(im:By)(fr to many wide:Int)(W:World)(hM:RrV W.heap g io ic im fr to)(him:im.length≤1073741824)(hm:many≤9223372036854775807) :
 CA 91 [pT g,iV many,iV wide] W fun v w'=>∃ o c,
  v=.tuple #[.slice o (tnS im fr to many wide).1.length c,iV (tnS im fr to many wide).2]∧Own i64 3 w'.heap o c (tnS im fr to many wide).1∧Fr W.heap.size o∧aA nob W w':=by
 obtain⟨T,hT⟩:∃ T,T=tnS im fr to many wide:=⟨_,rfl⟩
 obtain⟨Z,hZ⟩:∃ Z,Z=aD im fr to 0 0:=⟨_,rfl⟩
 refine cS 73 [(0,_),(1,_),(2,_)] Tryz.func91 ?_;refine fK 10 ?_ ?_<;>intro h22
 ·have e:T=([],1):=by rw[hT];exact tQ (.inl h22)
  refine Gz 20 ?_;rw[←hT,e];exact⟨_,rfl,none,0,rfl,Zu,Zs,Zn _ _⟩
 refine fW 2 ?_ ?_<;>intro h25
 ·refine fW 2 ?_ ?_<;>intro h28
  ·have e:T=([],1):=by rw[hT];exact tQ (.inr (by omega))
   refine Gz 14 ?_;rw[←hT,e];exact⟨_,rfl,none,0,rfl,Zu,Zs,Zn _ _⟩
  have hok:¬ (many<0∨¬ (wide=2∨wide=4)):=by omega
  refine Gz 10 ?_;refine Wh oM rfl (lO g io ic im fr to 0 0 W hM (by omega) (by decide) (by decide)) rfl ?_;rw[←hZ];rintro _ w1 ⟨o1,c1,rfl,ho1,hfr1,hf1⟩;refine fK 13 ?_ ?_<;>intro h38
  ·have e:T=([],2):=by
    rw[hT];refine yF hok ?_;cases hms:dX im fr to with
   |false=>rfl
   |true=>rw[hZ,sQ (fx 0) hms] at h38;exact absurd rfl h38
   refine Gz 12 ?_;rw[←hT,e];exact⟨_,rfl,none,0,rfl,Zu,Zs,hf1⟩
  have hmay:dX im fr to=true:=by
   cases hms:dX im fr to with
  |true=>rfl
  |false=>rw[hZ] at h38;exact absurd (wI hms) h38
  refine Gz 12 ?_;refine WC i64 bP rfl ?_;intro w2 ho2 hs2 hf2;have hF2:=hf1.trans hf2;refine Gz 10 ?_;refine Wp (β:=(List Int×Int)×(Option Addr×Nat)) (fun⟨⟨os,q⟩,⟨oo,oc⟩⟩=>[(0,pT g),(1,iV many),(2,iV wide),(11,iV q),(12,.slice oo os.length oc),(13,iV os.length)]) (fun⟨⟨os,q⟩,⟨oo,oc⟩⟩ w=>TnI im fr to wide many.toNat os q∧Own i64 3 w.heap oo oc os∧Fr W.heap.size oo∧aA nob W w) (fun⟨⟨os,q⟩,⟨oo,oc⟩⟩=>many.toNat-os.length) ⟨⟨[],0⟩,⟨some ⟨w1.heap.size,0,none⟩,0⟩⟩ ⟨rfl,rfl,rfl,rfl,rfl,rfl,trivial⟩ ⟨TnI.zero,ho2,(cX _).mono hf1.size,hF2⟩ ?_;rintro⟨⟨os,q⟩,⟨oo,oc⟩⟩ w3 ⟨hI,hoo,hfro,hF3⟩;refine fK 5 ?_ ?_<;>intro h42
  ·have hlt:os.length<many.toNat:=by omega
   obtain⟨i1,i2,i3,i4⟩:=hI;have hI:TnI im fr to wide many.toNat os q:=⟨i1,i2,i3,i4⟩
   obtain⟨R,hR⟩:∃ R,R=aD im fr to q wide:=⟨_,rfl⟩
   refine Gz 1 ?_;refine aW [(0,_),(1,_),(2,_),(11,_),(12,_),(13,_),(42,_)] ?_;refine Gz 11 ?_;refine Wh oM rfl (lO g io ic im fr to q wide w3 (hM.ZM hF3) (by omega) (by omega) (by omega)) rfl ?_;rw[←hR];rintro _ w4 ⟨o4,c4,rfl,ho4,hfr4,hf4⟩;have hF4:=hF3.trans hf4;have hz4:=hf4.size;refine fK 13 ?_ ?_<;>intro h54
   ·have e:T=([],2):=by rw[hT];exact tP hok (hI.bad hlt (by rw[←hR];exact h54))
    refine Gz 17 ?_;rw[←hT,e];exact⟨_,rfl,none,0,rfl,Zu,Zs,hF4⟩
   have e54:R.2.2=0:=Z5.1 h54;have hl4:(R.1.length:Int)=wide:=by have:=e54;rw[hR] at this ⊢;exact(cJ this).2.2.2.1
   have hI5:=hI.next hlt (by omega) (by rw[←hR];exact e54)
   rw[←hR] at hI5;have ev:=wK (b:=R.1) (by omega) (by omega) hl4;refine Gz 8 ?_;refine cL (WA (cs:=#[.slice o4 R.1.length c4,iV 0]) wJ pK rfl (by kernel_rfl)) ?_;refine Wn pK rfl ?_;intro w5 hg5 hs5 hf5;refine sA rfl xA (by simp[Value.oneCell']) hg5 ?_;intro w6 hg6 hs6 hf6;obtain⟨p,hp⟩:∃ p,p=w4.heap.size:=⟨_,rfl⟩
   rw[←hp] at hg6 ⊢;have hf46:aA nob w4 w6:=hf5.tw hf6;have ho6:=ho4.ZM hf46;have hP6:RdR (fun k=>w3.heap.size≤k∧k<w6.heap.size) w6.heap p 0 R.1:=⟨o4,c4,hg6,ho6.vw,⟨by omega,by omega⟩,fun _=>⟨fun⟨a,ha,hb⟩=>by have h3:=ho4.lt a ha;omega,fun k ⟨a,ha,hb⟩=>by have h3:=ho4.lt a ha;have h4:=hfr4 a ha;omega⟩⟩
   refine Gz 6 ?_;refine Wh eD rfl (bT p 0 R.1 wide w6 hP6 (by omega)) rfl ?_;rintro _ w7 ⟨rfl,hP7,hf7⟩;rw[ev];have hf37:aA nob w3 w7:=(hf4.trans hf46).tw hf7;refine WS (enc:=i64) (u:=((bV R.1:Nat):Int)) bP (oK _) rfl rfl ?_;intro w8 ho8 hs8 hf8;have hf38:=hf37.trans hf8;refine Wq oK bP rfl rfl (hoo.ZM hf38) ho8.vw (by simp only[ZU];omega) (by simp only[ZU];unfold maxLen;omega) rfl ?_;intro o9 c9 w9 ho9 hf9 hr9 hn9;have hF9:aA nob W w9:=(hF3.trans hf38).ZJ hf9 hfro.step;refine Gz 14 ?_;refine Wz ⟨⟨os++[((bV R.1:Nat):Int)],R.2.1⟩,⟨o9,c9⟩⟩ ⟨rfl,rfl,rfl,rfl,rfl,?_,trivial⟩ ⟨hI5,ho9,aS hfro hr9 (hF3.trans hf38).size,hF9⟩ ?_
   · show some (Value.int .i64 ((os.length:Int)+1))=_
     rw[ZR,ZU];rfl
   · show many.toNat-(os++_).length<many.toNat-os.length
     rw[ZR,ZU];omega
  have hdn:=hI.done (by omega);obtain⟨i1,i2,i3,i4⟩:=hI;obtain⟨R,hR⟩:∃ R,R=aD im fr to q 1:=⟨_,rfl⟩
  refine Gz 1 ?_;refine aW [(0,_),(1,_),(2,_),(11,_),(12,_),(13,_),(42,_)] ?_;refine Gz 11 ?_;refine Wh oM rfl (lO g io ic im fr to q 1 w3 (hM.ZM hF3) (by omega) (by omega) (by decide)) rfl ?_;rw[←hR];rintro _ w4 ⟨o4,c4,rfl,ho4,hfr4,hf4⟩;have hF4:=hF3.trans hf4;refine fK 13 ?_ ?_<;>intro h71
  ·have e:T=([],2):=by rw[hT];exact qB hok hdn (by rw[←hR];exact h71)
   refine Gz 12 ?_;rw[←hT,e];exact⟨_,rfl,none,0,rfl,Zu,Zs,hF4⟩
  have e:T=(os,0):=by rw[hT];exact nQ hok hmay hdn (by rw[←hR];exact h71)
  refine Gz 14 ?_;rw[←hT,e];exact⟨_,rfl,oo,oc,rfl,hoo.ZM hf4,hfro,hF4⟩
 have hok:¬ (many<0∨¬ (wide=2∨wide=4)):=by omega
 refine Gz 13 ?_;refine Wh oM rfl (lO g io ic im fr to 0 0 W hM (by omega) (by decide) (by decide)) rfl ?_;rw[←hZ];rintro _ w1 ⟨o1,c1,rfl,ho1,hfr1,hf1⟩;refine fK 13 ?_ ?_<;>intro h38
 ·have e:T=([],2):=by
   rw[hT];refine yF hok ?_;cases hms:dX im fr to with
  |false=>rfl
  |true=>rw[hZ,sQ (fx 0) hms] at h38;exact absurd rfl h38
  refine Gz 12 ?_;rw[←hT,e];exact⟨_,rfl,none,0,rfl,Zu,Zs,hf1⟩
 have hmay:dX im fr to=true:=by
  cases hms:dX im fr to with
 |true=>rfl
 |false=>rw[hZ] at h38;exact absurd (wI hms) h38
 refine Gz 12 ?_;refine WC i64 bP rfl ?_;intro w2 ho2 hs2 hf2;have hF2:=hf1.trans hf2;refine Gz 10 ?_;refine Wp (β:=(List Int×Int)×(Option Addr×Nat)) (fun⟨⟨os,q⟩,⟨oo,oc⟩⟩=>[(0,pT g),(1,iV many),(2,iV wide),(11,iV q),(12,.slice oo os.length oc),(13,iV os.length)]) (fun⟨⟨os,q⟩,⟨oo,oc⟩⟩ w=>TnI im fr to wide many.toNat os q∧Own i64 3 w.heap oo oc os∧Fr W.heap.size oo∧aA nob W w) (fun⟨⟨os,q⟩,⟨oo,oc⟩⟩=>many.toNat-os.length) ⟨⟨[],0⟩,⟨some ⟨w1.heap.size,0,none⟩,0⟩⟩ ⟨rfl,rfl,rfl,rfl,rfl,rfl,trivial⟩ ⟨TnI.zero,ho2,(cX _).mono hf1.size,hF2⟩ ?_;rintro⟨⟨os,q⟩,⟨oo,oc⟩⟩ w3 ⟨hI,hoo,hfro,hF3⟩;refine fK 5 ?_ ?_<;>intro h42
 ·have hlt:os.length<many.toNat:=by omega
  obtain⟨i1,i2,i3,i4⟩:=hI;have hI:TnI im fr to wide many.toNat os q:=⟨i1,i2,i3,i4⟩
  obtain⟨R,hR⟩:∃ R,R=aD im fr to q wide:=⟨_,rfl⟩
  refine Gz 1 ?_;refine aW [(0,_),(1,_),(2,_),(11,_),(12,_),(13,_),(42,_)] ?_;refine Gz 11 ?_;refine Wh oM rfl (lO g io ic im fr to q wide w3 (hM.ZM hF3) (by omega) (by omega) (by omega)) rfl ?_;rw[←hR];rintro _ w4 ⟨o4,c4,rfl,ho4,hfr4,hf4⟩;have hF4:=hF3.trans hf4;have hz4:=hf4.size;refine fK 13 ?_ ?_<;>intro h54
  ·have e:T=([],2):=by rw[hT];exact tP hok (hI.bad hlt (by rw[←hR];exact h54))
   refine Gz 17 ?_;rw[←hT,e];exact⟨_,rfl,none,0,rfl,Zu,Zs,hF4⟩
  have e54:R.2.2=0:=Z5.1 h54;have hl4:(R.1.length:Int)=wide:=by have:=e54;rw[hR] at this ⊢;exact(cJ this).2.2.2.1
  have hI5:=hI.next hlt (by omega) (by rw[←hR];exact e54)
  rw[←hR] at hI5;have ev:=wK (b:=R.1) (by omega) (by omega) hl4;refine Gz 8 ?_;refine cL (WA (cs:=#[.slice o4 R.1.length c4,iV 0]) wJ pK rfl (by kernel_rfl)) ?_;refine Wn pK rfl ?_;intro w5 hg5 hs5 hf5;refine sA rfl xA (by simp[Value.oneCell']) hg5 ?_;intro w6 hg6 hs6 hf6;obtain⟨p,hp⟩:∃ p,p=w4.heap.size:=⟨_,rfl⟩
  rw[←hp] at hg6 ⊢;have hf46:aA nob w4 w6:=hf5.tw hf6;have ho6:=ho4.ZM hf46;have hP6:RdR (fun k=>w3.heap.size≤k∧k<w6.heap.size) w6.heap p 0 R.1:=⟨o4,c4,hg6,ho6.vw,⟨by omega,by omega⟩,fun _=>⟨fun⟨a,ha,hb⟩=>by have h3:=ho4.lt a ha;omega,fun k ⟨a,ha,hb⟩=>by have h3:=ho4.lt a ha;have h4:=hfr4 a ha;omega⟩⟩
  refine Gz 6 ?_;refine Wh eD rfl (bT p 0 R.1 wide w6 hP6 (by omega)) rfl ?_;rintro _ w7 ⟨rfl,hP7,hf7⟩;rw[ev];have hf37:aA nob w3 w7:=(hf4.trans hf46).tw hf7;refine WS (enc:=i64) (u:=((bV R.1:Nat):Int)) bP (oK _) rfl rfl ?_;intro w8 ho8 hs8 hf8;have hf38:=hf37.trans hf8;refine Wq oK bP rfl rfl (hoo.ZM hf38) ho8.vw (by simp only[ZU];omega) (by simp only[ZU];unfold maxLen;omega) rfl ?_;intro o9 c9 w9 ho9 hf9 hr9 hn9;have hF9:aA nob W w9:=(hF3.trans hf38).ZJ hf9 hfro.step;refine Gz 14 ?_;refine Wz ⟨⟨os++[((bV R.1:Nat):Int)],R.2.1⟩,⟨o9,c9⟩⟩ ⟨rfl,rfl,rfl,rfl,rfl,?_,trivial⟩ ⟨hI5,ho9,aS hfro hr9 (hF3.trans hf38).size,hF9⟩ ?_
  · show some (Value.int .i64 ((os.length:Int)+1))=_
    rw[ZR,ZU];rfl
  · show many.toNat-(os++_).length<many.toNat-os.length
    rw[ZR,ZU];omega
 have hdn:=hI.done (by omega);obtain⟨i1,i2,i3,i4⟩:=hI;obtain⟨R,hR⟩:∃ R,R=aD im fr to q 1:=⟨_,rfl⟩
 refine Gz 1 ?_;refine aW [(0,_),(1,_),(2,_),(11,_),(12,_),(13,_),(42,_)] ?_;refine Gz 11 ?_;refine Wh oM rfl (lO g io ic im fr to q 1 w3 (hM.ZM hF3) (by omega) (by omega) (by decide)) rfl ?_;rw[←hR];rintro _ w4 ⟨o4,c4,rfl,ho4,hfr4,hf4⟩;have hF4:=hF3.trans hf4;refine fK 13 ?_ ?_<;>intro h71
 ·have e:T=([],2):=by rw[hT];exact qB hok hdn (by rw[←hR];exact h71)
  refine Gz 12 ?_;rw[←hT,e];exact⟨_,rfl,none,0,rfl,Zu,Zs,hF4⟩
 have e:T=(os,0):=by rw[hT];exact nQ hok hmay hdn (by rw[←hR];exact h71)
 refine Gz 14 ?_;rw[←hT,e];exact⟨_,rfl,oo,oc,rfl,hoo.ZM hf4,hfro,hF4⟩
theorem Li(X:List Xa)(ao bo:Option Addr)(ac bc:Nat)(W:World)(ha:XaV W.heap ao ac X)(hb:XaV W.heap bo bc X) :
 CA 98 [.slice ao X.length ac,.slice bo X.length bc] W fun v w'=>v=.bool true∧aA nob W w':=by
 have hl:=ha.ZL;refine cS 43 [(0,_),(1,_)] Tryz.func98 ?_;refine Gz 12 ?_;refine cL (W8 (W4 rfl rfl) (fun h=>h rfl)) ?_;refine Gz 12 ?_;refine Wp (β:=Nat) (fun k=>[(0,.slice ao X.length ac),(1,.slice bo X.length bc),(5,iV k)]) (fun k w=>k≤X.length∧aA nob W w) (fun k=>X.length-k) 0 ⟨rfl,rfl,rfl,trivial⟩ ⟨ZZ _,Zn _ _⟩ ?_;rintro k w ⟨hk,hF⟩;refine fK 6 ?_ ?_<;>intro h14
 ·obtain⟨xa,xc,hrow,hxv,hnl⟩:=(ha.ZM hF).at (i:=k) rfl (by omega);obtain⟨ya,yc,hrow2,hyv,_⟩:=(hb.ZM hF).at (i:=k) rfl (by omega);refine Gz 8 ?_;refine Ww 26 [0,1,2,3,4,5,6,7,8,9,10,11,12,13,14,15,16,17,18,19,20,21,22,23,24,25] aK (by kernel_rfl) ?_;refine Gz 2 ?_;refine xC rfl (Wj iC rfl rfl ha.non (by omega)) ?_;refine Gz 1 ?_;refine xC rfl (Wk gH rfl (hrow 0 _ rfl)) ?_;refine Gz 2 ?_;refine xC rfl (Wj iC rfl rfl hb.non (by omega)) ?_;refine Gz 1 ?_;refine xC rfl (Wk gH rfl (hrow2 0 _ rfl)) ?_;refine xC rfl (W8 (Xj rfl rfl) (fun h=>h rfl)) ?_;refine Gz 3 ?_;refine xV rfl (Wj iC rfl rfl ha.non (by omega)) ?_;refine Gz 1 ?_;refine xV rfl (Wk aX rfl (hrow 1 _ rfl)) ?_;refine xV rfl (WG aH ty5 ty9 rfl hxv) ?_;refine Gz 2 ?_;refine xV rfl (Wj iC rfl rfl hb.non (by omega)) ?_;refine Gz 1 ?_;refine xV rfl (Wk aX rfl (hrow2 1 _ rfl)) ?_;refine xV rfl (WG aH ty5 ty9 rfl hyv) ?_;refine xV rfl (W8 (Xj rfl rfl) (fun h=>h rfl)) ?_;refine Gz 12 ?_;exact aG (k+1) ⟨by omega,hF.draws 1⟩ (by show X.length-(k+1)<X.length-k;omega)
 refine Gz 15 ?_;exact⟨_,rfl,rfl,hF⟩
section
variable {P:Program}{N:Nt}{Q:Exit→Act→World→Prop}{l:SF}{w:World}{ops:Array Oper}{rest:List Oper}
variable {ty:TypeId}{pos:String}{aft:Array Edge}{d g:Nat}{x:Operand}{s:ByteArray}{p:Nat}
theorem Yj{t:TypeId}(ht:P.underlying t=some .string)(hx:evL l x=some (.string s))(hd:ba d N.n=true)
 (h:∀ w',w'.heap[w.heap.size]?=some (.stringIter s 0)→w'.heap.size=w.heap.size+1→aA nob w w'→Sl P N ops Q rest ((d,pT w.heap.size)::l) w') :
 Sl P N ops Q (⟨some d,.range t x,ty,pos,aft,none⟩::rest) l w:=by
 refine W2 (w':=w.alloc (.stringIter s 0)) (fun a ha=>?_) hd (h _ (heap_alloc_new w _) (by simp) (aA.alloc _ _ _));simp[execOp,ha.ev hx,Instr.range,run_underlying ht,newObj];rfl
theorem YR(hx:evL l x=some (pT g))(hg:w.heap[g]?=some (.stringIter s p))(hp:p<s.size)(hd:ba d N.n=true)
 (h:∀ w',w'.heap[g]?=some (.stringIter s (p+(Utf8.decode s p).2))→w'.heap.size=w.heap.size→aA (· = g) w w'→Sl P N ops Q rest ((d,.tuple #[.bool true,iV p,.int .i32 (Utf8.decode s p).1])::l) w') :
 Sl P N ops Q (⟨some d,.next x true,ty,pos,aft,none⟩::rest) l w:=by
 obtain⟨s1,s2,s3⟩:=yJ (o':=.stringIter s (p+(Utf8.decode s p).2)) hg;refine W2 (w':=ChangeMaps.setBlock w g (.stringIter s (p+(Utf8.decode s p).2))) (fun b hb=>?_) hd (h _ s1 s2 s3);simp[execOp,hb.ev hx,Instr.next,getObj,setObj,Sem.run,hg,hp,Result.andThen,ChangeMaps.setBlock,goInt]
theorem YS(hx:evL l x=some (pT g))(hg:w.heap[g]?=some (.stringIter s p))(hp:¬ p<s.size)(hd:ba d N.n=true)
 (h:Sl P N ops Q rest ((d,.tuple #[.bool false])::l) w) :
 Sl P N ops Q (⟨some d,.next x true,ty,pos,aft,none⟩::rest) l w:=by
 refine W2 (w':=w) (fun b hb=>?_) hd h;simp[execOp,hb.ev hx,Instr.next,getObj,Sem.run,hg,hp,Result.andThen]
end
theorem ND(s:By){i:Nat}(h:i<s.length):(bs s).get! i=s[i]:=by
 show (s.toArray)[i]! = _;rw[getElem!_pos s.toArray i (by simpa using h)];simp
theorem C5{s:By}{p:Nat}(hp:p<s.length) :
 1≤(Utf8.decode (bs s) p).2∧p+(Utf8.decode (bs s) p).2≤s.length∧(Utf8.decode (bs s) p).1<1114112 ∧
 ((s.getD p 0).toNat<128→(Utf8.decode (bs s) p).1=(s.getD p 0).toNat)∧(128≤(s.getD p 0).toNat→128≤(Utf8.decode (bs s) p).1) ∧
 ∀ k,p<k→k<p+(Utf8.decode (bs s) p).2→128≤(s.getD k 0).toNat:=by
 have hz:=pI s;have e0:(bs s).get! (p+0)=s.getD p 0:=by rw[Nat.add_zero,ND s hp];simp[Z2,hp]
 have ek:∀ k,p+k<s.length→(bs s).get! (p+k)=s.getD (p+k) 0:=fun k h=>by rw[ND s h];simp[Z2,h]
 have b0:=(s.getD p 0).toNat_lt;unfold Utf8.decode;simp only[e0,hz];by_cases h1:(s.getD p 0).toNat<0x80
 · rw[ZP h1]
   exact⟨by simp,by simp;omega,by show (s.getD p 0).toNat<1114112;omega,fun _=>rfl,fun h=>by omega,fun k h2 h3=>by simp at h3;omega⟩
 · rw[ZO h1]
   have bad:∀ r:Nat×Nat,r=(Utf8.runeError,1)→1≤r.2∧p+r.2≤s.length∧r.1<1114112∧((s.getD p 0).toNat<128→r.1=(s.getD p 0).toNat)∧(128≤(s.getD p 0).toNat→128≤r.1)∧∀ k,p<k→k<p+r.2→128≤(s.getD k 0).toNat:=by
    rintro r rfl;exact⟨by simp,by simp;omega,by simp[Utf8.runeError],fun h=>by omega,fun h=>by simp[Utf8.runeError],fun k h2 h3=>by simp at h3;omega⟩
   have cont:∀ k,(decide (p+k<s.length) && ((bs s).get! (p+k)).toNat/64 == 2)=true→p+k<s.length∧128≤(s.getD (p+k) 0).toNat:=fun k h=>by
    simp only[ag,decide_eq_true_eq,beq_iff_eq] at h;have:=h.2;rw[ek k h.1] at this;exact⟨h.1,by omega⟩
   split
   · rename_i h2
     rw[ag] at h2;obtain⟨c1,d1⟩:=cont 1 h2.2
     split
     · rename_i h3
       refine⟨by simp,by simp;omega,?_,fun h=>by omega,fun _=>h3,fun k h4 h5=>?_⟩
       ·show _<1114112;omega
       · have h5:k<p+2:=h5
         have:k=p+1:=by omega
         subst this;exact d1
     ·exact bad _ rfl
   · split
     · rename_i h2
       simp only[ag] at h2;obtain⟨c1,d1⟩:=cont 1 (by simpa using h2.1.2);obtain⟨c2,d2⟩:=cont 2 (by simpa using h2.2)
       split
       · rename_i h3
         simp only[ag,decide_eq_true_eq] at h3;refine⟨by simp,by simp;omega,?_,fun h=>by omega,fun _=>aj (by decide) h3.1,fun k h4 h5=>?_⟩
         ·show _<1114112;omega
         · have h5:k<p+3:=h5
           rcases(by omega:k=p+1∨k=p+2) with rfl|rfl
           ·exact d1
           ·exact d2
       ·exact bad _ rfl
     · split
       · rename_i h2
         simp only[ag] at h2;obtain⟨c1,d1⟩:=cont 1 (by simpa using h2.1.1.2);obtain⟨c2,d2⟩:=cont 2 (by simpa using h2.1.2);obtain⟨c3,d3⟩:=cont 3 (by simpa using h2.2)
         split
         · rename_i h3
           simp only[ag,decide_eq_true_eq,ge_iff_le] at h3;refine⟨by simp,by simp;omega,?_,fun h=>by omega,fun _=>aj (by decide) h3.1,fun k h4 h5=>?_⟩
           · have h6:=h3.2
             simp only[Utf8.valid,ew,ag,decide_eq_true_eq] at h6;show _<1114112;omega
           · have h5:k<p+4:=h5
             rcases(by omega:k=p+1∨k=p+2∨k=p+3) with rfl|rfl|rfl
             ·exact d1
             ·exact d2
             ·exact d3
         ·exact bad _ rfl
       ·exact bad _ rfl
def vM(s:By)(p:Nat):Prop:=∀ k,k<p→s.getD k 0≠0∧s.getD k 0≠47
theorem Hi{s:By}{p:Nat}(hp:p<s.length)(h:vM s p)(h0:(Utf8.decode (bs s) p).1≠0)(h47:(Utf8.decode (bs s) p).1≠47):vM s (p+(Utf8.decode (bs s) p).2):=by
 obtain⟨r1,r2,r3,r4,r5,r6⟩:=C5 hp;intro k hk;by_cases hkp:k<p
 ·exact h k hkp
 by_cases hkp2:k=p
 · subst hkp2
   by_cases hlt:(s.getD k 0).toNat<128
   · have e:=r4 hlt
     exact⟨fun h=>h0 (by rw[e,h];rfl),fun h=>h47 (by rw[e,h];rfl)⟩
   ·exact⟨fun h=>by rw[h] at hlt;exact hlt (by decide),fun h=>by rw[h] at hlt;exact hlt (by decide)⟩
 · have:=r6 k (by omega) hk
   exact⟨fun h=>by rw[h] at this;revert this;decide,fun h=>by rw[h] at this;revert this;decide⟩
theorem CO{s:By}{p:Nat}(hp:p<s.length){c:UInt8}(hc:c.toNat<128)(h:(Utf8.decode (bs s) p).1=c.toNat):c∈s:=by
 obtain⟨r1,r2,r3,r4,r5,r6⟩:=C5 hp;by_cases hlt:(s.getD p 0).toNat<128
 · have e:=r4 hlt
   have:s.getD p 0=c:=dn.1 (by omega);rw[←this];simp[Z2,hp]
 ·have:=r5 (by omega);omega
theorem CP{s:By}(h:vM s s.length):(0:UInt8)∉s∧(47:UInt8)∉s:=by
 constructor
 · intro hm
   obtain⟨i,hi,e⟩:=cf hm;exact(h i hi).1 (by simp[Z2,hi,e])
 · intro hm
   obtain⟨i,hi,e⟩:=cf hm;exact(h i hi).2 (by simp[Z2,hi,e])
def fP(s:By):Int:=if 255<s.length then 23 else if s=[]∨s=[46]∨s=[46,46]∨(0:UInt8)∈s∨(47:UInt8)∈s then 22 else 0
theorem oV{s:By}(h:fP s=0):s.length≤255∧s≠[]∧(0:UInt8)∉s∧(47:UInt8)∉s:=by
 unfold fP at h
 split at h
 ·simp at h
 · split at h
   ·simp at h
   · rename_i h1 h2
     simp only[not_or] at h2;exact⟨by omega,h2.1,h2.2.2.2.1,h2.2.2.2.2⟩
def kN:List By→Int
|[]=>0
|s::r=>if fP s=0 then kN r else fP s
theorem sV:∀ {A B:List By},(∀ s∈A,fP s=0)→kN (A++B)=kN B
|[],B,_=>rfl
|a::A,B,h=>by
   show (if fP a=0 then kN (A++B) else fP a)=_;rw[ZP (h a (by simp)),sV (fun s hs=>h s (by simp[hs]))]
theorem JQ{A B:List By}{s:By}(h:∀ s∈A,fP s=0)(hs:fP s≠0):kN (A++s::B)=fP s:=by
 rw[sV h];show (if fP s=0 then _ else _)=_;rw[ZO hs]
theorem An{A:List By}(h:∀ s∈A,fP s=0):kN A=0:=by
 have:=sV (B:=[]) h;rw[bp] at this;exact this
theorem Fa{A:List By}(h:kN A=0):∀ s∈A,fP s=0:=by
 induction A with
|nil=>simp
|cons a A ih=>
   have h:(if fP a=0 then kN A else fP a)=0:=h;by_cases ha:fP a=0
   · rw[ZP ha] at h
     intro s hs;rcases aw.1 hs with rfl|hs
     ·exact ha
     ·exact ih h s hs
   ·rw[ZO ha] at h;exact absurd h ha
def jE(l:List Nd):List By:=l.flatMap (·.names)
theorem L7{l:List Nd}{n:Nd}{i k:Nat}{s:By}(hn:l[i]?=some n)(hs:n.names[k]?=some s)(h1:∀ s∈jE (l.take i),fP s=0)(h2:∀ s∈n.names.take k,fP s=0)(h3:fP s≠0):kN (jE l)=fP s:=by
 have e1:l=l.take i++n::l.drop (i+1):=by rw[←(ZS.1 hn).2,List.getElem_cons_drop,ay]
 have e2:n.names=n.names.take k++s::n.names.drop (k+1):=by rw[←(ZS.1 hs).2,List.getElem_cons_drop,ay]
 have e3:jE l=(jE (l.take i)++n.names.take k)++s::(n.names.drop (k+1)++jE (l.drop (i+1))):=by
  conv=>lhs;rw[e1]
  simp only[jE,fk,cq]
  conv=>lhs;rw[e2]
  simp
 rw[e3];exact JQ (fun s hs=>(an.1 hs).elim (h1 s) (h2 s)) h3
theorem tkL{α:Type}{l:List α}{i:Nat}{x:α}(h:l[i]?=some x):l.take (i+1)=l.take i++[x]:=by
 rw[am (ZS.1 h).1,(ZS.1 h).2]
theorem Ho(l:List Nd)(n:Nd):jE (l++[n])=jE l++n.names:=by simp[jE]
def okT(n:Nd):Prop:=if n.kind=3 then n.tgt≠[]∧n.tgt.length≤200∧(0:UInt8)∉n.tgt else n.tgt=[]
instance (n:Nd):Decidable (okT n):=by unfold okT;exact inferInstance
def sW(n:Nd):Prop:=(1≤n.kind∧n.kind≤3)∧n.opq=false∧(0≤n.md∧n.md≤511)∧(0≤n.ud∧n.ud≤65535)∧(0≤n.gd∧n.gd≤65535)∧(n.kind=2∨n.data=[])∧n.data.length≤4096∧okT n∧fB n.xs
instance (n:Nd):Decidable (sW n):=by unfold sW;exact inferInstance
def Alk(a b:Nd):Prop:=a.kind=b.kind∧(a.md=b.md∧a.ud=b.ud∧a.gd=b.gd)∧a.tgt=b.tgt∧a.opq=b.opq∧a.data=b.data∧a.xs=b.xs
instance (a b:Nd):Decidable (Alk a b):=by unfold Alk;exact inferInstance
theorem ZI(a:Nd):Alk a a:=⟨rfl,⟨rfl,rfl,rfl⟩,rfl,rfl,rfl,rfl⟩
theorem Alk.symm{a b:Nd}(h:Alk a b):Alk b a:=⟨h.1.symm,⟨h.2.1.1.symm,h.2.1.2.1.symm,h.2.1.2.2.symm⟩,h.2.2.1.symm,h.2.2.2.1.symm,h.2.2.2.2.1.symm,h.2.2.2.2.2.symm⟩
def eQ(l:List Nd):Prop:=¬ l.Pairwise fun a b=>a.names≠b.names
def jA(l:List Nd)(s:List By):Prop:=∃ n∈l,n.names=s∧n.kind=1
def qW(b a:Nd):Prop:=a.ino=b.ino→a.kind≠1∧Alk a b
instance (b a:Nd):Decidable (qW b a):=by unfold qW;exact inferInstance
instance (l:List Nd):Decidable (eQ l):=by unfold eQ;exact inferInstance
instance (l:List Nd)(s:List By):Decidable (jA l s):=by unfold jA;exact inferInstance
def chk(l:List Nd):Int:=
 if 1024<l.length then 3 else if kN (jE l)≠0 then kN (jE l) else if ∃ n∈l,16<n.names.length then 9 else if eQ l then 6
 else if ¬ jA l [] then 4 else if ∃ n∈l,n.names≠[]∧¬ jA l n.names.dropLast then 5 else if ∃ n∈l,¬ sW n then 7 else if l.Pairwise qW then 0 else 8
theorem BB{s:By}(h:(255:Int)<s.length):fP s=23:=by unfold fP;rw[ZP (by omega)]
theorem iA{s:By}(h:¬ (255:Int)<s.length)(h2:s=[]∨s=[46]∨s=[46,46]∨(0:UInt8)∈s∨(47:UInt8)∈s):fP s=22:=by unfold fP;rw[ZO (by omega),ZP h2]
theorem BC{s:By}(h:¬ (255:Int)<s.length)(h1:¬ s=[])(h2:¬ s=[46])(h3:¬ s=[46,46])(h4:(0:UInt8)∉s∧(47:UInt8)∉s):fP s=0:=by
 unfold fP;rw[ZO (by omega),ZO (fun e=>e.elim h1 fun e=>e.elim h2 fun e=>e.elim h3 fun e=>e.elim h4.1 h4.2)]
theorem KP(s:By)(W:World)(hs:s.length≤maxLen):CA 167 [.string (bs s)] W fun v w'=>v=iV (fP s)∧aA nob W w':=by
 refine cS 31 [(0,_)] Tryz.func167 ?_;refine Gz 10 ?_;refine cL (WM ty9 rfl) ?_;refine fK 0 ?_ ?_<;>intro h8
 ·refine Gz 13 ?_;exact⟨_,rfl,by rw[BB h8],Zn _ _⟩
 refine fK 7 ?_ ?_<;>intro h11
 ·refine Gz 21 ?_;exact⟨_,rfl,by rw[iA h8 (.inl h11)],Zn _ _⟩
 refine fW 2 ?_ ?_<;>intro h14
 ·refine Gz 18 ?_;exact⟨_,rfl,by rw[iA h8 (.inr (.inl h14))],Zn _ _⟩
 refine fW 3 ?_ ?_<;>intro h18
 ·refine Gz 14 ?_;exact⟨_,rfl,by rw[iA h8 (.inr (.inr (.inl h18)))],Zn _ _⟩
 refine Gz 12 ?_;refine Yj ty9 rfl rfl ?_;intro w1 hg1 hs1 hf1;obtain⟨g,hg⟩:∃ g,g=W.heap.size:=⟨_,rfl⟩
 rw[←hg] at hg1 ⊢;refine Gz 3 ?_;refine Wp (β:=Nat) (fun p=>[(0,.string (bs s)),(21,pT g)]) (fun p w=>w.heap[g]?=some (.stringIter (bs s) p)∧p≤s.length∧vM s p∧aA nob W w) (fun p=>s.length-p) 0 ⟨rfl,rfl,trivial⟩ ⟨hg1,ZZ _,fun k hk=>by omega,hf1⟩ ?_;rintro p w2 ⟨hg2,hp,hcl,hF2⟩;refine Gz 2 ?_;by_cases h22:p<(bs s).size
 ·refine YR rfl hg2 h22 rfl ?_;intro w3 hg3 hs3 hf3;have hpl:p<s.length:=by rw[pI] at h22;exact h22
  obtain⟨r1,r2,r3,r4,r5,r6⟩:=C5 hpl;refine fK 17 ?_ ?_<;>intro h26
  ·have hb:fP s=22:=iA h8 (.inr (.inr (.inr (.inl (CO hpl (c:=0) (by decide) (by show _=0;omega))))));refine Gz 18 ?_;exact⟨_,rfl,by rw[hb],hF2.ZJ hf3 (fun k e=>.inr (by have e:k=g:=e;omega))⟩
  refine fW 2 ?_ ?_<;>intro h29
  ·have hb:fP s=22:=iA h8 (.inr (.inr (.inr (.inr (CO hpl (c:=47) (by decide) (by show _=47;omega))))));refine Gz 15 ?_;exact⟨_,rfl,by rw[hb],hF2.ZJ hf3 (fun k e=>.inr (by have e:k=g:=e;omega))⟩
  refine Gz 6 ?_;have hF3:aA nob W w3:=hF2.ZJ hf3 (fun k e=>.inr (by have e:k=g:=e;omega));exact aG (p+(Utf8.decode (bs s) p).2) ⟨hg3,r2,Hi hpl hcl (by omega) (by omega),hF3⟩ (by show s.length-(p+(Utf8.decode (bs s) p).2)<s.length-p;omega)
 refine YS rfl hg2 h22 rfl ?_;have hpe:p=s.length:=by rw[pI] at h22;omega
 subst hpe;refine Gz 17 ?_;exact⟨_,rfl,by rw[BC h8 h11 h14 h18 (CP hcl)],hF2⟩
theorem BP(s:By)(W:World)(hs:s.length≤maxLen):CA 104 [.string (bs s)] W fun v w'=>v=iV (fP s)∧w'=W:=by
 have hl:(s.length:Int)≤9223372036854775807:=by unfold maxLen at hs;omega
 refine cS 33 [(0,_)] Tryz.func104 ?_;refine Gz 9 ?_;refine cL (WM ty9 rfl) ?_;refine fK 0 ?_ ?_<;>intro h6
 ·refine Gz 11 ?_;exact⟨_,rfl,by rw[BB h6],rfl⟩
 refine Gz 12 ?_;refine Wp (β:=Nat) (fun k=>[(0,.string (bs s)),(3,iV k)]) (fun k w=>k≤s.length∧vM s k∧w=W) (fun k=>s.length-k) 0 ⟨rfl,rfl,trivial⟩ ⟨ZZ _,fun k hk=>by omega,rfl⟩ ?_;rintro k w2 ⟨hk,hcl,hw2⟩;subst hw2;refine Gz 5 ?_;refine cL (WM ty9 rfl) ?_;refine fK 0 ?_ ?_<;>intro h10
 ·refine Gz 11 ?_;refine cL (XQ ty9 rfl rfl (by omega)) ?_;refine fK 0 ?_ ?_<;>intro h16
  ·have hm:(0:UInt8)∈s:=by have e:s.getD k 0=0:=dn.1 (by have h16:((s.getD ((k:Int)).toNat 0).toNat:Int)=0:=h16;have e2:((k:Int)).toNat=k:=rfl;rw[e2] at h16;show _=0;omega);have hk2:k<s.length:=(by omega);rw[Z2,ZQ hk2] at e;rw[←e];exact bm hk2
   refine Gz 21 ?_;exact⟨_,rfl,by rw[iA h6 (.inr (.inr (.inr (.inl hm))))],rfl⟩
  have g1:s.getD k 0≠0:=by intro e;apply h16;show ((s.getD k 0).toNat:Int)=0;rw[e];rfl
  refine Gz 3 ?_;refine cW (XQ ty9 rfl rfl (by omega)) ?_;refine fW 0 ?_ ?_<;>intro h21
  ·have hm:(47:UInt8)∈s:=by have e:s.getD k 0=47:=dn.1 (by have h21:((s.getD ((k:Int)).toNat 0).toNat:Int)=47:=h21;have e2:((k:Int)).toNat=k:=rfl;rw[e2] at h21;show _=47;omega);have hk2:k<s.length:=(by omega);rw[Z2,ZQ hk2] at e;rw[←e];exact bm hk2
   refine Gz 16 ?_;exact⟨_,rfl,by rw[iA h6 (.inr (.inr (.inr (.inr hm))))],rfl⟩
  have g2:s.getD k 0≠47:=by intro e;apply h21;show ((s.getD k 0).toNat:Int)=47;rw[e];rfl
  refine Gz 12 ?_;refine aG (k+1) ⟨by omega,fun i hi=>?_,rfl⟩ (by show s.length-(k+1)<s.length-k;omega);by_cases hik:i=k
  ·subst hik;exact⟨g1,g2⟩
  ·exact hcl i (by omega)
 refine fK 12 ?_ ?_<;>intro h24
 ·refine Gz 19 ?_;exact⟨_,rfl,by rw[iA h6 (.inl h24)],rfl⟩
 refine fW 2 ?_ ?_<;>intro h27
 ·refine Gz 16 ?_;exact⟨_,rfl,by rw[iA h6 (.inr (.inl h27))],rfl⟩
 refine fW 3 ?_ ?_<;>intro h31
 ·refine Gz 12 ?_;exact⟨_,rfl,by rw[iA h6 (.inr (.inr (.inl h31)))],rfl⟩
 refine Gz 13 ?_;have hke:k=s.length:=by omega
 subst hke;exact⟨_,rfl,by rw[BC h6 h24 h27 h31 (CP hcl)],rfl⟩
section
theorem Wb(a:Addr)(i j:Nat):(a.add i).add j=a.add (i+j):=Addr.add_add a i j
theorem Mt{α:Type}{a b:List α}(hl:a.length=b.length){k:Nat}(hk:a.length≤k)(d:α)(h:∀ i,i<k→i<a.length→a.getD i d=b.getD i d):a=b:=by
 apply List.ext_getElem hl;intro i h1 h2;have:=h i (by omega) h1;simpa[Z2,h1,h2] using this
theorem Ew(ao bo:Option Addr)(ac bc:Nat)(a b:List By)(W:World)(ha:Vw xT W.heap ao ac a)(hb:Vw xT W.heap bo bc b) :
 CA 45 [.slice ao a.length ac,.slice bo b.length bc] W fun v w'=>v=.bool (decide (a=b))∧aA nob W w':=by
 have h63:=ha.ZL;refine cS 26 [(0,_),(1,_)] Tryz.func45 ?_;refine fK 12 ?_ ?_<;>intro h10
 ·refine Gz 11 ?_;exact⟨_,rfl,by rw[ZV (fun e=>by subst e;exact h10 rfl)],Zn _ _⟩
 refine Gz 12 ?_;refine Wp (β:=Nat) (fun k=>[(0,.slice ao a.length ac),(1,.slice bo b.length bc),(5,iV k)]) (fun k w=>k≤a.length∧(∀ i,i<k→i<a.length→a.getD i []=b.getD i [])∧aA nob W w) (fun k=>a.length-k) 0 ⟨rfl,rfl,rfl,trivial⟩ ⟨ZZ _,fun i hi=>by omega,Zn _ _⟩ ?_;rintro k w2 ⟨hk,hsm,hF2⟩;refine fK 6 ?_ ?_<;>intro h14
 ·have hka:k<a.length:=by omega
  have hkb:k<b.length:=by omega
  have ha2:=ha.ZM hF2;have hb2:=hb.ZM hF2;refine Gz 8 ?_;refine Ww 9 [0,1,2,3,4,5,6,7,8] aK (by kernel_rfl) ?_;refine Gz 2 ?_;refine xC rfl (Wi vX rfl rfl ha2.non (by omega)) ?_;refine xC rfl (Wk gH rfl (ha2.get k (a.getD k []) (by simp[Z2,hka]))) ?_;refine Gz 2 ?_;refine xC rfl (Wi vX rfl rfl hb2.non (by omega)) ?_;refine xC rfl (Wk gH rfl (hb2.get k (b.getD k []) (by simp[Z2,hkb]))) ?_;refine xK 0 ?_ ?_<;>intro h25
  ·refine Gz 15 ?_;exact⟨_,rfl,by rw[ZV (fun e=>h25 (by rw[e]))],hF2.draws 1⟩
  refine Gz 11 ?_;refine aG (k+1) ⟨by omega,fun i hi hia=>?_,hF2.draws 1⟩ (by show a.length-(k+1)<a.length-k;omega);by_cases hik:i=k
  ·subst hik;exact br.1 h25
  ·exact hsm i (by omega) hia
 refine Gz 15 ?_;exact⟨_,rfl,by rw[Z3 (Mt (by omega) (k:=k) (by omega) [] hsm)],hF2⟩
def jX(ps:List (NdH×Nd))(s:List By):Int:=match ps.findIdx? (fun p=>decide (p.2.names=s)) with|some i=>i|none=>-1
theorem Kg{ps:List (NdH×Nd)}{s:List By}{i:Nat}{p:NdH×Nd}(hp:ps[i]?=some p)(h1:p.2.names=s)(h2:∀ j q,j<i→ps[j]?=some q→q.2.names≠s):jX ps s=i:=by
 have hi:=(ZS.1 hp).1;have:ps.findIdx? (fun p=>decide (p.2.names=s))=some i:=by
  rw[cw];refine⟨hi,by rw[(ZS.1 hp).2];exact Z3 h1,fun j hj=>?_⟩;have:=h2 j _ hj (ZQ (by omega));simpa using this
 unfold jX;rw[this]
theorem AQ{ps:List (NdH×Nd)}{s:List By}(h:∀ p∈ps,p.2.names≠s):jX ps s = -1:=by
 have:ps.findIdx? (fun p=>decide (p.2.names=s))=none:=by
  rw[dk];intro p hp;exact ZV (h p hp)
 unfold jX;rw[this]
theorem kH(ps:List (NdH×Nd))(s:List By):(jX ps s = -1∧∀ p∈ps,p.2.names≠s)∨∃ (i:Nat) (p:NdH×Nd),jX ps s=i∧ps[i]?=some p∧p.2.names=s∧∀ j q,j<i→ps[j]?=some q→q.2.names≠s:=by
 by_cases h:∃ p∈ps,p.2.names=s
 · right
   obtain⟨i,hi⟩:∃ i,ps.findIdx? (fun p=>decide (p.2.names=s))=some i:=by
    cases hf:ps.findIdx? (fun p=>decide (p.2.names=s)) with
   |some i=>exact⟨i,rfl⟩
   |none=>
      rw[dk] at hf;obtain⟨p,hp,e⟩:=h;have:=hf p hp;simp[e] at this
   obtain⟨h1,h2,h3⟩:=cw.1 hi;refine⟨i,ps[i],by unfold jX;rw[hi],ZQ h1,by simpa using h2,fun j q hj hq=>?_⟩;have:=h3 j hj;rw[(ZS.1 hq).2] at this;simpa using this
 · left
   have h':∀ p∈ps,p.2.names≠s:=fun p hp e=>h ⟨p,hp,e⟩;exact⟨AQ h',h'⟩
variable {D:Nat→Prop}
theorem EB(lo:Option Addr)(lc:Nat)(ps:List (NdH×Nd))(so:Option Addr)(sc:Nat)(s:List By)(W:World)(hv:dG D W.heap lo lc ps)(hs:Vw xT W.heap so sc s) :
 CA 124 [.slice lo ps.length lc,.slice so s.length sc] W fun v w'=>v=iV (jX ps s)∧aA nob W w':=by
 have h63:=hv.1.ZL;refine cS 22 [(0,_),(1,_)] Tryz.func124 ?_;refine Gz 12 ?_;refine Wp (β:=Nat) (fun k=>[(0,.slice lo ps.length lc),(1,.slice so s.length sc),(5,iV k)]) (fun k w=>k≤ps.length∧(∀ j q,j<k→ps[j]?=some q→q.2.names≠s)∧aA nob W w) (fun k=>ps.length-k) 0 ⟨rfl,rfl,rfl,trivial⟩ ⟨ZZ _,fun i q hi=>by omega,Zn _ _⟩ ?_;rintro k w2 ⟨hk,hno,hF2⟩;refine fK 6 ?_ ?_<;>intro h10
 ·obtain⟨p,hp⟩:∃ p,ps[k]?=some p:=⟨_,ZQ (by omega)⟩
  have hv2:=hv.ZM hF2;have hn2:=(hv2.2 p (ZW hp)).1;obtain⟨p1,p2⟩:=p;refine Gz 11 ?_;refine cL (Wj bR rfl rfl hv2.1.non (by omega)) ?_;refine Gz 1 ?_;refine cL (Wk lY rfl (hv2.1.rowZ k rfl hp 0 _ rfl)) ?_;refine Gz 1 ?_;refine Wh R9 rfl ((by show Calls _ _ [Value.slice p1.names.a p1.names.n p1.names.c,_].toArray _ _;rw[hn2.1];exact Ew p1.names.a so p1.names.c sc p2.names s w2 hn2.2.1 (hs.ZM hF2))) rfl ?_;rintro _ w3 ⟨rfl,hf3⟩;by_cases h19:p2.names=s
  ·rw[Z3 h19];refine Gz 22 ?_;exact⟨_,rfl,by rw[Kg hp h19 hno],hF2.trans hf3⟩
  rw[ZV h19];refine Gz 17 ?_;refine aG (k+1) ⟨by omega,fun j q hj hq=>?_,hF2.trans hf3⟩ (by show ps.length-(k+1)<ps.length-k;omega);by_cases hjk:j=k
  ·subst hjk;rw[hp] at hq;cases hq;exact h19
  ·exact hno j q (by omega) hq
 have hke:k=ps.length:=by omega
 subst hke;refine Gz 15 ?_;refine⟨_,rfl,?_,hF2⟩;rw[AQ (fun q hq=>by obtain⟨j,hj⟩:=ab hq;exact hno j q (ZS.1 hj).1 hj)]
def nL(ps:List (NdH×Nd))(s:List By):Prop:=0≤jX ps s∧(ps.getD (jX ps s).toNat (Dk,nd0)).2.kind=1
instance (ps:List (NdH×Nd))(s:List By):Decidable (nL ps s):=by unfold nL;exact inferInstance
theorem sZ(ps:List (NdH×Nd))(s:List By):nL ps s↔∃ (i:Nat) (p:NdH×Nd),jX ps s=i∧ps[i]?=some p∧p.2.kind=1:=by
 rcases kH ps s with⟨h1,h2⟩|⟨i,p,h1,h2,h3,h4⟩
 · constructor
   ·intro h;have:=h.1;omega
   ·rintro⟨i,p,e,_⟩;omega
 · have e:ps.getD (jX ps s).toNat (Dk,nd0)=p:=by rw[h1,Z2,ak,h2];rfl
   constructor
   ·intro h;exact⟨i,p,h1,h2,by rw[←e];exact h.2⟩
   · rintro⟨j,q,e1,hq,hk⟩
     have:j=i:=by omega
     subst this;rw[h2] at hq;cases hq;exact⟨by omega,by rw[e];exact hk⟩
theorem BW(lo:Option Addr)(lc:Nat)(ps:List (NdH×Nd))(so:Option Addr)(sc:Nat)(s:List By)(W:World)(hv:dG D W.heap lo lc ps)(hs:Vw xT W.heap so sc s) :
 CA 87 [.slice lo ps.length lc,.slice so s.length sc] W fun v w'=>v=.bool (decide (nL ps s))∧aA nob W w':=by
 have hsp:=kH ps s;obtain⟨F,hF⟩:∃ F,F=jX ps s:=⟨_,rfl⟩
 refine cS 19 [(0,_),(1,_)] Tryz.func87 ?_;refine cA 9 Qd (EB lo lc ps so sc s W hv hs) ?_;rintro _ w2 ⟨rfl,hf2⟩;rw[←hF] at hsp ⊢;refine fK 6 ?_ ?_<;>intro h10
 ·obtain⟨i,p,h1,hp,h3,h4⟩:∃ (i:Nat) (p:NdH×Nd),F=i∧ps[i]?=some p∧p.2.names=s∧∀ j q,j<i→ps[j]?=some q→q.2.names≠s:=hsp.resolve_left (fun h=>by have:=h.1;omega);have hil:=(ZS.1 hp).1;refine Gz 3 ?_;refine cW (Wj bR rfl rfl hv.1.non (by omega)) ?_;refine Gz 1 ?_;refine cW (Wk aF rfl ((hv.1.ZM hf2).rowZ i h1 hp 2 _ rfl)) ?_;refine fW 0 ?_ ?_<;>intro h17
  ·have hyes:nL ps s:=(sZ ps s).2 ⟨i,p,by rw[←hF];exact h1,hp,h17⟩;refine Gz 6 ?_;exact⟨_,rfl,by rw[Z3 hyes],hf2⟩
  have hno:¬ nL ps s:=fun h=>by
   obtain⟨j,q,e,hq,hk⟩:=(sZ ps s).1 h;rw[←hF,h1] at e;have e:i=j:=by omega
   subst e;rw[hp] at hq;cases hq;exact h17 hk
  refine Gz 6 ?_;exact⟨_,rfl,by rw[ZV hno],hf2⟩
 have hno:¬ nL ps s:=fun h=>by have:=h.1;rw[←hF] at this;omega
 refine Gz 13 ?_;exact⟨_,rfl,by rw[ZV hno],hf2⟩
end
section
def nmd(l:List Nd):Int:=if kN (jE l)≠0 then kN (jE l) else if ∃ n∈l,16<n.names.length then 9 else if eQ l then 6 else 0
def plc(l:List Nd):Int:=if 1024<l.length then 3 else if nmd l≠0 then nmd l else if ¬ jA l [] then 4 else if ∃ n∈l,n.names≠[]∧¬ jA l n.names.dropLast then 5 else 0
theorem lK(l:List Nd):chk l=if plc l≠0 then plc l else if ∃ n∈l,¬ sW n then 7 else if l.Pairwise qW then 0 else 8:=by
 unfold chk plc nmd;by_cases h1:1024<l.length
 ·simp[h1]
 · by_cases h2:kN (jE l)=0
   · by_cases h3:∃ n∈l,16<n.names.length
     ·simp[h1,h2,h3]
     · by_cases h4:eQ l
       ·simp[h1,h2,h3,h4]
       · by_cases h5:jA l []
         · by_cases h6:∃ n∈l,n.names≠[]∧¬ jA l n.names.dropLast
           ·simp[h1,h2,h3,h4,h5,h6]
           ·simp only[h1,h2,h3,h4,h5,h6,if_false,ne_eq,not_true_eq_false]
         ·simp[h1,h2,h3,h4,h5]
   ·simp[h1,h2]
abbrev nds(ps:List (NdH×Nd)):List Nd:=ps.map (·.2)
theorem jN{ps:List (NdH×Nd)}{i:Nat}{p:NdH×Nd}(h:ps[i]?=some p):(nds ps)[i]?=some p.2:=by simp[nds,h]
theorem lM(ps:List (NdH×Nd)):eQ (nds ps)↔∃ (i j:Nat) (p q:NdH×Nd),i<j∧ps[i]?=some p∧ps[j]?=some q∧p.2.names=q.2.names:=by
 unfold eQ;rw[bj];constructor
 · intro h
   simp only[Classical.not_forall] at h;obtain⟨i,j,h1,h2,h3,h4⟩:=h;rw[aa] at h1 h2;exact⟨i,j,ps[i],ps[j],h3,ZQ h1,ZQ h2,by simpa using h4⟩
 · rintro⟨i,j,p,q,h1,h2,h3,h4⟩ h
   have e2:=(ZS.1 h2)
   have e3:=(ZS.1 h3)
   refine h i j (by simpa using e2.1) (by simpa using e3.1) h1 ?_;simp only[List.getElem_map,e2.2,e3.2];exact h4
theorem Pg{ps:List (NdH×Nd)}{i:Nat}{p:NdH×Nd}(h:ps[i]?=some p):0≤jX ps p.2.names∧jX ps p.2.names≤i:=by
 rcases kH ps p.2.names with⟨h1,h2⟩|⟨j,q,h1,h2,h3,h4⟩
 ·exact absurd rfl (h2 p (ZW h))
 · refine⟨by omega,?_⟩
   by_cases hj:j≤i
   ·omega
   ·exact absurd rfl (h4 i p (by omega) h)
theorem KU{ps:List (NdH×Nd)}{i:Nat}{p:NdH×Nd}(h:ps[i]?=some p)(hf:jX ps p.2.names<i):eQ (nds ps):=by
 rcases kH ps p.2.names with⟨h1,h2⟩|⟨j,q,h1,h2,h3,h4⟩
 ·exact absurd rfl (h2 p (ZW h))
 ·exact(lM ps).2 ⟨j,i,q,p,by omega,h2,h,h3⟩
theorem IZ{ps:List (NdH×Nd)}(h:∀ (i:Nat) (p:NdH×Nd),ps[i]?=some p→¬ jX ps p.2.names<i):¬ eQ (nds ps):=by
 intro ht;obtain⟨i,j,p,q,h1,h2,h3,h4⟩:=(lM ps).1 ht;have:=(Pg h2).2;have g:=h j q h3;rw[←h4] at g;omega
theorem vH{ps:List (NdH×Nd)}(ht:¬ eQ (nds ps))(s:List By):nL ps s↔jA (nds ps) s:=by
 rw[sZ];constructor
 · rintro⟨i,p,h1,h2,h3⟩
   refine⟨p.2,ZW (jN h2),?_,h3⟩;rcases kH ps s with⟨g1,_⟩|⟨j,q,g1,g2,g3,_⟩
   ·omega
   · have:j=i:=by omega
     subst this;rw[h2] at g2;cases g2;exact g3
 · rintro⟨n,hn,h1,h2⟩
   obtain⟨i,hi⟩:=ab hn;obtain⟨p,hp,rfl⟩:∃ p,ps[i]?=some p∧p.2=n:=by
    simp only[nds,ax,ae] at hi;exact hi
   rcases kH ps s with⟨g1,g2⟩|⟨j,q,g1,g2,g3,g4⟩
   ·exact absurd h1 (g2 p (ZW hp))
   · have:j=i:=by
      apply ZY;intro hne;rcases Nat.lt_or_gt_of_ne hne with hlt|hgt
      ·exact ht ((lM ps).2 ⟨j,i,q,p,hlt,g2,hp,g3.trans h1.symm⟩)
      ·exact g4 i p hgt hp h1
     subst this;rw[hp] at g2;cases g2;exact⟨j,p,g1,hp,h2⟩
theorem tkN{ps:List (NdH×Nd)}{i:Nat}{p:NdH×Nd}(h:ps[i]?=some p):(nds ps).take (i+1)=(nds ps).take i++[p.2]:=tkL (jN h)
theorem NL{ps:List (NdH×Nd)}{i:Nat}{p:NdH×Nd}{R:Nd→Prop}(hp:ps[i]?=some p)(h:∀ n∈(nds ps).take i,R n)(hn:R p.2):∀ n∈(nds ps).take (i+1),R n:=by
 intro n hm;rw[tkN hp,an,ai] at hm;rcases hm with hm|rfl
 ·exact h n hm
 ·exact hn
variable {D:Nat→Prop}
theorem Ji(lo:Option Addr)(lc:Nat)(ps:List (NdH×Nd))(W:World)(hv:dG D W.heap lo lc ps)(hsm:∀ p∈ps,smN p.2) :
 CA 86 [.slice lo ps.length lc] W fun v w'=>v=iV (nmd (nds ps))∧aA nob W w':=by
 have h63:=hv.1.ZL;refine cS 64 [(0,_)] Tryz.func86 ?_;refine Gz 12 ?_;refine Wp (β:=Nat) (fun i=>[(0,.slice lo ps.length lc),(3,iV i)]) (fun i w=>i≤ps.length∧(∀ s∈jE ((nds ps).take i),fP s=0)∧aA nob W w) (fun i=>ps.length-i) 0 ⟨rfl,rfl,trivial⟩ ⟨ZZ _,by simp[jE],Zn _ _⟩ ?_;rintro i w2 ⟨hi,hok,hF2⟩;refine fK 6 ?_ ?_<;>intro h11
 ·have hil:i<ps.length:=by omega
  obtain⟨p,hp⟩:∃ p,ps[i]?=some p:=⟨_,ZQ hil⟩
  have hpm:=ZW hp;refine Gz 13 ?_;refine Wp (β:=Nat) (fun k=>[(0,.slice lo ps.length lc),(3,iV i),(4,iV k)]) (fun k w=>k≤p.2.names.length∧(∀ s∈p.2.names.take k,fP s=0)∧aA nob W w) (fun k=>p.2.names.length-k) 0 ⟨rfl,rfl,rfl,trivial⟩ ⟨ZZ _,by simp,hF2⟩ ?_;rintro k w3 ⟨hk,hok2,hF3⟩;refine Gz 6 ?_;have hv3:=hv.ZM hF3;have hn3:=(hv3.2 p hpm).1;refine cL (Wj bR rfl rfl hv3.1.non (by omega)) ?_;refine Gz 1 ?_;refine cL (Wk lY rfl (hv3.1.rowZ i rfl hp 0 _ rfl)) ?_;refine Gz 1 ?_;rw[hn3.1];refine fK 0 ?_ ?_<;>intro h21
  ·have hkl:k<p.2.names.length:=by omega
   have hl63:=hn3.2.1.ZL;obtain⟨s,hs⟩:∃ s,p.2.names[k]?=some s:=⟨_,ZQ hkl⟩
   refine Gz 11 ?_;refine cL (Wj bR rfl rfl hv3.1.non (by omega)) ?_;refine Gz 1 ?_;refine cL (Wk lY rfl (hv3.1.rowZ i rfl hp 0 _ rfl)) ?_;refine Gz 1 ?_;refine cL (Wi vX rfl rfl (by rw[hn3.1];exact hn3.2.1.non) (by have:=hn3.1;omega)) ?_;refine cL (Wk gH rfl (hn3.2.1.get k s hs)) ?_;refine cA 0 Qf (BP s w3 ((hsm p hpm).2.1 s (ZW hs))) ?_;rintro _ w4 ⟨rfl,rfl⟩;refine fK 6 ?_ ?_<;>intro h34
   ·refine Gz 20 ?_;have e:=L7 (jN hp) hs hok hok2 h34;refine⟨_,rfl,?_,hF3⟩;unfold nmd;rw[e,ZP h34]
   refine Gz 11 ?_;refine aG (k+1) ⟨by omega,fun t ht=>?_,hF3⟩ (by show p.2.names.length-(k+1)<p.2.names.length-k;omega);rw[tkL hs,an,ai] at ht;rcases ht with ht|rfl
   ·exact hok2 t ht
   ·exact br.1 h34
  have hke:k=p.2.names.length:=by omega
  subst hke;rw[be] at hok2;refine Gz 14 ?_;refine aG (i+1) ⟨by omega,fun s hs=>?_,hF3⟩ (by show ps.length-(i+1)<ps.length-i;omega);rw[tkN hp,Ho,an] at hs;exact hs.elim (hok s) (hok2 s)
 have hie:i=ps.length:=by omega
 subst hie;rw[Z4 (by simp)] at hok;refine Gz 15 ?_;have hz:kN (jE (nds ps))=0:=An hok;refine Wp (β:=Nat) (fun j=>[(0,.slice lo ps.length lc),(6,iV j)]) (fun j w=>j≤ps.length∧(∀ n∈(nds ps).take j,¬ 16<n.names.length)∧aA nob W w) (fun j=>ps.length-j) 0 ⟨rfl,rfl,trivial⟩ ⟨ZZ _,by simp,hF2⟩ ?_;rintro j w3 ⟨hj,hdp,hF3⟩;refine fK 6 ?_ ?_<;>intro h39
 ·have hjl:j<ps.length:=by omega
  obtain⟨p,hp⟩:∃ p,ps[j]?=some p:=⟨_,ZQ hjl⟩
  have hpm:=ZW hp;have hv3:=hv.ZM hF3;have hn3:=(hv3.2 p hpm).1;refine Gz 11 ?_;refine cL (Wj bR rfl rfl hv3.1.non (by omega)) ?_;refine Gz 1 ?_;refine cL (Wk lY rfl (hv3.1.rowZ j rfl hp 0 _ rfl)) ?_;refine Gz 1 ?_;rw[hn3.1];refine fK 0 ?_ ?_<;>intro h48
  ·refine Gz 15 ?_;refine⟨_,rfl,?_,hF3⟩;unfold nmd;rw[ZO (fun h=>h hz),ZP ⟨p.2,ZW (jN hp),by omega⟩]
  refine Gz 11 ?_;refine aG (j+1) ⟨by omega,fun n hn=>?_,hF3⟩ (by show ps.length-(j+1)<ps.length-j;omega);rw[tkN hp,an,ai] at hn;rcases hn with hn|rfl
  ·exact hdp n hn
  ·omega
 have hje:j=ps.length:=by omega
 subst hje;rw[Z4 (by simp)] at hdp;refine Gz 15 ?_;have hd:¬ ∃ n∈nds ps,16<n.names.length:=fun⟨n,hn,h⟩=>hdp n hn h;refine Wp (β:=Nat) (fun j=>[(0,.slice lo ps.length lc),(7,iV j)]) (fun j w=>j≤ps.length∧(∀ (i:Nat) (p:NdH×Nd),i<j→ps[i]?=some p→¬ jX ps p.2.names<i)∧aA nob W w) (fun j=>ps.length-j) 0 ⟨rfl,rfl,trivial⟩ ⟨ZZ _,fun i p hi=>by omega,hF3⟩ ?_;rintro j w3 ⟨hj,hno,hF3⟩;refine fK 6 ?_ ?_<;>intro h52
 ·have hjl:j<ps.length:=by omega
  obtain⟨p,hp⟩:∃ p,ps[j]?=some p:=⟨_,ZQ hjl⟩
  have hpm:=ZW hp;have hv3:=hv.ZM hF3;have hn3:=(hv3.2 p hpm).1;refine Gz 12 ?_;refine cL (Wj bR rfl rfl hv3.1.non (by omega)) ?_;refine Gz 1 ?_;refine cL (Wk lY rfl (hv3.1.rowZ j rfl hp 0 _ rfl)) ?_;refine Wh Qd rfl ((by show Calls _ _ [_,Value.slice p.1.names.a p.1.names.n p.1.names.c].toArray _ _;rw[hn3.1];exact EB lo lc ps p.1.names.a p.1.names.c p.2.names w3 hv3 hn3.2.1)) rfl ?_;rintro _ w4 ⟨rfl,hf4⟩;refine fK 1 ?_ ?_<;>intro h63
  ·refine Gz 15 ?_;refine⟨_,rfl,?_,hF3.trans hf4⟩;unfold nmd;rw[ZO (fun h=>h hz),ZO hd,ZP (KU hp h63)]
  refine Gz 11 ?_;refine aG (j+1) ⟨by omega,fun i q hi hq=>?_,hF3.trans hf4⟩ (by show ps.length-(j+1)<ps.length-j;omega);by_cases e:i=j
  ·subst e;rw[hp] at hq;cases hq;exact h63
  ·exact hno i q (by omega) hq
 have hje:j=ps.length:=by omega
 subst hje;refine Gz 15 ?_;refine⟨_,rfl,?_,hF3⟩;unfold nmd;rw[ZO (fun h=>h hz),ZO hd,ZO (IZ fun i p h=>hno i p (ZS.1 h).1 h)]
theorem Am{l:List Nd}(h:nmd l=0):(∀ s∈jE l,fP s=0)∧(∀ n∈l,n.names.length≤16)∧¬ eQ l:=by
 unfold nmd at h;by_cases h1:kN (jE l)=0
 · rw[ZO (fun g=>g h1)] at h
   by_cases h2:∃ n∈l,16<n.names.length
   ·rw[ZP h2] at h;simp at h
   · rw[ZO h2] at h
     by_cases h3:eQ l
     ·rw[ZP h3] at h;simp at h
     ·exact⟨Fa h1,fun n hn=>by have:¬ 16<n.names.length:=fun g=>h2 ⟨n,hn,g⟩;omega,h3⟩
 ·rw[ZP h1] at h;exact absurd h h1
theorem drop_take{α:Type}(l:List α):l.dropLast=l.take (l.length-1):=by rw[List.dropLast_eq_take]
theorem Gx(lo:Option Addr)(lc:Nat)(ps:List (NdH×Nd))(W:World)(hv:dG D W.heap lo lc ps)(hsm:∀ p∈ps,smN p.2) :
 CA 48 [.slice lo ps.length lc] W fun v w'=>v=iV (plc (nds ps))∧aA nob W w':=by
 have h63:=hv.1.ZL;have hll:(nds ps).length=ps.length:=by simp
 refine cS 43 [(0,_)] Tryz.func48 ?_;refine fK 10 ?_ ?_<;>intro h9
 ·refine Gz 11 ?_;refine⟨_,rfl,?_,Zn _ _⟩;unfold plc;rw[ZP (by omega)]
 refine cA 8 Vr (Ji lo lc ps W hv hsm) ?_;rintro _ w2 ⟨rfl,hf2⟩;refine fK 7 ?_ ?_<;>intro h13
 ·refine Gz 12 ?_;refine⟨_,rfl,?_,hf2⟩;unfold plc;rw[ZO (by omega),ZP h13]
 have hz:nmd (nds ps)=0:=br.1 h13;have hz3:=Am hz;refine Gz 8 ?_;refine Wh RZ rfl (BW lo lc ps none 0 [] w2 (hv.ZM hf2) (Zt 0 (ZZ _))) rfl ?_;rintro _ w3 ⟨rfl,hf3⟩;by_cases h16:nL ps []
 ·rw[Z3 h16];refine Gz 7 ?_;refine cL (WQ rfl) ?_;refine Gz 12 ?_;refine Wp (β:=Nat) (fun i=>[(0,.slice lo ps.length lc),(5,iV i)]) (fun i w=>i≤ps.length∧(∀ n∈(nds ps).take i,¬ (n.names≠[]∧¬ jA (nds ps) n.names.dropLast))∧aA nob W w) (fun i=>ps.length-i) 0 ⟨rfl,rfl,trivial⟩ ⟨ZZ _,by simp,hf2.trans hf3⟩ ?_;rintro i w4 ⟨hi,hok,hF4⟩;refine fK 6 ?_ ?_<;>intro h22
  ·have hil:i<ps.length:=by omega
   obtain⟨p,hp⟩:∃ p,ps[i]?=some p:=⟨_,ZQ hil⟩
   have hpm:=ZW hp;have hv4:=hv.ZM hF4;have hn4:=(hv4.2 p hpm).1;have hl63:=hn4.2.1.ZL;refine Gz 11 ?_;refine cL (Wj bR rfl rfl hv4.1.non (by omega)) ?_;refine Gz 1 ?_;refine cL (Wk lY rfl (hv4.1.rowZ i rfl hp 0 _ rfl)) ?_;refine Gz 7 ?_;rw[hn4.1];refine fK 0 ?_ ?_<;>intro h32
   ·refine Gz 5 ?_;rw[hn4.1];refine Gz 1 ?_;refine cW (Wm (u:=.slice p.1.names.a p.2.names.dropLast.length p.1.names.c) (WE vX rfl rfl (by have:=hn4.2.1.le;omega)) (by rw[bF,List.length_dropLast];congr 1;omega)) ?_;refine Wy rfl rfl RZ rfl (BW lo lc ps p.1.names.a p.1.names.c p.2.names.dropLast w4 hv4 (by rw[drop_take];exact hn4.2.1.take _)) rfl ?_;rintro _ w5 ⟨rfl,hf5⟩;by_cases h40:nL ps p.2.names.dropLast
    ·rw[Z3 h40];refine cW (WQ rfl) ?_;refine Gz 12 ?_;exact aG (i+1) ⟨by omega,NL hp hok (fun⟨_,h⟩=>h ((vH hz3.2.2 _).1 h40)),hF4.trans hf5⟩ (by show ps.length-(i+1)<ps.length-i;omega)
    rw[ZV h40];refine cW (WQ rfl) ?_;refine Gz 16 ?_;refine⟨_,rfl,?_,hF4.trans hf5⟩;unfold plc;rw[ZO (by omega),ZO (fun h=>h hz),ZO (fun h=>h ((vH hz3.2.2 _).1 h16)),ZP ⟨p.2,ZW (jN hp),fun e=>by rw[e] at h32;simp at h32,fun h=>h40 ((vH hz3.2.2 _).2 h)⟩]
   refine Gz 21 ?_;exact aG (i+1) ⟨by omega,NL hp hok (fun⟨h,_⟩=>h (dh.1 (by omega))),hF4⟩ (by show ps.length-(i+1)<ps.length-i;omega)
  have hie:i=ps.length:=by omega
  subst hie;rw[Z4 (by simp)] at hok;refine Gz 15 ?_;refine⟨_,rfl,?_,hF4⟩;unfold plc;rw[ZO (by omega),ZO (fun h=>h hz),ZO (fun h=>h ((vH hz3.2.2 _).1 h16)),ZO (fun⟨n,hn,h⟩=>hok n hn h)]
 rw[ZV h16];refine Gz 7 ?_;refine cL (WQ rfl) ?_;refine Gz 11 ?_;refine⟨_,rfl,?_,hf2.trans hf3⟩;unfold plc;rw[ZO (by omega),ZO (fun h=>h hz),ZP (fun h=>h16 ((vH hz3.2.2 _).2 h))]
end
section
def I8 (P:Program) (t e:TypeId):Bool:=match P.underlying t with
 | some (.struct fs)=>(match fs.toList with
   | [f0, f1, f2] => decide (f0.type = e ∧ f0.offset = 0 ∧ f0.name ≠ "_") && decide (f1.type = e ∧ f1.offset = 1 ∧ f1.name ≠ "_") && decide (f2.type = e ∧ f2.offset = 2 ∧ f2.name ≠ "_")
   | _=>false)
 | _=>false
theorem Oh{P:Program}{t e:TypeId}(h:I8 P t e=true)(he:P.underlying e=some (.int .i64))(hs:P.stoodInHeld t=false)(w:World)(a b c a' b' c':Int) :
 (gi 10000 t (.agg [iV a,iV b,iV c].toArray) (.agg [iV a',iV b',iV c'].toArray)).run P w=.ok (decide (a=a'∧b=b'∧c=c')) w:=by
 unfold I8 at h
 split at h
 · rename_i fs hu
   split at h
   · rename_i f0 f1 f2 hl
     simp only[ag,decide_eq_true_eq] at h;obtain⟨⟨⟨t0,o0,n0⟩,⟨t1,o1,n1⟩⟩,⟨t2,o2,n2⟩⟩:=h;have hf:P.fieldsOf t=fs:=by unfold Program.fieldsOf;rw[hu]
     rw[run_equalIn_struct w 9999 t _ _ (by rw[hf];exact hu) hs,hf,hl];have hp:∀ (cs:Array Value) (o:Nat) (v:Value),cs[o]?=some v→(part e cs o).run P w=.ok v w:=fun cs o v hv=>by
      simp[part,isAgg,run_underlying he,hv]
     have hq:∀ (x y:Int),(gi 9999 e (iV x) (iV y)).run P w=.ok (x == y) w:=fun x y=>run_equalIn_int w 9998 e .i64 .i64 x y he;simp only[Op.eqFields,n0,n1,n2,ne_eq,not_false_eq_true,if_true,t0,o0,t1,o1,t2,o2,Sem.run_bind];rw[hp _ 0 (iV a) rfl,Result.andThen_ok,hp _ 0 (iV a') rfl,Result.andThen_ok,hq,Result.andThen_ok];by_cases h1:a=a'
     · subst h1
       simp only[beq_self_eq_true,Bool.not_true,fz,if_false,Sem.run_bind,true_and];rw[hp _ 1 (iV b) rfl,Result.andThen_ok,hp _ 1 (iV b') rfl,Result.andThen_ok,hq,Result.andThen_ok];by_cases h2:b=b'
       · subst h2
         simp only[beq_self_eq_true,Bool.not_true,fz,if_false,Sem.run_bind,true_and];rw[hp _ 2 (iV c) rfl,Result.andThen_ok,hp _ 2 (iV c') rfl,Result.andThen_ok,hq,Result.andThen_ok];by_cases h3:c=c'
         ·subst h3;simp
         ·simp[h3]
       ·simp[h2]
     ·simp[h1]
   ·cases h
 ·cases h
section
variable {P:Program}{N:Nt}{l:SF}{ty t':TypeId}{pos:String}{aft:Array Edge}{dd:Option Nat}{g:Option (Nat×Bool)}{CH:Array Obj→Prop}{x y:Operand}{t e:TypeId}
theorem YT(h:I8 P t e=true)(he:P.underlying e=some (.int .i64))(hs:P.stoodInHeld t=false)(hg:P.eqGuardType P.depth t=false){a b c a' b' c':Int}(hx:evL l x=some (.agg [iV a,iV b,iV c].toArray))(hy:evL l y=some (.agg [iV a',iV b',iV c'].toArray)) :
 Cm P N CH l ⟨dd,.binOp .neq t x y t',ty,pos,aft,g⟩ (.bool (decide (¬ (a=a'∧b=b'∧c=c')))):=fun k w ha _=>by
 simp only[execOp,ha.ev hx,ha.ev hy,Sem.run_bind,run_eqGuard_agg w .neq t x y _ _ hg,Result.andThen_ok,run_neq_struct,Oh h he hs];simp
end
theorem stA:I8 Tryz.prog 43 3=true:=by kernel_rfl
theorem Qt:Tryz.prog.underlying 3=some (.int .i64):=by kernel_rfl
theorem RB:Tryz.prog.stoodInHeld 43=false:=by kernel_rfl
theorem Vi:Tryz.prog.eqGuardType Tryz.prog.depth 43=false:=by kernel_rfl
theorem aQ{H:Array Obj}{q:Nat}{cs ds:List Value}{T:TypeId}{fr:Nat×Nat}(h:H[q]?=some (.cells cs.toArray T fr))(o:Nat)(hd:(cs.drop o).take ds.length=ds):∀ (j:Nat) (v:Value),ds[j]?=some v→bK H (((⟨q,0,none⟩:Addr).add o).add j)=some v:=by
 intro j v hj;rw[Wb];refine aB h ?_;rw[←hd,ar] at hj
 split at hj
 ·rw[dc] at hj;exact hj
 ·cases hj
def Pi(n:Nd):List Value:=[iV n.md,iV n.ud,iV n.gd]
variable {D:Nat→Prop}
theorem Ol(p:NdH×Nd)(W:World)(hn:NdV D W.heap p)(hsm:smN p.2) :
 CA 49 [.agg (aV p).toArray] W fun v w'=>v=.bool (decide (sW p.2))∧aA nob W w':=by
 have no:∀ w',¬ sW p.2→aA nob W w'→Ret (fun v w'=>v=.bool (decide (sW p.2))∧aA nob W w') (.returned (.bool false)) w':=fun w' h f=>⟨_,rfl,by rw[ZV h],f⟩
 have yes:∀ w',(sW p.2↔fB p.2.xs)→aA nob W w'→Ret (fun v w'=>v=.bool (decide (sW p.2))∧aA nob W w') (.returned (.bool (decide (fB p.2.xs)))) w':=fun w' h f=>⟨_,rfl,congrArg _ (decide_eq_decide.2 h.symm),f⟩
 refine cS 95 [(0,_)] Tryz.func49 ?_;refine Gz 2 ?_;refine WO rfl rfl ?_;intro w1 hg1 hs1 hf1;obtain⟨g,hg⟩:∃ g,g=W.heap.size:=⟨_,rfl⟩
 rw[←hg] at hg1 hs1 ⊢
 replace hg1:w1.heap[g]?=some (.cells (aV p).toArray 68 (0,0)):=hg1
 refine fK 8 ?_ ?_<;>intro h7
 ·refine Gz 20 ?_;exact no _ (fun hm=>by have:=hm.1;omega) hf1
 refine fW 3 ?_ ?_<;>intro h11
 ·refine Gz 16 ?_;exact no _ (fun hm=>by have:=hm.1;omega) hf1
 refine Gz 3 ?_;refine WV rfl rfl (WK (Wk Jc rfl (aB hg1 rfl))) rfl (fun h15=>?_) (fun h15=>?_)
 ·refine Gz 12 ?_;exact no _ (fun hm=>by rw[hm.2.1] at h15;cases h15) hf1
 refine Gz 9 ?_;refine cL (Ws (cs:=Pi p.2) IN rfl (aQ hg1 3 rfl)) ?_;refine Wn Qm rfl ?_;intro w2 hg2 hs2 hf2;obtain⟨q,hq⟩:∃ q,q=w1.heap.size:=⟨_,rfl⟩
 rw[←hq] at hg2 ⊢;refine sA rfl IN (by simp[Pi,Value.oneCell']) hg2 ?_;intro w3 hg3 hs3 hf3;have hf13:aA nob w1 w3:=hf2.ZJ hf3 (fun k e=>.inr (by have e:k=q:=e;omega));have hg4:=hf13.obj hg1 id;have hF3:=hf1.trans hf13;have hn3:=hn.ZM hF3;refine fK 7 ?_ ?_<;>intro h21
 ·refine Gz 36 ?_;exact no _ (fun hm=>by have h3:=hm.2.2.1;have h4:=hm.2.2.2.1;have h5:=hm.2.2.2.2.1;omega) hF3
 refine fW 3 ?_ ?_<;>intro h25
 ·refine Gz 32 ?_;exact no _ (fun hm=>by have h3:=hm.2.2.1;have h4:=hm.2.2.2.1;have h5:=hm.2.2.2.2.1;omega) hF3
 refine fW 4 ?_ ?_<;>intro h30
 ·refine Gz 27 ?_;exact no _ (fun hm=>by have h3:=hm.2.2.1;have h4:=hm.2.2.2.1;have h5:=hm.2.2.2.2.1;omega) hF3
 refine fW 4 ?_ ?_<;>intro h35
 ·refine Gz 22 ?_;exact no _ (fun hm=>by have h3:=hm.2.2.1;have h4:=hm.2.2.2.1;have h5:=hm.2.2.2.2.1;omega) hF3
 refine fW 4 ?_ ?_<;>intro h40
 ·refine Gz 17 ?_;exact no _ (fun hm=>by have h3:=hm.2.2.1;have h4:=hm.2.2.2.1;have h5:=hm.2.2.2.2.1;omega) hF3
 refine fW 4 ?_ ?_<;>intro h45
 ·refine Gz 12 ?_;exact no _ (fun hm=>by have h3:=hm.2.2.1;have h4:=hm.2.2.2.1;have h5:=hm.2.2.2.2.1;omega) hF3
 refine Gz 6 ?_;refine WL (β:=Unit) (fun _u=>[(1,pT g)]) (fun _u w=>(p.2.kind=2∨p.2.data=[])∧p.2.data.length≤4096∧w=w3) ?_ ?_
 ·refine fK 4 ?_ ?_<;>intro h49
  ·refine Gz 4 ?_;rw[hn3.2.1.1];refine fW 0 ?_ ?_<;>intro h54
   ·refine Gz 18 ?_;exact no _ (fun hm=>hm.2.2.2.2.2.1.elim (fun e=>h49 e) (fun e=>by have:=congrArg cv e;have e0:([]:By).length=0:=rfl;omega)) hF3
   refine Gz 5 ?_;rw[hn3.2.1.1];refine fW 0 ?_ ?_<;>intro h60
   ·refine Gz 12 ?_;exact no _ (fun hm=>by have h3:=hm.2.2.1;have h4:=hm.2.2.2.1;have h5:=hm.2.2.2.2.1;omega) hF3
   refine Gz 5 ?_;refine aC () ⟨?_,by omega,rfl⟩;exact .inr (dh.1 (by omega))
  refine Gz 10 ?_;rw[hn3.2.1.1];refine fW 0 ?_ ?_<;>intro h60
  ·refine Gz 12 ?_;exact no _ (fun hm=>by have:=hm.2.2.2.2.2.2.1;omega) hF3
  refine Gz 5 ?_;refine aC () ⟨?_,by omega,rfl⟩;exact .inl (br.1 h49)
 rintro _ w4 ⟨k1,k1l,hw4⟩;subst w4;refine cA 4 RY (L5 p.2.tgt w3 hsm.1) ?_;rintro _ w5 ⟨rfl,hw5⟩;subst w5;by_cases h64:(0:UInt8)∈p.2.tgt
 ·rw[Z3 h64];refine Gz 3 ?_;refine WL (β:=Unit) (fun _u=>[(1,pT g)]) (fun _u w=>okT p.2∧w=w3) ?_ ?_
  ·refine fK 4 ?_ ?_<;>intro h67
   ·refine fW 3 ?_ ?_<;>intro h71
    ·refine Gz 31 ?_;exact no _ (fun hm=>by have m:=hm.2.2.2.2.2.2.2.1;unfold okT at m;rw[ZO h67] at m;exact h71 m) hF3
    refine fW 4 ?_ ?_<;>intro h76
    ·refine fW 3 ?_ ?_<;>intro h80
     ·refine Gz 22 ?_;exact no _ (fun hm=>by have h3:=hm.2.2.1;have h4:=hm.2.2.2.1;have h5:=hm.2.2.2.2.1;omega) hF3
     refine Gz 3 ?_;refine cW (WM ty9 rfl) ?_;refine fW 0 ?_ ?_<;>intro h85
     ·refine Gz 17 ?_;exact no _ (fun hm=>by have h3:=hm.2.2.1;have h4:=hm.2.2.2.1;have h5:=hm.2.2.2.2.1;omega) hF3
     refine Gz 17 ?_;exact no _ (fun hm=>by have h3:=hm.2.2.1;have h4:=hm.2.2.2.1;have h5:=hm.2.2.2.2.1;omega) hF3
    refine Gz 19 ?_;exact aC () ⟨by unfold okT;rw[ZO h67];exact br.1 h71,rfl⟩
   refine fW 8 ?_ ?_<;>intro h76
   ·refine fW 3 ?_ ?_<;>intro h80
    ·refine Gz 22 ?_;exact no _ (fun hm=>by have m:=hm.2.2.2.2.2.2.2.1;unfold okT at m;rw[ZP h76] at m;exact m.1 h80) hF3
    refine Gz 3 ?_;refine cW (WM ty9 rfl) ?_;refine fW 0 ?_ ?_<;>intro h85
    ·refine Gz 17 ?_;exact no _ (fun hm=>by have m:=hm.2.2.2.2.2.2.2.1;unfold okT at m;rw[ZP h76] at m;have:=m.2.1;omega) hF3
    refine Gz 17 ?_;exact no _ (fun hm=>by have m:=hm.2.2.2.2.2.2.2.1;unfold okT at m;rw[ZP h76] at m;exact m.2.2 h64) hF3
   refine Gz 19 ?_;exact absurd h76 h67
  rintro _ w5 ⟨k2,hw5⟩;subst w5;refine Gz 4 ?_;refine Wh Pd rfl ((by show Calls _ _ [Value.slice p.1.xs.a p.1.xs.n p.1.xs.c].toArray _ _;rw[hn3.2.2.1];exact uC _ _ _ w3 (hn3.2.2.xav hsm.2.2))) rfl ?_;rintro _ w6 ⟨rfl,hf6⟩;refine Gz 5 ?_;exact yes _ ⟨fun hm=>hm.2.2.2.2.2.2.2.2,fun hx=>⟨by omega,by simpa using h15,by omega,by omega,by omega,k1,k1l,k2,hx⟩⟩ (hF3.trans hf6)
 rw[ZV h64];refine Gz 3 ?_;refine WL (β:=Unit) (fun _u=>[(1,pT g)]) (fun _u w=>okT p.2∧w=w3) ?_ ?_
 ·refine fK 4 ?_ ?_<;>intro h67
  ·refine fW 3 ?_ ?_<;>intro h71
   ·refine Gz 31 ?_;exact no _ (fun hm=>by have m:=hm.2.2.2.2.2.2.2.1;unfold okT at m;rw[ZO h67] at m;exact h71 m) hF3
   refine fW 4 ?_ ?_<;>intro h76
   ·refine fW 3 ?_ ?_<;>intro h80
    ·refine Gz 22 ?_;exact no _ (fun hm=>by have h3:=hm.2.2.1;have h4:=hm.2.2.2.1;have h5:=hm.2.2.2.2.1;omega) hF3
    refine Gz 3 ?_;refine cW (WM ty9 rfl) ?_;refine fW 0 ?_ ?_<;>intro h85
    ·refine Gz 17 ?_;exact no _ (fun hm=>by have h3:=hm.2.2.1;have h4:=hm.2.2.2.1;have h5:=hm.2.2.2.2.1;omega) hF3
    refine Gz 10 ?_;exact absurd h76 h67
   refine Gz 19 ?_;exact aC () ⟨by unfold okT;rw[ZO h67];exact br.1 h71,rfl⟩
  refine fW 8 ?_ ?_<;>intro h76
  ·refine fW 3 ?_ ?_<;>intro h80
   ·refine Gz 22 ?_;exact no _ (fun hm=>by have m:=hm.2.2.2.2.2.2.2.1;unfold okT at m;rw[ZP h76] at m;exact m.1 h80) hF3
   refine Gz 3 ?_;refine cW (WM ty9 rfl) ?_;refine fW 0 ?_ ?_<;>intro h85
   ·refine Gz 17 ?_;exact no _ (fun hm=>by have m:=hm.2.2.2.2.2.2.2.1;unfold okT at m;rw[ZP h76] at m;have:=m.2.1;omega) hF3
   refine Gz 10 ?_;exact aC () ⟨by unfold okT;rw[ZP h76];exact⟨h80,by omega,h64⟩,rfl⟩
  refine Gz 19 ?_;exact absurd h76 h67
 rintro _ w5 ⟨k2,hw5⟩;subst w5;refine Gz 4 ?_;refine Wh Pd rfl ((by show Calls _ _ [Value.slice p.1.xs.a p.1.xs.n p.1.xs.c].toArray _ _;rw[hn3.2.2.1];exact uC _ _ _ w3 (hn3.2.2.xav hsm.2.2))) rfl ?_;rintro _ w6 ⟨rfl,hf6⟩;refine Gz 5 ?_;exact yes _ ⟨fun hm=>hm.2.2.2.2.2.2.2.2,fun hx=>⟨by omega,by simpa using h15,by omega,by omega,by omega,k1,k1l,k2,hx⟩⟩ (hF3.trans hf6)
end
section
theorem OE{α:Type}{a b:List α}{k:Nat}(hl:a.length=b.length)(hk:a.length≤k)(h:∀ j:Nat,j<k→a[j]?=b[j]?):a=b:=by
 apply cd;intro j;by_cases hj:j<k
 ·exact h j hj
 ·rw[bq (by omega),bq (by omega)]
theorem XsV.at{D:Nat→Prop}{H:Array Obj}{h:Hd}{X:List Xa}{ys:List (By×Hd)}(hl:ys.length=X.length)(hx:∀ (i:Nat) (x:By×Hd) (y:Xa),ys[i]?=some x→X[i]?=some y→x.1=y.1∧ByV D H x.2 y.2){k:Nat}(hk:k<X.length) :
 ∃ (a:Xa) (b:Hd),X[k]?=some a∧ys[k]?=some (a.1,b)∧ByV D H b a.2:=by
 have h1:=ZQ hk;have h2:ys[k]?=some ys[k]:=ZQ (by omega);obtain⟨e,hb⟩:=hx k _ _ h2 h1;refine⟨X[k],(ys[k]).2,h1,?_,hb⟩;rw[h2,←e]
variable {D:Nat→Prop}
theorem JB(p q:NdH×Nd)(W:World)(hp:NdV D W.heap p)(hq:NdV D W.heap q) :
 CA 46 [.agg (aV p).toArray,.agg (aV q).toArray] W fun v w'=>v=.bool (decide (Alk p.2 q.2))∧aA nob W w':=by
 have no:∀ w',¬ Alk p.2 q.2→aA nob W w'→Ret (fun v w'=>v=.bool (decide (Alk p.2 q.2))∧aA nob W w') (.returned (.bool false)) w':=fun w' h f=>⟨_,rfl,by rw[ZV h],f⟩
 refine cS 87 [(0,_),(1,_)] Tryz.func46 ?_;refine Gz 2 ?_;refine WO rfl rfl ?_;intro w1 hg1 hs1 hf1;obtain⟨g,hg⟩:∃ g,g=W.heap.size:=⟨_,rfl⟩
 rw[←hg] at hg1 hs1 ⊢
 replace hg1:w1.heap[g]?=some (.cells (aV p).toArray 68 (0,0)):=hg1
 refine WO rfl rfl ?_;intro w2 hg2 hs2 hf2;obtain⟨r,hr⟩:∃ r,r=w1.heap.size:=⟨_,rfl⟩
 rw[←hr] at hg2 hs2 ⊢;have hgq:w2.heap[r]?=some (.cells (aV q).toArray 68 (0,0)):=hg2;have hgp:=hf2.obj hg1 id;have hF2:=hf1.trans hf2;have hp2:=hp.ZM hF2;have hq2:=hq.ZM hF2;refine Gz 7 ?_;refine cL (Wk aF rfl (by first|exact aB hgp rfl|exact aB hgq rfl)) ?_;refine Gz 1 ?_;refine cL (Wk aF rfl (by first|exact aB hgp rfl|exact aB hgq rfl)) ?_;refine fK 0 ?_ ?_<;>intro h10
 ·refine Gz 50 ?_;exact no _ (fun A=>h10 A.1) hF2
 refine Gz 2 ?_;refine cW (Ws (cs:=Pi p.2) IN rfl (aQ hgp 3 rfl)) ?_;refine Gz 1 ?_;refine cW (Ws (cs:=Pi q.2) IN rfl (aQ hgq 3 rfl)) ?_;refine WV rfl rfl (YT stA Qt RB Vi (a:=p.2.md) (b:=p.2.ud) (c:=p.2.gd) (a':=q.2.md) (b':=q.2.ud) (c':=q.2.gd) rfl rfl) rfl (fun h16=>?_) (fun h16=>?_)
 ·refine Gz 44 ?_;exact no _ (fun A=>h16 A.2.1) hF2
 refine Gz 3 ?_;refine cW (Wm (u:=.slice p.1.data.a p.2.data.length p.1.data.c) (Wk aX rfl (aB hgp rfl)) (by rw[←hp2.2.1.1];rfl)) ?_;refine cW (WG aH ty5 ty9 rfl hp2.2.1.2.1) ?_;refine Gz 1 ?_;refine cW (Wm (u:=.slice q.1.data.a q.2.data.length q.1.data.c) (Wk aX rfl (aB hgq rfl)) (by rw[←hq2.2.1.1];rfl)) ?_;refine cW (WG aH ty5 ty9 rfl hq2.2.1.2.1) ?_;refine fW 0 ?_ ?_<;>intro h25
 ·refine Gz 35 ?_;exact no _ (fun A=>h25 A.2.2.2.2.1) hF2
 refine Gz 3 ?_;refine cW (Wk gH rfl (by first|exact aB hgp rfl|exact aB hgq rfl)) ?_;refine Gz 1 ?_;refine cW (Wk gH rfl (by first|exact aB hgp rfl|exact aB hgq rfl)) ?_;refine fW 0 ?_ ?_<;>intro h32
 ·refine Gz 28 ?_;exact no _ (fun A=>h32 A.2.2.1) hF2
 refine Gz 3 ?_;refine cW (Wk Jc rfl (by first|exact aB hgp rfl|exact aB hgq rfl)) ?_;refine Gz 1 ?_;refine cW (Wk Jc rfl (by first|exact aB hgp rfl|exact aB hgq rfl)) ?_;refine WV rfl rfl (WK (Xf ty4 rfl rfl)) rfl (fun h39=>?_) (fun h39=>?_)
 ·refine Gz 21 ?_;exact no _ (fun A=>(bne_iff_ne.1 h39) A.2.2.2.1) hF2
 refine Gz 3 ?_;refine cW (Wk eK rfl (by first|exact aB hgp rfl|exact aB hgq rfl)) ?_;refine Gz 1 ?_;rw[hp2.2.2.1];refine Gz 1 ?_;refine cW (Wk eK rfl (by first|exact aB hgp rfl|exact aB hgq rfl)) ?_;refine Gz 1 ?_;rw[hq2.2.2.1];refine fW 0 ?_ ?_<;>intro h48
 ·refine Gz 12 ?_;exact no _ (fun A=>h48 (by rw[A.2.2.2.2.2])) hF2
 refine Gz 13 ?_;have hxe:p.2.xs.length=q.2.xs.length:=by omega
 obtain⟨hxl,ys,hyv,hyl,hyd,hyx⟩:=hp2.2.2;obtain⟨hwl,zs,hzv,hzl,hzd,hzx⟩:=hq2.2.2;have hx63:=hyv.ZL;refine Wp (β:=Nat) (fun k=>[(2,pT g),(3,pT r),(5,iV k)]) (fun k w=>k≤p.2.xs.length∧(∀ j:Nat,j<k→p.2.xs[j]?=q.2.xs[j]?)∧aA nob w2 w) (fun k=>p.2.xs.length-k) 0 ⟨rfl,rfl,rfl,trivial⟩ ⟨ZZ _,fun j hj=>by omega,Zn _ _⟩ ?_;rintro k w3 ⟨hk,hsame,hF3⟩;have hgp3:=hF3.obj hgp id;have hgq3:=hF3.obj hgq id;refine Gz 5 ?_;refine cL (Wk eK rfl (by first|exact aB hgp3 rfl|exact aB hgq3 rfl)) ?_;refine Gz 1 ?_;rw[hp2.2.2.1];refine fK 0 ?_ ?_<;>intro h54
 ·have hkx:k<p.2.xs.length:=by omega
  obtain⟨a,ah,hak,hyk,hva⟩:=XsV.at (D:=D) (H:=w3.heap) (h:=p.1.xs) hyl (fun i x y h1 h2=>⟨(hyx i x y h1 h2).1,(hyx i x y h1 h2).2.ZN hF3 (fun _ _=>id)⟩) hkx;obtain⟨b,bh,hbk,hzk,hvb⟩:=XsV.at (D:=D) (H:=w3.heap) (h:=q.1.xs) hzl (fun i x y h1 h2=>⟨(hzx i x y h1 h2).1,(hzx i x y h1 h2).2.ZN hF3 (fun _ _=>id)⟩) (by omega:k<q.2.xs.length);have hyv3:=hyv.keep' hF3 (fun _ _ _=>id);have hzv3:=hzv.keep' hF3 (fun _ _ _=>id);refine Gz 8 ?_;refine Ww 30 [0,1,2,3,4,5,6,7,8,9,10,11,12,13,14,15,16,17,18,19,20,21,22,23,24,25,26,27,28,29] aK (by kernel_rfl) ?_;refine Gz 1 ?_;refine xC rfl (Wk eK rfl (by first|exact aB hgp3 rfl|exact aB hgq3 rfl)) ?_;refine Gz 1 ?_;refine xC rfl (Wj iC rfl rfl (by rw[hp2.2.2.1,←hyl];exact hyv3.non) (by have:=hp2.2.2.1;omega)) ?_;refine Gz 1 ?_;refine xC rfl (Wk gH rfl (hyv3.rowZ k rfl hyk 0 _ rfl)) ?_;refine Gz 1 ?_;refine xC rfl (Wk eK rfl (by first|exact aB hgp3 rfl|exact aB hgq3 rfl)) ?_;refine Gz 1 ?_;refine xC rfl (Wj iC rfl rfl (by rw[hq2.2.2.1,←hzl];exact hzv3.non) (by have:=hq2.2.2.1;omega)) ?_;refine Gz 1 ?_;refine xC rfl (Wk gH rfl (hzv3.rowZ k rfl hzk 0 _ rfl)) ?_;refine xK 0 ?_ ?_<;>intro h69
  ·refine Gz 32 ?_;exact no _ (fun A=>h69 (by rw[A.2.2.2.2.2,hbk] at hak;cases hak;rfl)) ((hF2.trans hF3).draws 1)
  refine Gz 2 ?_;refine xV rfl (Wk eK rfl (by first|exact aB hgp3 rfl|exact aB hgq3 rfl)) ?_;refine Gz 1 ?_;refine xV rfl (Wj iC rfl rfl (by rw[hp2.2.2.1,←hyl];exact hyv3.non) (by have:=hp2.2.2.1;omega)) ?_;refine Gz 1 ?_;refine xV rfl (Wm (u:=.slice ah.a a.2.length ah.c) (Wk aX rfl (hyv3.rowZ k rfl hyk 1 _ rfl)) (by rw[←hva.1];rfl)) ?_;refine xV rfl (WG aH ty5 ty9 rfl hva.2.1) ?_;refine Gz 1 ?_;refine xV rfl (Wk eK rfl (by first|exact aB hgp3 rfl|exact aB hgq3 rfl)) ?_;refine Gz 1 ?_;refine xV rfl (Wj iC rfl rfl (by rw[hq2.2.2.1,←hzl];exact hzv3.non) (by have:=hq2.2.2.1;omega)) ?_;refine Gz 1 ?_;refine xV rfl (Wm (u:=.slice bh.a b.2.length bh.c) (Wk aX rfl (hzv3.rowZ k rfl hzk 1 _ rfl)) (by rw[←hvb.1];rfl)) ?_;refine xV rfl (WG aH ty5 ty9 rfl hvb.2.1) ?_;refine xW 0 ?_ ?_<;>intro h85
  ·refine Gz 16 ?_;exact no _ (fun A=>h85 (by rw[A.2.2.2.2.2,hbk] at hak;cases hak;rfl)) ((hF2.trans hF3).draws 1)
  refine Gz 12 ?_;refine aG (k+1) ⟨by omega,fun j hj=>?_,hF3.draws 1⟩ (by show p.2.xs.length-(k+1)<p.2.xs.length-k;omega);by_cases e:j=k
  ·subst e;rw[hak,hbk];exact congrArg _ (fm (br.1 h69) (br.1 h85))
  ·exact hsame j (by omega)
 refine Gz 15 ?_;exact⟨_,rfl,by rw[Z3 (show Alk p.2 q.2 from ⟨br.1 h10,br.1 h16,br.1 h32,by simpa using h39,br.1 h25,OE hxe (by omega) hsame⟩)],hF2.trans hF3⟩
end
section
theorem Ms{ps:List (NdH×Nd)}{i k:Nat}{p q:NdH×Nd}(h:(nds ps).Pairwise qW)(hk:k<i)(hq:ps[k]?=some q)(hp:ps[i]?=some p):qW q.2 p.2:=by
 have e1:=ZS.1 (jN hq);have e2:=ZS.1 (jN hp);have:=bj.1 h k i e1.1 e2.1 hk;rw[e1.2,e2.2] at this;exact this
variable {D:Nat→Prop}
theorem Jz(lo:Option Addr)(lc:Nat)(ps:List (NdH×Nd))(W:World)(hv:dG D W.heap lo lc ps)(hsm:∀ p∈ps,smN p.2) :
 CA 21 [.slice lo ps.length lc] W fun v w'=>v=iV (chk (nds ps))∧aA nob W w':=by
 have h63:=hv.1.ZL;refine cS 68 [(0,_)] Tryz.func21 ?_;refine cA 8 VM (Gx lo lc ps W hv hsm) ?_;rintro _ w2 ⟨rfl,hf2⟩;refine fK 7 ?_ ?_<;>intro h11
 ·refine Gz 12 ?_;exact⟨_,rfl,by rw[lK,ZP h11],hf2⟩
 have hz:plc (nds ps)=0:=br.1 h11;refine Gz 12 ?_;refine Wp (β:=Nat) (fun i=>[(0,.slice lo ps.length lc),(4,iV i)]) (fun i w=>i≤ps.length∧(∀ n∈(nds ps).take i,sW n)∧aA nob W w) (fun i=>ps.length-i) 0 ⟨rfl,rfl,trivial⟩ ⟨ZZ _,by simp,hf2⟩ ?_;rintro i w3 ⟨hi,hmy,hF3⟩;refine fK 6 ?_ ?_<;>intro h16
 ·have hil:i<ps.length:=by omega
  obtain⟨p,hp⟩:∃ p,ps[i]?=some p:=⟨_,ZQ hil⟩
  have hpm:=ZW hp;have hv3:=hv.ZM hF3;refine Gz 11 ?_;refine cL (Wj bR rfl rfl hv3.1.non (by omega)) ?_;refine cL (Ws (cs:=aV p) gQ rfl (fun j v hj=>hv3.1.rowZ i rfl hp j v hj)) ?_;refine cA 0 VL (Ol p w3 (hv3.2 p hpm) (hsm p hpm)) ?_;rintro _ w4 ⟨rfl,hf4⟩;by_cases h23:sW p.2
  ·rw[Z3 h23];refine Gz 6 ?_;refine cL (WQ rfl) ?_;refine Gz 11 ?_;exact aG (i+1) ⟨by omega,NL hp hmy h23,hF3.trans hf4⟩ (by show ps.length-(i+1)<ps.length-i;omega)
  rw[ZV h23];refine Gz 6 ?_;refine cL (WQ rfl) ?_;refine Gz 15 ?_;exact⟨_,rfl,by rw[lK,ZO (fun h=>h hz),ZP ⟨p.2,ZW (jN hp),h23⟩],hF3.trans hf4⟩
 have hie:i=ps.length:=by omega
 subst hie;rw[Z4 (by simp)] at hmy;have hmy2:¬ ∃ n∈nds ps,¬ sW n:=fun⟨n,hn,h⟩=>h (hmy n hn);refine Gz 15 ?_;refine Wp (β:=Nat) (fun i=>[(0,.slice lo ps.length lc),(6,iV i)]) (fun i w=>i≤ps.length∧((nds ps).take i).Pairwise qW∧aA nob W w) (fun i=>ps.length-i) 0 ⟨rfl,rfl,trivial⟩ ⟨ZZ _,by simp,hF3⟩ ?_;rintro i w3 ⟨hi,hlk,hF3⟩;refine fK 6 ?_ ?_<;>intro h29
 ·have hil:i<ps.length:=by omega
  obtain⟨p,hp⟩:∃ p,ps[i]?=some p:=⟨_,ZQ hil⟩
  have hpm:=ZW hp;refine Gz 13 ?_;refine Wp (β:=Nat) (fun k=>[(0,.slice lo ps.length lc),(6,iV i),(7,iV k)]) (fun k w=>k≤i∧(∀ n∈(nds ps).take k,qW n p.2)∧aA nob W w) (fun k=>i-k) 0 ⟨rfl,rfl,rfl,trivial⟩ ⟨ZZ _,by simp,hF3⟩ ?_;rintro k w4 ⟨hk,hbl,hF4⟩;refine fK 5 ?_ ?_<;>intro h34
  ·have hkl:k<i:=by omega
   obtain⟨q,hq⟩:∃ q,ps[k]?=some q:=⟨_,ZQ (by omega)⟩
   have hqm:=ZW hq;have hv4:=hv.ZM hF4;refine Gz 8 ?_;refine Wv 31 (fun H=>VwM 10 aV H lo lc ps) [27] [0,1,2,3,4,5,6,7,8,9,10,11,12,13,14,15,16,17,18,19,20,21,22,23,24,25,26,27,28,29,30] aK (by kernel_rfl) (hv4.1) ?_;refine Gz 2 ?_;refine xC rfl (Wj bR rfl rfl hv4.1.non (by omega)) ?_;refine Gz 1 ?_;refine xC rfl (Wt aF rfl (fun H hH=>hH.rowZ i rfl hp 1 _ rfl)) ?_;refine Gz 2 ?_;refine xC rfl (Wj bR rfl rfl hv4.1.non (by omega)) ?_;refine Gz 1 ?_;refine xC rfl (Wt aF rfl (fun H hH=>hH.rowZ k rfl hq 1 _ rfl)) ?_;refine xK 0 ?_ ?_<;>intro h47
   ·refine Gz 3 ?_;refine xV rfl (Wj bR rfl rfl hv4.1.non (by omega)) ?_;refine Gz 1 ?_;refine xV rfl (Wt aF rfl (fun H hH=>hH.rowZ i rfl hp 2 _ rfl)) ?_;refine xW 0 ?_ ?_<;>intro h54
    ·refine Gz 9 ?_;refine Wo rfl rfl (Xb rfl rfl rfl rfl ?_);refine Wu (by exact hv4.1) ?_;refine Gz 1 ?_;refine xV rfl (Xq rfl rfl) ?_;refine Gz 20 ?_;exact⟨_,rfl,by rw[lK,ZO (fun h=>h hz),ZO hmy2,ZO (fun h=>(Ms h hkl hq hp h47).1 h54)],hF4.draws _⟩
    refine Gz 3 ?_;refine xV rfl (Wj bR rfl rfl hv4.1.non (by omega)) ?_;refine xV rfl (W9 (cs:=aV p) gQ rfl (fun H hH j v hj=>hH.rowZ i rfl hp j v hj)) ?_;refine Gz 2 ?_;refine xV rfl (Wj bR rfl rfl hv4.1.non (by omega)) ?_;refine xV rfl (W9 (cs:=aV q) gQ rfl (fun H hH j v hj=>hH.rowZ k rfl hq j v hj)) ?_;refine Wo rfl rfl (Wy rfl rfl VO rfl (JB p q _ (hv4.2 p hpm) (hv4.2 q hqm)) rfl ?_);rintro _ w5 ⟨rfl,hf5⟩;have hF5:=(hF4.draws 1).trans hf5;refine Wu (by exact(hv.ZM hF5).1) ?_;by_cases h64:Alk p.2 q.2
    ·rw[Z3 h64];refine xV rfl (WQ rfl) ?_;refine xV rfl (Xt rfl rfl) ?_;refine Gz 12 ?_;exact aG (k+1) ⟨by omega,NL (R:=fun n=>qW n p.2) hq hbl (fun _=>⟨h54,h64⟩),hF5⟩ (by show i-(k+1)<i-k;omega)
    rw[ZV h64];refine xV rfl (WQ rfl) ?_;refine xV rfl (Xt rfl rfl) ?_;refine Gz 20 ?_;exact⟨_,rfl,by rw[lK,ZO (fun h=>h hz),ZO hmy2,ZO (fun h=>h64 (Ms h hkl hq hp h47).2)],hF5⟩
   refine Gz 16 ?_;refine Wo rfl rfl (Xb rfl rfl rfl rfl ?_);refine Wu (by exact hv4.1) ?_;refine Gz 14 ?_;exact aG (k+1) ⟨by omega,NL (R:=fun n=>qW n p.2) hq hbl (fun e=>absurd e h47),hF4.draws _⟩ (by show i-(k+1)<i-k;omega)
  rw[show k=i by omega] at hbl;refine Gz 14 ?_;refine aG (i+1) ⟨by omega,?_,hF4⟩ (by show ps.length-(i+1)<ps.length-i;omega);rw[tkN hp];exact ff.2 ⟨hlk,by simp,fun b hb a ha=>by rw[ai] at ha;subst ha;exact hbl b hb⟩
 have hie:i=ps.length:=by omega
 subst hie;rw[Z4 (by simp)] at hlk;refine Gz 15 ?_;exact⟨_,rfl,by rw[lK,ZO (fun h=>h hz),ZO hmy2,ZP hlk],hF3⟩
end
section
open Go Go.RowKit Go.Maps
section
variable {P:Program}{N:Nt}{Q:Exit→Act→World→Prop}{l:SF}{w:World}{ops:Array Oper}{rest:List Oper}{op:Op}{ty:TypeId}{pos:String}{aft:Array Edge}{d:Nat}
theorem YA{j s:Nat}{b:Bool}(hj:(ops[j]?).bind (·.dst)=some s)(hs:lk l s=some (.bool b))(h:Sl P N ops Q (⟨some d,op,ty,pos,aft,none⟩::rest) l w) :
 Sl P N ops Q (⟨some d,op,ty,pos,aft,some (j,b)⟩::rest) l w:=fun a ha=>by
 have h1:=h a ha;unfold wpList at h1 ⊢;rw[ZP (by simp[Region.wanted])] at h1;rw[ZP (by simp[Region.wanted,kA ha hj hs])];exact h1
end
theorem eX{B n:Nat}{o o':Option Addr}(h:Fr B o)(hr:∀ a,o'=some a→o=some a∨n≤a.block)(hn:B≤n):Fr B o':=fun a ha=>by
 rcases hr a ha with h1|h1
 ·exact h a h1
 ·omega
def jZ(h:Hd)(n:Nat):Hd:=if n<h.n then ⟨h.a,n,h.c⟩ else h
theorem fZ{h:Hd}{n:Nat}(k:n<h.n):jZ h n=⟨h.a,n,h.c⟩:=ZP k
theorem iK{h:Hd}{n:Nat}(k:¬ n<h.n):jZ h n=h:=ZO k
variable {D:Nat→Prop}
theorem C0{α:Type}{l:List α}{n:Nat}(h:l.take n≠[]):l≠[]:=fun e=>h (by rw[e];exact List.take_nil)
theorem NmV.cut{H:Array Obj}{h:Hd}{l:List By}(v:NmV D H h l)(n:Nat):NmV D H (jZ h n) (l.take n):=by
 by_cases k:n<h.n
 · rw[fZ k]
   exact⟨by have:=v.1;rw[ZT];show n=_;omega,v.2.1.take n,fun hne=>v.2.2 (C0 hne)⟩
 ·rw[iK k,Z4 (by have:=v.1;omega)];exact v
theorem ByV.cut{H:Array Obj}{h:Hd}{l:By}(v:ByV D H h l)(n:Nat):ByV D H (jZ h n) (l.take n):=by
 by_cases k:n<h.n
 · rw[fZ k]
   exact⟨by have:=v.1;rw[ZT];show n=_;omega,v.2.1.take n,fun hne=>v.2.2 (C0 hne)⟩
 ·rw[iK k,Z4 (by have:=v.1;omega)];exact v
theorem XsV.cut{H:Array Obj}{h:Hd}{X:List Xa}(v:XsV D H h X)(n:Nat):XsV D H (jZ h n) (X.take n):=by
 by_cases k:n<h.n
 · rw[fZ k]
   obtain⟨h1,ys,h2,h3,h4,h5⟩:=v;refine⟨by rw[ZT];show n=_;omega,ys.take n,h2.take n,by simp[h3],fun hne=>h4 (C0 hne),fun i x y hx hy=>?_⟩;rw[ar] at hx hy;by_cases hi:i<n
   ·rw[ZP hi] at hx hy;exact h5 i x y hx hy
   ·rw[ZO hi] at hx;cases hx
 ·rw[iK k,Z4 (by have:=v.1;omega)];exact v
def iD:NdH×Nd:=(Dk,{ nd0 with ino:=1,kind:=1 })
theorem FW:chk (nds [iD])=0:=by decide +kernel
theorem Oj:smN iD.2:=⟨ZZ _,by simp[iD,nd0],by simp[iD,nd0]⟩
end
section
open Go Go.RowKit Go.Maps
theorem gW:∀ a:By,Z8 a a=false
|[]=>rfl
|x::a=>by
   have ih:=gW a;have h:¬ x<x:=by rw[du];omega
   simp[Z8,h,ih]
theorem oR:∀ {a b c:By},Z8 a b=true→Z8 b c=true→Z8 a c=true
|_,[],_,h,_=>by simp[Z8] at h
|_,_::_,[],_,h=>by simp[Z8] at h
|[],_::_,_::_,_,_=>by simp[Z8]
|x::a,y::b,z::c,h1,h2=>by
   simp only[Z8,ew,decide_eq_true_eq,ag,beq_iff_eq] at h1 h2 ⊢;rcases h1 with h1|⟨rfl,h1⟩
   · rcases h2 with h2|⟨rfl,h2⟩
     ·left;rw[du] at *;omega
     ·exact .inl h1
   · rcases h2 with h2|⟨rfl,h2⟩
     ·exact .inl h2
     ·exact .inr ⟨rfl,oR h1 h2⟩
theorem NH{a b:By}(h:Z8 a b=true):Z8 b a=false:=by
 cases h2:Z8 b a with
|false=>rfl
|true=>have:=oR h h2;rw[gW] at this;cases this
theorem NG{a b:By}(hne:a≠b)(h:Z8 a b=false):Z8 b a=true:=by
 have:=iI a b;rw[h] at this;have hb:(a == b)=false:=by simpa using hne
 rw[hb] at this
 revert this;cases Z8 b a<;>simp
def fU:List By→List By→Int
|[],[]=>0
|[],_::_=>-1
|_::_,[]=>1
|x::a,y::b=>if x=y then fU a b else if Z8 x y=true then -1 else 1
theorem rW:∀ a,fU a a=0
|[]=>rfl
|x::a=>by unfold fU;rw[ZP rfl];exact rW a
theorem oQ:∀ {a b:List By},fU a b=0→a=b
|[],[],_=>rfl
|[],_::_,h=>by simp[fU] at h
|_::_,[],h=>by simp[fU] at h
|x::a,y::b,h=>by
   unfold fU at h
   split at h
   ·rename_i e;rw[e,oQ h]
   ·split at h<;>simp at h
theorem AX:∀ a b:List By,fU b a = - fU a b
|[],[]=>rfl
|[],_::_=>rfl
|_::_,[]=>rfl
|x::a,y::b=>by
   unfold fU;by_cases e:x=y
   ·rw[ZP e,ZP e.symm];exact AX a b
   · rw[ZO e,ZO (fun h=>e h.symm)]
     by_cases h:Z8 x y=true
     ·rw[ZP h,ZO (by rw[NH h];decide)];rfl
     ·rw[ZO h,ZP (NG e (by simpa using h))]
theorem tH:∀ {a b c:List By},fU a b<0→fU b c<0→fU a c<0
|_,_::_,[],_,h=>by simp[fU] at h
|[],_::_,_::_,_,_=>by simp[fU]
|[],[],_,h,_=>by simp[fU] at h
|_::_,[],_,h,_=>by simp[fU] at h
|x::a,y::b,z::c,h1,h2=>by
   unfold fU at h1 h2 ⊢;by_cases e1:x=y
   · subst e1
     rw[ZP rfl] at h1;by_cases e2:x=z
     · subst e2
       rw[ZP rfl] at h2 ⊢;exact tH h1 h2
     ·rw[ZO e2] at h2 ⊢;exact h2
   · rw[ZO e1] at h1
     have l1:Z8 x y=true:=by
      by_cases h:Z8 x y=true
      ·exact h
      ·rw[ZO h] at h1;simp at h1
     by_cases e2:y=z
     ·subst e2;rw[ZO e1,ZP l1];decide
     · rw[ZO e2] at h2
       have l2:Z8 y z=true:=by
        by_cases h:Z8 y z=true
        ·exact h
        ·rw[ZO h] at h2;simp at h2
       have l3:=oR l1 l2;rw[ZO (fun e=>by subst e;rw[gW] at l3;cases l3),ZP l3];decide
theorem AY:∀ (p a b:List By),fU (p++a) (p++b)=fU a b
|[],a,b=>rfl
|x::p,a,b=>by
   show (if x=x then fU (p++a) (p++b) else if Z8 x x=true then -1 else 1)=_;rw[ZP rfl];exact AY p a b
theorem vG{α:Type}{l:List α}{k:Nat}{x:α}(h:l[k]?=some x):l.drop k=x::l.drop (k+1):=by
 rw[bz (ZS.1 h).1,(ZS.1 h).2]
theorem tI{a b:List By}{k:Nat}(h:a.take k=b.take k):fU a b=fU (a.drop k) (b.drop k):=by
 conv=>lhs;rw[←ay k a,←ay k b,h]
 exact AY _ _ _
theorem Ps{a b:List By}{k:Nat}{x y:By}(h:a.take k=b.take k)(hx:a[k]?=some x)(hy:b[k]?=some y)(hne:x≠y):fU a b=if Z8 x y=true then -1 else 1:=by
 rw[tI h,vG hx,vG hy];unfold fU;rw[ZO hne]
theorem CM{a b:List By}{k:Nat}{x:By}(h:a.take k=b.take k)(hx:a[k]?=some x)(hy:b.length≤k):fU a b=1:=by
 rw[tI h,vG hx,de hy];rfl
theorem FT{a b:List By}{k:Nat}(h:a.take k=b.take k)(hx:a.length≤k):fU a b=if a.length<b.length then -1 else 0:=by
 rw[tI h,de hx];by_cases hl:a.length<b.length
 · rw[ZP hl]
   have h2:(b.take k).length=a.length:=by rw[←h,ZT];omega
   cases hd:b.drop k with
  |nil=>have:=congrArg cv hd;rw[ZT] at h2;simp at this;omega
  |cons y r=>rfl
 ·rw[ZO hl,de (by have:=congrArg cv h;simp only[ZT] at this;omega)];rfl
theorem Gf{a b:List By}{k:Nat}{x:By}(h:a.take k=b.take k)(hx:a[k]?=some x)(hy:b[k]?=some x):a.take (k+1)=b.take (k+1):=by rw[tkL hx,tkL hy,h]
def Pt(x y:By):Int:=if Z8 x y=true then -1 else if x=y then 0 else 1
def cU(a b:List By):Bool:=decide (fU a b<0)
theorem Ly(ao bo:Option Addr)(ac bc:Nat)(a b:List By)(W:World)(ha:Vw xT W.heap ao ac a)(hb:Vw xT W.heap bo bc b) :
 CA 47 [.slice ao a.length ac,.slice bo b.length bc] W fun v w'=>v=.bool (cU a b)∧aA nob W w':=by
 have h63:=ha.ZL;refine cS 41 [(0,_),(1,_)] Tryz.func47 ?_;refine Gz 12 ?_;refine Wp (β:=Nat) (fun k=>[(0,.slice ao a.length ac),(1,.slice bo b.length bc),(5,iV k)]) (fun k w=>k≤a.length∧k≤b.length∧a.take k=b.take k∧aA nob W w) (fun k=>a.length-k) 0 ⟨rfl,rfl,rfl,trivial⟩ ⟨ZZ _,ZZ _,by simp,Zn _ _⟩ ?_;rintro k w2 ⟨hk,hkb,hsm,hF2⟩;refine fK 6 ?_ ?_<;>intro h9
 ·refine fW 4 ?_ ?_<;>intro h14
  ·have hka:k<a.length:=by omega
   have hkb:k<b.length:=by omega
   have ha2:=ha.ZM hF2;have hb2:=hb.ZM hF2;obtain⟨x,hx⟩:∃ x,a[k]?=some x:=⟨_,ZQ hka⟩
   obtain⟨y,hy⟩:∃ y,b[k]?=some y:=⟨_,ZQ hkb⟩
   refine Gz 9 ?_;refine Ww 9 [0,1,2,3,4,5,6,7,8] aK (by kernel_rfl) ?_;refine Gz 2 ?_;refine xC rfl (Wi vX rfl rfl ha2.non (by omega)) ?_;refine xC rfl (Wk gH rfl (ha2.get k x hx)) ?_;refine Gz 2 ?_;refine xC rfl (Wi vX rfl rfl hb2.non (by omega)) ?_;refine xC rfl (Wk gH rfl (hb2.get k y hy)) ?_;refine xK 0 ?_ ?_<;>intro h26
   ·refine Gz 4 ?_;refine Ww 10 [0,1,2,3,4,5,6,7,8,9] aK (by kernel_rfl) ?_;refine Gz 2 ?_;refine xC rfl (Wi vX rfl rfl ha2.non (by omega)) ?_;refine xC rfl (Wk gH rfl (ha2.get k x hx)) ?_;refine Gz 2 ?_;refine xC rfl (Wi vX rfl rfl hb2.non (by omega)) ?_;refine xC rfl (Wk gH rfl (hb2.get k y hy)) ?_;refine xC rfl (Ya (a:=x) (b:=y) rfl rfl) ?_;refine Gz 10 ?_;refine⟨_,rfl,?_,(hF2.draws 1).draws 1⟩;unfold cU;rw[Ps hsm hx hy h26];cases hl:Z8 x y<;>simp
   refine Gz 11 ?_;exact aG (k+1) ⟨by omega,by omega,Gf hsm hx (by rw[br.1 h26];exact hy),hF2.draws 1⟩ (by show a.length-(k+1)<a.length-k;omega)
  refine Gz 15 ?_;refine cL (Xr rfl rfl) ?_;refine Gz 5 ?_;refine⟨_,rfl,?_,hF2⟩;unfold cU;by_cases hka:a.length≤k
  · rw[FT hsm hka];by_cases hl:a.length<b.length
    ·rw[ZP hl];simp;omega
    ·rw[ZO hl];simp;omega
  · obtain⟨x,hx⟩:∃ x,a[k]?=some x:=⟨_,ZQ (by omega)⟩
    rw[CM hsm hx (by omega)];simp;omega
 refine Gz 20 ?_;refine cL (Xr rfl rfl) ?_;refine Gz 5 ?_;refine⟨_,rfl,?_,hF2⟩;unfold cU;by_cases hka:a.length≤k
 · rw[FT hsm hka];by_cases hl:a.length<b.length
   ·rw[ZP hl];simp;omega
   ·rw[ZO hl];simp;omega
 · obtain⟨x,hx⟩:∃ x,a[k]?=some x:=⟨_,ZQ (by omega)⟩
   rw[CM hsm hx (by omega)];simp;omega
end
inductive OT where
|fin:OT
|stop:OT
|alt (i:Nat) (pre:List Nat) (t u:OT):OT
def OT.heads:OT→List Nat
|.alt i _ _ u=>i::u.heads
|_=>[]
def OT.dep:OT→Nat
|.alt _ pre t u=>Nat.max (pre.length+t.dep+1) u.dep
|_=>0
section
variable {P:Program}{ops:Array Oper}{CH:Array Obj→Prop}{N:Nt}{effs:List Nat}{K0:Act→World→Prop}{Q:Exit→Act→World→Prop}{l:SF}{w:World}
def Sy(P:Program)(N:Nt)(ops:Array Oper)(CH:Array Obj→Prop)(effs:List Nat)(K0:Act→World→Prop):List Nat→SF→World→Prop
|[],l,w=>∀ a,dN N l a→K0 a w
|i::r,l,w=>∃ o,ops[i]?=some o ∧
   (bif effs.contains i then Sl P N ops (nN fun a w=>∃ l',dN N l' a∧CH w.heap∧Sy P N ops CH effs K0 r l' w) [o] l w
    else ∃ v,(∀ a,dN N l a→YC P ops CH o v a)∧∃ l',(∀ a,dN N l a→dN N l' (a.put o.dst v))∧Sy P N ops CH effs K0 r l' w)
def KT(P:Program)(N:Nt)(ops:Array Oper)(CH:Array Obj→Prop)(effs:List Nat)(K0:Act→World→Prop):OT→Act→World→Prop
|.fin,a,w=>K0 a w
|.stop,_,_=>True
|.alt i pre t u,a,w=>(∃ l',dN N l' a∧Sy P N ops CH effs (KT P N ops CH effs K0 t) (i::pre) l' w)∧KT P N ops CH effs K0 u a w
def De(ops:Array Oper)(effs:List Nat):List Nat→Array Bool→Option (Array Bool)
|[],L=>some L
|k::r,L=>bif (!effs.contains k) && (Region.ready .any ops L).contains k && Region.free .any ops L k && ba k ops.size then De ops effs r (L.setIfInBounds k true) else none
def okO(ops:Array Oper)(effs:List Nat):Bool→OT→Array Bool→Bool
|_,.fin,L=>(Region.ready .any ops L).isEmpty
|top,.stop,_=>!top
|top,.alt i pre t u,L=>(!top || (Region.ready .any ops L).all (i::u.heads).contains) && effs.contains i && (Region.ready .any ops L).contains i && ba i ops.size &&
   (match De ops effs pre (L.setIfInBounds i true) with|some L'=>okO ops effs true t L'|none=>false) && okO ops effs false u L
theorem Wa(ops:Array Oper):vB ops ops.size=true:=by simp[vB]
theorem Dc(hsel:Region.noSelect ops=true){K:Act→World→Prop}{L':Array Bool}{m:Nat}
 (hK:∀ (f:Nat) (a:Act) (w:World),m≤f→HeadInv .any ops ops.size L'→CH w.heap→K a w→cZ P .any ops ops.size CH K0 f L' a w) :
 ∀ (pre:List Nat) (f:Nat) (L:Array Bool) (l:SF) (a:Act) (w:World),pre.length+m≤f→De ops effs pre L=some L'→dN N l a→HeadInv .any ops ops.size L→CH w.heap→Sy P N ops CH effs K pre l w→cZ P .any ops ops.size CH K0 f L a w
|[],f,L,l,a,w,hf,hp,ha,inv,hc,h=>by
   simp only[De,dx.injEq] at hp;subst hp;exact hK f a w (by simpa using hf) inv hc (h a ha)
|k::r,0,L,l,a,w,hf,hp,ha,inv,hc,h=>by simp at hf
|k::r,f+1,L,l,a,w,hf,hp,ha,inv,hc,h=>by
   obtain⟨o,ho,h⟩:=h;cases hb:((!effs.contains k) && (Region.ready .any ops L).contains k && Region.free .any ops L k && ba k ops.size) with
  |false=>simp only[De,hb,cond_false] at hp;cases hp
  |true=>
     simp only[De,hb,cond_true] at hp;simp only[ag,gw] at hb;obtain⟨⟨⟨he,m1⟩,m2⟩,m3⟩:=hb;rw[he] at h;simp only[cond_false] at h;obtain⟨v,hy,l',hl',hs⟩:=h;have hin:k<ops.size:=by simpa[dg] using m3
     have hir:k∈Region.ready .any ops L:=by simpa using m1
     exact oU ho (Region.noSelect_spec hsel) (Wa ops) hin f L a w inv hc (Region.free_spec ho m2) hir (hy a ha) (Dc hsel hK r f _ l' _ w (by simp at hf;omega) hp (hl' a ha) (inv.set hir hin) hc hs)
theorem NY{i:Nat}{pre:List Nat}{K:Act→World→Prop}{f:Nat}{L:Array Bool}{a:Act}(he:effs.contains i=true)(ha:dN N l a)
 (key:∀ l' a' w',dN N l' a'→CH w'.heap→Sy P N ops CH effs K pre l' w'→cZ P .any ops ops.size CH K0 f (L.setIfInBounds i true) a' w')
 (h:Sy P N ops CH effs K (i::pre) l w):wpOp P ops (nN K0) i (cZ P .any ops ops.size CH K0 f (L.setIfInBounds i true)) a w:=by
 obtain⟨o,ho,h⟩:=h;rw[he] at h;simp only[cond_true] at h;have h1:=h a ha;unfold wpList at h1;unfold wpOp;simp only[ho];have key2:∀ a' w',wpList P ops (nN fun a w=>∃ l',dN N l' a∧CH w.heap∧Sy P N ops CH effs K pre l' w) [] a' w'→cZ P .any ops ops.size CH K0 f (L.setIfInBounds i true) a' w':=by
  intro a' w' h2;obtain⟨l',h3,h4,h5⟩:=h2;exact key l' a' w' h3 h4 h5
 split
 · rename_i hw
   rw[ZP hw] at h1;rcases h1 with h1|⟨_,_,_,h1⟩
   ·exact .inl (Zv key2 h1)
   ·exact h1.elim
 · rename_i hw
   rw[ZO hw] at h1;exact key2 _ _ h1
theorem sO(hsel:Region.noSelect ops=true):∀ (t:OT) (top:Bool) (f:Nat) (L:Array Bool) (a:Act) (w:World),t.dep≤f→okO ops effs top t L=true→HeadInv .any ops ops.size L→CH w.heap→KT P N ops CH effs K0 t a w →
 (top=true→cZ P .any ops ops.size CH K0 f L a w)∧∀ k∈t.heads,∃ f',f=f'+1∧wpOp P ops (nN K0) k (cZ P .any ops ops.size CH K0 f' (L.setIfInBounds k true)) a w
|.fin,top,f,L,a,w,hf,hm,inv,hc,h=>by
   have hr:Region.ready .any ops L=[]:=by simpa[okO] using hm
   refine⟨fun _=>?_,fun k hk=>by cases hk⟩;cases f with
  |zero=>exact⟨fun _=>hc,hr,h⟩
  |succ f=>exact⟨fun _=>hc,fun _=>h,by rw[hr];simp⟩
|.stop,top,f,L,a,w,hf,hm,inv,hc,h=>by
   refine⟨fun e=>by subst e;simp[okO] at hm,fun k hk=>by cases hk⟩
|.alt i pre t u,top,f,L,a,w,hf,hm,inv,hc,h=>by
   simp only[okO,ag] at hm;obtain⟨⟨⟨⟨⟨m1,m2⟩,m3⟩,m4⟩,m5⟩,m6⟩:=hm;have hf1:pre.length+t.dep+1≤f:=aj (Nat.le_max_left _ _) hf;have hf2:u.dep≤f:=aj (Nat.le_max_right _ _) hf;obtain⟨f',rfl⟩:∃ f',f=f'+1:=⟨f-1,by omega⟩
   obtain⟨⟨l',ha,h1⟩,h2⟩:=h;have hi:i<ops.size:=by simpa[dg] using m4
   have hr:i∈Region.ready .any ops L:=by simpa using m3
   have hu:=sO hsel u false (f'+1) L a w hf2 m6 inv hc h2
   have hhead:∀ k∈i::u.heads,∃ f'',f'+1=f''+1∧wpOp P ops (nN K0) k (cZ P .any ops ops.size CH K0 f'' (L.setIfInBounds k true)) a w:=by
    intro k hk;rcases aw.1 hk with rfl|hk
    · refine⟨f',rfl,NY m2 ha (fun l2 a2 w2 hl2 hc2 hs2=>?_) h1⟩
      cases hp:De ops effs pre (L.setIfInBounds k true) with
     |none=>rw[hp] at m5;cases m5
     |some L'=>
        rw[hp] at m5;exact Dc hsel (m:=t.dep) (fun f3 a3 w3 hf3 inv3 hc3 hk3=>(sO hsel t true f3 L' a3 w3 hf3 m5 inv3 hc3 hk3).1 rfl) pre f' _ l2 a2 w2 (by omega) hp hl2 (inv.set hr hi) hc2 hs2
    ·exact hu.2 k hk
   refine⟨fun e=>?_,hhead⟩;subst e;refine⟨fun _=>hc,fun h0=>(by rw[h0] at hr;cases hr),fun k hk=>?_⟩;simp only[Bool.not_true,Bool.false_or,fu] at m1;obtain⟨f'',e1,hw⟩:=hhead k (by simpa using m1 k hk);obtain rfl:f'=f'':=by omega
   exact hw
theorem Yk{id:Nat}{lops:List Oper}(CH:Array Obj→Prop)(effs pre:List Nat)(t:OT)(hm:P.follows .mixedOrders=true)(hs:(Region.noSelect lops.toArray &&
 (match De lops.toArray effs pre (fa lops.length false) with|some L'=>okO lops.toArray effs true t L'|none=>false) && ik (pre.length+t.dep) lops.length)=true)(hc:CH w.heap)
 (h:Sy P N lops.toArray CH effs (KT P N lops.toArray CH effs (fun a w=>Q .normal a w) t) pre l (w.drewN 1)):Sc P N (.region id lops.toArray true) Q l w:=fun a ha=>by
 simp only[ag] at hs;obtain⟨⟨hs,hok⟩,hlen⟩:=hs
 have h1:cZ P .any lops.toArray lops.toArray.size CH (fun a w=>Q .normal a w) lops.length (fa lops.length false) a (w.drewN 1):=by
  cases hp:De lops.toArray effs pre (fa lops.length false) with
 |none=>rw[hp] at hok;cases hok
 |some L'=>
    rw[hp] at hok;exact Dc hs (m:=t.dep) (fun f3 a3 w3 hf3 inv3 hc3 hk3=>(sO hs t true f3 L' a3 w3 hf3 hok inv3 hc3 hk3).1 rfl) pre lops.length _ l a _ (by simpa[gv] using hlen) hp ha
     (by have:=uY (ops:=lops.toArray) (n:=lops.toArray.size);simpa using this) hc h
 have h2:=wp_region_any (P:=P) (id:=id) (ops:=lops.toArray) (Q:=nN fun a w=>Q .normal a w) (a:=a) (w:=w) hm (by
  have:=h1.any;simpa[World.drewN] using this)
 refine wp_mono h2 ?_;intro e a' w' hq;cases e<;>first|exact hq|exact hq.elim
variable {r:List Nat}{i:Nat}{op:Op}{ty:TypeId}{pos:String}{aft:Array Edge}{d:Nat}{v:Value}{t u:OT}
theorem WB(hi:ops[i]?=some ⟨some d,op,ty,pos,aft,none⟩)(he:effs.contains i=false)(hv:Cm P N CH l ⟨some d,op,ty,pos,aft,none⟩ v)(hd:ba d N.n=true)
 (h:Sy P N ops CH effs K0 r ((d,v)::l) w):Sy P N ops CH effs K0 (i::r) l w:=
 ⟨_,hi,by rw[he];exact⟨v,fun a ha=>.inl ⟨by simp[Region.wanted],fun w hw=>hv a w ha hw⟩,_,fun a ha=>ha.put hd v,h⟩⟩
def KY(P:Program)(N:Nt)(ops:Array Oper)(CH:Array Obj→Prop)(effs:List Nat)(K0:Act→World→Prop)(r:List Nat):Exit→Act→World→Prop:=nN fun a w=>∃ l',dN N l' a∧CH w.heap∧Sy P N ops CH effs K0 r l' w
theorem WI{o:Oper}(hi:ops[i]?=some o)(he:effs.contains i=true)(h:Sl P N ops (KY P N ops CH effs K0 r) [o] l w):Sy P N ops CH effs K0 (i::r) l w:=
 ⟨_,hi,by rw[he];exact h⟩
theorem WT(hc:CH w.heap)(h:Sy P N ops CH effs K0 r l w):Sl P N ops (KY P N ops CH effs K0 r) [] l w:=fun _ ha=>⟨l,ha,hc,h⟩
theorem Xz(h:At N .normal Q l w):Sy P N ops CH effs (KT P N ops CH effs (fun a w=>Q .normal a w) .fin) [] l w:=fun a ha=>h a ha
theorem WJ{pre:List Nat}(h1:Sy P N ops CH effs (KT P N ops CH effs K0 t) (i::pre) l w)(h2:Sy P N ops CH effs (KT P N ops CH effs K0 u) [] l w):Sy P N ops CH effs (KT P N ops CH effs K0 (.alt i pre t u)) [] l w:=fun a ha=>⟨⟨l,ha,h1⟩,h2 a ha⟩
theorem WH:Sy P N ops CH effs (KT P N ops CH effs K0 .stop) [] l w:=fun _ _=>trivial
end
section
open Go Go.RowKit Go.Maps
variable {D D':Nat→Prop}
theorem Co(a:List By):cU a a=false:=by unfold cU;rw[rW];rfl
theorem oG{a b:List By}:cU a b=false↔a=b∨cU b a=true:=by
 unfold cU;rw[AX a b];constructor
 · intro h
   by_cases e:fU a b=0
   ·exact .inl (oQ e)
   ·right;simp at h ⊢;omega
 · rintro(rfl|h)
   ·rw[rW];rfl
   ·simp at h ⊢;omega
theorem pE{a b:List By}(h:cU a b=true):cU b a=false:=oG.2 (.inr h)
theorem Fj{a b c:List By}(h1:cU a b=true)(h2:cU b c=true):cU a c=true:=by
 unfold cU at *;simp at *;exact tH h1 h2
theorem Fk{a b c:List By}(h1:cU a b=false)(h2:cU b c=false):cU a c=false:=by
 rcases oG.1 h1 with rfl|h1
 ·exact h2
 · rcases oG.1 h2 with rfl|h2
   ·exact pE h1
   ·exact pE (Fj h2 h1)
def Dh(p q:NdH×Nd):Prop:=cU q.2.names p.2.names=false
theorem Dq{ys:List (NdH×Nd)}{k:Nat}{p:NdH×Nd}(h:ys.Pairwise Dh)(hk:k≤ys.length)(h1:∀ j q,k≤j→ys[j]?=some q→cU p.2.names q.2.names=true)(h2:∀ q,0<k→ys[k-1]?=some q→cU p.2.names q.2.names=false) :
 (ys.take k++p::ys.drop k).Pairwise Dh:=by
 have hall:=ay k ys;rw[←hall] at h;obtain⟨a1,a2,a3⟩:=ff.1 h;refine ff.2 ⟨a1,eh.2 ⟨fun q hq=>?_,a2⟩,fun a ha b hb=>?_⟩
 · obtain⟨j,hj⟩:=ab hq
   rw[dc] at hj;exact pE (h1 _ q (by omega) hj)
 · rcases aw.1 hb with rfl|hb
   · have hk0:0<k:=by
      rcases ef k with h|h
      ·subst h;simp at ha
      ·exact h
     have hy:ys[k-1]?=some (ys[k-1]'(by omega)):=ZQ (by omega);have hb2:=h2 _ hk0 hy;obtain⟨j,hj⟩:=ab ha;rw[ar] at hj
     split at hj
     · rename_i hjk
       by_cases e:j=k-1
       ·subst e;rw[hy] at hj;cases hj;exact hb2
       · have hpw:=bj.1 (hall ▸ h) j (k-1) (by omega) (by omega) (by omega)
         rw[(ZS.1 hj).2] at hpw;exact Fk hb2 hpw
     ·cases hj
   ·exact a3 a ha b hb
theorem uT{α:Type}{ys zs:List α}{k:Nat}{p:α}(h:ys.Perm zs):(ys.take k++p::ys.drop k).Perm (zs++[p]):=by
 refine List.perm_middle.trans ?_;rw[ay];exact(List.Perm.cons p h).trans (List.perm_append_comm (l₁:=[p]) (l₂:=zs))
def lA(ps:List (NdH×Nd)):List (NdH×Nd):=ps.mergeSort (fun p q=>!cU q.2.names p.2.names)
theorem qE(ps:List (NdH×Nd)):(lA ps).Perm ps:=List.mergeSort_perm _ _
theorem HM(ps:List (NdH×Nd)):(lA ps).Pairwise Dh:=by
 have h:=List.pairwise_mergeSort (le:=fun p q:NdH×Nd=>!cU q.2.names p.2.names) (fun a b c h1 h2=>by
  simp only[gw] at *;exact Fk h2 h1) (fun a b=>by
  simp only[ew,gw];cases h:cU b.2.names a.2.names with
 |false=>exact .inl rfl
 |true=>exact .inr (pE h)) ps
 exact h.imp (fun h=>by simpa[Dh] using h)
theorem JR{ps:List (NdH×Nd)}(ht:¬ eQ (nds ps)){p q:NdH×Nd}(hp:p∈ps)(hq:q∈ps)(e:p.2.names=q.2.names):p=q:=by
 obtain⟨i,hi⟩:=ab hp;obtain⟨j,hj⟩:=ab hq;rcases Nat.lt_trichotomy i j with h|h|h
 ·exact absurd ((lM ps).2 ⟨i,j,p,q,h,hi,hj,e⟩) ht
 ·subst h;rw[hi] at hj;exact dx.inj hj
 ·exact absurd ((lM ps).2 ⟨j,i,q,p,h,hj,hi,e.symm⟩) ht
theorem K9{ps qs:List (NdH×Nd)}(ht:¬ eQ (nds ps))(hp:qs.Perm ps)(hs:qs.Pairwise Dh):qs=lA ps:=
 List.Perm.eq_of_pairwise (le:=Dh) (fun a b ha hb h1 h2=>by
  have ha':=hp.mem_iff.1 ha;have hb':=(qE ps).mem_iff.1 hb;refine JR ht ha' hb' ?_;rcases oG.1 h2 with e|h2
  ·exact e
  ·unfold Dh at h1;rw[h1] at h2;cases h2) hs (HM ps) (hp.trans (qE ps).symm)
end
section
open Go Go.RowKit Go.Maps
variable {D D':Nat→Prop}
theorem VwM.dropK{α:Type}{k:Nat}{enc:α→List Value}{H:Array Obj}{ao:Option Addr}{cap:Nat}{xs:List α}(v:VwM k enc H ao cap xs){l:Nat}(hl:l≤xs.length):VwM k enc H (aO ao cap l k) (cap-l) (xs.drop l):=by
 have h:=v.cut (l:=l) (h:=xs.length) (m:=cap) hl (Z0 _) v.le (Z0 _);rwa[Z4 (by rw[ZX];exact Z0 _)] at h
theorem Gv(lo:Option Addr)(lc:Nat)(ps:List (NdH×Nd))(W:World)(hv:dG D W.heap lo lc ps)(h1000:ps.length≤1024) :
 CA 20 [.slice lo ps.length lc] W fun v w'=>∃ o c ys,v=.slice o (cv (α:=NdH×Nd) ys) c∧bJ 10 aV 68 w'.heap o c ys∧Fr W.heap.size o∧ys.Perm ps∧ys.Pairwise Dh∧aA nob W w':=by
 refine cS 53 [(0,_)] Tryz.func20 ?_;refine Gz 7 ?_;refine Xc aE bR rfl ?_;intro w1 ho1 hs1 hf1;refine Gz 10 ?_;refine Wp (β:=Nat×Option Addr×Nat×List (NdH×Nd)) (fun⟨i,o,c,ys⟩=>[(0,.slice lo ps.length lc),(3,.slice o ys.length c),(4,iV i)]) (fun⟨i,o,c,ys⟩ w=>i≤ps.length∧bJ 10 aV 68 w.heap o c ys∧Fr W.heap.size o∧ys.Perm (ps.take i)∧ys.Pairwise Dh∧aA nob W w) (fun⟨i,o,c,ys⟩=>ps.length-i) ⟨0,some ⟨W.heap.size,0,none⟩,0,[]⟩ ⟨rfl,rfl,rfl,trivial⟩ ⟨ZZ _,ho1,fun a ha=>by cases ha;exact Z0 _,by simp,by simp,hf1⟩ ?_;rintro⟨i,o,c,ys⟩ w2 ⟨hi,ho2,hfo,hpe,hor,hF2⟩;refine fK 6 ?_ ?_<;>intro h11
 ·have hil:i<ps.length:=by omega
  obtain⟨p,hp⟩:∃ p,ps[i]?=some p:=⟨_,ZQ hil⟩
  have hpm:=ZW hp;have hv2:=hv.ZM hF2;have hyl:ys.length=i:=by rw[hpe.length_eq,ZT];omega
  have hym:∀ q∈ys,q∈ps:=fun q hq=>dj (hpe.mem_iff.1 hq);have hvy2:=ho2.vw aE;refine Gz 1 ?_;refine aW [(0,_),(3,_),(4,_),(11,_)] ?_;refine Gz 13 ?_;refine WL (β:=Nat) (fun k=>[(0,.slice lo ps.length lc),(3,.slice o ys.length c),(4,iV i),(5,iV k)]) (fun k w=>k≤ys.length∧(∀ (j:Nat) (q:NdH×Nd),k≤j→ys[j]?=some q→cU p.2.names q.2.names=true)∧(∀ q:NdH×Nd,0<k→ys[k-1]?=some q→cU p.2.names q.2.names=false)∧aA nob w2 w) ?_ ?_
  ·refine Gz 1 ?_;refine Wp (β:=Nat) (fun k=>[(0,.slice lo ps.length lc),(3,.slice o ys.length c),(4,iV i),(5,iV k)]) (fun k w=>k≤ys.length∧(∀ (j:Nat) (q:NdH×Nd),k≤j→ys[j]?=some q→cU p.2.names q.2.names=true)∧aA nob w2 w) (fun k=>k) ys.length ⟨rfl,rfl,rfl,rfl,trivial⟩ ⟨Z0 _,fun j q hj hq=>by have:=(ZS.1 hq).1;omega,Zn _ _⟩ ?_;rintro k w3 ⟨hkl,hbe,hF3⟩;refine Gz 2 ?_;have hv3:=hv2.ZM hF3;have hvy3:=hvy2.keep' hF3 (fun _ _ _=>id);refine Wv 16 (fun H=>VwM 10 aV H lo lc ps∧VwM 10 aV H o c ys) [14] [0,1,2,3,4,5,6,7,8,9,10,11,12,13,14,15] aK (by kernel_rfl) (⟨hv3.1,hvy3⟩) ?_;refine xK 1 ?_ ?_<;>intro h17
   ·obtain⟨q,hq⟩:∃ q,ys[k-1]?=some q:=⟨_,ZQ (by omega)⟩
    have hqm:=hym q (ZW hq);refine Gz 3 ?_;refine xV rfl (Wj bR rfl rfl hv3.1.non (by omega)) ?_;refine Gz 1 ?_;refine xV rfl (Wt lY rfl (fun H hH=>hH.1.rowZ i rfl hp 0 _ rfl)) ?_;refine Gz 3 ?_;refine xV rfl (Wj bR rfl rfl hvy3.non (by omega)) ?_;refine Gz 1 ?_;refine xV rfl (Wt lY rfl (fun H hH=>hH.2.rowZ (k-1) (by omega) hq 0 _ rfl)) ?_;have hpn:=(hv3.2 p hpm).1;have hqn:=(hv3.2 q hqm).1;refine Wo rfl rfl (Wy rfl rfl VN rfl ((by show Calls _ _ [Value.slice p.1.names.a p.1.names.n p.1.names.c,Value.slice q.1.names.a q.1.names.n q.1.names.c].toArray _ _;rw[hpn.1,hqn.1];exact Ly _ _ _ _ p.2.names q.2.names _ hpn.2.1 hqn.2.1)) rfl ?_);rintro _ w4 ⟨rfl,hf4⟩;rw[show cU p.2.names q.2.names=decide (cU p.2.names q.2.names=true) by simp];have hF4:aA nob w2 w4:=(hF3.draws 1).trans hf4;refine Wu (by exact⟨hv2.1.keep' hF4 (fun _ _ _=>id),hvy2.keep' hF4 (fun _ _ _=>id)⟩) ?_;by_cases h30:cU p.2.names q.2.names=true
    ·rw[Z3 h30];refine Gz 13 ?_;refine Wz (k-1) ⟨rfl,rfl,rfl,congrArg (fun z:Int=>some (Value.int .i64 z)) (by omega),trivial⟩ ⟨by omega,fun j r hj hr=>?_,hF4⟩ (by show k-1<k;omega);by_cases e:j=k-1
     ·subst e;rw[hq] at hr;cases hr;exact h30
     ·exact hbe j r (by omega) hr
    rw[ZV h30];have hstop:∀ q:NdH×Nd,0<k→ys[k-1]?=some q→cU p.2.names q.2.names=false:=fun q2 _ h2=>by rw[hq] at h2;cases h2;simpa using h30
    refine Gz 8 ?_;exact aC k ⟨hkl,hbe,hstop,hF4⟩
   have hstop:∀ q:NdH×Nd,0<k→ys[k-1]?=some q→cU p.2.names q.2.names=false:=fun q h=>by omega
   refine Gz 12 ?_;refine Wo rfl rfl (Xb rfl rfl rfl rfl ?_);refine Wu (by exact⟨hv3.1,hvy3⟩) ?_;refine Gz 8 ?_;exact aC k ⟨hkl,hbe,hstop,hF3.draws 1⟩
  rintro k w4 ⟨hkl,hbe,hstop,hF4⟩;refine Gz 2 ?_;refine Xc aE bR rfl ?_;intro w5 ho5 hs5 hf5;have hoy5:=(ho2.ZM hF4).ZM hf5;have hvy5:=hoy5.vw aE;obtain⟨g5,hg5⟩:∃ g5,g5=w4.heap.size:=⟨_,rfl⟩
  rw[←hg5] at ho5 ⊢;have hy5:∀ a,o=some a→a.block<g5:=fun a ha=>by rw[hg5];exact(ho2.ZM hF4).lt a ha
  have hle:=hvy5.le;refine Gz 2 ?_;refine cL (Wm (u:=.slice (aO o c k 10) (ys.drop k).length (c-k)) (WR bR rfl rfl (by omega)) (by rw[ZX];rfl)) ?_;refine Wx aE rfl bR rfl rfl ho5 (hvy5.dropK hkl) (by simp only[Z7,ZX];omega) (by simp only[Z7,ZX];unfold maxLen;omega) rfl ?_;intro o6 c6 w6 ho6 hf6 hr6 hn6;rw[aq] at ho6 ⊢;have hF6:aA nob w2 w6:=(hF4.trans hf5).ZJ hf6 (fun j ⟨a,ha,e⟩=>.inr (by cases ha;have e:g5=j:=e;have:=hF4.size;omega));have hoy6:=hoy5.ZN hf6 (fun a ha ⟨b,hb,e⟩=>by cases hb;have e:g5=a.block:=e;have:=hy5 a ha;omega);refine Gz 3 ?_;refine Yk (fun H=>VwM 10 aV H lo lc ps) [0,4,9,10,12] [1,2,3,5,6,7,8,11] (.alt 0 [] (.alt 4 [] (.alt 9 [] (.alt 10 [] (.alt 12 [13] .fin .stop) .stop) .stop) (.alt 9 [] (.alt 4 [] (.alt 10 [] (.alt 12 [13] .fin .stop) .stop) .stop) .stop)) (.alt 9 [] (.alt 0 [] (.alt 4 [] (.alt 10 [] (.alt 12 [13] .fin .stop) .stop) .stop) .stop) .stop)) aK (by kernel_rfl) (hv2.1.keep' hF6 (fun _ _ _=>id)) ?_;have hG0:aA nob w2 (w6.drewN 1):=hF6.draws 1;have hoy0:bJ 10 aV 68 (w6.drewN 1).heap o c ys:=hoy6;have hor0:bJ 10 aV 68 (w6.drewN 1).heap o6 c6 (ys.drop k):=ho6;generalize w6.drewN 1=v0 at hG0 hoy0 hor0 ⊢;refine WB rfl rfl (WU rfl) rfl ?_;refine WB rfl rfl (WU rfl) rfl ?_;refine WB rfl rfl (Wm (u:=.slice o (ys.take k).length c) (WE bR rfl rfl (by omega)) (by rw[bF,ZT,cn (by omega)];rfl)) rfl ?_;refine WB rfl rfl (WU rfl) rfl ?_;refine WB rfl rfl (WU rfl) rfl ?_;refine WB rfl rfl (Wj bR rfl rfl hv2.1.non (by omega)) rfl ?_;refine WB rfl rfl (W9 (cs:=aV p) gQ rfl (fun H hH j v hj=>hH.rowZ i rfl hp j v hj)) rfl ?_;refine WB rfl rfl (WU rfl) rfl ?_;refine WJ ?_ ?_
  ·refine WI rfl rfl (Xc aE bR rfl ?_);intro v1 hoa1 hsa hfa;have hG1:=hG0.trans hfa;have hoy1:=hoy0.ZM hfa;have hor1:=hor0.ZM hfa;obtain⟨ga,hga⟩:∃ ga,ga=v0.heap.size:=⟨_,rfl⟩
   rw[←hga] at hoa1 ⊢;have hgs1:ga<v1.heap.size:=hoa1.lt _ rfl;have hgr:∀ a,o6=some a→a.block<ga:=fun a ha=>by rw[hga];exact hor0.lt a ha
   have hgW:w2.heap.size≤ga:=by rw[hga];exact hG0.size
   refine WT (by exact hv2.1.keep' hG1 (fun _ _ _=>id)) ?_;refine WJ ?_ ?_
   ·refine WI rfl rfl (Wx aE rfl bR rfl rfl hoa1 ((hoy1.vw aE).take k) (by simp only[Z7,ZT];omega) (by simp only[Z7,ZT];unfold maxLen;omega) rfl ?_);intro o43 c43 v2 ho43_2 hf43 hr43 hn43;rw[aq] at ho43_2 ⊢;have hG2:aA nob w2 v2:=hG1.ZJ hf43 (fun j ⟨a,ha,e⟩=>.inr (by cases ha;have e:ga=j:=e;omega));have hor2:=hor1.ZN hf43 (fun a ha ⟨b,hb,e⟩=>by cases hb;have e:ga=a.block:=e;have:=hgr a ha;omega);have hgs2:ga<v2.heap.size:=cl hgs1 hf43.size;have hfr43:Fr ga o43:=eX (o:=some ⟨ga,0,none⟩) (fun a ha=>by cases ha;exact Z0 _) hr43 (by omega);refine WT (by exact hv2.1.keep' hG2 (fun _ _ _=>id)) ?_;refine WJ ?_ ?_
    ·refine WI rfl rfl (WD bR (cs:=(aV p).toArray) oT rfl rfl rfl (by kernel_rfl) rfl ?_);intro v3 hgl hsl hfl;have hob3:bJ 10 aV 68 v3.heap (some ⟨v2.heap.size,0,none⟩) 1 [p]:=bS (xs:=[p]) aE (by simpa using hgl) (by show 1≤maxLen;decide);obtain⟨gb,hgbe⟩:∃ gb,gb=v2.heap.size:=⟨_,rfl⟩
     rw[←hgbe] at hob3 ⊢;have hG3:=hG2.trans hfl;have hor3:=hor2.ZM hfl;have hgs3:ga<v3.heap.size:=cl hgs2 hfl.size;have ho43_3:=ho43_2.ZM hfl;refine WT (by exact hv2.1.keep' hG3 (fun _ _ _=>id)) ?_;refine WJ ?_ ?_
     ·refine WI rfl rfl (Wx aE rfl bR rfl rfl ho43_3 (hob3.vw aE) (by simp only[ZU,ZT];omega) (by simp only[ZU,ZT];unfold maxLen;omega) rfl ?_);intro o49 c49 v4 ho49 hf49 hr49 hn49;have hG4:aA nob w2 v4:=hG3.ZJ hf49 (fun j ⟨a,ha,e⟩=>.inr (by have:=hfr43 a ha;omega));have hor4:=hor3.ZN hf49 (fun a ha ⟨b,hb,e⟩=>by have:=hfr43 b hb;have:=hgr a ha;omega);have hgs4:ga<v4.heap.size:=cl hgs3 hf49.size;have hfr49:Fr ga o49:=eX hfr43 hr49 (by omega);refine WT (by exact hv2.1.keep' hG4 (fun _ _ _=>id)) ?_;refine WJ ?_ ?_
      ·refine WI rfl rfl (Wx aE rfl bR rfl rfl ho49 (hor4.vw aE) (by simp only[ZR,ZU,ZT,ZX];omega) (by simp only[ZR,ZU,ZT,ZX];unfold maxLen;omega) rfl ?_);intro o51 c51 v5 ho51 hf51 hr51 hn51;rw[Z6] at ho51 ⊢;have hG5:aA nob w2 v5:=hG4.ZJ hf51 (fun j ⟨a,ha,e⟩=>.inr (by have:=hfr49 a ha;omega));have hfr51:Fr ga o51:=eX hfr49 hr51 (by omega);refine WT (by exact hv2.1.keep' hG5 (fun _ _ _=>id)) ?_;refine WB rfl rfl (W3 rfl) rfl ?_;refine Xz ?_;refine Gz 7 ?_;exact aG ⟨i+1,o51,c51,ys.take k++p::ys.drop k⟩ ⟨by omega,ho51,fun a ha=>by have:=hfr51 a ha;have:=hF2.size;omega,by rw[tkL hp];exact uT hpe,Dq hor hkl hbe hstop,hF2.trans hG5⟩ (by show ps.length-(i+1)<ps.length-i;omega)
      exact WH
     exact WH
    exact WH
   refine WJ ?_ ?_
   ·refine WI rfl rfl (WD bR (cs:=(aV p).toArray) oT rfl rfl rfl (by kernel_rfl) rfl ?_);intro v2 hgl hsl hfl;have hob2:bJ 10 aV 68 v2.heap (some ⟨v1.heap.size,0,none⟩) 1 [p]:=bS (xs:=[p]) aE (by simpa using hgl) (by show 1≤maxLen;decide);obtain⟨gb,hgbe⟩:∃ gb,gb=v1.heap.size:=⟨_,rfl⟩
    rw[←hgbe] at hob2 ⊢;have hG2:=hG1.trans hfl;have hoy2:=hoy1.ZM hfl;have hor2:=hor1.ZM hfl;have hgs2:ga<v2.heap.size:=cl hgs1 hfl.size;have hoa2:=hoa1.ZM hfl;refine WT (by exact hv2.1.keep' hG2 (fun _ _ _=>id)) ?_;refine WJ ?_ ?_
    ·refine WI rfl rfl (Wx aE rfl bR rfl rfl hoa2 ((hoy2.vw aE).take k) (by simp only[Z7,ZT];omega) (by simp only[Z7,ZT];unfold maxLen;omega) rfl ?_);intro o43 c43 v3 ho43_3 hf43 hr43 hn43;rw[aq] at ho43_3 ⊢;have hG3:aA nob w2 v3:=hG2.ZJ hf43 (fun j ⟨a,ha,e⟩=>.inr (by cases ha;have e:ga=j:=e;omega));have hor3:=hor2.ZN hf43 (fun a ha ⟨b,hb,e⟩=>by cases hb;have e:ga=a.block:=e;have:=hgr a ha;omega);have hgs3:ga<v3.heap.size:=cl hgs2 hf43.size;have hfr43:Fr ga o43:=eX (o:=some ⟨ga,0,none⟩) (fun a ha=>by cases ha;exact Z0 _) hr43 (by omega);have hob3:=hob2.ZN hf43 (fun a ha ⟨b,hb,e⟩=>by cases hb;cases ha;have e:ga=gb:=e;omega);refine WT (by exact hv2.1.keep' hG3 (fun _ _ _=>id)) ?_;refine WJ ?_ ?_
     ·refine WI rfl rfl (Wx aE rfl bR rfl rfl ho43_3 (hob3.vw aE) (by simp only[ZU,ZT];omega) (by simp only[ZU,ZT];unfold maxLen;omega) rfl ?_);intro o49 c49 v4 ho49 hf49 hr49 hn49;have hG4:aA nob w2 v4:=hG3.ZJ hf49 (fun j ⟨a,ha,e⟩=>.inr (by have:=hfr43 a ha;omega));have hor4:=hor3.ZN hf49 (fun a ha ⟨b,hb,e⟩=>by have:=hfr43 b hb;have:=hgr a ha;omega);have hgs4:ga<v4.heap.size:=cl hgs3 hf49.size;have hfr49:Fr ga o49:=eX hfr43 hr49 (by omega);refine WT (by exact hv2.1.keep' hG4 (fun _ _ _=>id)) ?_;refine WJ ?_ ?_
      ·refine WI rfl rfl (Wx aE rfl bR rfl rfl ho49 (hor4.vw aE) (by simp only[ZR,ZU,ZT,ZX];omega) (by simp only[ZR,ZU,ZT,ZX];unfold maxLen;omega) rfl ?_);intro o51 c51 v5 ho51 hf51 hr51 hn51;rw[Z6] at ho51 ⊢;have hG5:aA nob w2 v5:=hG4.ZJ hf51 (fun j ⟨a,ha,e⟩=>.inr (by have:=hfr49 a ha;omega));have hfr51:Fr ga o51:=eX hfr49 hr51 (by omega);refine WT (by exact hv2.1.keep' hG5 (fun _ _ _=>id)) ?_;refine WB rfl rfl (W3 rfl) rfl ?_;refine Xz ?_;refine Gz 7 ?_;exact aG ⟨i+1,o51,c51,ys.take k++p::ys.drop k⟩ ⟨by omega,ho51,fun a ha=>by have:=hfr51 a ha;have:=hF2.size;omega,by rw[tkL hp];exact uT hpe,Dq hor hkl hbe hstop,hF2.trans hG5⟩ (by show ps.length-(i+1)<ps.length-i;omega)
      exact WH
     exact WH
    exact WH
   exact WH
  refine WJ ?_ ?_
  ·refine WI rfl rfl (WD bR (cs:=(aV p).toArray) oT rfl rfl rfl (by kernel_rfl) rfl ?_);intro v1 hgl hsl hfl;have hob1:bJ 10 aV 68 v1.heap (some ⟨v0.heap.size,0,none⟩) 1 [p]:=bS (xs:=[p]) aE (by simpa using hgl) (by show 1≤maxLen;decide);obtain⟨gb,hgbe⟩:∃ gb,gb=v0.heap.size:=⟨_,rfl⟩
   rw[←hgbe] at hob1 ⊢;have hG1:=hG0.trans hfl;have hoy1:=hoy0.ZM hfl;have hor1:=hor0.ZM hfl;refine WT (by exact hv2.1.keep' hG1 (fun _ _ _=>id)) ?_;refine WJ ?_ ?_
   ·refine WI rfl rfl (Xc aE bR rfl ?_);intro v2 hoa2 hsa hfa;have hG2:=hG1.trans hfa;have hoy2:=hoy1.ZM hfa;have hor2:=hor1.ZM hfa;obtain⟨ga,hga⟩:∃ ga,ga=v1.heap.size:=⟨_,rfl⟩
    rw[←hga] at hoa2 ⊢;have hgs2:ga<v2.heap.size:=hoa2.lt _ rfl;have hgr:∀ a,o6=some a→a.block<ga:=fun a ha=>by rw[hga];exact hor1.lt a ha
    have hgW:w2.heap.size≤ga:=by rw[hga];exact hG1.size
    have hob2:=hob1.ZM hfa;refine WT (by exact hv2.1.keep' hG2 (fun _ _ _=>id)) ?_;refine WJ ?_ ?_
    ·refine WI rfl rfl (Wx aE rfl bR rfl rfl hoa2 ((hoy2.vw aE).take k) (by simp only[Z7,ZT];omega) (by simp only[Z7,ZT];unfold maxLen;omega) rfl ?_);intro o43 c43 v3 ho43_3 hf43 hr43 hn43;rw[aq] at ho43_3 ⊢;have hG3:aA nob w2 v3:=hG2.ZJ hf43 (fun j ⟨a,ha,e⟩=>.inr (by cases ha;have e:ga=j:=e;omega));have hor3:=hor2.ZN hf43 (fun a ha ⟨b,hb,e⟩=>by cases hb;have e:ga=a.block:=e;have:=hgr a ha;omega);have hgs3:ga<v3.heap.size:=cl hgs2 hf43.size;have hfr43:Fr ga o43:=eX (o:=some ⟨ga,0,none⟩) (fun a ha=>by cases ha;exact Z0 _) hr43 (by omega);have hob3:=hob2.ZN hf43 (fun a ha ⟨b,hb,e⟩=>by cases hb;cases ha;have e:ga=gb:=e;omega);refine WT (by exact hv2.1.keep' hG3 (fun _ _ _=>id)) ?_;refine WJ ?_ ?_
     ·refine WI rfl rfl (Wx aE rfl bR rfl rfl ho43_3 (hob3.vw aE) (by simp only[ZU,ZT];omega) (by simp only[ZU,ZT];unfold maxLen;omega) rfl ?_);intro o49 c49 v4 ho49 hf49 hr49 hn49;have hG4:aA nob w2 v4:=hG3.ZJ hf49 (fun j ⟨a,ha,e⟩=>.inr (by have:=hfr43 a ha;omega));have hor4:=hor3.ZN hf49 (fun a ha ⟨b,hb,e⟩=>by have:=hfr43 b hb;have:=hgr a ha;omega);have hgs4:ga<v4.heap.size:=cl hgs3 hf49.size;have hfr49:Fr ga o49:=eX hfr43 hr49 (by omega);refine WT (by exact hv2.1.keep' hG4 (fun _ _ _=>id)) ?_;refine WJ ?_ ?_
      ·refine WI rfl rfl (Wx aE rfl bR rfl rfl ho49 (hor4.vw aE) (by simp only[ZR,ZU,ZT,ZX];omega) (by simp only[ZR,ZU,ZT,ZX];unfold maxLen;omega) rfl ?_);intro o51 c51 v5 ho51 hf51 hr51 hn51;rw[Z6] at ho51 ⊢;have hG5:aA nob w2 v5:=hG4.ZJ hf51 (fun j ⟨a,ha,e⟩=>.inr (by have:=hfr49 a ha;omega));have hfr51:Fr ga o51:=eX hfr49 hr51 (by omega);refine WT (by exact hv2.1.keep' hG5 (fun _ _ _=>id)) ?_;refine WB rfl rfl (W3 rfl) rfl ?_;refine Xz ?_;refine Gz 7 ?_;exact aG ⟨i+1,o51,c51,ys.take k++p::ys.drop k⟩ ⟨by omega,ho51,fun a ha=>by have:=hfr51 a ha;have:=hF2.size;omega,by rw[tkL hp];exact uT hpe,Dq hor hkl hbe hstop,hF2.trans hG5⟩ (by show ps.length-(i+1)<ps.length-i;omega)
      exact WH
     exact WH
    exact WH
   exact WH
  exact WH
 have hie:i=ps.length:=by omega
 subst hie;rw[be] at hpe;refine Gz 1 ?_;refine aW [(0,_),(3,_),(4,_),(11,_)] ?_;refine Gz 15 ?_;exact⟨_,rfl,o,c,ys,rfl,ho2,hfo,hpe,hor,hF2⟩
end
section
open Go Go.RowKit Go.Maps
def tK(s:List Int)(z:Int):List Int:=if z∈s then s else s++[z]
def dC(zs:List Int):List Int:=zs.foldl tK []
def qU(zs:List Int)(z:Int):Int:=((dC zs).idxOf z:Nat)+1
theorem NM{s:List Int}{z x:Int}:x∈tK s z↔x∈s∨x=z:=by
 unfold tK
 split
 ·rename_i h;exact⟨.inl,fun g=>g.elim id (fun e=>e ▸ h)⟩
 ·simp
theorem FB:∀ (zs s:List Int) (x:Int),x∈zs.foldl tK s↔x∈s∨x∈zs
|[],s,x=>by simp
|z::zs,s,x=>by
   rw[dt,FB zs,NM,aw];exact or_assoc
theorem lX{zs:List Int}{x:Int}:x∈dC zs↔x∈zs:=by unfold dC;rw[FB];simp
theorem FC:∀ (zs s:List Int),∃ r,zs.foldl tK s=s++r
|[],s=>⟨[],by simp⟩
|z::zs,s=>by
   obtain⟨r,h⟩:=FC zs (tK s z);rw[dt,h];unfold tK
   split
   ·exact⟨r,rfl⟩
   ·exact⟨z::r,by simp⟩
theorem Ek(a b:List Int):∃ r,dC (a++b)=dC a++r:=by
 unfold dC;rw[cy];exact FC _ _
theorem wE(a:List Int)(z:Int):dC (a++[z])=tK (dC a) z:=by unfold dC;rw[cy];rfl
theorem EW{a b:List Int}{z:Int}(h:z∉a):qU (a++z::b) z=((dC a).length:Nat)+1:=by
 obtain⟨r,hr⟩:=Ek (a++[z]) b;have e:a++z::b=(a++[z])++b:=by simp
 have hs:z∉dC a:=fun g=>h (lX.1 g);unfold qU;rw[e,hr,wE];unfold tK;rw[ZO hs,Z6,List.idxOf_append,ZO hs];show ((List.idxOf z (z::r)+(dC a).length:Nat):Int)+1=_;rw[List.idxOf_cons_self,cx]
theorem uA{a:List Int}{z:Int}(h:z∉a):(dC (a++[z])).length=(dC a).length+1:=by
 rw[wE];unfold tK;rw[ZO (fun g=>h (lX.1 g))];simp
theorem tZ{a:List Int}{z:Int}(h:z∈a):(dC (a++[z])).length=(dC a).length:=by
 rw[wE];unfold tK;rw[ZP (lX.2 h)]
theorem PB(s:List Int)(z:Int):(tK s z).length≤s.length+1:=by unfold tK;split<;>simp
theorem HO(zs:List Int):(dC zs).length≤zs.length:=by
 have:∀ (zs s:List Int),(zs.foldl tK s).length≤s.length+zs.length:=fun zs=>by
  induction zs with
 |nil=>intro s;simp
 |cons z zs ih=>intro s;rw[dt,al];have:=ih (tK s z);have:=PB s z;omega
 have:=this zs [];simpa[dC] using this
def bN(ps:List (NdH×Nd)):List Int:=ps.map (·.2.ino)
def qL(zs:List Int)(p:NdH×Nd):NdH×Nd:=(p.1,{ p.2 with ino:=qU zs p.2.ino })
def EY(ps:List (NdH×Nd)):List (NdH×Nd):=ps.map (qL (bN ps))
theorem tA{ps:List (NdH×Nd)}{i:Nat}{p:NdH×Nd}(hp:ps[i]?=some p):bN ps=bN (ps.take i)++p.2.ino::bN (ps.drop (i+1)):=by
 conv=>lhs;rw[←ay i ps,vG hp]
 simp[bN]
theorem uW{ps:List (NdH×Nd)}{i:Nat}{p:NdH×Nd}(hp:ps[i]?=some p):bN (ps.take (i+1))=bN (ps.take i)++[p.2.ino]:=by rw[tkL hp];simp[bN]
theorem RD{zs:List Int}{ps:List (NdH×Nd)}{i:Nat}{p:NdH×Nd}(hp:ps[i]?=some p):(ps.take (i+1)).map (qL zs)=(ps.take i).map (qL zs)++[qL zs p]:=by rw[tkL hp];simp
theorem EV(zs:List Int)(z:Int):1≤qU zs z:=by unfold qU;omega
variable {D:Nat→Prop}
theorem Lq(lo:Option Addr)(lc:Nat)(ps:List (NdH×Nd))(W:World)(hv:VwM 10 aV W.heap lo lc ps)(h1000:ps.length≤1024) :
 CA 19 [.slice lo ps.length lc] W fun v w'=>∃ o c,v=.slice o (EY ps).length c∧bJ 10 aV 68 w'.heap o c (EY ps)∧Fr W.heap.size o∧aA nob W w':=by
 obtain⟨Z,hZ⟩:∃ Z,Z=bN ps:=⟨_,rfl⟩
 refine cS 54 [(0,_)] Tryz.func19 ?_;refine Gz 7 ?_;refine Xc aE bR rfl ?_;intro w1 ho1 hs1 hf1;refine Gz 15 ?_;refine Wp (β:=Nat×Option Addr×Nat) (fun⟨i,o,c⟩=>[(0,.slice lo ps.length lc),(3,.slice o ((ps.take i).map (qL Z)).length c),(4,iV (((dC (bN (ps.take i))).length:Nat)+1)),(5,iV i)]) (fun⟨i,o,c⟩ w=>i≤ps.length∧bJ 10 aV 68 w.heap o c ((ps.take i).map (qL Z))∧Fr W.heap.size o∧aA nob W w) (fun⟨i,o,c⟩=>ps.length-i) ⟨0,some ⟨W.heap.size,0,none⟩,0⟩ ⟨rfl,rfl,rfl,rfl,trivial⟩ ⟨ZZ _,ho1,fun a ha=>by cases ha;exact Z0 _,hf1⟩ ?_;rintro⟨i,o,c⟩ w2 ⟨hi,ho2,hfo,hF2⟩;refine fK 6 ?_ ?_<;>intro h12
 ·have hil:i<ps.length:=by omega
  obtain⟨p,hp⟩:∃ p,ps[i]?=some p:=⟨_,ZQ hil⟩
  have hv2:=hv.keep' hF2 (fun _ _ _=>id);have hsl:=HO (bN (ps.take i));have hil2:(bN (ps.take i)).length=i:=by simp[bN];omega
  refine Gz 1 ?_;refine aW [(0,_),(3,_),(4,_),(5,_),(12,_)] ?_;refine Gz 10 ?_;refine cL (Wj bR rfl rfl hv2.non (by omega)) ?_;refine cL (Ws (cs:=aV p) gQ rfl (fun j v hj=>hv2.rowZ i rfl hp j v hj)) ?_;refine Wn oT rfl ?_;intro w3 hg3 hs3 hf3;obtain⟨q,hq⟩:∃ q,q=w2.heap.size:=⟨_,rfl⟩
  rw[←hq] at hg3 ⊢;refine WP (vs:=aV p) gQ rfl rfl (aE p).2 hg3 rfl ?_;intro w4 hg4 hs4 hf4;have hf24:aA nob w2 w4:=hf3.ZJ hf4 (fun k e=>.inr (by have e:k=q:=e;omega));refine Gz 5 ?_;refine Wl aF rfl rfl rfl hg4 rfl ?_;intro w5 hg5 hs5 hf5;have hf25:aA nob w2 w5:=hf24.ZJ hf5 (fun k e=>.inr (by have e:k=q:=e;omega));refine Gz 9 ?_;refine Wp (β:=Nat×Int) (fun⟨k,z⟩=>[(0,.slice lo ps.length lc),(3,.slice o ((ps.take i).map (qL Z)).length c),(4,iV (((dC (bN (ps.take i))).length:Nat)+1)),(5,iV i),(6,pT q),(7,iV k)]) (fun⟨k,z⟩ w=>k≤i∧w.heap[q]?=some (.cells (aV (p.1,{ p.2 with ino:=z })).toArray 68 (0,0))∧((p.2.ino∉bN (ps.take k)→z=0)∧(p.2.ino∈bN (ps.take k)→z=qU Z p.2.ino))∧aA nob w2 w) (fun⟨k,z⟩=>i-k) ⟨0,0⟩ ⟨rfl,rfl,rfl,rfl,rfl,rfl,trivial⟩ ⟨ZZ _,hg5,⟨fun _=>rfl,fun h=>by simp[bN] at h⟩,hf25⟩ ?_;rintro⟨k,z⟩ w6 ⟨hk,hg6,hzc,hF6⟩;refine fK 5 ?_ ?_<;>intro h22
  ·have hki:k<i:=by omega
   obtain⟨r,hr⟩:∃ r,ps[k]?=some r:=⟨_,ZQ (by omega)⟩
   have hv6:=hv2.keep' hF6 (fun _ _ _=>id);have ho6:=ho2.ZM hF6;refine Gz 1 ?_;refine aW [(0,_),(3,_),(4,_),(5,_),(6,_),(7,_),(22,_)] ?_;refine Gz 7 ?_;refine Ww 11 [0,1,2,3,4,5,6,7,8,9,10] aK (by kernel_rfl) ?_;refine Gz 2 ?_;refine xC rfl (Wj bR rfl rfl hv6.non (by omega)) ?_;refine Gz 1 ?_;refine xC rfl (Wk aF rfl (hv6.rowZ k rfl hr 1 _ rfl)) ?_;refine Gz 2 ?_;refine xC rfl (Wj bR rfl rfl hv6.non (by omega)) ?_;refine Gz 1 ?_;refine xC rfl (Wk aF rfl (hv6.rowZ i rfl hp 1 _ rfl)) ?_;refine xK 0 ?_ ?_<;>intro h35
   ·refine Gz 6 ?_;have hvo:=ho6.vw aE;have hrk:((ps.take i).map (qL Z))[k]?=some (qL Z r):=by rw[ax,ar,ZP hki,hr];rfl
    refine cL (Wj bR rfl rfl hvo.non (by rw[aa,ZT];omega)) ?_;refine Gz 1 ?_;refine cL (Wk aF rfl (hvo.rowZ k rfl hrk 1 _ rfl)) ?_;refine Gz 1 ?_;refine Wl aF rfl rfl rfl hg6 rfl ?_;intro w7 hg7 hs7 hf7;have hF7:aA nob w2 w7:=(hF6.draws 1).ZJ hf7 (fun k e=>.inr (by have e:k=q:=e;omega));refine Gz 8 ?_;refine aG ⟨k+1,qU Z r.2.ino⟩ ⟨by omega,hg7,?_,hF7⟩ (by show i-(k+1)<i-k;omega);rw[h35];exact⟨fun h=>absurd (by rw[uW hr,an];exact .inr (by rw[h35];exact ai.2 rfl)) h,fun _=>rfl⟩
   refine Gz 11 ?_;refine aG ⟨k+1,z⟩ ⟨by omega,hg6,?_,hF6.draws 1⟩ (by show i-(k+1)<i-k;omega);rw[uW hr,an,ai];exact⟨fun h=>hzc.1 (fun g=>h (.inl g)),fun h=>h.elim hzc.2 (fun e=>absurd e.symm h35)⟩
  have hke:k=i:=by omega
  subst hke;refine Gz 1 ?_;refine aW [(0,_),(3,_),(4,_),(5,_),(6,_),(7,_),(22,_)] ?_;refine Gz 7 ?_;refine WL (β:=Unit) (fun _u=>[(0,.slice lo ps.length lc),(3,.slice o ((ps.take k).map (qL Z)).length c),(4,iV (((dC (bN (ps.take (k+1)))).length:Nat)+1)),(5,iV k),(6,pT q)]) (fun _u w=>w.heap[q]?=some (.cells (aV (qL Z p)).toArray 68 (0,0))∧aA nob w2 w) ?_ ?_
  ·refine Gz 3 ?_;refine cL (Wm (u:=iV z) (Wk aF rfl (aB hg6 rfl)) rfl) ?_;refine fK 0 ?_ ?_<;>intro h44
   ·have hn:p.2.ino∉bN (ps.take k):=fun h=>by have:=hzc.2 h;have:=EV Z p.2.ino;omega
    have hzz:qU Z p.2.ino=((dC (bN (ps.take k))).length:Nat)+1:=by rw[hZ,tA hp];exact EW hn
    refine Gz 7 ?_;refine Wl aF rfl rfl rfl hg6 rfl ?_;intro w8 hg8 hs8 hf8;have hgR:w8.heap[q]?=some (.cells (aV (qL Z p)).toArray 68 (0,0)):=by unfold qL;rw[hzz];exact hg8
    have hF8:aA nob w2 w8:=hF6.ZJ hf8 (fun k e=>.inr (by have e:k=q:=e;omega));refine Gz 7 ?_;exact WY () ⟨rfl,rfl,congrArg (fun z:Int=>some (Value.int .i64 z)) (by rw[uW hp,uA hn];omega),rfl,rfl,trivial⟩ ⟨hgR,hF8⟩
   have hin:p.2.ino∈bN (ps.take k):=by
    apply ZY;intro hn;exact h44 (hzc.1 hn)
   have hzz:z=qU Z p.2.ino:=hzc.2 hin;refine Gz 4 ?_;exact WY () ⟨rfl,rfl,congrArg (fun z:Int=>some (Value.int .i64 z)) (by rw[uW hp,tZ hin]),rfl,rfl,trivial⟩ ⟨by unfold qL;rw[←hzz];exact hg6,hF6⟩
  rintro _ w8 ⟨hgR,hF8⟩;refine Gz 2 ?_;refine cL (Ws (cs:=aV (qL Z p)) gQ rfl (aQ hgR 0 rfl)) ?_;obtain⟨y,hy⟩:∃ y,y=qL Z p:=⟨_,rfl⟩
  rw[←hy];refine WD bR (cs:=(aV y).toArray) oT rfl rfl rfl (by kernel_rfl) rfl ?_;intro w9 hg9 hs9 hf9;have ho9:bJ 10 aV 68 w9.heap (some ⟨w8.heap.size,0,none⟩) 1 [y]:=bS (xs:=[y]) aE (by simpa using hg9) (by show 1≤maxLen;decide);refine Wx aE rfl bR rfl rfl ((ho2.ZM hF8).ZM hf9) (ho9.vw aE) (by simp only[ZU,aa,ZT];omega) (by simp only[ZU,aa,ZT];unfold maxLen;omega) rfl ?_;intro o9 c9 w10 hoA hfA hrA hnA;rw[hy,←RD hp] at hoA ⊢;have hFA:aA nob W w10:=(hF2.trans (hF8.trans hf9)).ZJ hfA hfo.step;have hfo9:Fr W.heap.size o9:=eX hfo hrA (by have:=hF2.size;have:=hF8.size;have:=hf9.size;omega);refine Gz 9 ?_;exact aG ⟨k+1,o9,c9⟩ ⟨by omega,hoA,hfo9,hFA⟩ (by show ps.length-(k+1)<ps.length-k;omega)
 have hie:i=ps.length:=by omega
 subst hie;rw[be] at ho2;refine Gz 1 ?_;refine aW [(0,_),(3,_),(4,_),(5,_),(12,_)] ?_;refine Gz 15 ?_;refine⟨_,rfl,o,c,?_,?_,hfo,hF2⟩
 ·rw[be,hZ];rfl
 ·unfold EY;rw[←hZ];exact ho2
theorem RO{H:Array Obj}{ps:List (NdH×Nd)}(h:∀ p∈ps,NdV D H p):∀ p∈EY ps,NdV D H p:=by
 intro p hp;obtain⟨q,hq,rfl⟩:=av.1 hp;exact h q hq
def iR(ps:List (NdH×Nd)):List (NdH×Nd):=EY (lA ps)
theorem IK{l:List Nd}(h:chk l=0):l.length≤1024:=by
 unfold chk at h;by_cases h1:1024<l.length
 ·rw[ZP h1] at h;cases h
 ·omega
theorem FX{l:List Nd}(h:chk l=0):plc l=0:=by
 rw[lK] at h;by_cases h1:plc l=0
 ·exact h1
 ·rw[ZP h1] at h;exact absurd h h1
theorem EP{l:List Nd}(h:plc l=0):nmd l=0:=by
 unfold plc at h;by_cases h0:1024<l.length
 ·rw[ZP h0] at h;cases h
 · rw[ZO h0] at h
   by_cases h1:nmd l=0
   ·exact h1
   ·rw[ZP h1] at h;exact absurd h h1
theorem CQ{l:List Nd}(h:chk l=0):¬ eQ l:=(Am (EP (FX h))).2.2
theorem JA(lo:Option Addr)(lc:Nat)(ps:List (NdH×Nd))(W:World)(hv:dG D W.heap lo lc ps)(hsm:∀ p∈ps,smN p.2) :
 CA 17 [.slice lo ps.length lc] W fun v w'=>∃ (o:Option Addr) (c:Nat) (qs:List (NdH×Nd)),v=.tuple [.slice o qs.length c,iV (chk (nds ps))].toArray∧qs=(if chk (nds ps)=0 then iR ps else [])∧dG D w'.heap o c qs∧aA nob W w':=by
 have hll:(nds ps).length=ps.length:=by simp
 refine cS 13 [(0,_)] Tryz.func17 ?_;refine cA 9 V2 (Jz lo lc ps W hv hsm) ?_;rintro _ w2 ⟨rfl,hf2⟩;refine fK 7 ?_ ?_<;>intro h8
 ·refine Gz 13 ?_;refine⟨_,rfl,none,0,[],rfl,(ZO h8).symm,⟨⟨ZZ _,ZZ _,fun h=>absurd rfl h,fun i x hx=>by simp at hx⟩,by simp⟩,hf2⟩
 have hz:chk (nds ps)=0:=br.1 h8;have hlen:=IK hz;have ht:=CQ hz;refine Gz 8 ?_;refine Wh V3 rfl (Gv lo lc ps w2 (hv.ZM hf2) (by omega)) rfl ?_;rintro _ w3 ⟨o3,c3,ys,rfl,ho3,hfo3,hpe,hor,hf3⟩;have hys:=K9 ht hpe hor;have hyl:=hpe.length_eq;have hvy:=ho3.vw aE;refine Wh V4 rfl (Lq o3 c3 ys w3 hvy (by omega)) rfl ?_;rintro _ w4 ⟨o4,c4,rfl,ho4,hfo4,hf4⟩;refine Gz 6 ?_;have hF:aA nob W w4:=(hf2.trans hf3).trans hf4;refine⟨_,rfl,o4,c4,EY ys,by rw[hz],by rw[ZP hz,hys];rfl,⟨ho4.vw aE,RO fun p hp=>(hv.ZM hF).2 p (hpe.mem_iff.1 hp)⟩,hF⟩
end
section
open Go Go.RowKit Go.Maps
theorem xP{α:Type}{K j:Nat}{enc:α→List Value}(hk:∀ x,(enc x).length=K)(hj:j<K){v:Value}{x':α}:∀ (xs:List α) (i:Nat) (y:α),xs[i]?=some y→enc x'=(enc y).set j v→(xs.set i x').flatMap enc=(xs.flatMap enc).set (i*K+j) v
|[],i,y,h,_=>by simp at h
|z::r,0,y,h,he=>by
   simp at h;subst h;rw[List.set_cons_zero,cq,cq,he,List.set_append,ZP (by rw[hk];omega),ii,cx]
|z::r,i+1,y,h,he=>by
   have ih:=xP hk hj r i y (by simpa using h) he;have e1:(i+1)*K+j=K+(i*K+j):=by rw[dy];omega
   rw[List.set_cons_succ,cq,cq,ih,List.set_append,ZO (by rw[hk];omega),hk,e1,fp]
section
variable {P:Program}{N:Nt}{Q:Exit→Act→World→Prop}{l:SF}{w:World}{ops:Array Oper}{rest:List Oper}{ty:TypeId}{pos:String}{aft:Array Edge}{x y:Operand}{t:TypeId}{v:Value}
theorem XX{α:Type}{K:Nat}{enc:α→List Value}(henc:iT K enc){T:TypeId}{ao:Option Addr}{cap:Nat}{xs:List α}{i j:Nat}{x' x0:α}{ad:Addr}(hi:xs[i]?=some x0)(hj:j<K)(he:enc x'=(enc x0).set j v)
 (ht:gZ P t=true)(hx:evL l x=some (.pointer (some ad)))(had:ad=(adr ao (i*K)).add j)(hy:evL l y=some v)(h1:v.oneCell'=true)(ho:bJ K enc T w.heap ao cap xs)
 (h:∀ w',bJ K enc T w'.heap ao cap (xs.set i x')→w'.heap.size=w.heap.size→aA (blk ao) w w'→Sl P N ops Q rest l w') :
 Sl P N ops Q (⟨none,.store t x y,ty,pos,aft,none⟩::rest) l w:=by
 have hil:=(ZS.1 hi).1;rcases ho with⟨rfl,rfl,rfl⟩|⟨g,cur,rfl,hg,g1,g2,g3,g4⟩
 ·simp at hil
 · have hK:xs.length*K≤cap*K:=di K g1
   have hiK:(i+1)*K≤xs.length*K:=di K (by omega);have hlt:i*K+j<cur.toList.length:=by rw[Array.length_toList,g3];rw[dy,Nat.one_mul] at hiK;omega
   have hadr:ad=⟨g,i*K+j,none⟩:=by
    rw[had];show ((⟨g,0,none⟩:Addr).add (i*K)).add j=_;rw[Addr.add_add,Addr.add_lit,cx]
   subst hadr;refine Wl (cur:=cur.toList) ht hx hy h1 (by simpa using hg) (by simpa[dg] using hlt) (fun w' q1 q2 q3=>h w' ?_ q2 ?_)
   · refine .inr ⟨g,_,rfl,q1,by simpa using g1,g2,by simpa using g3,?_⟩
     rw[cm,xP (fun x=>(henc x).1) hj xs i x0 hi he,←g4];simp only[List.take_set]
   ·exact q3.mono (fun k e=>⟨⟨g,0,none⟩,rfl,e.symm⟩)
end
theorem MS(n:Nat):Fr n (some ⟨n,0,none⟩):=fun a ha=>by cases ha;exact Z0 _
theorem Ks(ao:Option Addr)(c:Nat)(L:List (By×Hd))(W:World)(hv:VwM 2 pY W.heap ao c L)(hl:L.length≤10000) :
 CA 83 [.slice ao L.length c] W fun v w'=>∃ o c',v=.slice o L.length c'∧bJ 2 pY 183 w'.heap o c' L∧Fr W.heap.size o∧aA nob W w':=by
 refine cS 8 [(0,_)] Tryz.func83 ?_;refine Gz 9 ?_;refine WF (WK (Xg iC rfl rfl)) rfl (fun h4=>?_) (fun h4=>?_)
 ·refine Gz 11 ?_;obtain rfl:L=[]:=by
   apply ZY;intro hne;have h0:ao=none:=by simpa using h4
   exact hv.non (by have:=List.length_pos_iff.2 hne;omega) h0
  exact⟨_,rfl,none,0,rfl,.inl ⟨rfl,rfl,rfl⟩,Zs,Zn _ _⟩
 refine Gz 7 ?_;refine Xc cE iC rfl ?_;intro w1 ho1 hs1 hf1;refine Gz 1 ?_;refine Wx cE rfl iC rfl rfl ho1 (hv.keep' hf1 (fun _ _ _=>id)) (by simp only[Z7];omega) (by simp only[Z7];unfold maxLen;omega) rfl ?_;intro o2 c2 w2 ho2 hf2 hr2 hn2;rw[aq] at ho2 ⊢;refine Gz 5 ?_;exact⟨_,rfl,o2,c2,rfl,ho2,eX (MS _) hr2 hf1.size,hf1.ZJ hf2 (MS _).step⟩
end
theorem qY(x:Int):(i64 x).oneCell'=true:=rfl
section
variable {K:Int→List (List UInt8)}
def ltS(K:Int→List By)(x y:Int):Prop:=fU (K x) (K y)<0∨(fU (K x) (K y)=0∧x<y)
theorem wP{x y z:Int}(h1:ltS K x y)(h2:ltS K y z):ltS K x z:=by
 rcases h1 with h1|⟨h1,g1⟩
 · rcases h2 with h2|⟨h2,g2⟩
   ·exact .inl (tH h1 h2)
   ·rw[oQ h2] at h1;exact .inl h1
 · rcases h2 with h2|⟨h2,g2⟩
   ·rw[←oQ h1] at h2;exact .inl h2
   ·exact .inr ⟨by rw[oQ h1,h2],by omega⟩
theorem QX{x y:Int}(hxy:x<y)(h:¬ fU (K y) (K x)<0):ltS K x y:=by
 have:=AX (K y) (K x);by_cases e:fU (K x) (K y)=0
 ·exact .inr ⟨e,hxy⟩
 ·exact .inl (by omega)
end
def Srt(K:Int→List By)(xs:List Int)(a b:Nat):Prop:=∀ i j:Nat,a≤i→i<j→j<b→ltS K (xs.getD i 0) (xs.getD j 0)
theorem Q4{xs:List Int}{k:Nat}(h:k<xs.length):xs.getD k 0∈xs:=by
 have:xs.getD k 0=xs[k]:=by simp[Z2,h]
 rw[this];exact bm h
section
variable {P:Program}{N:Nt}{l:SF}{ty t':TypeId}{pos:String}{aft:Array Edge}{dd:Option Nat}{g:Option (Nat×Bool)}{CH:Array Obj→Prop}{x y:Operand}{t:TypeId}{m n:Int}{k':IntKind}
theorem Ze(hx:evL l x=some (.int .u64 m))(hy:evL l y=some (.int k' n))(hn:0≤n∧n≤64):Cm P N CH l ⟨dd,.binOp .shr t x y t',ty,pos,aft,g⟩ (.int .u64 (m/2 ^ n.toNat)):=fun a w ha _=>by
 simp only[execOp,ha.ev hx,ha.ev hy,eqGuard,binOp,Sem.run_bind];simp
end
theorem Rx{z:Int}(h:0≤z∧z<18446744073709551616):IntKind.u64.wrap z=z:=by
 unfold IntKind.wrap;simp[IntKind.bits,IntKind.signed];omega
theorem RS{i j:Nat}(h:i+j<4611686018427387904):IntKind.i64.wrap (((i:Int)+j)/2 ^ (1:Int).toNat)=(((i+j)/2:Nat):Int):=by
 have e:(2:Int) ^ (1:Int).toNat=2:=rfl;rw[e,aU (by omega)];omega
section
open Go Go.RowKit Go.Maps
variable {D:Nat→Prop}
def kU(ps:List (NdH×Nd))(z:Int):Int:=(ps.countP (fun p=>decide (p.2.ino=z)):Nat)
theorem Rj{ps:List (NdH×Nd)}{i:Nat}{p:NdH×Nd}(hp:ps[i]?=some p)(z:Int):kU (ps.take (i+1)) z=kU (ps.take i) z+if p.2.ino=z then 1 else 0:=by
 unfold kU;rw[tkL hp,List.countP_append,List.countP_singleton];by_cases h:p.2.ino=z
 ·simp[h]
 ·simp[h]
theorem Nn(ps:List (NdH×Nd))(z:Int):0≤kU ps z∧kU ps z≤ps.length:=by
 unfold kU;have:=List.countP_le_length (p:=fun p:NdH×Nd=>decide (p.2.ino=z)) (l:=ps);omega
def Av(ps:List (NdH×Nd))(i:Int):Int:=if 0≤i∧i<ps.length then kU ps (ps.getD i.toNat (Dk,nd0)).2.ino else 0
theorem H9{ps:List (NdH×Nd)}{i:Int}{q:NdH×Nd}(h:0≤i∧i<ps.length)(hq:ps[i.toNat]?=some q):Av ps i=kU ps q.2.ino:=by
 unfold Av;rw[ZP h,Z2,hq];rfl
theorem Au{ps:List (NdH×Nd)}{i:Int}(h:¬ (0≤i∧i<ps.length)):Av ps i=0:=by unfold Av;rw[ZO h]
theorem Jn(lo:Option Addr)(lc:Nat)(ps:List (NdH×Nd))(i:Int)(W:World)(hv:dG D W.heap lo lc ps) :
 CA 58 [.slice lo ps.length lc,iV i] W fun v w'=>v=iV (Av ps i)∧aA nob W w':=by
 have h63:=hv.1.ZL;obtain⟨Z,hZ⟩:∃ Z,Z=(ps.getD i.toNat (Dk,nd0)).2.ino:=⟨_,rfl⟩
 refine cS 37 [(0,_),(1,_)] Tryz.func58 ?_;refine Gz 17 ?_;refine Wp (β:=Nat) (fun k=>[(0,.slice lo ps.length lc),(1,iV i),(5,iV (kU (ps.take k) Z)),(6,iV k)]) (fun k w=>k≤ps.length∧(0<k→0≤i∧i<ps.length)∧aA nob W w) (fun k=>ps.length-k) 0 ⟨rfl,rfl,rfl,rfl,trivial⟩ ⟨ZZ _,fun h=>by omega,Zn _ _⟩ ?_;rintro k w2 ⟨hk,hki,hF2⟩;refine fK 6 ?_ ?_<;>intro h10
 ·refine fW 2 ?_ ?_<;>intro h13
  ·refine fW 5 ?_ ?_<;>intro h19
   ·have hin:0≤i∧i<ps.length:=by omega
    obtain⟨q,hq⟩:∃ q,ps[i.toNat]?=some q:=⟨_,ZQ (by omega)⟩
    have hqZ:q.2.ino=Z:=by rw[hZ,Z2,hq];rfl
    have hkl:k<ps.length:=by omega
    obtain⟨p,hp⟩:∃ p,ps[k]?=some p:=⟨_,ZQ hkl⟩
    have hv2:=hv.ZM hF2;have hct:=Rj hp Z;have hcl:=Nn (ps.take k) Z;have hctl:(ps.take k).length≤k:=by rw[ZT];omega
    refine Gz 6 ?_;refine WL (β:=Unit) (fun _u=>[(0,.slice lo ps.length lc),(1,iV i),(5,iV (kU (ps.take (k+1)) Z)),(6,iV k)]) (fun _u w=>aA nob W w) ?_ ?_
    ·refine Gz 2 ?_;refine Ww 11 [0,1,2,3,4,5,6,7,8,9,10] aK (by kernel_rfl) ?_;refine Gz 2 ?_;refine xC rfl (Wj bR rfl rfl hv2.1.non (by omega)) ?_;refine Gz 1 ?_;refine xC rfl (Wk aF rfl (hv2.1.rowZ k rfl hp 1 _ rfl)) ?_;refine Gz 2 ?_;refine xC rfl (Wj bR rfl rfl hv2.1.non (by omega)) ?_;refine Gz 1 ?_;refine xC rfl (Wk aF rfl (hv2.1.rowZ i.toNat (by omega) hq 1 _ rfl)) ?_;refine xK 0 ?_ ?_<;>intro h33
     ·refine Gz 9 ?_;exact WY () ⟨rfl,rfl,congrArg (fun z:Int=>some (Value.int .i64 z)) (by rw[hct,ZP (by rw[←hqZ];exact h33)]),rfl,trivial⟩ (hF2.draws 1)
     refine Gz 5 ?_;exact WY () ⟨rfl,rfl,congrArg (fun z:Int=>some (Value.int .i64 z)) (by rw[hct,ZO (by rw[←hqZ];exact h33),Int.add_zero]),rfl,trivial⟩ (hF2.draws 1)
    rintro _ w5 hF5;refine Gz 5 ?_;exact aG (k+1) ⟨by omega,fun _=>hin,hF5⟩ (by show ps.length-(k+1)<ps.length-k;omega)
   refine Gz 17 ?_;refine⟨_,rfl,congrArg _ ?_,hF2⟩;by_cases hin:0≤i∧i<ps.length
   · have hke:k=ps.length:=by omega
     subst hke;unfold Av;rw[ZP hin,be,hZ]
   · have hk0:k=0:=by
      rcases ef k with h|h
      ·exact h
      ·exact absurd (hki h) hin
     subst hk0;rw[Au hin];rfl
  refine Gz 23 ?_;refine⟨_,rfl,congrArg _ ?_,hF2⟩;by_cases hin:0≤i∧i<ps.length
  · have hke:k=ps.length:=by omega
    subst hke;unfold Av;rw[ZP hin,be,hZ]
  · have hk0:k=0:=by
     rcases ef k with h|h
     ·exact h
     ·exact absurd (hki h) hin
    subst hk0;rw[Au hin];rfl
 refine Gz 26 ?_;refine⟨_,rfl,congrArg _ ?_,hF2⟩;by_cases hin:0≤i∧i<ps.length
 · have hke:k=ps.length:=by omega
   subst hke;unfold Av;rw[ZP hin,be,hZ]
 · have hk0:k=0:=by
    rcases ef k with h|h
    ·exact h
    ·exact absurd (hki h) hin
   subst hk0;rw[Au hin];rfl
end
section
open Go Go.RowKit Go.Maps
def nmG(ps:List (NdH×Nd))(k:Nat):List By:=(ps.getD k (Dk,nd0)).2.names
theorem sS{ps:List (NdH×Nd)}{k:Nat}{p:NdH×Nd}(h:ps[k]?=some p):nmG ps k=p.2.names:=by unfold nmG;rw[Z2,h];rfl
def mP(l s:List By):Prop:=l.length=s.length+1∧l.take s.length=s
instance (l s:List By):Decidable (mP l s):=by unfold mP;exact inferInstance
def cD(ps:List (NdH×Nd))(s:List By):Nat→List Int
|0=>[]
|i+1=>if mP (nmG ps i) s then cD ps s i++[(i:Int)] else cD ps s i
section
variable {ps:List (NdH×Nd)}{s:List (List UInt8)}
theorem uR{i:Nat}(h:mP (nmG ps i) s):cD ps s (i+1)=cD ps s i++[(i:Int)]:=by rw[cD,ZP h]
theorem uS{i:Nat}(h:¬ mP (nmG ps i) s):cD ps s (i+1)=cD ps s i:=by rw[cD,ZO h]
theorem gL{z:Int}:∀ {i:Nat},z∈cD ps s i↔∃ k:Nat,z=k∧k<i∧mP (nmG ps k) s
|0=>⟨fun h=>(by simp[cD] at h),fun⟨k,_,h,_⟩=>(by omega)⟩
|i+1=>by
   by_cases h:mP (nmG ps i) s
   · rw[uR h,an,ai,gL (i:=i)]
     constructor
     · rintro(⟨k,h1,h2,h3⟩|h1)
       ·exact⟨k,h1,by omega,h3⟩
       ·exact⟨i,h1,by omega,h⟩
     · rintro⟨k,h1,h2,h3⟩
       by_cases e:k=i
       ·exact .inr (by rw[h1,e])
       ·exact .inl ⟨k,h1,by omega,h3⟩
   · rw[uS h,gL (i:=i)]
     constructor
     ·rintro⟨k,h1,h2,h3⟩;exact⟨k,h1,by omega,h3⟩
     · rintro⟨k,h1,h2,h3⟩
       by_cases e:k=i
       ·exact absurd (e ▸ h3) h
       ·exact⟨k,h1,by omega,h3⟩
theorem oJ:∀ i:Nat,(cD ps s i).Pairwise (· < ·)
|0=>List.Pairwise.nil
|i+1=>by
   by_cases h:mP (nmG ps i) s
   · rw[uR h,ff]
     refine⟨oJ i,by simp,fun a ha b hb=>?_⟩;obtain⟨k,e,hk,_⟩:=gL.1 ha;rw[ai] at hb;subst hb;omega
   ·rw[uS h];exact oJ i
theorem AD:∀ i:Nat,(cD ps s i).length≤i
|0=>Z0 _
|i+1=>by
   have:=AD i;by_cases h:mP (nmG ps i) s
   ·rw[uR h,ZR,ZU];omega
   ·rw[uS h];omega
end
theorem Il{xs:List Int}{k:Nat}(h:k<xs.length):xs.getD k 0=xs[k]:=by simp[Z2,h]
section
variable {K:Int→List (List UInt8)}
theorem La{xs:List Int}(h:Srt K xs 0 xs.length):xs.Pairwise (ltS K):=bj.2 fun i j hi hj hij=>by
 have:=h i j (ZZ _) hij hj;rwa[Il hi,Il hj] at this
theorem OU{x:Int}(h:ltS K x x):False:=by
 rcases h with h|⟨_,h⟩
 ·rw[rW] at h;omega
 ·omega
theorem OV{x y:Int}(h:ltS K x y)(g:ltS K y x):False:=OU (wP h g)
theorem HX:∀ {xs ys:List Int},xs.Perm ys→xs.Pairwise (ltS K)→ys.Pairwise (ltS K)→xs=ys
|[],ys,hp,_,_=>by rw[List.nil_perm] at hp;exact hp.symm
|x::xs,[],hp,_,_=>by have:=hp.length_eq;simp at this
|x::xs,y::ys,hp,hx,hy=>by
   have h1:=eh.1 hx;have h2:=eh.1 hy;have e:x=y:=by
    apply ZY;intro hne;have hxm:x∈ys:=by
     have:=hp.mem_iff.1 (show x∈x::xs by simp);rcases aw.1 this with e|h
     ·exact absurd e hne
     ·exact h
    have hym:y∈xs:=by
     have:=hp.mem_iff.2 (show y∈y::ys by simp);rcases aw.1 this with e|h
     ·exact absurd e.symm hne
     ·exact h
    exact OV (h1.1 y hym) (h2.1 x hxm)
   subst e;rw[HX (List.Perm.cons_inv hp) h1.2 h2.2]
theorem Mw{xs ys:List Int}(hp:xs.Perm ys)(hx:Srt K xs 0 xs.length)(hy:Srt K ys 0 ys.length):xs=ys:=HX hp (La hx) (La hy)
end
theorem BA{a b:Nat}(ha:a≤9223372036854775807)(hb:b≤9223372036854775807):((a:Int)=IntKind.i64.wrap ((b:Int)+1))↔a=b+1:=by
 by_cases h:b=9223372036854775807
 · subst h
   have e:IntKind.i64.wrap (((9223372036854775807:Nat):Int)+1) = -9223372036854775808:=by unfold IntKind.wrap;simp[IntKind.bits,IntKind.signed]
   rw[e];omega
 ·rw[aU (by omega)];omega
def CT(ps:List (NdH×Nd))(s:List By)(ys:List Int):Prop:=ys.Perm (cD ps s ps.length)∧Srt (fun z=>nmG ps z.toNat) ys 0 ys.length
theorem CT.uniq{ps:List (NdH×Nd)}{s:List By}{xs ys:List Int}(h:CT ps s xs)(g:CT ps s ys):xs=ys:=Mw (h.1.trans g.1.symm) h.2 g.2
def bB(l:List By):By:=l.getD (l.length-1) []
theorem Do{a b s:List By}(ha:mP a s)(hb:mP b s):fU a b=Pt (bB a) (bB b):=by
 have e:∀ {l:List By},mP l s→l=s++[bB l]:=fun {l} h=>by
  have h1:l[s.length]?=some (bB l):=by
   unfold bB;rw[h.1,Z2,iu,ZQ (by have:=h.1;omega)];rfl
  have h2:=tkL h1;rw[h.2,Z4 (by have:=h.1;omega)] at h2;exact h2
 conv=>lhs;rw[e ha,e hb]
 rw[AY];show (if bB a=bB b then fU [] [] else if Z8 (bB a) (bB b)=true then -1 else 1)=_;unfold Pt;by_cases h1:Z8 (bB a) (bB b)=true
 ·rw[ZP h1,ZO (fun h=>by rw[h,gW] at h1;cases h1),ZP h1]
 · rw[ZO h1]
   by_cases h2:bB a=bB b
   ·rw[ZP h2,ZP h2,ZO h1];rfl
   ·rw[ZO h2,ZO h2,ZO h1]
theorem DD{a b:By}:Pt a b<0↔Z8 a b=true:=by
 unfold Pt;by_cases h1:Z8 a b=true
 ·rw[ZP h1];simp[h1]
 · rw[ZO h1]
   by_cases h2:a=b
   ·rw[ZP h2];simp[h1]
   ·rw[ZO h2];simp[h1]
variable {D:Nat→Prop}
theorem If(o:Option Addr)(c:Nat)(a:List By)(W:World)(ha:Vw xT W.heap o c a)(hne:a≠[]) :
 CA 103 [.slice o a.length c] W fun v w'=>v=.string (bs (bB a))∧aA nob W w':=by
 have h63:=ha.ZL;have h0:0<a.length:=by rcases a with _|⟨x,r⟩;exact absurd rfl hne;simp
 refine cS 9 [(0,_)] Tryz.func103 ?_;refine Gz 11 ?_;refine cL (Wi vX rfl rfl ha.non (by omega)) ?_;refine cL (Wm (u:=.string (bs (bB a))) (Wk gH rfl (ha.gz [] (a.length-1) (by omega) (by omega))) rfl) ?_;refine Gz 5 ?_;exact⟨_,rfl,rfl,Zn _ _⟩
end
section
open Go Go.RowKit Go.Maps
def stl(ys:List Int)(i:Int)(k:Nat):List Int:=ys.take k++(if k=ys.length then i else ys.getD k 0)::ys.drop k
section
variable {ys:List Int}{i:Int}{k:Nat}
theorem kI(hk:k≤ys.length):(stl ys i k).length=ys.length+1:=by unfold stl;simp;omega
theorem N9:stl ys i ys.length=ys++[i]:=by unfold stl;rw[ZP rfl];simp
theorem HL{j:Nat}(hk:k≤ys.length)(hj:j<k):(stl ys i k).getD j 0=ys.getD j 0:=by
 unfold stl;rw[Z2,Z2,au (by rw[ZT];omega),ar,ZP hj];rfl
theorem Gk(hk:k≤ys.length){u:Int}:(stl ys i k).set k u=ys.take k++u::ys.drop k:=by
 unfold stl;rw[List.set_append_right _ _ (by rw[ZT];omega)];rw[ZT,show k-min k ys.length=0 by omega];rfl
theorem K8(hk:k≤ys.length)(h0:0<k):(stl ys i k).set k (ys.getD (k-1) 0)=stl ys i (k-1):=by
 rw[Gk hk];have h1:ys[k-1]?=some (ys.getD (k-1) 0):=by rw[Z2,ZQ (by omega)];rfl
 have h2:=tkL h1;have h3:=vG h1;rw[show k-1+1=k by omega] at h2 h3;unfold stl;rw[ZO (by omega),h2,h3];simp
end
def KF(ps:List (NdH×Nd))(z:Int):List By:=nmG ps z.toNat
theorem yO{ps:List (NdH×Nd)}{s:List By}{ys:List Int}{i k:Nat}(hp:ys.Perm (cD ps s i))(hs:ys.Pairwise (ltS (KF ps)))(hk:k≤ys.length)(hi:mP (nmG ps i) s)
 (h1:∀ j,k≤j→j<ys.length→Z8 (bB (nmG ps i)) (bB (nmG ps (ys.getD j 0).toNat))=true)(h2:0<k→¬ Z8 (bB (nmG ps i)) (bB (nmG ps (ys.getD (k-1) 0).toNat))=true) :
 (ys.take k++(i:Int)::ys.drop k).Perm (cD ps s (i+1))∧(ys.take k++(i:Int)::ys.drop k).Pairwise (ltS (KF ps)):=by
 have hm:∀ {j:Nat} {x:Int},ys[j]?=some x→0≤x∧x<i∧mP (nmG ps x.toNat) s:=fun hx=>by
  obtain⟨q,e,hq,hk⟩:=gL.1 (hp.mem_iff.1 (ZW hx));subst e;exact⟨by omega,by omega,hk⟩
 have hg:∀ {j:Nat} {x:Int},ys[j]?=some x→ys.getD j 0=x:=fun hx=>by rw[Z2,hx];rfl
 have hB:∀ (j:Nat) (x:Int),k≤j→ys[j]?=some x→ltS (KF ps) i x:=fun j x hj hx=>by
  have h:=h1 j hj (ZS.1 hx).1;rw[hg hx] at h;exact .inl (by show fU (nmG ps ((i:Int).toNat)) (nmG ps x.toNat)<0;rw[ak,Do hi (hm hx).2.2];exact DD.2 h)
 have hA:∀ (j:Nat) (x:Int),j<k→ys[j]?=some x→ltS (KF ps) x i:=fun j x hj hx=>by
  obtain⟨y,hy⟩:∃ y,ys[k-1]?=some y:=⟨_,ZQ (by omega)⟩
  have h:=h2 (by omega);rw[hg hy] at h;have hl:ltS (KF ps) y i:=QX (hm hy).2.1 (by show ¬ fU (nmG ps ((i:Int).toNat)) (nmG ps y.toNat)<0;rw[ak,Do hi (hm hy).2.2];exact fun g=>h (DD.1 g));by_cases e:j=k-1
  ·subst e;rw[hx] at hy;cases hy;exact hl
  · have e1:=ZS.1 hx
    have e2:=ZS.1 hy;have:=bj.1 hs j (k-1) e1.1 e2.1 (by omega);rw[e1.2,e2.2] at this;exact wP this hl
 constructor
 ·rw[uR hi];exact uT hp
 · rw[ff,eh]
   have hd:∀ x∈ys.drop k,∃ j,k≤j∧ys[j]?=some x:=fun x hx=>by
    obtain⟨j,hj⟩:=ab hx;rw[dc] at hj;exact⟨k+j,by omega,hj⟩
   have ht:∀ x∈ys.take k,∃ j,j<k∧ys[j]?=some x:=fun x hx=>by
    obtain⟨j,hj⟩:=ab hx;rw[ar] at hj
    split at hj
    ·exact⟨j,by assumption,hj⟩
    ·cases hj
   refine⟨hs.sublist (List.take_sublist _ _),⟨fun x hx=>?_,hs.sublist (List.drop_sublist _ _)⟩,fun x hx y hy=>?_⟩
   ·obtain⟨j,hj,e⟩:=hd x hx;exact hB j x hj e
   · obtain⟨j,hj,e⟩:=ht x hx
     rcases aw.1 hy with rfl|hy
     ·exact hA j x hj e
     · obtain⟨j2,hj2,e'⟩:=hd y hy
       exact wP (hA j x hj e) (hB j2 y hj2 e')
theorem LM{K:Int→List By}{xs:List Int}(h:xs.Pairwise (ltS K)):Srt K xs 0 xs.length:=fun i j _ hij hj=>by
 rw[Il (by omega),Il hj];exact bj.1 h i j (by omega) hj hij
variable {D:Nat→Prop}
theorem Lz(lo:Option Addr)(lc:Nat)(ps:List (NdH×Nd))(so:Option Addr)(sc:Nat)(s:List By)(W:World)(hv:dG D W.heap lo lc ps)(hs:Vw xT W.heap so sc s)(hn:ps.length≤100000) :
 CA 55 [.slice lo ps.length lc,.slice so s.length sc] W fun v w'=>∃ o c ys,v=.slice o (cv (α:=Int) ys) c∧Own i64 3 w'.heap o c ys∧Fr W.heap.size o∧CT ps s ys∧aA nob W w':=by
 have hs63:s.length≤9223372036854775807:=by have:=hs.ZL;omega
 refine cS 74 [(0,_),(1,_)] Tryz.func55 ?_;refine Gz 7 ?_;refine WC i64 bP rfl ?_;intro w1 ho1 hs1 hf1;refine Gz 10 ?_;refine Wp (β:=Nat×Option Addr×Nat×List Int) (fun⟨i,o,c,ys⟩=>[(0,.slice lo ps.length lc),(1,.slice so s.length sc),(5,.slice o ys.length c),(6,iV i)]) (fun⟨i,o,c,ys⟩ w=>i≤ps.length∧Own i64 3 w.heap o c ys∧Fr W.heap.size o∧ys.Perm (cD ps s i)∧ys.Pairwise (ltS (KF ps))∧aA nob W w) (fun⟨i,o,c,ys⟩=>ps.length-i) ⟨0,some ⟨W.heap.size,0,none⟩,0,[]⟩ ⟨rfl,rfl,rfl,rfl,trivial⟩ ⟨ZZ _,ho1,fun a ha=>by cases ha;exact Z0 _,List.Perm.refl _,List.Pairwise.nil,hf1⟩ ?_;rintro⟨i,o,c,ys⟩ w2 ⟨hi,ho2,hfo,hyp,hyw,hF2⟩;refine fK 6 ?_ ?_<;>intro h13
 ·have hil:i<ps.length:=by omega
  obtain⟨p,hp⟩:∃ p,ps[i]?=some p:=⟨_,ZQ hil⟩
  have hv2:=hv.ZM hF2;have hs2:=hs.ZM hF2;have hll:=AD (ps:=ps) (s:=s) i;have hyl:=hyp.length_eq;have hnm:=sS hp;have hn2:=(hv2.2 p (ZW hp)).1;have hpl:p.2.names.length≤9223372036854775807:=by have:=hn2.2.1.ZL;omega
  refine Gz 11 ?_;refine cL (Wj bR rfl rfl hv2.1.non (by omega)) ?_;refine Gz 1 ?_;refine cL (Wm (u:=.slice p.1.names.a p.2.names.length p.1.names.c) (Wk lY rfl (hv2.1.rowZ i rfl hp 0 _ rfl)) (by rw[←hn2.1];rfl)) ?_;refine Gz 10 ?_;refine cL (Yr rfl rfl) ?_;refine fK 0 ?_ ?_<;>intro h26
  ·have hkd:¬ mP (nmG ps i) s:=by rw[hnm];exact fun h=>h26 ((BA hpl hs63).2 h.1)
   refine Gz 21 ?_;exact aG ⟨i+1,o,c,ys⟩ ⟨by omega,ho2,hfo,by rw[uS hkd];exact hyp,hyw,hF2⟩ (by show ps.length-(i+1)<ps.length-i;omega)
  have hpe:p.2.names.length=s.length+1:=(BA hpl hs63).1 (Z5.1 h26);refine Gz 4 ?_;refine cW (Wm (u:=.slice p.1.names.a (p.2.names.take s.length).length p.1.names.c) (WE vX rfl rfl (by have:=hn2.2.1.le;omega)) (by rw[bF,ZT];congr 1;omega)) ?_;refine Gz 1 ?_;refine Wy rfl rfl R9 rfl (Ew p.1.names.a so p.1.names.c sc (p.2.names.take s.length) s w2 (hn2.2.1.take _) hs2) rfl ?_;rintro _ w3 ⟨rfl,hf3⟩;by_cases h33:p.2.names.take s.length=s
  ·rw[Z3 h33];have hkd:mP (nmG ps i) s:=by rw[hnm];exact⟨hpe,h33⟩
   refine cW (WQ rfl) ?_;refine Gz 17 ?_;refine WS (enc:=i64) (u:=(i:Int)) bP (qY _) rfl rfl ?_;intro w4 ho4 hs4 hf4;refine Wq qY bP rfl rfl ((ho2.ZM hf3).ZM hf4) ho4.vw (by simp only[ZU];omega) (by simp only[ZU];unfold maxLen;omega) rfl ?_;intro o7 c7 w7 ho7 hf7 hr7 hn7;have hF7:aA nob W w7:=(hF2.trans (hf3.trans hf4)).ZJ hf7 hfo.step;have hfo7:Fr W.heap.size o7:=eX hfo hr7 (by have:=hF2.size;have:=hf3.size;have:=hf4.size;omega);refine Gz 5 ?_;refine Wp (β:=Nat) (fun k=>[(0,.slice lo ps.length lc),(1,.slice so s.length sc),(5,.slice o7 (ys++[(i:Int)]).length c7),(6,iV i),(7,.slice p.1.names.a p.2.names.length p.1.names.c),(8,iV k)]) (fun k w=>k≤ys.length∧Own i64 3 w.heap o7 c7 (stl ys i k)∧(∀ j,k≤j→j<ys.length→Z8 (bB (nmG ps i)) (bB (nmG ps (ys.getD j 0).toNat))=true)∧aA nob W w) (fun k=>k) ys.length ⟨rfl,rfl,rfl,rfl,rfl,rfl,trivial⟩ ⟨Z0 _,by rw[N9];exact ho7,fun j h1 h2=>by omega,hF7⟩ ?_;rintro k w8 ⟨hk,ho8,hj8,hF8⟩;refine fK 4 ?_ ?_<;>intro h43
   ·have hk0:0<k:=by omega
    obtain⟨z,hz⟩:∃ z,z=ys.getD (k-1) 0:=⟨_,rfl⟩
    have hzm:z∈ys:=by rw[hz];exact Q4 (by omega)
    obtain⟨zk,hze,hzi,hzq⟩:=gL.1 (hyp.mem_iff.1 hzm);have hzl:0≤z∧z<ps.length:=by omega
    obtain⟨q,hq⟩:∃ q,ps[z.toNat]?=some q:=⟨_,ZQ (by omega)⟩
    have hv8:=hv.ZM hF8;have hnq:=(hv8.2 q (ZW hq)).1;have hnp:=(hv8.2 p (ZW hp)).1;have hqk:mP q.2.names s:=by rw[hze,ak] at hq;rw[sS hq] at hzq;exact hzq
    have hqe:q.2.names≠[]:=fun e=>by have:=hqk.1;rw[e] at this;simp at this
    have hpe2:p.2.names≠[]:=fun e=>by rw[e] at hpe;simp at hpe
    refine Gz 5 ?_;refine cW (Wi bP rfl rfl (fun _=>ho8.vw.non (by rw[kI hk];omega)) (by simp only[ZR,ZU];omega)) ?_;refine cW (Wm (u:=iV z) (Wk aF rfl (ho8.vw.gz 0 (k-1) (by omega) (by rw[kI hk];omega))) (by rw[HL hk (by omega),←hz];rfl)) ?_;refine cW (Wj bR rfl rfl hv8.1.non (by omega)) ?_;refine Gz 1 ?_;refine cW (Wm (u:=.slice q.1.names.a q.2.names.length q.1.names.c) (Wk lY rfl (hv8.1.rowZ z.toNat (by omega) hq 0 _ rfl)) (by rw[←hnq.1];rfl)) ?_;refine Wy rfl rfl Qg rfl (If q.1.names.a q.1.names.c q.2.names w8 hnq.2.1 hqe) rfl ?_;rintro _ w9 ⟨rfl,hf9⟩;refine Gz 1 ?_;refine Wy rfl rfl Qg rfl (If p.1.names.a p.1.names.c p.2.names w9 (hnp.2.1.ZM hf9) hpe2) rfl ?_;rintro _ wA ⟨rfl,hfA⟩;have hFA:=hF8.trans (hf9.trans hfA);have hoA:=(ho8.ZM hf9).ZM hfA;refine WV rfl rfl (WK (XT rfl rfl)) rfl (fun h57=>?_) (fun h57=>?_)
    ·rw[iI] at h57
     replace h57:Z8 (bB (nmG ps i)) (bB (nmG ps z.toNat))=true:=by rw[hnm,sS hq];simpa using h57
     refine Gz 14 ?_;refine cL (Wi bP rfl rfl (fun _=>hoA.vw.non (by rw[kI hk];omega)) (by simp only[ZR,ZU];omega)) ?_;refine cL (Wm (u:=iV z) (Wk aF rfl (hoA.vw.gz 0 (k-1) (by omega) (by rw[kI hk];omega))) (by rw[HL hk (by omega),←hz];rfl)) ?_;refine cL (Wi bP rfl rfl (fun _=>hoA.vw.non (by rw[kI hk];omega)) (by simp only[ZR,ZU];omega)) ?_;refine W0 qY aF (z:=(k:Int)) (u:=z) rfl rfl hoA (by rw[kI hk];omega) ?_;intro wB hoB hsB hfB;rw[ak,hz,K8 hk hk0] at hoB;refine Gz 8 ?_;have hj9:∀ j,k-1≤j→j<ys.length→Z8 (bB (nmG ps i)) (bB (nmG ps (ys.getD j 0).toNat))=true:=fun j h1 h2=>by
      by_cases e:j=k-1
      ·rw[e,←hz];exact h57
      ·exact hj8 j (by omega) h2
     exact Wz (k-1) ⟨rfl,rfl,rfl,rfl,rfl,congrArg (fun z:Int=>some (Value.int .i64 z)) (by omega),trivial⟩ ⟨by omega,hoB,hj9,hFA.ZJ hfB hfo7.step⟩ (by show k-1<k;omega)
    rw[iI] at h57
    replace h57:¬ Z8 (bB (nmG ps i)) (bB (nmG ps z.toNat))=true:=by rw[hnm,sS hq];simpa using h57
    have hoX:=hoA;have hFX:=hFA;have hend:0<k→¬ Z8 (bB (nmG ps i)) (bB (nmG ps (ys.getD (k-1) 0).toNat))=true:=fun _=>by rw[←hz];exact h57
    refine Gz 13 ?_;refine cL (Wi bP rfl rfl (fun _=>hoX.vw.non (by rw[kI hk];omega)) (by simp only[ZR,ZU];omega)) ?_;refine W0 qY aF (z:=(k:Int)) (u:=(i:Int)) rfl rfl hoX (by rw[kI hk];omega) ?_;intro wC hoC hsC hfC;rw[ak,Gk hk] at hoC;refine Gz 8 ?_;exact Wz ⟨i+1,o7,c7,ys.take k++(i:Int)::ys.drop k⟩ ⟨rfl,rfl,congrArg (fun n=>some (Value.slice o7 n c7)) (by simp;omega),rfl,trivial⟩ ⟨by omega,hoC,hfo7,(yO hyp hyw hk hkd hj8 hend).1,(yO hyp hyw hk hkd hj8 hend).2,hFX.ZJ hfC hfo7.step⟩ (by show ps.length-(i+1)<ps.length-i;omega)
   have hoX:=ho8;have hFX:=hF8;have hend:0<k→¬ Z8 (bB (nmG ps i)) (bB (nmG ps (ys.getD (k-1) 0).toNat))=true:=fun h=>by omega
   refine Gz 27 ?_;refine cL (Wi bP rfl rfl (fun _=>hoX.vw.non (by rw[kI hk];omega)) (by simp only[ZR,ZU];omega)) ?_;refine W0 qY aF (z:=(k:Int)) (u:=(i:Int)) rfl rfl hoX (by rw[kI hk];omega) ?_;intro wC hoC hsC hfC;rw[ak,Gk hk] at hoC;refine Gz 8 ?_;exact Wz ⟨i+1,o7,c7,ys.take k++(i:Int)::ys.drop k⟩ ⟨rfl,rfl,congrArg (fun n=>some (Value.slice o7 n c7)) (by simp;omega),rfl,trivial⟩ ⟨by omega,hoC,hfo7,(yO hyp hyw hk hkd hj8 hend).1,(yO hyp hyw hk hkd hj8 hend).2,hFX.ZJ hfC hfo7.step⟩ (by show ps.length-(i+1)<ps.length-i;omega)
  rw[ZV h33];have hkd:¬ mP (nmG ps i) s:=by rw[hnm];exact fun h=>h33 h.2
  refine cW (WQ rfl) ?_;refine Gz 13 ?_;exact aG ⟨i+1,o,c,ys⟩ ⟨by omega,ho2.ZM hf3,hfo,by rw[uS hkd];exact hyp,hyw,hF2.trans hf3⟩ (by show ps.length-(i+1)<ps.length-i;omega)
 have hie:i=ps.length:=by omega
 subst hie;refine Gz 16 ?_;exact⟨_,rfl,o,c,ys,rfl,ho2,hfo,⟨hyp,LM hyw⟩,hF2⟩
end
section
open Go Go.RowKit Go.Maps
def sD(ps:List (NdH×Nd)):List Int:=ps.flatMap fun p=>[p.2.ud,p.2.gd]
def Bx(ps:List (NdH×Nd))(L:List Int):Prop:=L.Pairwise (· < ·)∧∀ z,z∈L↔z∈sD ps
end
section
open Go Go.RowKit Go.Maps
theorem mI(x:Int):(i64 x).oneCell'=true:=rfl
theorem Om(ao:Option Addr)(c:Nat)(L:List Int)(z:Int)(W:World)(hv:Vw i64 W.heap ao c L) :
 CA 52 [.slice ao L.length c,iV z] W fun v w'=>v=.bool (decide (z∈L))∧w'=W:=by
 have hl:=hv.ZL;refine cS 18 [(0,_),(1,_)] Tryz.func52 ?_;refine Gz 12 ?_;refine Wp (β:=Nat) (fun i=>[(0,.slice ao L.length c),(1,iV z),(5,iV i)]) (fun i w=>i≤L.length∧(∀ j,j<i→L.getD j 0≠z)∧w=W) (fun i=>L.length-i) 0 ⟨rfl,rfl,rfl,trivial⟩ ⟨ZZ _,by intro j hj;omega,rfl⟩ ?_;rintro i w2 ⟨hi,hz,hw2⟩;subst hw2;refine fK 6 ?_ ?_<;>intro h9
 ·refine Gz 11 ?_;refine cL (Wi bP rfl rfl hv.non (by omega)) ?_;refine cL (Wk aF rfl (hv.gz 0 i rfl (by omega))) ?_;refine fK 1 ?_ ?_<;>intro h17
  ·have hin:z∈L:=by have h17:L.getD i 0=z:=h17;rw[←h17,Z2,ZQ (by omega)];exact bm _
   refine Gz 15 ?_;exact⟨_,rfl,congrArg Value.bool (Z3 hin).symm,rfl⟩
  have h17:¬ L.getD i 0=z:=h17;refine Gz 11 ?_;refine aG (i+1) ⟨by omega,?_,rfl⟩ (by show L.length-(i+1)<L.length-i;omega);intro j hj;by_cases hji:j=i
  ·rw[hji];exact h17
  ·exact hz j (by omega)
 refine Gz 15 ?_;have hno:z∉L:=by
  intro h;obtain⟨j,hj,e⟩:=cf h;exact hz j (by omega) (by rw[Z2,ZQ hj];exact e)
 exact⟨_,rfl,congrArg Value.bool (ZV hno).symm,rfl⟩
def jP(out:List Int)(v:Int)(k:Nat):List Int:=out.take k++v::out.drop k
theorem Cq{out:List Int}{v:Int}{k:Nat}(h:k≤out.length):(jP out v k).length=out.length+1:=by unfold jP;simp;omega
theorem J8(out:List Int)(v:Int):jP out v out.length=out++[v]:=by unfold jP;simp
theorem uV{out:List Int}{v:Int}{k i:Nat}(h:i<k)(hk:k≤out.length):(jP out v k).getD i 0=out.getD i 0:=by
 unfold jP;simp only[Z2];rw[au (by rw[ZT];omega),ar,ZP h]
theorem GY{out:List Int}{v:Int}{j:Nat}(h:j<out.length):((jP out v (j+1)).set (j+1) (out.getD j 0)).set j v=jP out v j:=by
 have e1:out.take (j+1)=out.take j++[out.getD j 0]:=by rw[am h,Z2,ZQ h];rfl
 have e2:out.drop j=out.getD j 0::out.drop (j+1):=by rw[bz h,Z2,ZQ h];rfl
 have l1:(out.take j).length=j:=by rw[ZT];omega
 unfold jP;rw[e1,e2,Z6,List.set_append_right _ _ (by omega),l1,show j+1-j=1 by omega];rw[List.set_append_right _ _ (by omega),l1,Nat.sub_self];rfl
theorem Cp{out:List Int}{v:Int}{k:Nat}{z:Int}:z∈jP out v k↔z=v∨z∈out:=by
 unfold jP;rw[an,aw];constructor
 · rintro(h|rfl|h)
   ·exact .inr (dj h)
   ·exact .inl rfl
   ·exact .inr (List.mem_of_mem_drop h)
 · rintro(rfl|h)
   ·exact .inr (.inl rfl)
   · rw[←ay k out] at h
     rcases an.1 h with h|h
     ·exact .inl h
     ·exact .inr (.inr h)
theorem uU{out:List Int}{v:Int}{k:Nat}(hs:out.Pairwise (· < ·))(hk:k≤out.length)(h1:∀ z∈out.drop k,v<z)(h2:0<k→out.getD (k-1) 0<v):(jP out v k).Pairwise (· < ·):=by
 have hlow:∀ z∈out.take k,z<v:=by
  intro z hz;obtain⟨i,hi,rfl⟩:=cf hz;rw[ZT] at hi;have h3:=h2 (by omega);rw[List.getElem_take];by_cases e:i=k-1
  ·subst e;rw[Z2,ZQ (by omega)] at h3;exact h3
  · have h4:=bj.1 hs i (k-1) (by omega) (by omega) (by omega)
    rw[Z2,ZQ (by omega)] at h3;have h3:out[k-1]<v:=h3;omega
 unfold jP;refine ff.2 ⟨hs.sublist (List.take_sublist _ _),eh.2 ⟨h1,hs.sublist (List.drop_sublist _ _)⟩,?_⟩;intro a ha b hb;have:=hlow a ha;rcases aw.1 hb with rfl|hb
 ·exact this
 ·have:=h1 b hb;omega
theorem Dg:∀ (ps:List (NdH×Nd)) (k:Nat) (p:NdH×Nd),ps[k]?=some p→(sD ps).getD (2*k) 0=p.2.ud∧(sD ps).getD (2*k+1) 0=p.2.gd
|[],k,p,h=>by simp at h
|q::r,0,p,h=>by simp at h;subst h;exact⟨rfl,rfl⟩
|q::r,k+1,p,h=>Dg r k p (by simpa using h)
theorem uM:∀ (ps:List (NdH×Nd)),(sD ps).length=2*ps.length
|[]=>rfl
|q::r=>by have:=uM r;show (q.2.ud::q.2.gd::sD r).length=2*(r.length+1);simp only[al];omega
theorem Qj(a:Addr)(i j:Nat):(a.add i).add j=a.add (i+j):=Addr.add_add a i j
theorem uD(lo:Option Addr)(lc:Nat)(ps:List (NdH×Nd))(W:World)(hv:VwM 10 aV W.heap lo lc ps)(hl:ps.length≤1000) :
 CA 23 [.slice lo ps.length lc] W fun v w'=>∃ o c L,v=.slice o (cv (α:=Int) L) c∧Own i64 3 w'.heap o c L∧Fr W.heap.size o∧Bx ps L∧aA nob W w':=by
 have hzl:=uM ps;refine cS 71 [(0,_)] Tryz.func23 ?_;refine Gz 7 ?_;refine WC i64 bP rfl ?_;intro w1 ho1 hs1 hf1;refine Gz 10 ?_;refine Wp (β:=Nat×List Int×(Option Addr×Nat)) (fun⟨i,out,⟨oo,oc⟩⟩=>[(0,.slice lo ps.length lc),(3,.slice oo out.length oc),(4,iV i)]) (fun⟨i,out,⟨oo,oc⟩⟩ w=>i≤2*ps.length∧Own i64 3 w.heap oo oc out∧out.Pairwise (· < ·)∧(∀ z,z∈out↔z∈(sD ps).take i)∧out.length≤i∧Fr W.heap.size oo∧aA nob W w) (fun⟨i,out,⟨oo,oc⟩⟩=>2*ps.length-i) ⟨0,[],⟨some ⟨W.heap.size,0,none⟩,0⟩⟩ ⟨rfl,rfl,rfl,trivial⟩ ⟨ZZ _,ho1,List.Pairwise.nil,by simp,Z0 _,(fun a ha=>by cases ha;exact Z0 _),hf1⟩ ?_;rintro⟨i,out,⟨oo,oc⟩⟩ w2 ⟨hi,hoo,hso,hmem,hol,hfro,hF2⟩;refine Gz 6 ?_;refine cL (WN rfl rfl (by omega)) ?_;refine fK 0 ?_ ?_<;>intro h13
 ·obtain⟨p,hp⟩:∃ p,ps[i/2]?=some p:=⟨_,ZQ (by omega)⟩
  obtain⟨k1,k2⟩:=Dg ps _ p hp;obtain⟨v,hvv⟩:∃ v,v=(sD ps).getD i 0:=⟨_,rfl⟩
  have hv2:=hv.ZN hF2 (fun _ _=>id);have htk:(sD ps).take (i+1)=(sD ps).take i++[v]:=by rw[am (by omega),hvv,Z2,ZQ (by omega)];rfl
  refine Gz 1 ?_;refine aW [(0,_),(3,_),(4,_),(13,_)] ?_;refine Gz 10 ?_;refine cL (Wm (u:=iV ((i/2:Nat):Int)) (W6 rfl rfl (by omega) (by decide)) (by congr 1)) ?_;refine cL (Wj bR rfl rfl hv2.non (by omega)) ?_;refine Gz 2 ?_;refine cL (Wk aF rfl (by rw[Qj];exact hv2.rowZ (i/2) rfl hp 4 _ rfl)) ?_;refine Gz 3 ?_;refine WL (β:=Unit) (fun _u=>[(0,.slice lo ps.length lc),(3,.slice oo out.length oc),(4,iV i),(5,iV v)]) (fun _u w=>w=w2) ?_ ?_
  ·refine Gz 3 ?_;refine cL (W7 rfl rfl (by omega) (by decide)) ?_;refine fK 0 ?_ ?_<;>intro h25
   ·have hve:v=p.2.gd:=by rw[hvv,←k2];congr 1;omega
    refine Gz 6 ?_;refine cL (Wm (u:=iV ((i/2:Nat):Int)) (W6 rfl rfl (by omega) (by decide)) (by congr 1)) ?_;refine cL (Wj bR rfl rfl hv2.non (by omega)) ?_;refine Gz 2 ?_;refine cL (Wk aF rfl (by rw[Qj];exact hv2.rowZ (i/2) rfl hp 5 _ rfl)) ?_;refine Gz 2 ?_;exact WY () ⟨rfl,rfl,rfl,(by rw[hve];rfl),trivial⟩ rfl
   have hve:v=p.2.ud:=by rw[hvv,←k1];congr 1;omega
   refine Gz 4 ?_;exact WY () ⟨rfl,rfl,rfl,(by rw[hve];rfl),trivial⟩ rfl
  rintro _ wq hwq;obtain rfl:w2=wq:=hwq.symm;refine cA 4 VK (Om oo oc out v w2 hoo.vw) ?_;rintro _ wq ⟨rfl,hwq⟩;subst wq;by_cases h35:v∈out
  ·rw[Z3 h35];refine Gz 19 ?_;refine aG ⟨i+1,out,⟨oo,oc⟩⟩ ⟨by omega,hoo,hso,fun z=>?_,by omega,hfro,hF2⟩ (by show 2*ps.length-(i+1)<2*ps.length-i;omega);rw[htk,an,←hmem z,ai];exact⟨.inl,fun h=>h.elim id (fun e=>by rw[e];exact h35)⟩
  rw[ZV h35];refine Gz 16 ?_;refine WS (enc:=i64) (u:=v) bP (mI _) rfl rfl ?_;intro w3 ho3 hs3 hf3;refine Wq mI bP rfl rfl (hoo.ZM hf3) ho3.vw (by simp only[ZU];omega) (by simp only[ZU];unfold maxLen;omega) rfl ?_;intro o4 c4 w4 ho4 hf4 hr4 hn4;have hfr4:Fr W.heap.size o4:=aS hfro hr4 (by have:=hF2.size;omega);have hF4:aA nob W w4:=(hF2.trans hf3).ZJ hf4 (fun k ⟨a,ha,e⟩=>.inr (by have:=hfro a ha;omega));rw[←J8] at ho4 ⊢;have hil:=Cq (out:=out) (v:=v) (Z0 _);refine Gz 12 ?_;refine Wp (β:=Nat) (fun k=>[(0,.slice lo ps.length lc),(3,.slice o4 (out.length+1) c4),(4,iV i),(5,iV v),(7,iV k)]) (fun k w=>k≤out.length∧Own i64 3 w.heap o4 c4 (jP out v k)∧(∀ z∈out.drop k,v<z)∧aA nob W w) (fun k=>k) out.length ⟨rfl,(by rw[hil];rfl),rfl,rfl,(congrArg (fun z:Int=>some (Value.int .i64 z)) (show (((jP out v out.length).length:Nat):Int)-1=(out.length:Nat) by omega)),trivial⟩ ⟨Z0 _,ho4,by simp,hF4⟩ ?_;rintro k w5 ⟨hk,ho5,hgtd,hF5⟩;have hil5:=Cq (out:=out) (v:=v) hk;refine fK 4 ?_ ?_<;>intro h45
  ·have hk0:0<k:=by omega
   refine Gz 4 ?_;refine cW (Wi bP rfl rfl (fun _=>ho5.vw.non (by rw[hil5];omega)) (by omega)) ?_;refine cW (Wm (u:=iV (out.getD (k-1) 0)) (Wk aF rfl (ho5.vw.gz 0 (k-1) (by omega) (by rw[hil5];omega))) (by rw[uV (by omega) hk];rfl)) ?_;refine fW 1 ?_ ?_<;>intro h53
   ·have hgt:v<out.getD (k-1) 0:=h53;refine Gz 15 ?_;refine cL (Wi bP rfl rfl (fun _=>ho5.vw.non (by rw[hil5];omega)) (by omega)) ?_;refine cL (Wm (u:=iV (out.getD (k-1) 0)) (Wk aF rfl (ho5.vw.gz 0 (k-1) (by omega) (by rw[hil5];omega))) (by rw[uV (by omega) hk];rfl)) ?_;refine cL (Wi bP rfl rfl (fun _=>ho5.vw.non (by rw[hil5];omega)) (by omega)) ?_;refine W0 mI aF (z:=(k:Int)) (u:=out.getD (k-1) 0) rfl rfl ho5 (by rw[hil5];omega) ?_;intro w6 ho6 hs6 hf6;rw[ak] at ho6;refine Gz 7 ?_;refine cL (Wi bP rfl rfl (fun _=>ho5.vw.non (by rw[hil5];omega)) (by omega)) ?_;refine W0 mI aF (z:=((k-1:Nat):Int)) (u:=v) (by show evL _ _=_;rw[show (((k-1:Nat):Int))=(k:Int)-1 by omega];rfl) rfl ho6 (by rw[cm,hil5];omega) ?_;intro w7 ho7 hs7 hf7;rw[ak] at ho7;obtain⟨j,hj⟩:∃ j,k=j+1:=⟨k-1,by omega⟩
    subst hj;rw[iu,GY (by omega)] at ho7;refine Gz 8 ?_;refine Wz j ⟨rfl,rfl,rfl,rfl,congrArg (fun z:Int=>some (Value.int .i64 z)) (show ((j+1:Nat):Int)-1=(j:Nat) by omega),trivial⟩ ⟨by omega,ho7,fun z hz=>?_,(hF5.ZJ hf6 (fun k ⟨a,ha,e⟩=>.inr (by have:=hfr4 a ha;omega))).ZJ hf7 (fun k ⟨a,ha,e⟩=>.inr (by have:=hfr4 a ha;omega))⟩ (by show j<j+1;omega);rw[bz (by omega)] at hz;rcases aw.1 hz with rfl|hz
    ·rw[iu,Z2,ZQ (by omega)] at hgt;exact hgt
    ·exact hgtd z hz
   refine Gz 15 ?_;have hne:∀ z∈out,z≠v:=fun z hz e=>h35 (e ▸ hz);have hsn:(jP out v k).Pairwise (· < ·):=uU hso hk hgtd (fun h0=>by
    have hm:out.getD (k-1) 0∈out:=by rw[Z2,ZQ (by omega)];exact bm _
    have:=hne _ hm;omega)
   refine Wz ⟨i+1,jP out v k,⟨o4,c4⟩⟩ ⟨rfl,(by rw[hil5];rfl),rfl,trivial⟩ ⟨by omega,ho5,hsn,fun z=>?_,by rw[hil5];omega,hfr4,hF5⟩ (by show 2*ps.length-(i+1)<2*ps.length-i;omega);rw[htk,an,←hmem z,ai,Cp];exact Or.comm
  have hk0:k=0:=by omega
  refine Gz 23 ?_;have hsn:(jP out v k).Pairwise (· < ·):=uU hso hk hgtd (fun h0=>by
   exact absurd hk0 (by omega))
  refine Wz ⟨i+1,jP out v k,⟨o4,c4⟩⟩ ⟨rfl,(by rw[hil5];rfl),rfl,trivial⟩ ⟨by omega,ho5,hsn,fun z=>?_,by rw[hil5];omega,hfr4,hF5⟩ (by show 2*ps.length-(i+1)<2*ps.length-i;omega);rw[htk,an,←hmem z,ai,Cp];exact Or.comm
 have hie:i=2*ps.length:=by omega
 subst hie;rw[Z4 (by omega)] at hmem;refine Gz 1 ?_;refine aW [(0,_),(3,_),(4,_),(13,_)] ?_;refine Gz 15 ?_;exact⟨_,rfl,oo,oc,out,rfl,hoo,hfro,⟨hso,hmem⟩,hF2⟩
end
def bW(F:Nat→Int):List Value:=[iV (F 0),iV (F 1),iV (F 2),iV (F 3),iV (F 4),iV (F 5),iV (F 6),iV (F 7),iV (F 8),iV (F 9)]
theorem dH(F:Nat→Int):∀ v∈bW F,v.oneCell'=true:=by
 intro v hv;simp only[bW,aw,List.not_mem_nil,or_false] at hv;rcases hv with rfl|rfl|rfl|rfl|rfl|rfl|rfl|rfl|rfl|rfl<;>rfl
def dS(F:Nat→Int):List Int:=[64,F 2,F 3,F 4,F 5,F 6,F 0,1048576]
def BL(F:Nat→Int):Prop:=64≤F 2∧F 2≤F 3∧F 3≤F 4∧F 4≤F 5∧F 5≤F 6∧F 6≤F 0∧F 0≤1048576
def gD(F:Nat→Int):Prop:=BL F∧1≤F 1∧F 1≤1024∧1≤F 7∧F 7≤2048∧0≤F 8∧F 8≤1024∧0≤F 9∧F 9≤4294967295
instance (F:Nat→Int):Decidable (gD F):=by unfold gD BL;infer_instance
theorem tW{F:Nat→Int}:BL F↔∀ i,i+1<8→(dS F).getD i 0≤(dS F).getD (i+1) 0:=by
 constructor
 · rintro⟨a,b,c,d,e,f,g⟩ i hi
   match i,hi with
  |0,_=>exact a
  |1,_=>exact b
  |2,_=>exact c
  |3,_=>exact d
  |4,_=>exact e
  |5,_=>exact f
  |6,_=>exact g
 · intro h
   exact⟨h 0 (by decide),h 1 (by decide),h 2 (by decide),h 3 (by decide),h 4 (by decide),h 5 (by decide),h 6 (by decide)⟩
theorem Gw(F:Nat→Int)(W:World) :
 CA 108 [.agg (bW F).toArray] W fun v w'=>∃ o,v=.slice o (dS F).length 8∧Own i64 3 w'.heap o 8 (dS F)∧Fr W.heap.size o∧aA nob W w':=by
 refine cS 16 [(0,_)] Tryz.func108 ?_;refine Gz 2 ?_;refine WO rfl rfl ?_;intro w1 hg1 hs1 hf1;have hg1:w1.heap[W.heap.size]?=some (.cells (bW F).toArray 93 (0,0)):=hg1;refine Gz 17 ?_;refine WD bP (cs:=((dS F).map i64).toArray) zc3 rfl rfl rfl (by kernel_rfl) rfl ?_;intro w2 hg2 hs2 hf2;refine Gz 5 ?_;exact⟨_,rfl,some ⟨w1.heap.size,0,none⟩,rfl,kJ (xs:=dS F) hg2 (by show 8≤maxLen;decide),fun a ha=>by cases ha;exact hf1.size,hf1.trans hf2⟩
theorem Ls(F:Nat→Int)(W:World) :
 CA 63 [.agg (bW F).toArray] W fun v w'=>v=.bool (decide (gD F))∧aA nob W w':=by
 have hl8:(dS F).length=8:=rfl;refine cS 61 [(0,_)] Tryz.func63 ?_;refine Gz 2 ?_;refine WO rfl rfl ?_;intro w1 hg1 hs1 hf1;have hg1:w1.heap[W.heap.size]?=some (.cells (bW F).toArray 93 (0,0)):=hg1;obtain⟨g,eg⟩:∃ g,g=W.heap.size:=⟨_,rfl⟩
 rw[←eg] at hg1 ⊢;refine Gz 5 ?_;refine cL (Ws (cs:=bW F) cH rfl (aQ hg1 0 rfl)) ?_;refine cA 0 S8 (Gw F w1) ?_;rintro _ w2 ⟨o,rfl,ho,hfo,hf2⟩;have hv:=ho.vw;have hF2:=hf1.trans hf2;refine Gz 10 ?_;refine Wp (β:=Nat) (fun i=>[(1,pT g),(3,.slice o (dS F).length 8),(4,iV i)]) (fun i w=>1≤i∧i≤8∧(∀ j,1≤j→j<i→(dS F).getD (j-1) 0≤(dS F).getD j 0)∧aA nob w2 w) (fun i=>8-i) 1 ⟨rfl,rfl,rfl,trivial⟩ ⟨Z0 _,by decide,fun j h1 h2=>by omega,Zn _ _⟩ ?_;rintro i w3 ⟨hi1,hi8,hsm,hF3⟩;refine fK 6 ?_ ?_<;>intro h10
 ·have hil:i<8:=by omega
  refine Gz 8 ?_;refine Ww 10 [0,1,2,3,4,5,6,7,8,9] aK (by kernel_rfl) ?_;refine Gz 2 ?_;refine xC rfl (Wi bP rfl rfl (hv.ZM hF3).non (by omega)) ?_;refine xC rfl (Wm (u:=iV ((dS F).getD i 0)) (Wk aF rfl ((hv.ZM hF3).gz 0 i rfl (by omega))) rfl) ?_;refine Gz 2 ?_;refine xC rfl (Wm (u:=iV ((i-1:Nat):Int)) (XH rfl rfl (by omega)) (by congr 1;omega)) ?_;refine xC rfl (Wi bP rfl rfl (hv.ZM hF3).non (by omega)) ?_;refine xC rfl (Wm (u:=iV ((dS F).getD (i-1) 0)) (Wk aF rfl ((hv.ZM hF3).gz 0 (i-1) rfl (by omega))) rfl) ?_;refine xK 0 ?_ ?_<;>intro h22
  ·refine Gz 15 ?_;exact⟨_,rfl,by rw[ZV (fun h=>by have:=tW.1 h.1 (i-1) (by omega);rw[Nat.sub_add_cancel hi1] at this;omega)],hF2.trans (hF3.draws 1)⟩
  refine Gz 11 ?_;refine aG (i+1) ⟨by omega,by omega,fun j h1 h2=>?_,hF3.draws 1⟩ (by show 8-(i+1)<8-i;omega);by_cases e:j=i
  ·subst e;omega
  ·exact hsm j h1 (by omega)
 have hso:BL F:=tW.2 (fun j hj=>hsm (j+1) (by omega) (by omega));have hgF:=(hf2.trans hF3).obj hg1 id;refine fK 12 ?_ ?_<;>intro h25
 ·refine fW 3 ?_ ?_<;>intro h29
  ·refine fW 4 ?_ ?_<;>intro h34
   ·refine fW 4 ?_ ?_<;>intro h39
    ·refine fW 4 ?_ ?_<;>intro h44
     ·refine fW 4 ?_ ?_<;>intro h49
      ·refine fW 4 ?_ ?_<;>intro h54
       ·refine fW 4 ?_ ?_<;>intro h59
        ·refine Gz 6 ?_;exact⟨_,rfl,by rw[Z3 ⟨hso,by omega,by omega,by omega,by omega,by omega,by omega,by omega,by omega⟩],hF2.trans hF3⟩
        refine Gz 6 ?_;exact⟨_,rfl,by rw[ZV (fun h=>by unfold gD at h;omega)],hF2.trans hF3⟩
       refine Gz 11 ?_;exact⟨_,rfl,by rw[ZV (fun h=>by unfold gD at h;omega)],hF2.trans hF3⟩
      refine Gz 16 ?_;exact⟨_,rfl,by rw[ZV (fun h=>by unfold gD at h;omega)],hF2.trans hF3⟩
     refine Gz 21 ?_;exact⟨_,rfl,by rw[ZV (fun h=>by unfold gD at h;omega)],hF2.trans hF3⟩
    refine Gz 26 ?_;exact⟨_,rfl,by rw[ZV (fun h=>by unfold gD at h;omega)],hF2.trans hF3⟩
   refine Gz 31 ?_;exact⟨_,rfl,by rw[ZV (fun h=>by unfold gD at h;omega)],hF2.trans hF3⟩
  refine Gz 36 ?_;exact⟨_,rfl,by rw[ZV (fun h=>by unfold gD at h;omega)],hF2.trans hF3⟩
 refine Gz 40 ?_;exact⟨_,rfl,by rw[ZV (fun h=>by unfold gD at h;omega)],hF2.trans hF3⟩
def suL:List Fd:=[⟨0,0,4,0⟩,⟨0,2,4,0⟩,⟨0,3,4,0⟩,⟨0,4,4,0⟩,⟨0,5,4,0⟩,⟨0,6,4,0⟩,⟨0,9,4,0⟩,⟨0,1,2,0⟩,⟨0,7,2,0⟩,⟨0,8,2,0⟩]
def suM:By:=[76,77,76,65]
def zF:Nat→Int:=fun _=>0
def suS(ys:By)(k:Nat):Rd×(Nat→Int):=(suL.take k).foldl gF ((0,ys),zF)
def suQ(ys:By):Rd×(Nat→Int):=suL.foldl gF ((0,ys),zF)
def suH(F:Nat→Int):By:=suM++eZ F suL
def suB(F:Nat→Int):By:=suH F++(le (eU (suH F):Nat) 4++bg 22 0)
def jL(F:Nat→Int):By×Int:=if gD F then (suB F,0) else ([],1)
def suF(im:By):Nat→Int:=(suQ ((im.take 64).drop 4)).2
def gE(im:By):Prop:=64≤im.length∧gD (suF im)∧im.take 64=suB (suF im)∧suF im 0=im.length
instance (im:By):Decidable (gE im):=by unfold gE;infer_instance
def aJ(im:By):(Nat→Int)×Int:=if gE im then (suF im,0) else (zF,2)
theorem RA:∀ x∈suL,1≤x.b∧x.b≤4:=by decide
theorem Qs:(suL.map (·.o)).Nodup:=by decide
theorem N1:Ee suL=34:=rfl
theorem C2(F:Nat→Int):(suH F).length=38:=by unfold suH;rw[ZR,mL];rfl
theorem mS(F:Nat→Int):(suB F).length=64:=by unfold suB;rw[ZR,ZR,C2,bC,cj]
theorem zM{ys:By}{k:Nat}(h:k<10):suS ys (k+1)=gF (suS ys k) (suL.getD k ⟨0,0,0,0⟩):=by
 unfold suS;have hl:k<suL.length:=h;rw[am hl,cy];simp[Z2,hl]
theorem N0(ys:By):∀ k,(suS ys k).1.2.length≤ys.length:=by
 intro k;by_cases hk:k≤10
 · induction k with
  |zero=>exact Z0 _
  |succ n ih=>
     rw[zM (by omega)];exact aj (cC _ _ _) (ih (by omega))
 · have:suS ys k=suS ys 10:=by unfold suS;rw[Z4 (show suL.length≤k from by show 10≤k;omega)];rfl
   rw[this];have key:∀ n,n≤10→(suS ys n).1.2.length≤ys.length:=by
    intro n
    induction n with
   |zero=>intro _;exact Z0 _
   |succ n ih=>intro hn;rw[zM (by omega)];exact aj (cC _ _ _) (ih (by omega))
   exact key 10 (Z0 _)
theorem HJ{ys:By}(h:34≤ys.length):(suQ ys).1.1=0∧ys=eZ (suQ ys).2 suL++(suQ ys).1.2∧(suQ ys).1.2=ys.drop 34:=by
 obtain⟨_,_,i3,i4⟩:=yS suL ((0,ys),zF) RA Qs;have h0:(suQ ys).1.1=0:=ZY fun hc=>by
  have:=i4 rfl hc;rw[N1] at this;have:ys.length<34:=this;omega
 have h3:ys=eZ (suQ ys).2 suL++(suQ ys).1.2:=i3 h0;refine⟨h0,h3,?_⟩;have hl:(eZ (suQ ys).2 suL).length=34:=by rw[mL];rfl
 have:=congrArg (List.drop 34) h3;rw[ct hl] at this;exact this.symm
theorem Eb{im:By}(h:64≤im.length):im.take 64=suB (suF im) ↔
 im.take 4=suM∧eU (im.take 38)=bV ((im.drop 38).take 4)∧(im.take 64).drop 42=bg 22 0:=by
 have hl:((im.take 64).drop 4).length=60:=by rw[ZX,ZT];omega
 obtain⟨h0,h1,h2⟩:=HJ (ys:=(im.take 64).drop 4) (by omega);have e38:im.take 38=im.take 4++eZ (suF im) suL:=by
  have h3:=congrArg (List.take 34) h1;have hle:(eZ (suQ ((im.take 64).drop 4)).2 suL).length=34:=by rw[mL];rfl
  rw[cz hle] at h3;show _=_++eZ (suQ ((im.take 64).drop 4)).2 suL;rw[←h3,iw,dq];have:=ay 4 (im.take 38);rw[dq] at this;exact this.symm
 have eall:im.take 64=(im.take 4++eZ (suF im) suL)++(im.take 64).drop 38:=by
  rw[←e38];have:=ay 38 (im.take 64);rw[dq] at this;exact this.symm
 have e42:(im.take 64).drop 38=(im.drop 38).take 4++(im.take 64).drop 42:=by
  have h3:=ay 4 ((im.take 64).drop 38);rw[ca,iw,dq] at h3;rw[iw];exact h3.symm
 have hr4:((im.drop 38).take 4).length=4:=by rw[ZT,ZX];omega
 constructor
 · intro he
   unfold suB suH at he;rw[eall] at he;have hi1:=append_inj he (by rw[ZR,ZR,ZT];show min 4 _+_=4+_;omega);have hi2:=append_inj hi1.1 (by rw[ZT];show min 4 _=4;omega);rw[e42] at hi1;have hi3:=append_inj hi1.2 (by rw[hr4,bC]);refine⟨hi2.1,?_,hi3.2⟩;rw[e38,hi2.1,hi3.1];have:=rM 4 (eU (suH (suF im)):Nat) (fy _) (by have:=rP (suH (suF im));show ((eU _:Nat):Int)<256 ^ 4;omega);show eU (suH (suF im))=_;show eU (suH (suF im))=bV (le (eU (suH (suF im)):Nat) 4);omega
 · rintro⟨a,b,c⟩
   unfold suB;rw[eall,e42,c];have e5:im.take 4++eZ (suF im) suL=suH (suF im):=by rw[a];rfl
   rw[e5];congr 2;have h5:eU (suH (suF im))=bV ((im.drop 38).take 4):=by rw[←e5,←e38];exact b
   rw[h5];have:=Dn ((im.drop 38).take 4);rw[hr4] at this;exact this.symm
theorem F7{b:By}{n:Nat}(hl:b.length=n):b=bg n 0↔∀ c∈b,c=0:=by
 rw[List.eq_replicate_iff];exact⟨fun h=>h.2,fun h=>⟨hl,h⟩⟩
abbrev Ent:=By×Int×Int
def lJ:Ent:=([],0,0)
def bH(x:Ent):List Value:=[.string (bs x.1),iV x.2.1,iV x.2.2]
theorem bA:iT 3 bH:=fun x=>⟨rfl,by simp[bH,Value.oneCell']⟩
def kF(x:Ent)(last:By):Prop:=fP x.1=0∧Z8 last x.1=true∧1≤x.2.1∧x.2.1≤3∧0≤x.2.2∧x.2.2≤4294967295
instance (x:Ent)(last:By):Decidable (kF x last):=by unfold kF;infer_instance
def nM(x:Ent):By:=(af x.1.length::x.1)++(le x.2.1 1++le x.2.2 4)
def bE(L:List Ent):By:=L.flatMap nM
def kT(s:Rd):Ent:=(gTx s,gV 1 (eW s),gV 4 (gS 1 (eW s)))
def jT(s:Rd):Rd:=gS 4 (gS 1 (eW s))
def aT:By→List Ent→Prop
|_,[]=>True
|last,x::r=>kF x last∧aT x.1 r
def oH(l:List Ent):By:=(l.getLast?.getD lJ).1
def dtP:Nat→By→By→Option (List Ent)
|0,_,_=>none
|n+1,last,ys=>if ys=[] then some [] else if (jT (0,ys)).1=0∧kF (kT (0,ys)) last then (dtP n (kT (0,ys)).1 (jT (0,ys)).2).map (kT (0,ys) :: ·) else none
def fA(b:By):List Ent×Int:=match dtP (b.length+1) [] b with
|some L=>(L,0)
|none=>([],2)
def Kf(x:Ent):Prop:=x.1.length≤255∧0≤x.2.1∧x.2.1<256∧0≤x.2.2∧x.2.2≤4294967295
theorem mH{x:Ent}{last:By}(h:kF x last):Kf x:=⟨(oV h.1).1,by have:=h.2.2.1;omega,by have:=h.2.2.2.1;omega,h.2.2.2.2.1,h.2.2.2.2.2⟩
theorem Q6{t rest:By}(h:t.length≤255):gTx (0,(af t.length::t)++rest)=t∧eW (0,(af t.length::t)++rest)=(0,rest):=by
 have e0:cO 0 1=0:=by decide
 have l1:(0:Int)<((af t.length::t)++rest).length:=by simp only[ZR,al];omega
 have e1:dE 0 ((af t.length::t)++rest) 1=0:=by rw[dQ (by decide) (by omega)]
 obtain⟨c1,c2⟩:=cF e1;have eE:tE 0 ((af t.length::t)++rest)=0:=by unfold tE;rw[e0,e1]
 have eR:tR 0 ((af t.length::t)++rest)=t++rest:=by unfold tR;rw[e0,c2];rfl
 have eN:tN 0 ((af t.length::t)++rest)=(t.length:Int):=by
  unfold tN;rw[e0,c1];show ((af t.length).toNat+256*0:Nat)=(t.length:Int)
  rw[UInt8.toNat_ofNat'];omega
 have e2:dE 0 (t++rest) (t.length:Int)=0:=by rw[dQ (by omega) (by rw[ZR];omega)]
 obtain⟨c3,c4⟩:=cF e2;unfold gTx eW;show fD (tE 0 _) (tR 0 _) (tN 0 _)=t∧(dE (tE 0 _) (tR 0 _) (tN 0 _),rF (tE 0 _) (tR 0 _) (tN 0 _))=(0,rest)
 rw[eE,eR,eN,c3,e2,c4];exact⟨cz rfl,by rw[ak,ct rfl]⟩
theorem ML{s:Rd}(h:s.1≠0):(eW s).1≠0:=by
 unfold eW;have h1:tE s.1 s.2≠0:=Io (n:=1) h;show dE _ _ _≠0;rw[lS h1];exact h1
theorem Iq{s:Rd}(h:(eW s).1=0):s.1=0∧s.2=(af (gTx s).length::gTx s)++(eW s).2∧(gTx s).length≤255:=by
 have h0:s.1=0:=ZY fun hc=>ML hc h;obtain⟨E,ys⟩:=s;obtain rfl:E=0:=h0;have e0:cO 0 1=0:=by decide
 have hz:tE 0 ys=0:=ZY fun hc=>by
  have:(eW (0,ys)).1=dE (tE 0 ys) (tR 0 ys) (tN 0 ys):=rfl;rw[this,lS hc] at h;exact hc h
 have hz1:dE 0 ys 1=0:=by unfold tE at hz;rw[e0] at hz;exact hz
 obtain⟨_,_,hl⟩:=jC hz1;obtain⟨c1,c2⟩:=cF hz1;obtain⟨d,t,rfl⟩:∃ d t,ys=d::t:=by cases ys with|nil=>(simp at hl)|cons d t=>exact⟨d,t,rfl⟩
 have etR:tR 0 (d::t)=t:=by unfold tR;rw[e0,c2];rfl
 have etN:tN 0 (d::t)=(d.toNat:Int):=by unfold tN;rw[e0,c1];show ((d.toNat+256*0:Nat):Int)=_;omega
 have h2:dE 0 t (d.toNat:Int)=0:=by
  have:(eW (0,d::t)).1=dE (tE 0 (d::t)) (tR 0 (d::t)) (tN 0 (d::t)):=rfl;rw[this,hz,etR,etN] at h;exact h
 obtain⟨_,_,hl2⟩:=jC h2;obtain⟨c3,c4⟩:=cF h2;have eT:gTx (0,d::t)=t.take d.toNat:=by unfold gTx;rw[hz,etR,etN,c3];rfl
 have eS:eW (0,d::t)=(0,t.drop d.toNat):=by unfold eW;rw[hz,etR,etN,h2,c4];rfl
 have hd:=dl d;have hlen:(t.take d.toNat).length=d.toNat:=by rw[ZT];omega
 refine⟨rfl,?_,by rw[eT,hlen];omega⟩;rw[eT,eS,hlen];show d::t=(af d.toNat::t.take d.toNat)++t.drop d.toNat;rw[UInt8.ofNat_toNat,df,ay]
theorem Q5{n:Nat}{x:Int}(h1:1≤n)(h4:n≤4)(h0:0≤x)(hx:x<256 ^ n)(rest:By):gV n (0,le x n++rest)=x∧gS n (0,le x n++rest)=(0,rest):=by
 have hl:(le x n).length=n:=bC _ _;obtain⟨a,b⟩:=pF (n:=(n:Int)) (s:=(0,le x n++rest)) (by omega) (by omega) rfl (by show (n:Int)≤(le x n++rest).length;rw[ZR,hl];omega);rw[a,b];show ((bV ((le x n++rest).take (n:Int).toNat):Nat):Int)=x∧(0,(le x n++rest).drop (n:Int).toNat)=(0,rest)
 rw[show ((n:Int).toNat)=n by omega,cz hl,ct hl];exact⟨rM n x h0 hx,rfl⟩
theorem PW{n:Nat}{s:Rd}(h1:1≤n)(h4:n≤4)(h:(gS n s).1=0):s.1=0∧s.2=le (gV n s) n++(gS n s).2:=by
 have h0:s.1=0:=ZY fun hc=>Io hc h;have hl:(n:Int)≤s.2.length:=ZY fun hc=>Im (by omega) (by omega) h0 (by omega) h;obtain⟨a,b⟩:=pF (n:=(n:Int)) (s:=s) (by omega) (by omega) h0 hl;rw[a,b];refine⟨h0,?_⟩;show s.2=le ((bV (s.2.take (n:Int).toNat):Nat):Int) n++s.2.drop (n:Int).toNat;rw[show ((n:Int).toNat)=n by omega,Ie (by omega),ay]
theorem GK{x:Ent}(h:Kf x)(rest:By):kT (0,nM x++rest)=x∧jT (0,nM x++rest)=(0,rest):=by
 obtain⟨h1,h2,h3,h4,h5⟩:=h;obtain⟨a,b⟩:=Q6 (t:=x.1) (rest:=le x.2.1 1++(le x.2.2 4++rest)) h1;obtain⟨c,d⟩:=Q5 (n:=1) (x:=x.2.1) (by decide) (by decide) h2 (by show x.2.1<256;exact h3) (le x.2.2 4++rest);obtain⟨e,f⟩:=Q5 (n:=4) (x:=x.2.2) (by decide) (by decide) h4 (by show x.2.2<256 ^ 4;omega) rest;have he:nM x++rest=(af x.1.length::x.1)++(le x.2.1 1++(le x.2.2 4++rest)):=by unfold nM;simp only[Z6]
 rw[he];unfold kT jT;rw[a,b];have d':gS 1 (0,le x.2.1 1++(le x.2.2 4++rest))=(0,le x.2.2 4++rest):=d;have c':gV 1 (0,le x.2.1 1++(le x.2.2 4++rest))=x.2.1:=c;rw[c',d'];have e':gV 4 (0,le x.2.2 4++rest)=x.2.2:=e;have f':gS 4 (0,le x.2.2 4++rest)=(0,rest):=f;rw[e',f'];exact⟨rfl,rfl⟩
theorem C9{s:Rd}(h:(jT s).1=0):s.1=0∧s.2=nM (kT s)++(jT s).2∧(kT s).1.length≤255:=by
 obtain⟨a1,a2⟩:=PW (n:=4) (by decide) (by decide) h;obtain⟨b1,b2⟩:=PW (n:=1) (by decide) (by decide) a1;obtain⟨c1,c2,c3⟩:=Iq b1;refine⟨c1,?_,c3⟩;unfold nM;rw[c2];show _=((af (gTx s).length::gTx s)++(le (gV 1 (eW s)) 1++le (gV 4 (gS 1 (eW s))) 4))++(gS 4 (gS 1 (eW s))).2;rw[Z6,Z6];congr 1;have b2':(eW s).2=le (gV 1 (eW s)) 1++(gS 1 (eW s)).2:=b2;have a2':(gS 1 (eW s)).2=le (gV 4 (gS 1 (eW s))) 4++(gS 4 (gS 1 (eW s))).2:=a2;rw[←a2',←b2']
theorem oO(x:Ent):(nM x).length=x.1.length+6:=by unfold nM;simp[bC]
theorem uJ{ys:By}(h:(jT (0,ys)).1=0):(jT (0,ys)).2.length+6≤ys.length:=by
 have h2:=(C9 h).2.1;have:=congrArg cv h2;rw[ZR,oO] at this;have e:((0,ys):Rd).2=ys:=rfl;rw[e] at this;omega
theorem yU:∀ (n:Nat) (last ys:By) (L:List Ent),ys.length<n→(dtP n last ys=some L↔aT last L∧ys=bE L)
|0,_,_,_,h=>by omega
|n+1,last,ys,L,h=>by
   unfold dtP;by_cases h0:ys=[]
   · rw[ZP h0]
     subst h0;constructor
     ·intro h;cases h;exact⟨trivial,rfl⟩
     · rintro⟨h1,h2⟩
       cases L with
      |nil=>rfl
      |cons x r=>have:=congrArg cv h2;simp[bE,oO] at this;omega
   · rw[ZO h0]
     by_cases hg:(jT (0,ys)).1=0∧kF (kT (0,ys)) last
     · rw[ZP hg]
       obtain⟨hg1,hg2⟩:=hg;have hc:=(C9 hg1).2.1;have e:((0,ys):Rd).2=ys:=rfl;rw[e] at hc;have hl:=uJ hg1;have ih:=fun L=>yU n (kT (0,ys)).1 (jT (0,ys)).2 L (by omega);constructor
       · intro h
         obtain⟨R,hR,rfl⟩:=ae.1 h;obtain⟨i1,i2⟩:=(ih R).1 hR;refine⟨⟨hg2,i1⟩,?_⟩;show ys=nM _++bE R;rw[←i2];exact hc
       · rintro⟨h1,h2⟩
         cases L with
        |nil=>exact absurd h2 h0
        |cons x r=>
           obtain⟨a,b⟩:=GK (mH h1.1) (bE r);have h2':ys=nM x++bE r:=h2;rw[←h2'] at a b;rw[a,b];have:=(ih r).2 (by rw[a,b];exact⟨h1.2,rfl⟩);rw[a,b] at this;rw[this];rfl
     · rw[ZO hg]
       constructor
       ·intro h;cases h
       · rintro⟨h1,h2⟩
         cases L with
        |nil=>exact absurd h2 h0
        |cons x r=>
           obtain⟨a,b⟩:=GK (mH h1.1) (bE r);have h2':ys=nM x++bE r:=h2;rw[←h2'] at a b;exact absurd ⟨by rw[b],by rw[a];exact h1.1⟩ hg
theorem vI{b:By}{L:List Ent}(h1:aT [] L)(h2:b=bE L):fA b=(L,0):=by
 unfold fA;rw[(yU (b.length+1) [] b L (by omega)).2 ⟨h1,h2⟩]
theorem nC{b:By}(h:∀ L,aT [] L→b=bE L→False):fA b=([],2):=by
 unfold fA;cases hd:dtP (b.length+1) [] b with
|none=>rfl
|some L=>obtain⟨a,c⟩:=(yU (b.length+1) [] b L (by omega)).1 hd;exact(h L a c).elim
theorem AT(b:By):(∃ L,fA b=(L,0)∧aT [] L∧b=bE L)∨fA b=([],2):=by
 unfold fA;cases hd:dtP (b.length+1) [] b with
|none=>exact .inr rfl
|some L=>exact .inl ⟨L,rfl,(yU (b.length+1) [] b L (by omega)).1 hd⟩
theorem kQ{x:Ent}:∀ {l:List Ent} {last:By},aT last (l++[x])↔aT last l∧kF x (if l=[] then last else oH l)
|[],last=>by simp[aT]
|y::r,last=>by
   rw[df];show kF y last∧aT y.1 (r++[x])↔(kF y last∧aT y.1 r)∧_;rw[kQ];have hne:¬ (y::r=[]):=by simp
   rw[ZO hne];have e:oH (y::r)=if r=[] then y.1 else oH r:=by
    unfold oH;cases r with
   |nil=>rfl
   |cons z r=>rw[ZO (by simp),List.getLast?_cons_cons]
   rw[e,and_assoc]
theorem AB(l:List Ent)(x:Ent):oH (l++[x])=x.1:=by unfold oH;simp
theorem tF(l:List Ent)(x:Ent):bE (l++[x])=bE l++nM x:=by unfold bE;simp
theorem FY{l:List Ent}:∀ {last:By} (k:Nat),aT last l→aT last (l.take k):=by
 induction l with
|nil=>intro last k h;simp;exact h
|cons x r ih=>
   intro last k h;cases k with
  |zero=>exact trivial
  |succ k=>exact⟨h.1,ih k h.2⟩
def DtI(b:By)(l:List Ent)(s:Rd):Prop:=∀ L,aT [] L→b=bE L→∃ R,L=l++R∧s=(0,bE R)
theorem DtI.zero(b:By):DtI b [] (0,b):=fun L _ h=>⟨L,rfl,by rw[h]⟩
theorem DtI.step{b:By}{l:List Ent}{s:Rd}(h:DtI b l s)(hne:s.2≠[]):DtI b (l++[kT s]) (jT s)∧(∀ L,aT [] L→b=bE L→(jT s).1=0∧kF (kT s) (oH l)):=by
 have key:∀ L,aT [] L→b=bE L→∃ x R,L=l++x::R∧kT s=x∧jT s=(0,bE R)∧kF x (oH l):=by
  intro L h1 h2;obtain⟨R,rfl,hs⟩:=h L h1 h2;cases R with
 |nil=>rw[hs] at hne;exact absurd rfl hne
 |cons x R=>
    have h3:aT [] (l++[x]):=by
     have:=FY (l.length+1) h1;rw[List.take_append,Z4 (by omega)] at this;simpa using this
    have hm:=(kQ.1 h3).2;have hm':kF x (oH l):=by
     by_cases he:l=[]
     ·rw[ZP he] at hm;subst he;exact hm
     ·rw[ZO he] at hm;exact hm
    obtain⟨a,c⟩:=GK (mH hm') (bE R);have hs':s=(0,nM x++bE R):=hs;rw[←hs'] at a c;exact⟨x,R,rfl,a,c,hm'⟩
 refine⟨fun L h1 h2=>?_,fun L h1 h2=>?_⟩
 · obtain⟨x,R,rfl,a,c,_⟩:=key L h1 h2
   exact⟨R,by rw[a];simp,c⟩
 · obtain⟨x,R,rfl,a,c,d⟩:=key L h1 h2
   rw[a,c];exact⟨rfl,d⟩
theorem AZ:∀ {L:List Ent} {last:By},aT last L→∀ x∈L,Kf x
|[],_,_,x,hx=>by cases hx
|y::r,_,h,x,hx=>by
   rcases aw.1 hx with rfl|hx
   ·exact mH h.1
   ·exact AZ h.2 x hx
structure Rec where
 ref:Int
 ino:(Nat→Int)×By
 list:List Ent
 xs:List Xa
def qN:Rec:=⟨0,(zF,[]),[],[]⟩
abbrev MSt:=List (Rec×Int)×Nat
def cP(im:By)(F:Nat→Int)(n:Int):List Xa×Int:=if 0<n then fG im (F 6) (F 0) (n-1) else ([],0)
def kR(F:Nat→Int)(ids:List Int)(R:((Nat→Int)×By)×Int×Int)(kind:Int):Prop:=
 R.2.2≠0∨R.1.1 0≠kind∨(ids.length:Int)≤R.1.1 2∨(ids.length:Int)≤R.1.1 3∨F 8<R.1.1 8
instance (F:Nat→Int)(ids:List Int)(R:((Nat→Int)×By)×Int×Int)(kind:Int):Decidable (kR F ids R kind):=by unfold kR;infer_instance
def yB(im:By)(F:Nat→Int)(G:Nat→Int):Prop:=128≤G 7∧((pM im (G 6) (G 7) (F 2)).2≠0∨G 6<64)
instance (im:By)(F:Nat→Int)(G:Nat→Int):Decidable (yB im F G):=by unfold yB;infer_instance
def nK(im:By)(F:Nat→Int)(G:Nat→Int):List Ent×Int:=if (aD im (F 3) (F 4) (G 6) (G 7)).2.2≠0 then ([],2) else fA (aD im (F 3) (F 4) (G 6) (G 7)).1
def eV(im:By)(F:Nat→Int)(ids:List Int)(ref kind:Int):Option Rec:=
 if kR F ids (bQ im (F 2) (F 3) ref) kind then none
 else if (cP im F ((bQ im (F 2) (F 3) ref).1.1 5)).2≠0 then none
 else if kind=2 then (if yB im F (bQ im (F 2) (F 3) ref).1.1 then none else some ⟨ref,(bQ im (F 2) (F 3) ref).1,[],(cP im F ((bQ im (F 2) (F 3) ref).1.1 5)).1⟩)
 else if kind=1 then (if (nK im F (bQ im (F 2) (F 3) ref).1.1).2≠0 then none else some ⟨ref,(bQ im (F 2) (F 3) ref).1,(nK im F (bQ im (F 2) (F 3) ref).1.1).1,(cP im F ((bQ im (F 2) (F 3) ref).1.1 5)).1⟩)
 else some ⟨ref,(bQ im (F 2) (F 3) ref).1,[],(cP im F ((bQ im (F 2) (F 3) ref).1.1 5)).1⟩
def fL(l:List (Rec×Int))(ref:Int):Option Nat:=l.findIdx? (fun r=>decide (r.1.ref=ref))
def eL(l:List (Rec×Int))(i:Nat):List (Rec×Int):=l.set i ((l.getD i (qN,0)).1,(l.getD i (qN,0)).2+1)
def goL(f:Int→Int→MSt→Option MSt):List Ent→MSt→Option MSt
|[],s=>some s
|y::r,s=>match f y.2.2 y.2.1 s with
  |none=>none
  |some s'=>goL f r s'
def goM(im:By)(F:Nat→Int)(ids:List Int):Nat→Int→Int→MSt→Option MSt
|0,_,_,_=>none
|n+1,ref,kind,s=>
   if 1024<s.2+1 then none else
   match fL s.1 ref with
  |some i=>if kind≠1∧(s.1.getD i (qN,0)).1.ino.1 0=kind then some (eL s.1 i,s.2+1) else none
  |none=>match eV im F ids ref kind with
    |none=>none
    |some x=>goL (goM im F ids n) x.list (s.1++[(x,1)],s.2+1)
structure Img where
 im:By
 F:Nat→Int
 places:List Int
 ids:List Int
 recs:List (Rec×Int)
def kW(l:List Int):Prop:=∀ i,i+1<l.length→l.getD i 0<l.getD (i+1) 0
instance (l:List Int):Decidable (kW l):=decidable_of_iff ((bu (l.length-1)).all (fun i=>decide (l.getD i 0<l.getD (i+1) 0))=true) (by
 rw[fu];exact⟨fun h i hi=>of_decide_eq_true (h i (by rw[bt];omega)),fun h i hi=>Z3 (h i (by rw[bt] at hi;omega))⟩)
def mnt(im:By):Option Img:=
 if (aJ im).2≠0 then none
 else if (tnS im ((aJ im).1 4) ((aJ im).1 5) ((aJ im).1 8) 4).2≠0 then none
 else if (tnS im ((aJ im).1 5) ((aJ im).1 6) ((aJ im).1 7) 2).2≠0 then none
 else if ¬ kW (tnS im ((aJ im).1 5) ((aJ im).1 6) ((aJ im).1 7) 2).1 then none
 else match goM im (aJ im).1 (tnS im ((aJ im).1 5) ((aJ im).1 6) ((aJ im).1 7) 2).1 17 ((aJ im).1 9) 1 ([],0) with
 |none=>none
 |some s=>if (s.1.length:Int)≠(aJ im).1 1∨¬ (∀ r∈s.1,r.2=r.1.ino.1 4) then none
    else some ⟨im,(aJ im).1,(tnS im ((aJ im).1 4) ((aJ im).1 5) ((aJ im).1 8) 4).1,(tnS im ((aJ im).1 5) ((aJ im).1 6) ((aJ im).1 7) 2).1,s.1⟩
def knM(g:Img)(ref:Int):Option Rec:=(fL g.recs ref).map fun i=>(g.recs.getD i (qN,0)).1
def vY(x:Rec):Int:=if x.ino.1 0=1 then x.list.length else if x.ino.1 0=3 then x.ino.2.length else x.ino.1 7
def stM(g:Img)(x:Rec):List Int:=[x.ino.1 0,x.ino.1 1,g.ids.getD (x.ino.1 2).toNat 0,g.ids.getD (x.ino.1 3).toNat 0,x.ino.1 4,vY x]
def mT(g:Img)(ref:Int):List Int×Int:=match knM g ref with
|none=>([0,0,0,0,0,0],1)
|some x=>(stM g x,0)
def fE(g:Img)(ref:Int):List Ent×Int:=match knM g ref with
|none=>([],1)
|some x=>if x.ino.1 0≠1 then ([],24) else (x.list,0)
def oF(l:List Ent)(s:By):Ent×Int:=match l.find? (fun x=>decide (x.1=s)) with
|some x=>(x,0)
|none=>(lJ,20)
def nA(g:Img)(ref:Int)(s:By):Ent×Int:=if (fE g ref).2≠0 then (lJ,(fE g ref).2) else oF (fE g ref).1 s
def sB(g:Img)(ref:Int):By×Int:=match knM g ref with
|none=>([],1)
|some x=>if x.ino.1 0≠3 then ([],1) else (x.ino.2,0)
def pS(g:Img)(ref:Int):List Xa×Int:=match knM g ref with
|none=>([],1)
|some x=>(x.xs,0)
def Bm(g:Img)(x:Rec)(off n:Int):By×Int:=
 if (gX g.im (x.ino.1 6) (x.ino.1 7) off n).2≠0 then ([],35)
 else if ((gX g.im (x.ino.1 6) (x.ino.1 7) off n).1.length:Int)=n then ((gX g.im (x.ino.1 6) (x.ino.1 7) off n).1,0)
 else if (dW g.im g.places (x.ino.1 8) (x.ino.1 9+(if off-x.ino.1 7/128*128<0 then 0 else off-x.ino.1 7/128*128)) (n-(gX g.im (x.ino.1 6) (x.ino.1 7) off n).1.length)).2≠0 then ([],35)
 else ((gX g.im (x.ino.1 6) (x.ino.1 7) off n).1++(dW g.im g.places (x.ino.1 8) (x.ino.1 9+(if off-x.ino.1 7/128*128<0 then 0 else off-x.ino.1 7/128*128)) (n-(gX g.im (x.ino.1 6) (x.ino.1 7) off n).1.length)).1,0)
def jS(g:Img)(ref off n:Int):By×Int:=match knM g ref with
|none=>([],1)
|some x=>if x.ino.1 0=1 then ([],25) else if x.ino.1 0=3∨off<0∨n<0 then ([],1) else if x.ino.1 7≤off then ([],0)
   else Bm g x off (if x.ino.1 7-off<n then x.ino.1 7-off else n)
theorem Ec(F:Nat→Int){o:Nat}(h:o<10)(z:Int):(bW F).set o (iV z)=bW (upd F o z):=by
 match o,h with
|0,_|1,_|2,_|3,_|4,_|5,_|6,_|7,_|8,_|9,_=>simp[bW,upd]
def fdZ:Fd:=⟨0,0,0,0⟩
theorem zN{ys:By}{j:Nat}(h:j<10):suS ys (j+1)=(gS (suL.getD j fdZ).b (suS ys j).1,upd (suS ys j).2 (suL.getD j fdZ).o (gV (suL.getD j fdZ).b (suS ys j).1)):=zM h
theorem HI{ys:By}{j:Nat}(h:j<10):(suS ys (j+1)).2 (suL.getD j fdZ).o=gV (suL.getD j fdZ).b (suS ys j).1:=by
 rw[zN h];simp[upd]
theorem HK{j:Nat}(h:j<10):(suL.getD j fdZ).o<10:=by
 match j,h with
|0,_|1,_|2,_|3,_|4,_|5,_|6,_|7,_|8,_|9,_=>decide
theorem fV{ys:By}{j:Nat}(h:j<10):(bW (suS ys j).2).set (suL.getD j fdZ).o (iV ((suS ys (j+1)).2 (suL.getD j fdZ).o))=bW (suS ys (j+1)).2:=by
 rw[Ec _ (HK h),HI h,zN h]
def suE(F:Nat→Int)(j:Nat):By:=suM++eZ F (suL.take j)
theorem K7(F:Nat→Int){j:Nat}(h:j<10):suE F (j+1)=suE F j++le (F (suL.getD j fdZ).o) (suL.getD j fdZ).b.toNat:=by
 have hl:j<suL.length:=h;unfold suE eZ;rw[am hl,fk,Z6];congr 2;simp[Z2,hl]
theorem N4(F:Nat→Int)(j:Nat):(suE F j).length≤38:=by
 unfold suE;rw[ZR,mL];by_cases h:j<10
 · match j,h with
  |0,_|1,_|2,_|3,_|4,_|5,_|6,_|7,_|8,_|9,_=>decide
 ·rw[Z4 (show suL.length≤j from by show 10≤j;omega)];decide
theorem OQ{F:Nat→Int}(h:gD F){j:Nat}(hj:j<10):¬ iS (F (suL.getD j fdZ).o) (suL.getD j fdZ).b:=by
 obtain⟨⟨a1,a2,a3,a4,a5,a6,a7⟩,b1,b2,b3,b4,b5,b6,b7,b8⟩:=h;have wide:∀ z:Int,0≤z→z≤4294967295→¬ iS z 4:=fun z h0 h1=>gN (m:=4294967295) (by decide) (by decide) h0 h1 (by decide);have narrow:∀ z:Int,0≤z→z≤65535→¬ iS z 2:=fun z h0 h1=>gN (m:=65535) (by decide) (by decide) h0 h1 (by decide)
 match j,hj with
|0,_=>exact wide (F 0) (by omega) (by omega)
|1,_=>exact wide (F 2) (by omega) (by omega)
|2,_=>exact wide (F 3) (by omega) (by omega)
|3,_=>exact wide (F 4) (by omega) (by omega)
|4,_=>exact wide (F 5) (by omega) (by omega)
|5,_=>exact wide (F 6) (by omega) (by omega)
|6,_=>exact wide (F 9) (by omega) (by omega)
|7,_=>exact narrow (F 1) (by omega) (by omega)
|8,_=>exact narrow (F 7) (by omega) (by omega)
|9,_=>exact narrow (F 8) (by omega) (by omega)
theorem nW(D:Nat→Prop)(p:Nat)(xs:By)(x n:Int)(W:World)(hx:¬ iS x n)(hP:WrR D W.heap p 0 xs)(hD:∀ k,W.heap.size≤k→D k)(hb:xs.length≤1099511627776) :
 CA 61 [pT p,iV x,iV n] W fun v w'=>WrR D w'.heap p 0 (xs++le x n.toNat)∧aA D W w':=by
 refine(eB D p 0 xs x n W hP hD hb).mono ?_;rintro e w' ⟨v,rfl,h1,h2⟩;have h0:iP 0 x n=0:=Cf (by rintro(h|h);exact h rfl;exact hx h);rw[h0,lR h0] at h1;exact⟨_,rfl,h1,h2⟩
theorem nH(F:Nat→Int)(hm:gD F)(j:Nat)(hj:j<10)(D:Nat→Prop)(p:Nat)(W:World)(hP:WrR D W.heap p 0 (suE F j))(hD:∀ k,W.heap.size≤k→D k) :
 CA 61 [pT p,iV (F (suL.getD j fdZ).o),iV (suL.getD j fdZ).b] W fun v w'=>WrR D w'.heap p 0 (suE F (j+1))∧aA D W w':=by
 rw[K7 F hj];exact nW D p _ _ _ W (OQ hm hj) hP hD (by have:=N4 F j;omega)
theorem nI(ys:By)(hl:ys.length≤64)(j:Nat)(hj:j<10)(D:Nat→Prop)(p:Nat)(W:World)(hP:RdR D W.heap p (suS ys j).1.1 (suS ys j).1.2) :
 CA 125 [pT p,iV (suL.getD j fdZ).b] W fun v w'=>v=iV ((suS ys (j+1)).2 (suL.getD j fdZ).o)∧RdR D w'.heap p (suS ys (j+1)).1.1 (suS ys (j+1)).1.2∧aA (· = p) W w':=by
 rw[HI hj,zN hj];exact bT p _ _ _ W hP (by have:=N0 ys j;omega)
def suX(F:Nat→Int)(n:Nat):By:=suH F++(le (eU (suH F):Nat) 4++bg n 0)
theorem tU(F:Nat→Int)(n:Nat):(suX F n).length=42+n:=by unfold suX;rw[ZR,ZR,C2,bC,cj];omega
theorem Eg(F:Nat→Int)(n:Nat):suX F (n+1)=suX F n++[0]:=by unfold suX;rw[List.replicate_succ'];simp only[Z6]
theorem Ev(F:Nat→Int)(W:World) :
 CA 31 [.agg (bW F).toArray] W (xB W (jL F)):=by
 refine cS 58 [(0,_)] Tryz.func31 ?_;refine Gz 2 ?_;refine WO rfl rfl ?_;intro w1 hg1 hs1 hf1;have hg1:w1.heap[W.heap.size]?=some (.cells (bW F).toArray 93 (0,0)):=hg1;obtain⟨g,eg⟩:∃ g,g=W.heap.size:=⟨_,rfl⟩
 rw[←eg] at hg1 ⊢;refine Gz 6 ?_;refine cL (Ws (cs:=bW F) cH rfl (aQ hg1 0 rfl)) ?_;refine cA 0 VF (Ls F w1) ?_;rintro _ w2 ⟨rfl,hf2⟩;have hg2:=hf2.obj hg1 id;have hW2:=hf1.trans hf2;obtain⟨p,ep⟩:∃ p,p=w2.heap.size:=⟨_,rfl⟩
 refine Gz 7 ?_;refine WF (WX rfl) rfl (fun h10=>?_) (fun h10=>?_)
 ·have hm:¬ gD F:=of_decide_eq_false h10;refine Gz 12 ?_;have e:jL F=([],1):=ZO hm;rw[e];exact⟨_,rfl,none,0,rfl,Zu,Zs,hW2⟩
 have hm:gD F:=ZY fun h=>h10 (ZV h);refine Gz 7 ?_;refine cL (WA sR mQ rfl rfl) ?_;refine Wn mQ rfl ?_;intro w3 hg3 hs3 hf3;rw[←ep] at hg3 ⊢;refine sA rfl tJ (by simp[Value.oneCell']) hg3 ?_;intro w4 hg4 hs4 hf4;have hF4:aA nob w2 w4:=hf3.tw hf4;refine Gz 4 ?_;refine WD aH (cs:=(suM.map b8).toArray) zc5 rfl rfl rfl (by kernel_rfl) rfl ?_;intro w5 hg5 hs5 hf5;have ho5:=kJ (e:=5) (enc:=b8) (xs:=suM) hg5 (by decide);refine YO aH ty5 (xs:=suM) rfl hg5 ho5.vw rfl ?_;intro w6 hv6 hs6 hf6;have hf46:aA nob w4 w6:=hf5.tw hf6;have hF6:=hF4.trans hf46;refine Wh MV rfl (oB (fun k=>p≤k) p 0 [] _ _ suM w6 ((ZC hg4 (Z0 _)).ZM hf46) (fun k hk=>by have:=hF6.size;omega) hv6 (by simp) (by decide)) rfl ?_;rintro _ u0 ⟨hP0,hQ0⟩;have hP0:WrR (fun k=>p≤k) u0.heap p 0 (suE F 0):=hP0;have hF0:aA nob w2 u0:=(hF6.any.trans hQ0).fresh (fun k hk=>by omega);refine Gz 5 ?_;refine cL (Wk aF rfl (aB (hF0.obj hg2 id) rfl)) ?_;refine Wh iJ rfl (nH F hm 0 (by decide) (fun k=>p≤k) p u0 hP0 (fun k hk=>by have:=hF0.size;omega)) rfl ?_;rintro _ u1 ⟨hP1,hQ1⟩;have hF1:aA nob w2 u1:=(hF0.any.trans hQ1).fresh (fun k hk=>by omega);refine Gz 5 ?_;refine cL (Wk aF rfl (aB (hF1.obj hg2 id) rfl)) ?_;refine Wh iJ rfl (nH F hm 1 (by decide) (fun k=>p≤k) p u1 hP1 (fun k hk=>by have:=hF1.size;omega)) rfl ?_;rintro _ u2 ⟨hP2,hQ2⟩;have hF2:aA nob w2 u2:=(hF1.any.trans hQ2).fresh (fun k hk=>by omega);refine Gz 5 ?_;refine cL (Wk aF rfl (aB (hF2.obj hg2 id) rfl)) ?_;refine Wh iJ rfl (nH F hm 2 (by decide) (fun k=>p≤k) p u2 hP2 (fun k hk=>by have:=hF2.size;omega)) rfl ?_;rintro _ u3 ⟨hP3,hQ3⟩;have hF3:aA nob w2 u3:=(hF2.any.trans hQ3).fresh (fun k hk=>by omega);refine Gz 5 ?_;refine cL (Wk aF rfl (aB (hF3.obj hg2 id) rfl)) ?_;refine Wh iJ rfl (nH F hm 3 (by decide) (fun k=>p≤k) p u3 hP3 (fun k hk=>by have:=hF3.size;omega)) rfl ?_;rintro _ u4 ⟨hP4,hQ4⟩;have hF4:aA nob w2 u4:=(hF3.any.trans hQ4).fresh (fun k hk=>by omega);refine Gz 5 ?_;refine cL (Wk aF rfl (aB (hF4.obj hg2 id) rfl)) ?_;refine Wh iJ rfl (nH F hm 4 (by decide) (fun k=>p≤k) p u4 hP4 (fun k hk=>by have:=hF4.size;omega)) rfl ?_;rintro _ u5 ⟨hP5,hQ5⟩;have hF5:aA nob w2 u5:=(hF4.any.trans hQ5).fresh (fun k hk=>by omega);refine Gz 5 ?_;refine cL (Wk aF rfl (aB (hF5.obj hg2 id) rfl)) ?_;refine Wh iJ rfl (nH F hm 5 (by decide) (fun k=>p≤k) p u5 hP5 (fun k hk=>by have:=hF5.size;omega)) rfl ?_;rintro _ u6 ⟨hP6,hQ6⟩;have hF6:aA nob w2 u6:=(hF5.any.trans hQ6).fresh (fun k hk=>by omega);refine Gz 5 ?_;refine cL (Wk aF rfl (aB (hF6.obj hg2 id) rfl)) ?_;refine Wh iJ rfl (nH F hm 6 (by decide) (fun k=>p≤k) p u6 hP6 (fun k hk=>by have:=hF6.size;omega)) rfl ?_;rintro _ u7 ⟨hP7,hQ7⟩;have hF7:aA nob w2 u7:=(hF6.any.trans hQ7).fresh (fun k hk=>by omega);refine Gz 5 ?_;refine cL (Wk aF rfl (aB (hF7.obj hg2 id) rfl)) ?_;refine Wh iJ rfl (nH F hm 7 (by decide) (fun k=>p≤k) p u7 hP7 (fun k hk=>by have:=hF7.size;omega)) rfl ?_;rintro _ u8 ⟨hP8,hQ8⟩;have hF8:aA nob w2 u8:=(hF7.any.trans hQ8).fresh (fun k hk=>by omega);refine Gz 5 ?_;refine cL (Wk aF rfl (aB (hF8.obj hg2 id) rfl)) ?_;refine Wh iJ rfl (nH F hm 8 (by decide) (fun k=>p≤k) p u8 hP8 (fun k hk=>by have:=hF8.size;omega)) rfl ?_;rintro _ u9 ⟨hP9,hQ9⟩;have hF9:aA nob w2 u9:=(hF8.any.trans hQ9).fresh (fun k hk=>by omega);refine Gz 5 ?_;refine cL (Wk aF rfl (aB (hF9.obj hg2 id) rfl)) ?_;refine Wh iJ rfl (nH F hm 9 (by decide) (fun k=>p≤k) p u9 hP9 (fun k hk=>by have:=hF9.size;omega)) rfl ?_;rintro _ u10 ⟨hP10,hQ10⟩;have hF10:aA nob w2 u10:=(hF9.any.trans hQ10).fresh (fun k hk=>by omega);refine Gz 5 ?_;have hPP:WrR (fun k=>p≤k) u10.heap p 0 (suH F):=hP10;obtain⟨ao,c,hobj,hown,hap,hDp,hDa⟩:=hPP;refine cA 1 Q9 (C7 ao c (suH F) u10 hown.vw) ?_;rintro _ wq ⟨rfl,hwq⟩;subst wq;refine cL (Wr (n:=((eU (suH F):Nat):Int)) MB ty3 rfl (aU (by have:=rP (suH F);omega))) ?_;refine Wh iJ rfl (nW (fun k=>p≤k) p (suH F) _ 4 u10 (gN (m:=4294967295) (by decide) (by decide) (fy _) (by have:=rP (suH F);omega) (by decide)) ⟨ao,c,hobj,hown,hap,hDp,hDa⟩ (fun k hk=>by have:=hF10.size;omega) (by rw[C2];decide)) rfl ?_;rintro _ u11 ⟨hP11,hQ11⟩;have hF11:aA nob w2 u11:=(hF10.any.trans hQ11).fresh (fun k hk=>by omega);have hP11:WrR (fun k=>p≤k) u11.heap p 0 (suX F 0):=by rw[show suX F 0=suH F++le (eU (suH F):Nat) 4 by unfold suX;simp];exact hP11
 refine Gz 4 ?_;refine Wh Dx rfl (jH (fun k=>p≤k) p 0 (suX F 0) u11 hP11 (by rw[tU];decide)) rfl ?_;rintro _ u12 ⟨o12,c12,rfl,ho12,hfr12,hf12⟩;refine Gz 5 ?_;refine Wp (β:=Nat×(Option Addr×Nat)) (fun⟨n,⟨o,c⟩⟩=>[(6,.slice o (suX F n).length c)]) (fun⟨n,⟨o,c⟩⟩ w=>n≤22∧Own b8 5 w.heap o c (suX F n)∧Fr W.heap.size o∧aA nob W w) (fun⟨n,⟨o,c⟩⟩=>22-n) ⟨0,⟨o12,c12⟩⟩ ⟨rfl,trivial⟩ ⟨ZZ _,ho12,hfr12.mono (by have:=hF11.size;have:=hW2.size;omega),(hW2.trans hF11).trans hf12⟩ ?_;rintro⟨n,⟨o,c⟩⟩ w ⟨hn22,ho,hfr,hF⟩;refine fK 5 ?_ ?_<;>intro h53
 ·have hn:n<22:=by rw[tU] at h53;omega
  refine Gz 1 ?_;refine aW [(6,_),(53,_)] ?_;refine Gz 7 ?_;refine WS (enc:=b8) (u:=(0:UInt8)) aH (aP _) rfl rfl ?_;intro v1 ho1 hs1 hvf1;refine Wq aP aH rfl rfl (ho.ZM hvf1) ho1.vw (by rw[tU];simp only[ZU];omega) (by rw[tU];simp only[ZU];unfold maxLen;omega) rfl ?_;intro o2 c2 v2 ho2 hvf2 hr2 hn2;refine Gz 3 ?_;refine Wz ⟨n+1,⟨o2,c2⟩⟩ ⟨?_,trivial⟩ ⟨by omega,by rw[Eg];exact ho2,aS hfr hr2 (by have:=hF.size;have:=hvf1.size;omega),(hF.trans hvf1).ZJ hvf2 (fun k ⟨a,ha,e⟩=>.inr (by have:=hfr a ha;omega))⟩ (by show 22-(n+1)<22-n;omega);show _=some (Value.slice o2 (suX F (n+1)).length c2);rw[Eg];rfl
 have hn:n=22:=by rw[tU] at h53;omega
 refine Gz 1 ?_;refine aW [(6,_),(53,_)] ?_;refine Gz 16 ?_;subst hn;have e:jL F=(suX F 22,0):=ZP hm;rw[e];exact⟨_,rfl,o,c,rfl,ho,hfr,hF⟩
theorem Jg(io:Option Addr)(ic:Nat)(im:By)(W:World)(hv:Vw b8 W.heap io ic im)(hb:im.length≤1099511627776) :
 CA 90 [.slice io im.length ic] W fun v w'=>v=.tuple #[.agg (bW (aJ im).1).toArray,iV (aJ im).2]∧aA nob W w':=by
 have hle:=hv.le;obtain⟨r,er⟩:∃ r,r=W.heap.size:=⟨_,rfl⟩
 refine cS 60 [(0,_)] Tryz.func90 ?_;refine Gz 2 ?_;refine Wn nD rfl ?_;intro w1 hg1 hs1 hf1;have hg1:w1.heap[W.heap.size]?=some (.cells (bW zF).toArray 93 (0,0)):=hg1;rw[←er] at hg1 ⊢;refine fK 8 ?_ ?_<;>intro h10
 ·have hno:¬ gE im:=fun h=>by have:=h.1;omega
  refine Gz 5 ?_;refine cL (bU (bW zF) oD nD) ?_;refine sA rfl cH (by exact dH _) hg1 ?_;intro w20 hg20 hs20 hf20;have hFx:aA nob W w20:=hf1.tw hf20;refine Gz 5 ?_;refine rC hg20 cH ?_;have e:aJ im=(zF,2):=ZO hno;exact⟨_,rfl,by rw[e],hFx⟩
 refine Gz 8 ?_;refine cL (Wm (u:=.slice (aO io ic 4 1) ((im.take 64).drop 4).length (ic-4)) (Xe aH rfl rfl rfl (by omega) (by omega)) (by rw[show ((im.take 64).drop 4).length=60 by rw[ZX,ZT];omega];rfl)) ?_;refine cL (WA (cs:=#[.slice (aO io ic 4 1) ((im.take 64).drop 4).length (ic-4),iV 0]) wJ pK rfl (by kernel_rfl)) ?_;refine Wn pK rfl ?_;intro w3 hg3 hs3 hf3;obtain⟨p,ep⟩:∃ p,p=w1.heap.size:=⟨_,rfl⟩
 rw[←ep] at hg3 ⊢;refine sA rfl xA (by simp[Value.oneCell']) hg3 ?_;intro w4 hg4 hs4 hf4;obtain⟨ys,hys⟩:∃ ys,ys=(im.take 64).drop 4:=⟨_,rfl⟩
 rw[←hys] at hg4 ⊢;have hyl:ys.length=60:=by rw[hys,ZX,ZT];omega
 have hF4:aA nob w1 w4:=hf3.tw hf4;have hvy:Vw b8 W.heap (aO io ic 4 1) (ic-4) ys:=by
  have:=(hv.take 64).cut (l:=4) (h:=64) (m:=ic) (by omega) (by rw[ZT];omega) (by omega) (Z0 _);rwa[show (64:Nat)-4=60 by rfl,Z4 (by rw[ZX,ZT];omega),←hys] at this
 have hli:Lt W.heap.size (aO io ic 4 1):=hvy.lt (fun e=>by rw[e] at hyl;cases hyl);refine Gz 4 ?_;refine cL (bU (bW zF) oD nD) ?_;refine Wn nD rfl ?_;intro w5 hg5 hs5 hf5;have hg5:w5.heap[w4.heap.size]?=some (.cells (bW zF).toArray 93 (0,0)):=hg5;obtain⟨q,eq⟩:∃ q,q=w4.heap.size:=⟨_,rfl⟩
 rw[←eq] at hg5 ⊢;refine sA rfl cH (by exact dH _) hg5 ?_;intro w6 hg6 hs6 hf6;have hF6:aA nob w4 w6:=hf5.tw hf6;have hW6:=(hf1.trans hF4).trans hF6;have hg0:w6.heap[q]?=some (.cells (bW (suS ys 0).2).toArray 93 (0,0)):=hg6;have hP0:RdR (fun k=>k≠q) w6.heap p (suS ys 0).1.1 (suS ys 0).1.2:=⟨_,_,hF6.obj hg4 id,hvy.ZM hW6,⟨by omega,fun _=>⟨fun⟨a,ha,e⟩=>by have:=hli a ha;omega,fun k ⟨a,ha,e⟩=>by have:=hli a ha;omega⟩⟩⟩
 have hr0:=((hF4.trans hF6).obj hg1 id)
 refine Gz 4 ?_;refine Wh eD rfl (nI ys (by omega) 0 (by decide) (fun k=>k≠q) p w6 hP0) rfl ?_;rintro _ x1 ⟨rfl,hA1,hX1⟩;have hq1:=hX1.obj hg0 (fun h=>by have h:q=p:=h;omega);have hr1a:=hX1.obj hr0 (fun h=>by have h:r=p:=h;omega);refine Gz 1 ?_;refine Wl aF rfl rfl rfl hq1 rfl ?_;intro y1 hg1 hs1b hY1;have hg1:y1.heap[q]?=some (.cells (bW (suS ys 1).2).toArray 93 (0,0)):=by rw[←fV (by decide)];exact hg1
 have hP1:=hA1.ZN hY1 (fun k hk e=>hk e);have hr1:=hY1.obj hr1a (fun h=>by have h:r=q:=h;omega);have hG1:aA nob w1 y1:=((hF4.trans hF6).any.trans (hX1.mono (fun k h=>by have h:k=p:=h;show k=p∨k=q;omega)) |>.trans (hY1.mono (fun k h=>by have h:k=q:=h;show k=p∨k=q;omega))).fresh (fun k h=>by omega);refine Gz 4 ?_;refine Wh eD rfl (nI ys (by omega) 1 (by decide) (fun k=>k≠q) p y1 hP1) rfl ?_;rintro _ x2 ⟨rfl,hA2,hX2⟩;have hq2:=hX2.obj hg1 (fun h=>by have h:q=p:=h;omega);have hr2a:=hX2.obj hr1 (fun h=>by have h:r=p:=h;omega);refine Gz 1 ?_;refine Wl aF rfl rfl rfl hq2 rfl ?_;intro y2 hg2 hs2b hY2;have hg2:y2.heap[q]?=some (.cells (bW (suS ys 2).2).toArray 93 (0,0)):=by rw[←fV (by decide)];exact hg2
 have hP2:=hA2.ZN hY2 (fun k hk e=>hk e);have hr2:=hY2.obj hr2a (fun h=>by have h:r=q:=h;omega);have hG2:aA nob w1 y2:=(hG1.any.trans (hX2.mono (fun k h=>by have h:k=p:=h;show k=p∨k=q;omega)) |>.trans (hY2.mono (fun k h=>by have h:k=q:=h;show k=p∨k=q;omega))).fresh (fun k h=>by omega);refine Gz 4 ?_;refine Wh eD rfl (nI ys (by omega) 2 (by decide) (fun k=>k≠q) p y2 hP2) rfl ?_;rintro _ x3 ⟨rfl,hA3,hX3⟩;have hq3:=hX3.obj hg2 (fun h=>by have h:q=p:=h;omega);have hr3a:=hX3.obj hr2 (fun h=>by have h:r=p:=h;omega);refine Gz 1 ?_;refine Wl aF rfl rfl rfl hq3 rfl ?_;intro y3 hg3 hs3b hY3;have hg3:y3.heap[q]?=some (.cells (bW (suS ys 3).2).toArray 93 (0,0)):=by rw[←fV (by decide)];exact hg3
 have hP3:=hA3.ZN hY3 (fun k hk e=>hk e);have hr3:=hY3.obj hr3a (fun h=>by have h:r=q:=h;omega);have hG3:aA nob w1 y3:=(hG2.any.trans (hX3.mono (fun k h=>by have h:k=p:=h;show k=p∨k=q;omega)) |>.trans (hY3.mono (fun k h=>by have h:k=q:=h;show k=p∨k=q;omega))).fresh (fun k h=>by omega);refine Gz 4 ?_;refine Wh eD rfl (nI ys (by omega) 3 (by decide) (fun k=>k≠q) p y3 hP3) rfl ?_;rintro _ x4 ⟨rfl,hA4,hX4⟩;have hq4:=hX4.obj hg3 (fun h=>by have h:q=p:=h;omega);have hr4a:=hX4.obj hr3 (fun h=>by have h:r=p:=h;omega);refine Gz 1 ?_;refine Wl aF rfl rfl rfl hq4 rfl ?_;intro y4 hg4 hs4b hY4;have hg4:y4.heap[q]?=some (.cells (bW (suS ys 4).2).toArray 93 (0,0)):=by rw[←fV (by decide)];exact hg4
 have hP4:=hA4.ZN hY4 (fun k hk e=>hk e);have hr4:=hY4.obj hr4a (fun h=>by have h:r=q:=h;omega);have hG4:aA nob w1 y4:=(hG3.any.trans (hX4.mono (fun k h=>by have h:k=p:=h;show k=p∨k=q;omega)) |>.trans (hY4.mono (fun k h=>by have h:k=q:=h;show k=p∨k=q;omega))).fresh (fun k h=>by omega);refine Gz 4 ?_;refine Wh eD rfl (nI ys (by omega) 4 (by decide) (fun k=>k≠q) p y4 hP4) rfl ?_;rintro _ x5 ⟨rfl,hA5,hX5⟩;have hq5:=hX5.obj hg4 (fun h=>by have h:q=p:=h;omega);have hr5a:=hX5.obj hr4 (fun h=>by have h:r=p:=h;omega);refine Gz 1 ?_;refine Wl aF rfl rfl rfl hq5 rfl ?_;intro y5 hg5 hs5b hY5;have hg5:y5.heap[q]?=some (.cells (bW (suS ys 5).2).toArray 93 (0,0)):=by rw[←fV (by decide)];exact hg5
 have hP5:=hA5.ZN hY5 (fun k hk e=>hk e);have hr5:=hY5.obj hr5a (fun h=>by have h:r=q:=h;omega);have hG5:aA nob w1 y5:=(hG4.any.trans (hX5.mono (fun k h=>by have h:k=p:=h;show k=p∨k=q;omega)) |>.trans (hY5.mono (fun k h=>by have h:k=q:=h;show k=p∨k=q;omega))).fresh (fun k h=>by omega);refine Gz 4 ?_;refine Wh eD rfl (nI ys (by omega) 5 (by decide) (fun k=>k≠q) p y5 hP5) rfl ?_;rintro _ x6 ⟨rfl,hA6,hX6⟩;have hq6:=hX6.obj hg5 (fun h=>by have h:q=p:=h;omega);have hr6a:=hX6.obj hr5 (fun h=>by have h:r=p:=h;omega);refine Gz 1 ?_;refine Wl aF rfl rfl rfl hq6 rfl ?_;intro y6 hg6 hs6b hY6;have hg6:y6.heap[q]?=some (.cells (bW (suS ys 6).2).toArray 93 (0,0)):=by rw[←fV (by decide)];exact hg6
 have hP6:=hA6.ZN hY6 (fun k hk e=>hk e);have hr6:=hY6.obj hr6a (fun h=>by have h:r=q:=h;omega);have hG6:aA nob w1 y6:=(hG5.any.trans (hX6.mono (fun k h=>by have h:k=p:=h;show k=p∨k=q;omega)) |>.trans (hY6.mono (fun k h=>by have h:k=q:=h;show k=p∨k=q;omega))).fresh (fun k h=>by omega);refine Gz 4 ?_;refine Wh eD rfl (nI ys (by omega) 6 (by decide) (fun k=>k≠q) p y6 hP6) rfl ?_;rintro _ x7 ⟨rfl,hA7,hX7⟩;have hq7:=hX7.obj hg6 (fun h=>by have h:q=p:=h;omega);have hr7a:=hX7.obj hr6 (fun h=>by have h:r=p:=h;omega);refine Gz 1 ?_;refine Wl aF rfl rfl rfl hq7 rfl ?_;intro y7 hg7 hs7b hY7;have hg7:y7.heap[q]?=some (.cells (bW (suS ys 7).2).toArray 93 (0,0)):=by rw[←fV (by decide)];exact hg7
 have hP7:=hA7.ZN hY7 (fun k hk e=>hk e);have hr7:=hY7.obj hr7a (fun h=>by have h:r=q:=h;omega);have hG7:aA nob w1 y7:=(hG6.any.trans (hX7.mono (fun k h=>by have h:k=p:=h;show k=p∨k=q;omega)) |>.trans (hY7.mono (fun k h=>by have h:k=q:=h;show k=p∨k=q;omega))).fresh (fun k h=>by omega);refine Gz 4 ?_;refine Wh eD rfl (nI ys (by omega) 7 (by decide) (fun k=>k≠q) p y7 hP7) rfl ?_;rintro _ x8 ⟨rfl,hA8,hX8⟩;have hq8:=hX8.obj hg7 (fun h=>by have h:q=p:=h;omega);have hr8a:=hX8.obj hr7 (fun h=>by have h:r=p:=h;omega);refine Gz 1 ?_;refine Wl aF rfl rfl rfl hq8 rfl ?_;intro y8 hg8 hs8b hY8;have hg8:y8.heap[q]?=some (.cells (bW (suS ys 8).2).toArray 93 (0,0)):=by rw[←fV (by decide)];exact hg8
 have hP8:=hA8.ZN hY8 (fun k hk e=>hk e);have hr8:=hY8.obj hr8a (fun h=>by have h:r=q:=h;omega);have hG8:aA nob w1 y8:=(hG7.any.trans (hX8.mono (fun k h=>by have h:k=p:=h;show k=p∨k=q;omega)) |>.trans (hY8.mono (fun k h=>by have h:k=q:=h;show k=p∨k=q;omega))).fresh (fun k h=>by omega);refine Gz 4 ?_;refine Wh eD rfl (nI ys (by omega) 8 (by decide) (fun k=>k≠q) p y8 hP8) rfl ?_;rintro _ x9 ⟨rfl,hA9,hX9⟩;have hq9:=hX9.obj hg8 (fun h=>by have h:q=p:=h;omega);have hr9a:=hX9.obj hr8 (fun h=>by have h:r=p:=h;omega);refine Gz 1 ?_;refine Wl aF rfl rfl rfl hq9 rfl ?_;intro y9 hg9 hs9b hY9;have hg9:y9.heap[q]?=some (.cells (bW (suS ys 9).2).toArray 93 (0,0)):=by rw[←fV (by decide)];exact hg9
 have hP9:=hA9.ZN hY9 (fun k hk e=>hk e);have hr9:=hY9.obj hr9a (fun h=>by have h:r=q:=h;omega);have hG9:aA nob w1 y9:=(hG8.any.trans (hX9.mono (fun k h=>by have h:k=p:=h;show k=p∨k=q;omega)) |>.trans (hY9.mono (fun k h=>by have h:k=q:=h;show k=p∨k=q;omega))).fresh (fun k h=>by omega);refine Gz 4 ?_;refine Wh eD rfl (nI ys (by omega) 9 (by decide) (fun k=>k≠q) p y9 hP9) rfl ?_;rintro _ x10 ⟨rfl,hA10,hX10⟩;have hq10:=hX10.obj hg9 (fun h=>by have h:q=p:=h;omega);have hr10a:=hX10.obj hr9 (fun h=>by have h:r=p:=h;omega);refine Gz 1 ?_;refine Wl aF rfl rfl rfl hq10 rfl ?_;intro y10 hg10 hs10b hY10;have hg10:y10.heap[q]?=some (.cells (bW (suS ys 10).2).toArray 93 (0,0)):=by rw[←fV (by decide)];exact hg10
 have hr10:=hY10.obj hr10a (fun h=>by have h:r=q:=h;omega);have hG10:aA nob w1 y10:=(hG9.any.trans (hX10.mono (fun k h=>by have h:k=p:=h;show k=p∨k=q;omega)) |>.trans (hY10.mono (fun k h=>by have h:k=q:=h;show k=p∨k=q;omega))).fresh (fun k h=>by omega);refine Gz 4 ?_;have hsF:suF im=(suQ ys).2:=by unfold suF;rw[hys]
 refine cL (Ws (cs:=bW (suQ ys).2) cH rfl (aQ hg10 0 rfl)) ?_;refine cA 0 Sd (Ev (suQ ys).2 y10) ?_;rintro _ z1 ⟨o1,c1,rfl,ho1,hfr1,hz1⟩;rw[←hsF] at ho1 ⊢;have hFz:=hG10.trans hz1;have hWz:=hf1.trans hFz;have hgz:z1.heap[q]?=some (.cells (bW (suF im)).toArray 93 (0,0)):=by rw[hsF];exact hz1.obj hg10 id
 have hrz:=hz1.obj hr10 id;refine Gz 9 ?_;refine Ww 17 [0,1,2,3,4,5,6,7,8,9,10,11,12,13,14,15,16] aK (by kernel_rfl) ?_;refine xK 1 ?_ ?_<;>intro h42
 ·have hno:¬ gE im:=fun h=>h42 (by show (jL (suF im)).2=0;unfold jL;rw[ZP h.2.1]);refine Gz 20 ?_;refine cL (bU (bW zF) oD nD) ?_;refine sA rfl cH (by exact dH _) hrz ?_;intro w20 hg20 hs20 hf20;have hFx:aA nob W w20:=hWz.tw hf20.ZK;refine Gz 5 ?_;refine rC hg20 cH ?_;have e:aJ im=(zF,2):=ZO hno;exact⟨_,rfl,by rw[e],hFx⟩
 have hm:gD (suF im):=ZY fun h=>h42 (by show (jL (suF im)).2≠0;unfold jL;rw[ZO h];decide);have ep:jL (suF im)=(suB (suF im),0):=ZP hm;refine Gz 2 ?_;refine xV rfl (WG aH ty5 ty9 rfl ho1.vw) ?_;refine Gz 1 ?_;refine xV rfl (Wm (u:=.slice io (im.take 64).length ic) (WE aH rfl rfl (by omega)) (by rw[bF,ZT,cn (by omega)];rfl)) ?_;refine xV rfl (WG aH ty5 ty9 rfl ((hv.take 64).ZM hWz)) ?_;refine xW 0 ?_ ?_<;>intro h49
 ·have hno:¬ gE im:=fun h=>h49 (by rw[ep];exact h.2.2.1.symm);refine Gz 13 ?_;refine cL (bU (bW zF) oD nD) ?_;refine sA rfl cH (by exact dH _) hrz ?_;intro w20 hg20 hs20 hf20;have hFx:aA nob W w20:=hWz.tw hf20.ZK;refine Gz 5 ?_;refine rC hg20 cH ?_;have e:aJ im=(zF,2):=ZO hno;exact⟨_,rfl,by rw[e],hFx⟩
 have hsame:im.take 64=suB (suF im):=by have h:=Z5.1 h49;rw[ep] at h;exact h.symm
 refine Gz 3 ?_;refine xV rfl (Wk aF rfl (aB hgz rfl)) ?_;refine xW 2 ?_ ?_<;>intro h56
 ·have hno:¬ gE im:=fun h=>h56 h.2.2.2;refine Gz 6 ?_;refine cL (bU (bW zF) oD nD) ?_;refine sA rfl cH (by exact dH _) hrz ?_;intro w20 hg20 hs20 hf20;have hFx:aA nob W w20:=hWz.tw hf20.ZK;refine Gz 5 ?_;refine rC hg20 cH ?_;have e:aJ im=(zF,2):=ZO hno;exact⟨_,rfl,by rw[e],hFx⟩
 have hyes:gE im:=⟨by omega,hm,hsame,Z5.1 h56⟩
 refine Gz 8 ?_;refine cL (Ws (cs:=bW (suF im)) cH rfl (aQ hgz 0 rfl)) ?_;refine sA rfl cH (by exact dH _) hrz ?_;intro w20 hg20 hs20 hf20;have hFx:aA nob W w20:=hWz.tw hf20.ZK;refine Gz 4 ?_;refine rC hg20 cH ?_;have e:aJ im=(suF im,0):=ZP hyes;exact⟨_,rfl,by rw[e],hFx⟩
section
variable {P:Program}{N:Nt}{l:SF}{ty:TypeId}{pos:String}{aft:Array Edge}{CH:Array Obj→Prop}{x:Operand}{t t2 e:TypeId}{g:Option (Nat×Bool)}{dd:Option Nat}{n size bytes:Nat}
theorem YB{parts:List (Nat×Operand)}{vs:List (Nat×Value)}{zc cs:Array Value}(hu:P.underlying t=some (.array n e))(ht:aZ P t2 e size bytes)(hz:(P.info? t).map (fun i=>i.zero.map (·.cells))=some (some zc))
 (hx:evPs l parts=some vs)(hf:Instr.fill (fun i=>some (i*size,size)) zc vs=some cs):Cm P N CH l ⟨dd,.build t parts.toArray,ty,pos,aft,g⟩ (.agg cs):=fun a w ha _=>by
 obtain⟨i,hi,h1⟩:=ae.1 hz;obtain⟨z,hz',rfl⟩:=ae.1 h1;have hv:=ha.evPs hx;simp only[execOp,Instr.build,Sem.run_bind,zeroValue,typeInfo,run_program,Result.andThen_ok,hi,hz',run_underlying hu,Sem.run_pure,ht.size,List.map_toArray,hv];rw[hf];simp
theorem Yl{ad:Addr}(hu:P.underlying t=some (.array n e))(ht:aZ P t2 e size bytes)(hx:evL l x=some (.pointer (some ad))):Cm P N CH l ⟨dd,.slice t x none none none,ty,pos,aft,g⟩ (.slice (some ad) n n):=fun a w ha _=>by
 simp only[execOp,ha.ev hx,Instr.sliceAt,Sem.run_bind,run_underlying hu,Result.andThen_ok,Instr.sureAddr,Instr.sliceBounds,Sem.run_pure,ht.size];by_cases h:n=0
 ·simp[h]
 ·simp[h,Addr.add]
end
theorem K5(x:Int)(W:World):CA 137 [iV x] W fun v w'=>v=.bool false∧w'=W:=by
 refine cS 6 [(0,_)] Tryz.func137 ?_;refine Gz 9 ?_;refine cL (W8 (W4 rfl rfl) (fun h=>h rfl)) ?_;refine Gz 5 ?_;exact⟨_,rfl,rfl,rfl⟩
theorem I5(x y:Int)(W:World):CA 117 [iV x,iV y] W fun v w'=>v=.bool (decide (x<y))∧w'=W:=by
 refine cS 17 [(0,_),(1,_)] Tryz.func117 ?_;refine cA 8 SQ (K5 x W) ?_;rintro _ w1 ⟨rfl,hw1⟩;subst w1;refine Gz 8 ?_;refine cW (Xr rfl rfl) ?_;refine Gz 6 ?_;exact⟨_,rfl,rfl,rfl⟩
def upI(l:List Int):Prop:=∀ i,i+1<l.length→l.getD i 0≤l.getD (i+1) 0
instance (l:List Int):Decidable (upI l):=decidable_of_iff ((bu (l.length-1)).all (fun i=>decide (l.getD i 0≤l.getD (i+1) 0))=true) (by
 rw[fu];exact⟨fun h i hi=>of_decide_eq_true (h i (by rw[bt];omega)),fun h i hi=>Z3 (h i (by rw[bt] at hi;omega))⟩)
theorem xI(lo:Option Addr)(lc:Nat)(l:List Int)(W:World)(hv:Vw i64 W.heap lo lc l) :
 CA 79 [.slice lo l.length lc] W fun v w'=>v=.bool (decide (upI l))∧aA nob W w':=by
 have h63:=hv.ZL;refine cS 21 [(0,_)] Tryz.func79 ?_;refine Gz 15 ?_;refine Wp (β:=Int) (fun z=>[(0,.slice lo l.length lc),(3,iV z)]) (fun z w=>-1≤z∧z<l.length∧(∀ j:Nat,z≤j→j+1<l.length→l.getD j 0≤l.getD (j+1) 0)∧aA nob W w) (fun z=>z.toNat) ((l.length:Int)-1) ⟨rfl,rfl,trivial⟩ ⟨by omega,by omega,fun j h1 h2=>by omega,Zn _ _⟩ ?_;rintro z w ⟨hz1,hz2,hall,hF⟩;refine fK 4 ?_ ?_<;>intro h8
 ·refine Gz 8 ?_;refine Wv 9 (fun H=>Vw i64 H lo lc l) [9] [0,1,2,3,4,5,6,7,8,9] aK (by kernel_rfl) (hv.ZM hF) ?_;refine Gz 2 ?_;refine xC rfl (Wi bP rfl rfl hv.non (by omega)) ?_;refine xC rfl (Wt aF rfl (fun H hH=>hH.gz 0 z.toNat (by omega) (by omega))) ?_;refine Gz 3 ?_;refine xC rfl (Wi bP rfl rfl hv.non (by omega)) ?_;refine xC rfl (Wt aF rfl (fun H hH=>hH.gz 0 (z-1).toNat (by omega) (by omega))) ?_;refine Wo rfl rfl (Wh S2 rfl (I5 (l.getD z.toNat 0) (l.getD (z-1).toNat 0) _) rfl ?_);rintro _ w1 ⟨rfl,rfl⟩;refine WW rfl ?_;by_cases h20:l.getD z.toNat 0<l.getD (z-1).toNat 0
  ·rw[Z3 h20];refine Gz 15 ?_;exact⟨_,rfl,by rw[ZV (fun h=>by have:=h (z-1).toNat (by omega);rw[show (z-1).toNat+1=z.toNat by omega] at this;omega)],hF.draws 1⟩
  rw[ZV h20];refine Gz 11 ?_;refine aG (z-1) ⟨by omega,by omega,fun j h1 h2=>?_,hF.draws 1⟩ (by show (z-1).toNat<z.toNat;omega);by_cases e:(j:Int)=z-1
  · have e1:(z-1).toNat=j:=by omega
    have e2:z.toNat=j+1:=by omega
    rw[e1,e2] at h20;omega
  ·exact hall j (by omega) h2
 refine Gz 15 ?_;exact⟨_,rfl,by rw[Z3 (show upI l from fun i hi=>hall i (by omega) hi)],hF⟩
section
variable {R:UInt8→Prop}[DecidablePred R]
theorem Gj(f:FuncId)(hf:fnB Tryz.prog f=true)(lo:Option Addr)(lc:Nat)(b:By)(W:World)(hv:Vw b8 W.heap lo lc b)
 (hc:∀ w c,Calls Tryz.prog f [b8 c].toArray w (Ret fun v w'=>v=.bool (decide (R c))∧w'=w)) :
 CA 114 [.slice lo b.length lc,.func (.func f) #[] #[]] W fun v w'=>∃ z:Int,v=iV z∧(0≤z↔∃ c∈b,R c)∧w'=W:=by
 have h63:=hv.ZL;refine cS 19 [(0,_),(1,_)] Tryz.func114 ?_;refine Gz 14 ?_;refine Wp (β:=Nat) (fun i=>[(0,.slice lo b.length lc),(1,.func (.func f) #[] #[]),(7,iV b.length),(8,iV i)]) (fun i w=>i≤b.length∧(∀ j,j<i→¬ R (b.getD j 0))∧w=W) (fun i=>b.length-i) 0 ⟨rfl,rfl,rfl,rfl,trivial⟩ ⟨ZZ _,fun j hj=>by omega,rfl⟩ ?_;rintro i w ⟨hi,hno,hw⟩;subst w;refine fK 2 ?_ ?_<;>intro h9
 ·have hil:i<b.length:=by omega
  refine Gz 19 ?_;refine cL (Wi aH rfl rfl hv.non (by omega)) ?_;refine cL (Wk eC rfl (hv.gz 0 i rfl hil)) ?_;refine Xu hf rfl rfl (hc W (b.getD i 0)) rfl ?_;rintro _ w1 ⟨rfl,hw1⟩;subst w1;by_cases h16:R (b.getD i 0)
  ·rw[Z3 h16];refine Gz 16 ?_;exact⟨_,rfl,i,rfl,⟨fun _=>⟨_,(by rw[Z2,ZQ hil];exact bm hil),h16⟩,fun _=>by omega⟩,rfl⟩
  rw[ZV h16];refine Gz 10 ?_;refine aG (i+1) ⟨by omega,fun j hj=>?_,rfl⟩ (by show b.length-(i+1)<b.length-i;omega);by_cases e:j=i
  ·subst e;exact h16
  ·exact hno j (by omega)
 refine Gz 16 ?_;exact⟨_,rfl,-1,rfl,⟨fun h=>by omega,fun⟨c,hc1,hc2⟩=>by obtain⟨j,hj,rfl⟩:=cf hc1;exact absurd hc2 (by have:=hno j (by omega);rwa[Z2,ZQ hj] at this)⟩,rfl⟩
theorem Bk(f:FuncId)(hf:fnB Tryz.prog f=true)(lo:Option Addr)(lc:Nat)(b:By)(W:World)(hv:Vw b8 W.heap lo lc b)
 (hc:∀ w c,Calls Tryz.prog f [b8 c].toArray w (Ret fun v w'=>v=.bool (decide (R c))∧w'=w)) :
 CA 75 [.slice lo b.length lc,.func (.func f) #[] #[]] W fun v w'=>v=.bool (decide (∃ c∈b,R c))∧w'=W:=by
 refine cS 9 [(0,_),(1,_)] Tryz.func75 ?_;refine cA 9 S4 (Gj f hf lo lc b W hv hc) ?_;rintro _ w1 ⟨z,rfl,hz,hw1⟩;subst w1;refine cL (XB rfl rfl) ?_;refine Gz 5 ?_;exact⟨_,rfl,congrArg _ (decide_eq_decide.2 hz),rfl⟩
end
theorem Gi(W:World)(c:UInt8):CA 76 [b8 c] W fun v w'=>v=.bool (decide (c≠0))∧w'=W:=by
 refine cS 5 [(0,_)] Tryz.func76 ?_;refine Gz 8 ?_;refine cL (W4 rfl rfl) ?_;refine Gz 5 ?_;refine⟨_,rfl,congrArg Value.bool (decide_eq_decide.2 (not_congr ⟨fun h=>?_,fun h=>by rw[h];rfl⟩)),rfl⟩;exact dn.1 (by show c.toNat=0;omega)
def pP(E:Int)(ys:By):Int:=if E≠0 then 0 else ys.length
theorem vW{D:Nat→Prop}(p:Nat)(E:Int)(ys:By)(W:World)(hP:RdL D W.heap p E ys) :
 CA 71 [pT p] W fun v w'=>v=iV (pP E ys)∧w'=W:=by
 obtain⟨ao,c,hobj,hv,hap⟩:=hP;refine cS 14 [(0,_)] Tryz.func71 ?_;refine fK 13 ?_ ?_<;>intro h8
 ·refine Gz 11 ?_;exact⟨_,rfl,by unfold pP;rw[ZP h8],rfl⟩
 refine Gz 17 ?_;exact⟨_,rfl,by unfold pP;rw[ZO h8],rfl⟩
theorem Ef{D:Nat→Prop}(p:Nat)(E:Int)(ys:By)(W:World)(hP:RdL D W.heap p E ys) :
 CA 72 [pT p] W fun v w'=>v=iV E∧w'=W:=by
 obtain⟨ao,c,hobj,hv,hap⟩:=hP;refine cS 7 [(0,_)] Tryz.func72 ?_;refine Gz 16 ?_;exact⟨_,rfl,rfl,rfl⟩
theorem mR(x a b:Int)(W:World):CA 113 [iV x,iV a,iV b] W fun v w'=>v=.bool (decide (a≤x∧x≤b))∧w'=W:=by
 refine cS 15 [(0,_),(1,_),(2,_)] Tryz.func113 ?_;refine fK 9 ?_ ?_<;>intro h9
 ·refine fW 3 ?_ ?_<;>intro h13
  ·refine Gz 6 ?_;exact⟨_,rfl,by rw[Z3 ⟨h9,h13⟩],rfl⟩
  refine Gz 6 ?_;exact⟨_,rfl,by rw[ZV (fun h:a≤x∧x≤b=>by omega)],rfl⟩
 refine Gz 10 ?_;exact⟨_,rfl,by rw[ZV (fun h:a≤x∧x≤b=>by omega)],rfl⟩
theorem NZ(F:Nat→Int)(W:World):CA 112 [.agg (bW F).toArray] W fun v w'=>v=.agg ((dS F).map i64).toArray∧aA nob W w':=by
 refine cS 16 [(0,_)] Tryz.func112 ?_;refine Gz 2 ?_;refine WO rfl rfl ?_;intro w1 hg1 hs1 hf1;have hg1:w1.heap[W.heap.size]?=some (.cells (bW F).toArray 93 (0,0)):=hg1;obtain⟨g,eg⟩:∃ g,g=W.heap.size:=⟨_,rfl⟩
 rw[←eg] at hg1 ⊢;refine Wn KJ rfl ?_;intro w2 hg2a hs2 hf2;have hg2:=hf2.obj hg1 id;obtain⟨r,er⟩:∃ r,r=w1.heap.size:=⟨_,rfl⟩
 rw[←er] at hg2a ⊢;refine Gz 16 ?_;refine cL (YB (n:=8) (cs:=((dS F).map i64).toArray) (by kernel_rfl) bP KJ rfl (by kernel_rfl)) ?_;refine sA rfl Hq (by intro v hv;obtain⟨z,_,rfl⟩:=av.1 hv;rfl) hg2a ?_;intro w3 hg3 hs3 hf3;refine Gz 3 ?_;refine XV (cs:=(dS F).map i64) rfl Hq rfl (fun j v hj=>aB hg3 hj) ?_;exact⟨_,rfl,rfl,(hf1.trans hf2).tw hf3⟩
theorem K2(F:Nat→Int)(W:World):CA 74 [.agg (bW F).toArray] W fun v w'=>v=.bool (decide (gD F))∧aA nob W w':=by
 refine cS 28 [(0,_)] Tryz.func74 ?_;refine Gz 2 ?_;refine WO rfl rfl ?_;intro w1 hg1 hs1 hf1;have hg1:w1.heap[W.heap.size]?=some (.cells (bW F).toArray 93 (0,0)):=hg1;obtain⟨g,eg⟩:∃ g,g=W.heap.size:=⟨_,rfl⟩
 rw[←eg] at hg1 ⊢;refine Gz 5 ?_;refine cL (Ws (cs:=bW F) cH rfl (aQ hg1 0 rfl)) ?_;refine cA 0 S5 (NZ F w1) ?_;rintro _ w2 ⟨rfl,hf2⟩;refine Wn KJ rfl ?_;intro w3 hg3a hs3 hf3;refine sA rfl Hq (by intro v hv;obtain⟨z,_,rfl⟩:=av.1 hv;rfl) hg3a ?_;intro w3b hg3 hs3b hf3b;obtain⟨r,er⟩:∃ r,r=w2.heap.size:=⟨_,rfl⟩
 rw[←er] at hg3 hf3b ⊢;have hF3:aA nob w1 w3b:=(hf2.trans hf3).ZJ hf3b (fun k hk=>.inr (by have h:k=r:=hk;have:=hf2.size;omega));have hv3:Vw i64 w3b.heap (some ⟨r,0,none⟩) 8 (dS F):=⟨by show 8≤8;decide,by decide,fun _=>by simp,fun i x hx=>by
  have h1:((dS F).map i64)[i]?=some (i64 x):=by rw[ax,hx];rfl
  exact aB hg3 h1⟩
 refine Gz 4 ?_;refine cL (Yl (n:=8) (by kernel_rfl) bP rfl) ?_;refine cA 0 R0 (xI (some ⟨r,0,none⟩) 8 (dS F) w3b hv3) ?_;rintro _ w4 ⟨rfl,hf4⟩;have hW4:=(hf1.trans hF3).trans hf4;have hg4:=(hF3.trans hf4).obj hg1 id;by_cases h7:upI (dS F)
 ·rw[Z3 h7];have hso:BL F:=tW.2 (fun i hi=>h7 i hi);refine Gz 3 ?_;refine Wy rfl rfl IA rfl (mR _ _ _ w4) rfl ?_;rintro _ w5 ⟨rfl,hw5⟩;subst w5;by_cases h11:1≤F 1∧F 1≤1024
  ·rw[Z3 h11];refine Gz 4 ?_;refine Wy rfl rfl IA rfl (mR _ _ _ w4) rfl ?_;rintro _ w5 ⟨rfl,hw5⟩;subst w5;by_cases h16:1≤F 7∧F 7≤2048
   ·rw[Z3 h16];refine Gz 4 ?_;refine Wy rfl rfl IA rfl (mR _ _ _ w4) rfl ?_;rintro _ w5 ⟨rfl,hw5⟩;subst w5;by_cases h21:0≤F 8∧F 8≤1024
    ·rw[Z3 h21];refine Gz 4 ?_;refine Wy rfl rfl IA rfl (mR _ _ _ w4) rfl ?_;rintro _ w5 ⟨rfl,hw5⟩;subst w5;by_cases h26:0≤F 9∧F 9≤4294967295
     ·rw[Z3 h26];refine Gz 6 ?_;exact⟨_,rfl,by rw[Z3 ⟨hso,h11.1,h11.2,h16.1,h16.2,h21.1,h21.2,h26.1,h26.2⟩],hW4⟩
     rw[ZV h26];refine Gz 6 ?_;exact⟨_,rfl,by rw[ZV (fun h=>by first|exact hso h.1|(unfold gD at h;omega))],hW4⟩
    rw[ZV h21];refine Gz 11 ?_;exact⟨_,rfl,by rw[ZV (fun h=>by first|exact hso h.1|(unfold gD at h;omega))],hW4⟩
   rw[ZV h16];refine Gz 16 ?_;exact⟨_,rfl,by rw[ZV (fun h=>by first|exact hso h.1|(unfold gD at h;omega))],hW4⟩
  rw[ZV h11];refine Gz 21 ?_;exact⟨_,rfl,by rw[ZV (fun h=>by first|exact hso h.1|(unfold gD at h;omega))],hW4⟩
 rw[ZV h7];have hso:¬ BL F:=fun h=>h7 (fun i hi=>tW.1 h i hi);refine Gz 25 ?_;exact⟨_,rfl,by rw[ZV (fun h=>by first|exact hso h.1|(unfold gD at h;omega))],hW4⟩
def ptO(g:Nat)(o:Nat):Value:=.pointer (some ⟨g,o,none⟩)
def oW:List Nat:=[0,2,3,4,5,6,9]
def oN:List Nat:=[1,7,8]
theorem PO{i:Nat}(h:i<7):oW.getD i 0=(suL.getD i fdZ).o∧(suL.getD i fdZ).b=4:=by
 match i,h with
|0,_|1,_|2,_|3,_|4,_|5,_|6,_=>exact⟨rfl,rfl⟩
theorem PP{i:Nat}(h:i<3):oN.getD i 0=(suL.getD (7+i) fdZ).o∧(suL.getD (7+i) fdZ).b=2:=by
 match i,h with
|0,_|1,_|2,_=>exact⟨rfl,rfl⟩
theorem I2(g:Nat)(W:World):CA 68 [pT g] W fun v w'=>∃ q,v=.slice (some ⟨q,0,none⟩) oW.length 7∧Own (ptO g) 165 w'.heap (some ⟨q,0,none⟩) 7 oW∧W.heap.size≤q∧q<w'.heap.size∧aA nob W w':=by
 refine cS 25 [(0,_)] Tryz.func68 ?_;refine Gz 6 ?_;refine Wv 23 (fun _=>True) [21] [0,1,2,3,4,5,6,7,8,9,10,11,12,13,14,15,16,17,18,19,20,21,22] aK (by kernel_rfl) (trivial) ?_;refine Gz 21 ?_;refine Wo rfl rfl (WD Eh (cs:=(oW.map (ptO g)).toArray) PD rfl rfl rfl (by kernel_rfl) rfl ?_);intro w1 hg1 hs1 hf1;refine Wu (by exact trivial) ?_;refine Gz 5 ?_;exact⟨_,rfl,_,rfl,kJ (xs:=oW) hg1 (by decide),Z0 _,by have h:w1.heap.size=W.heap.size+1:=hs1;show W.heap.size<_;omega,hf1.ZK⟩
theorem Ed(g:Nat)(W:World):CA 70 [pT g] W fun v w'=>∃ q,v=.slice (some ⟨q,0,none⟩) oN.length 3∧Own (ptO g) 165 w'.heap (some ⟨q,0,none⟩) 3 oN∧W.heap.size≤q∧q<w'.heap.size∧aA nob W w':=by
 refine cS 13 [(0,_)] Tryz.func70 ?_;refine Gz 6 ?_;refine Wv 11 (fun _=>True) [9] [0,1,2,3,4,5,6,7,8,9,10] aK (by kernel_rfl) (trivial) ?_;refine Gz 9 ?_;refine Wo rfl rfl (WD Eh (cs:=(oN.map (ptO g)).toArray) PD rfl rfl rfl (by kernel_rfl) rfl ?_);intro w1 hg1 hs1 hf1;refine Wu (by exact trivial) ?_;refine Gz 5 ?_;exact⟨_,rfl,_,rfl,kJ (xs:=oN) hg1 (by decide),Z0 _,by have h:w1.heap.size=W.heap.size+1:=hs1;show W.heap.size<_;omega,hf1.ZK⟩
def suT(q:Rd)(k:Nat):Rd×(Nat→Int):=(suL.take k).foldl gF (q,zF)
theorem tV{q:Rd}{j:Nat}(h:j<10):suT q (j+1)=(gS (suL.getD j fdZ).b (suT q j).1,upd (suT q j).2 (suL.getD j fdZ).o (gV (suL.getD j fdZ).b (suT q j).1)):=by
 have hl:j<suL.length:=h;unfold suT;rw[am hl,cy];simp only[dt,List.foldl_nil,Z2,ZQ hl,Option.getD_some];rfl
theorem HF{q:Rd}{j:Nat}(h:j<10):(suT q (j+1)).2 (suL.getD j fdZ).o=gV (suL.getD j fdZ).b (suT q j).1:=by
 rw[tV h];simp[upd]
theorem BK{q:Rd}{j:Nat}(h:j<10):(bW (suT q j).2).set (suL.getD j fdZ).o (iV ((suT q (j+1)).2 (suL.getD j fdZ).o))=bW (suT q (j+1)).2:=by
 rw[Ec _ (HK h),HF h,tV h]
theorem HG(q:Rd):∀ k,k≤10→(suT q k).1.2.length≤q.2.length:=by
 intro k
 induction k with
|zero=>intro _;exact Z0 _
|succ n ih=>intro hn;rw[tV (by omega)];exact aj (cC _ _ _) (ih (by omega))
theorem HH(q:Rd)(hl:q.2.length≤64)(j:Nat)(hj:j<10)(D:Nat→Prop)(p:Nat)(W:World)(hP:RdL D W.heap p (suT q j).1.1 (suT q j).1.2) :
 CA 69 [pT p,iV (suL.getD j fdZ).b] W fun v w'=>v=iV ((suT q (j+1)).2 (suL.getD j fdZ).o)∧RdL D w'.heap p (suT q (j+1)).1.1 (suT q (j+1)).1.2∧aA (· = p) W w':=by
 rw[HF hj,tV hj];exact iF p _ _ _ W hP (by have:=HG q j (by omega);omega)
def spQ(im:By):Rd:=(dE 0 (im.take 64) 4,rF 0 (im.take 64) 4)
def spS(im:By):Rd×(Nat→Int):=suT (spQ im) 10
def spR(s:Rd):Rd:=gS 4 s
def spL(s:Rd):Int:=pP s.1 s.2
def spE(s:Rd):Int:=dE s.1 s.2 (spL s)
def spB(s:Rd):By:=fD s.1 s.2 (spL s)
theorem yH{im:By}(h:64≤im.length):fD 0 (im.take 64) 4=im.take 4∧(spS im).2=suF im∧spL (spS im).1=26∧gV 4 (spS im).1=(bV ((im.drop 38).take 4):Nat)∧spE (spR (spS im).1)=0∧spB (spR (spS im).1)=(im.take 64).drop 42:=by
 have hl:(im.take 64).length=64:=by rw[ZT];omega
 have e1:dE 0 (im.take 64) 4=0:=dQ (by decide) (by omega);obtain⟨c1,c2⟩:=cF e1;have eq:spQ im=(0,(im.take 64).drop 4):=by unfold spQ;rw[e1,c2];rfl
 have es:spS im=suQ ((im.take 64).drop 4):=by unfold spS;rw[eq];rfl
 have hl2:((im.take 64).drop 4).length=60:=by rw[ZX];omega
 obtain⟨h0,h1,h2⟩:=HJ (ys:=(im.take 64).drop 4) (by omega);have es1:(spS im).1=(0,(im.take 64).drop 38):=by rw[es];exact fm h0 (by rw[h2,ca])
 have hl3:((im.take 64).drop 38).length=26:=by rw[ZX];omega
 have hg:=pF (n:=4) (s:=(0,(im.take 64).drop 38)) (by decide) (by decide) rfl (by show (4:Int)≤(((im.take 64).drop 38).length:Nat);omega);have e4:spR (spS im).1=(0,(im.take 64).drop 42):=by rw[es1];unfold spR;rw[hg.1,show ((4:Int).toNat)=4 from rfl];simp only[ca]
 have hl4:((im.take 64).drop 42).length=22:=by rw[ZX];omega
 have e5:spL (spR (spS im).1)=22:=by rw[e4];show pP 0 _=22;unfold pP;rw[ZO (by omega),hl4];rfl
 have e6:dE 0 ((im.take 64).drop 42) 22=0:=dQ (by decide) (by omega);obtain⟨c3,c4⟩:=cF e6;refine⟨by rw[c1,show ((4:Int).toNat)=4 from rfl,dq];rfl,by rw[es];rfl,?_,?_,?_,?_⟩
 ·rw[es1];show pP 0 _=26;unfold pP;rw[ZO (by omega),hl3];rfl
 · rw[es1,hg.2,show ((4:Int).toNat)=4 from rfl,iw,dq,iw]
   simp only[show min (38+4) 64=42 by rfl,show (38+4:Nat)=42 by rfl]
 ·unfold spE;rw[e5,e4];exact e6
 · unfold spB;rw[e5,e4]
   show fD 0 ((im.take 64).drop 42) 22=_;rw[c3,Z4 (by rw[hl4];decide)]
theorem RC{im:By}(h:64≤im.length)(h1:fD 0 (im.take 64) 4=suM)(h2:((bV ((im.drop 38).take 4):Nat):Int)=(eU (im.take 38):Nat))(h3:(suF im) 0=im.length)(h4:gD (suF im))(h5:¬ ∃ c∈spB (spR (spS im).1),c≠0):gE im:=by
 obtain⟨g1,g2,g3,g4,g5,g6⟩:=yH h;rw[g6] at h5;refine⟨h,h4,(Eb h).2 ⟨by rw[←g1];exact h1,by omega,(F7 (by rw[ZX,ZT];omega)).2 (fun c hc=>ZY fun hn=>h5 ⟨c,hc,hn⟩)⟩,h3⟩
theorem Lc{im:By}(hok:gE im):fD 0 (im.take 64) 4=suM∧((bV ((im.drop 38).take 4):Nat):Int)=(eU (im.take 38):Nat)∧¬ ∃ c∈spB (spR (spS im).1),c≠0:=by
 obtain⟨h,h4,h5,h3⟩:=hok;obtain⟨g1,g2,g3,g4,g5,g6⟩:=yH h;obtain⟨a,b,c⟩:=(Eb h).1 h5;refine⟨by rw[g1];exact a,by omega,?_⟩;rw[g6];rintro⟨x,hx,hn⟩;exact hn ((F7 (by rw[ZX,ZT];omega)).1 c x hx)
theorem I3(tp:Nat)(io:Option Addr)(ic:Nat)(im:By)(W:World)(ht:TbV W.heap tp)(hv:Vw b8 W.heap io ic im)(hb:im.length≤1099511627776) :
 CA 33 [pT tp,.slice io im.length ic] W fun v w'=>v=.tuple #[.agg (bW (aJ im).1).toArray,iV (aJ im).2]∧aA nob W w':=by
 have hle:=hv.le;obtain⟨r,er⟩:∃ r,r=W.heap.size:=⟨_,rfl⟩
 have hml:(im.take 64).length=min 64 im.length:=ZT;obtain⟨ys,hys⟩:∃ ys,ys=im.take 64:=⟨_,rfl⟩
 obtain⟨q0,hq0⟩:∃ q0,q0=spQ im:=⟨_,rfl⟩
 have hql:q0.2.length≤64:=by rw[hq0];have:(spQ im).2.length≤(im.take 64).length:=cC _ _ _;omega
 refine cS 99 [(0,_),(1,_)] Tryz.func33 ?_;refine Gz 2 ?_;refine Wn nD rfl ?_;intro w1 hg1 hs1 hf1;have hg1:w1.heap[W.heap.size]?=some (.cells (bW zF).toArray 93 (0,0)):=hg1;rw[←er] at hg1 ⊢;refine Gz 8 ?_;refine cL (Wm (u:=iV (ys.length:Nat)) (Xh rfl rfl) (by rw[hys,hml];congr 1;omega)) ?_;refine cL (Wm (u:=.slice io ys.length ic) (WE aH rfl rfl (by rw[hys,hml];omega)) (by rw[bF];rfl)) ?_;refine Wh MU rfl (qO io ic ys w1 (by rw[hys];exact(hv.take 64).ZM hf1) (by rw[hys,hml];omega)) rfl ?_;rintro _ w2 ⟨p,rfl,hp,hP,hf2⟩;have hlp:=RdO.lt hP;have hz2:=hf2.size;refine Gz 5 ?_;refine Wn nD rfl ?_;intro w3 hg3 hs3 hf3;have hg3:w3.heap[w2.heap.size]?=some (.cells (bW (suT q0 0).2).toArray 93 (0,0)):=hg3;obtain⟨q,eq⟩:∃ q,q=w2.heap.size:=⟨_,rfl⟩
 rw[←eq] at hg3 ⊢;refine Gz 5 ?_;refine Wh G8 rfl (pA p 0 ys 4 w3 (hP.ZM hf3) (by rw[hys,hml];omega)) rfl ?_;rintro _ w4 ⟨o4,c4,rfl,ho4,hfr4,hP4,hF4⟩;have hz4:=hF4.size;have hg4:=hF4.obj hg3 (fun h=>by have h:q=p:=h;omega);have hP4:RdL (fun k=>w1.heap.size≤k∧k<w2.heap.size) w4.heap p (suT q0 0).1.1 (suT q0 0).1.2:=by rw[hq0];rw[hys] at hP4;exact hP4
 have hJ4:aA (fun k=>w1.heap.size≤k) w1 w4:=((hf2.trans hf3).any).trans (hF4.mono (fun k h=>by have h:k=p:=h;omega));refine cL (WG aH ty5 ty9 rfl ho4.vw) ?_;refine cA 6 VE (I2 q w4) ?_;rintro _ w5 ⟨l,rfl,ho5,hl1,hl2,hf5⟩;have hJ5:=hJ4.trans hf5.any;refine Gz 5 ?_;refine Wp (β:=Nat) (fun i=>[(0,pT tp),(1,.slice io im.length ic),(4,pT r),(6,pT p),(7,pT q),(8,.string (bs (fD 0 ys 4))),(26,.slice (some ⟨l,0,none⟩) oW.length 7),(27,iV (oW.length:Nat)),(28,iV i)]) (fun i w=>i≤7∧RdL (fun k=>w1.heap.size≤k∧k<w2.heap.size) w.heap p (suT q0 i).1.1 (suT q0 i).1.2∧w.heap[q]?=some (.cells (bW (suT q0 i).2).toArray 93 (0,0))∧Own (ptO q) 165 w.heap (some ⟨l,0,none⟩) 7 oW∧aA (fun k=>w1.heap.size≤k) w1 w∧w5.heap.size≤w.heap.size) (fun i=>7-i) 0 ⟨rfl,rfl,rfl,rfl,rfl,rfl,rfl,rfl,rfl,trivial⟩ ⟨by decide,hP4.ZM hf5,hf5.obj hg4 id,ho5,hJ5,Z0 _⟩ ?_;rintro i w6 ⟨hi,hP6,hg6,how,hJ6,hz56⟩;refine fK 2 ?_ ?_<;>intro h29
 ·have hi7:i<7:=by have:(i:Int)<(oW.length:Nat):=h29;have e:oW.length=7:=rfl;omega
  refine Gz 10 ?_;refine cL (Wi Eh rfl rfl how.vw.non (by have e:oW.length=7:=rfl;omega)) ?_;refine cL (Wk Gn rfl (how.vw.gz 0 i rfl (by show i<7;exact hi7))) ?_;rw[(PO hi7).1];refine Gz 6 ?_;refine Wh AO rfl (by have h:=HH q0 hql i (by omega) _ p w6 hP6;rw[(PO hi7).2] at h;exact h) rfl ?_;rintro _ w7 ⟨rfl,hP7,hF7⟩;have hz7:=hF7.size;have hg7:=hF7.obj hg6 (fun h=>by have h:q=p:=h;omega);have hJ7:=hJ6.trans (hF7.mono (fun k h=>by have h:k=p:=h;show w1.heap.size≤k;omega));have how7:=how.ZN hF7 (fun a ha e=>by cases ha;have e:l=p:=e;omega);refine Gz 1 ?_;refine Wl aF rfl rfl rfl hg7 (by have:=HK (j:=i) (by omega);rw[dg];exact this) ?_;intro w8 hg8 hs8 hF8;rw[BK (by omega)] at hg8;have hP8:=hP7.ZN hF8 (fun k hk e=>by have e:k=q:=e;have:=hk.2;omega);have hJ8:=hJ7.trans (hF8.mono (fun k h=>by have h:k=q:=h;show w1.heap.size≤k;omega));have how8:=how7.ZN hF8 (fun a ha e=>by cases ha;have e:l=q:=e;omega);refine Gz 7 ?_;exact aG (i+1) ⟨by omega,hP8,hg8,how8,hJ8,by have h:w8.heap.size=w7.heap.size:=hs8;omega⟩ (by show 7-(i+1)<7-i;omega)
 have hi7:i=7:=by have h29:¬ (i:Int)<(oW.length:Nat):=h29;have e:oW.length=7:=rfl;omega
 subst hi7;refine cA 12 VD (Ed q w6) ?_;rintro _ w9 ⟨l2,rfl,ho9,hm1,hm2,hf9⟩;have hJ9:=hJ6.trans hf9.any;refine Gz 5 ?_;refine Wp (β:=Nat) (fun i=>[(0,pT tp),(1,.slice io im.length ic),(4,pT r),(6,pT p),(7,pT q),(8,.string (bs (fD 0 ys 4))),(37,.slice (some ⟨l2,0,none⟩) oN.length 3),(38,iV (oN.length:Nat)),(39,iV i)]) (fun i w=>i≤3∧RdL (fun k=>w1.heap.size≤k∧k<w2.heap.size) w.heap p (suT q0 (7+i)).1.1 (suT q0 (7+i)).1.2∧w.heap[q]?=some (.cells (bW (suT q0 (7+i)).2).toArray 93 (0,0))∧Own (ptO q) 165 w.heap (some ⟨l2,0,none⟩) 3 oN∧aA (fun k=>w1.heap.size≤k) w1 w) (fun i=>3-i) 0 ⟨rfl,rfl,rfl,rfl,rfl,rfl,rfl,rfl,rfl,trivial⟩ ⟨by decide,hP6.ZM hf9,hf9.obj hg6 id,ho9,hJ9⟩ ?_;rintro i w6 ⟨hi,hP6,hg6,how,hJ6⟩;refine fK 2 ?_ ?_<;>intro h40
 ·have hi3:i<3:=by have:(i:Int)<(oN.length:Nat):=h40;have e:oN.length=3:=rfl;omega
  refine Gz 10 ?_;refine cL (Wi Eh rfl rfl how.vw.non (by have e:oN.length=3:=rfl;omega)) ?_;refine cL (Wk Gn rfl (how.vw.gz 0 i rfl (by show i<3;exact hi3))) ?_;rw[(PP hi3).1];refine Gz 6 ?_;refine Wh AO rfl (by have h:=HH q0 hql (7+i) (by omega) _ p w6 hP6;rw[(PP hi3).2] at h;exact h) rfl ?_;rintro _ w7 ⟨rfl,hP7,hF7⟩;have hg7:=hF7.obj hg6 (fun h=>by have h:q=p:=h;omega);have hJ7:=hJ6.trans (hF7.mono (fun k h=>by have h:k=p:=h;show w1.heap.size≤k;omega));have how7:=how.ZN hF7 (fun a ha e=>by cases ha;have e:l2=p:=e;omega);refine Gz 1 ?_;refine Wl aF rfl rfl rfl hg7 (by have:=HK (j:=7+i) (by omega);rw[dg];exact this) ?_;intro w8 hg8 hs8 hF8;rw[BK (by omega)] at hg8;have hP8:=hP7.ZN hF8 (fun k hk e=>by have e:k=q:=e;have:=hk.2;omega);have hJ8:=hJ7.trans (hF8.mono (fun k h=>by have h:k=q:=h;show w1.heap.size≤k;omega));have how8:=how7.ZN hF8 (fun a ha e=>by cases ha;have e:l2=q:=e;omega);refine Gz 7 ?_;exact aG (i+1) ⟨by omega,hP8,hg8,how8,hJ8⟩ (by show 3-(i+1)<3-i;omega)
 have hi3:i=3:=by have h40:¬ (i:Int)<(oN.length:Nat):=h40;have e:oN.length=3:=rfl;omega
 subst hi3;have eS:suT q0 10=spS im:=by rw[hq0];rfl
 have hP6:RdL (fun k=>w1.heap.size≤k∧k<w2.heap.size) w6.heap p (suT q0 10).1.1 (suT q0 10).1.2:=hP6;have hg6:w6.heap[q]?=some (.cells (bW (suT q0 10).2).toArray 93 (0,0)):=hg6;rw[eS] at hP6 hg6;obtain⟨s,hs⟩:∃ s,s=(spS im).1:=⟨_,rfl⟩
 rw[←hs] at hP6;have hsl:s.2.length≤64:=by rw[hs,←eS];have:=HG q0 10 (by decide);omega
 refine cA 12 Q8 (vW p s.1 s.2 w6 hP6) ?_;rintro _ wq ⟨rfl,hwq⟩;subst wq;rw[show pP s.1 s.2=spL s from rfl];refine Gz 6 ?_;refine Wh AO rfl (iF p s.1 s.2 4 w6 hP6 (by omega)) rfl ?_;rintro _ w10 ⟨rfl,hP10,hF10⟩;have hP10:RdL (fun k=>w1.heap.size≤k∧k<w2.heap.size) w10.heap p (spR s).1 (spR s).2:=hP10;have hrl:(spR s).2.length≤s.2.length:=cC _ _ _;have hJ10:=hJ6.trans (hF10.mono (fun k h=>by have h:k=p:=h;show w1.heap.size≤k;omega));have hg10:=hF10.obj hg6 (fun h=>by have h:q=p:=h;omega);obtain⟨vn,hvn⟩:∃ vn,vn=bV (fD (cO s.1 4) s.2 4):=⟨_,rfl⟩
 have hvn4:vn<4294967296:=by have h1:=tM (fD (cO s.1 4) s.2 4);have h2:=Al s.1 s.2 4;rw[←hvn] at h1;exact cl h1 (by have:=Nat.pow_le_pow_right (n:=256) (by decide) h2;omega)
 rw[←hvn];refine cL (Wr (n:=((vn:Nat):Int)) is3 IX rfl (kZ hvn4)) ?_;refine cA 7 Q8 (vW p (spR s).1 (spR s).2 w10 hP10) ?_;rintro _ wq ⟨rfl,hwq⟩;subst wq;rw[show pP (spR s).1 (spR s).2=spL (spR s) from rfl];refine Wh G8 rfl (pA p (spR s).1 (spR s).2 (spL (spR s)) w10 hP10 (by omega)) rfl ?_;rintro _ w11 ⟨o11,c11,rfl,ho11,hfr11,hP11,hF11⟩;have hJ11:=hJ10.trans (hF11.mono (fun k h=>by have h:k=p:=h;show w1.heap.size≤k;omega));have hg11:=hF11.obj hg10 (fun h=>by have h:q=p:=h;omega);have hP11:RdL (fun k=>w1.heap.size≤k∧k<w2.heap.size) w11.heap p (spE (spR s)) (rF (spR s).1 (spR s).2 (spL (spR s))):=hP11;have ho11:Own b8 5 w11.heap o11 c11 (spB (spR s)):=ho11;rw[show fD (spR s).1 (spR s).2 (spL (spR s))=spB (spR s) from rfl];have hW11:aA nob W w11:=(hf1.any.ZJ hJ11 (fun k h=>.inl h)).fresh (fun k h=>by omega);have hr11:=hJ11.obj hg1 (fun h=>by have h:w1.heap.size≤r:=h;omega);refine Gz 9 ?_;refine Wh G7 rfl (Ef p _ _ w11 hP11) rfl ?_;rintro _ wq ⟨rfl,hwq⟩;subst wq;refine fK 0 ?_ ?_<;>intro h61
 ·have hno:¬ gE im:=fun h=>h61 (by rw[hs];exact(yH h.1).2.2.2.2.1);refine Gz 10 ?_;refine cL (bU (bW zF) oD nD) ?_;refine sA rfl cH (by exact dH _) hr11 ?_;intro w20 hg20 hs20 hf20;have hFx:aA nob W w20:=hW11.tw hf20;refine Gz 5 ?_;refine rC hg20 cH ?_;have e:aJ im=(zF,2):=ZO hno;exact⟨_,rfl,by rw[e],hFx⟩
 refine fW 3 ?_ ?_<;>intro h65
 ·have hno:¬ gE im:=fun h=>by have:=h.1;omega
  refine Gz 6 ?_;refine cL (bU (bW zF) oD nD) ?_;refine sA rfl cH (by exact dH _) hr11 ?_;intro w20 hg20 hs20 hf20;have hFx:aA nob W w20:=hW11.tw hf20;refine Gz 5 ?_;refine rC hg20 cH ?_;have e:aJ im=(zF,2):=ZO hno;exact⟨_,rfl,by rw[e],hFx⟩
 have h64:64≤im.length:=by omega
 obtain⟨g1,g2,g3,g4,g5,g6⟩:=yH h64;rw[←hs] at g3 g4;have g4:((vn:Nat):Int)=(bV ((im.drop 38).take 4):Nat):=by rw[hvn];exact g4
 rw[g2] at hg11;rw[g3];refine Gz 9 ?_;refine WF (XC (b:=suM) rfl rfl) rfl (fun h69=>?_) (fun h69=>?_)
 ·have hm1:fD 0 (im.take 64) 4=suM:=by rw[←hys];exact h69
  refine Gz 6 ?_;refine cW (Wm (u:=.slice io (im.take 38).length ic) (WE aH rfl rfl (by omega)) (by rw[bF,ZT,cn (by omega)];rfl)) ?_;refine Wy rfl rfl R4 rfl (K3 tp io ic (im.take 38) w11 (hW11.obj ht id) ((hv.take 38).ZM hW11)) rfl ?_;rintro _ wq ⟨rfl,hwq⟩;subst wq;refine fW 0 ?_ ?_<;>intro h78
  ·have hm2:((bV ((im.drop 38).take 4):Nat):Int)=(eU (im.take 38):Nat):=by rw[←g4];exact h78
   refine fW 6 ?_ ?_<;>intro h85
   ·refine Gz 2 ?_;refine cW (Ws (cs:=bW (suF im)) cH rfl (aQ hg11 0 rfl)) ?_;refine Wy rfl rfl VC rfl (K2 (suF im) w11) rfl ?_;rintro _ w12 ⟨rfl,hf12⟩;have hr12:=hf12.obj hr11 id;have hg12:=hf12.obj hg11 id;have hW12:=hW11.trans hf12;by_cases h89:gD (suF im)
    ·rw[Z3 h89];refine Gz 8 ?_;refine cL (WQ rfl) ?_;refine Gz 2 ?_;refine Wy rfl rfl VB rfl (Bk (R:=fun c=>c≠0) 76 VA o11 c11 (spB (spR s)) w12 (ho11.ZM hf12).vw Gi) rfl ?_;rintro _ wq ⟨rfl,hwq⟩;subst wq;by_cases h95:∃ c∈spB (spR s),c≠0
     ·rw[Z3 h95];have hno:¬ gE im:=fun h=>(Lc h).2.2 (by rw[←hs];exact h95);refine Gz 6 ?_;refine cL (bU (bW zF) oD nD) ?_;refine sA rfl cH (by exact dH _) (by first|exact hr12|exact hr11) ?_;intro w20 hg20 hs20 hf20;have hFx:aA nob W w20:=by first|exact hW12.tw hf20|exact hW11.tw hf20
      refine Gz 5 ?_;refine rC hg20 cH ?_;have e:aJ im=(zF,2):=ZO hno;exact⟨_,rfl,by rw[e],hFx⟩
     rw[ZV h95];have hyes:gE im:=RC h64 hm1 hm2 h85 h89 (by rw[←hs];exact h95);refine Gz 8 ?_;refine cL (Ws (cs:=bW (suF im)) cH rfl (aQ hg12 0 rfl)) ?_;refine sA rfl cH (by exact dH _) hr12 ?_;intro w20 hg20 hs20 hf20;have hFx:aA nob W w20:=hW12.tw hf20;refine Gz 4 ?_;refine rC hg20 cH ?_;have e:aJ im=(suF im,0):=ZP hyes;exact⟨_,rfl,by rw[e],hFx⟩
    rw[ZV h89];have hno:¬ gE im:=fun h=>h89 h.2.1;refine Gz 8 ?_;refine cL (WQ rfl) ?_;refine Gz 9 ?_;refine cL (bU (bW zF) oD nD) ?_;refine sA rfl cH (by exact dH _) (by first|exact hr12|exact hr11) ?_;intro w20 hg20 hs20 hf20;have hFx:aA nob W w20:=by first|exact hW12.tw hf20|exact hW11.tw hf20
    refine Gz 5 ?_;refine rC hg20 cH ?_;have e:aJ im=(zF,2):=ZO hno;exact⟨_,rfl,by rw[e],hFx⟩
   have hno:¬ gE im:=fun h=>h85 h.2.2.2;refine Gz 12 ?_;refine cL (WQ rfl) ?_;refine Gz 9 ?_;refine cL (bU (bW zF) oD nD) ?_;refine sA rfl cH (by exact dH _) (by first|exact hr12|exact hr11) ?_;intro w20 hg20 hs20 hf20;have hFx:aA nob W w20:=by first|exact hW12.tw hf20|exact hW11.tw hf20
   refine Gz 5 ?_;refine rC hg20 cH ?_;have e:aJ im=(zF,2):=ZO hno;exact⟨_,rfl,by rw[e],hFx⟩
  have hno:¬ gE im:=fun h=>h78 (by rw[g4];exact(Lc h).2.1);refine Gz 19 ?_;refine cL (WQ rfl) ?_;refine Gz 9 ?_;refine cL (bU (bW zF) oD nD) ?_;refine sA rfl cH (by exact dH _) (by first|exact hr12|exact hr11) ?_;intro w20 hg20 hs20 hf20;have hFx:aA nob W w20:=by first|exact hW12.tw hf20|exact hW11.tw hf20
  refine Gz 5 ?_;refine rC hg20 cH ?_;have e:aJ im=(zF,2):=ZO hno;exact⟨_,rfl,by rw[e],hFx⟩
 have hno:¬ gE im:=fun h=>h69 (by rw[hys];exact(Lc h).1);refine Gz 28 ?_;refine cL (WQ rfl) ?_;refine Gz 9 ?_;refine cL (bU (bW zF) oD nD) ?_;refine sA rfl cH (by exact dH _) (by first|exact hr12|exact hr11) ?_;intro w20 hg20 hs20 hf20;have hFx:aA nob W w20:=by first|exact hW12.tw hf20|exact hW11.tw hf20
 refine Gz 5 ?_;refine rC hg20 cH ?_;have e:aJ im=(zF,2):=ZO hno;exact⟨_,rfl,by rw[e],hFx⟩
section
variable {N:Nt}{l:SF}{ty:TypeId}{pos:String}{aft:Array Edge}{CH:Array Obj→Prop}{x y:Operand}{t':TypeId}{g:Option (Nat×Bool)}{dd:Option Nat}
theorem Nb{a b:Ent}(h:bH a=bH b):a=b:=by
 simp only[bH,List.cons.injEq,Value.string.injEq,Value.int.injEq,and_true,true_and] at h;exact fm (NC h.1) (fm h.2.1 h.2.2)
theorem Rg(a b:Ent)(w:World):(gi 10000 39 (.agg (bH a).toArray) (.agg (bH b).toArray)).run Tryz.prog w=.ok (decide (a=b)) w:=by
 have h0:=run_equalIn_struct (P:=Tryz.prog) w 9999 39 (bH a).toArray (bH b).toArray (by kernel_rfl) (by kernel_rfl);refine h0.trans ?_;obtain⟨r,hr,hr2⟩:=rB (P:=Tryz.prog) w (d:=9998) (d1:=9999) rfl (xs:=(bH a).toArray) (ys:=(bH b).toArray) (Tryz.prog.fieldsOf 39).toList (by
  unfold Program.fieldsOf;rw[Tryz.underlying39];simp only[dv];refine⟨⟨by decide,_,_,rfl,rfl,?_,?_⟩,⟨by decide,_,_,rfl,rfl,?_,?_⟩,⟨by decide,_,_,rfl,rfl,?_,?_⟩,by simp⟩<;>first|(unfold okV;rw[ty3];exact(rfl:IntKind.i64=IntKind.i64))|(unfold okV;rw[ty9];exact trivial))
 suffices hsf:r=decide (a=b) by rw[←hsf];exact hr
 rw[Bool.eq_iff_iff,hr2,decide_eq_true_iff];unfold Program.fieldsOf;rw[Tryz.underlying39];constructor
 · intro h
   simp only[dv] at h;obtain⟨a0,a1,a2,_⟩:=h;apply Nb;apply cd;intro i
   match i with
  |0=>simpa using a0
  |1=>simpa using a1
  |2=>simpa using a2
  |n+3=>rfl
 ·rintro rfl f _;rfl
theorem XY{a b:Ent}(hx:evL l x=some (.agg (bH a).toArray))(hy:evL l y=some (.agg (bH b).toArray)):Cm Tryz.prog N CH l ⟨dd,.binOp .neq 39 x y t',ty,pos,aft,g⟩ (.bool (decide (¬ a=b))):=fun c w ha _=>by
 have h1:=run_eqGuard_agg (P:=Tryz.prog) w .neq 39 x y (bH a).toArray (bH b).toArray (by kernel_rfl);have h2:=run_neq_struct (P:=Tryz.prog) w 39 (bH a).toArray (bH b).toArray;rw[Rg] at h2;simp only[execOp,ha.ev hx,ha.ev hy,Sem.run_bind,h1,Result.andThen_ok,h2];by_cases h:a=b<;>simp[h]
end
theorem fT(x:Ent):∀ v∈bH x,v.oneCell'=true:=(bA x).2
theorem Ni(x:Ent)(last:By)(W:World)(hx:x.1.length≤maxLen):CA 144 [.agg (bH x).toArray,.string (bs last)] W fun v w'=>v=.bool (decide (kF x last))∧aA nob W w':=by
 refine cS 35 [(0,_),(1,_)] Tryz.func144 ?_;refine Gz 2 ?_;refine WO rfl rfl ?_;intro w1 hg1 hs1 hf1;have hg2:w1.heap[W.heap.size]?=some (.cells (bH x).toArray 39 (0,0)):=hg1;obtain⟨g,eg⟩:∃ g,g=W.heap.size:=⟨_,rfl⟩
 rw[←eg] at hg2 ⊢;refine cA 7 Su (KP x.1 w1 hx) ?_;rintro _ w2 ⟨rfl,hf2⟩;have hg2:=hf2.obj hg2 id;have hW:=hf1.trans hf2;refine fK 0 ?_ ?_<;>intro h8
 ·have hv0:fP x.1=0:=h8;refine Gz 4 ?_;refine WV rfl rfl (WK (XT (a:=x.1) (b:=last) rfl rfl)) rfl (fun h13=>?_) (fun h13=>?_)
  ·have hlt:Z8 last x.1=true:=by rw[iI] at h13;simpa using h13
   refine fW 4 ?_ ?_<;>intro h18
   ·refine fW 4 ?_ ?_<;>intro h23
    ·refine fW 4 ?_ ?_<;>intro h28
     ·refine fW 4 ?_ ?_<;>intro h33
      ·refine Gz 6 ?_;exact⟨_,rfl,by rw[Z3 (show kF x last from ⟨hv0,hlt,h18,h23,h28,h33⟩)],hW⟩
      refine Gz 6 ?_;exact⟨_,rfl,by rw[ZV (fun h:kF x last=>by obtain⟨m1,m2,m3,m4,m5,m6⟩:=h;first|exact h8 m1|exact hlt m2|omega)],hW⟩
     refine Gz 11 ?_;exact⟨_,rfl,by rw[ZV (fun h:kF x last=>by obtain⟨m1,m2,m3,m4,m5,m6⟩:=h;first|exact h8 m1|exact hlt m2|omega)],hW⟩
    refine Gz 16 ?_;exact⟨_,rfl,by rw[ZV (fun h:kF x last=>by obtain⟨m1,m2,m3,m4,m5,m6⟩:=h;first|exact h8 m1|exact hlt m2|omega)],hW⟩
   refine Gz 21 ?_;exact⟨_,rfl,by rw[ZV (fun h:kF x last=>by obtain⟨m1,m2,m3,m4,m5,m6⟩:=h;first|exact h8 m1|exact hlt m2|omega)],hW⟩
  have hlt:¬ Z8 last x.1=true:=by rw[iI] at h13;simpa using h13
  refine Gz 26 ?_;exact⟨_,rfl,by rw[ZV (fun h:kF x last=>by obtain⟨m1,m2,m3,m4,m5,m6⟩:=h;first|exact h8 m1|exact hlt m2|omega)],hW⟩
 refine Gz 31 ?_;exact⟨_,rfl,by rw[ZV (fun h:kF x last=>by obtain⟨m1,m2,m3,m4,m5,m6⟩:=h;first|exact h8 m1|exact hlt m2|omega)],hW⟩
theorem Mp{x:Ent}{last:By}(h:kF x last):x.1.length≤255:=(mH h).1
theorem Ip(s:Rd):(gTx s).length≤255:=by
 by_cases h:(eW s).1=0
 ·exact(Iq h).2.2
 · have h':dE (tE s.1 s.2) (tR s.1 s.2) (tN s.1 s.2)≠0:=h
   show (fD (tE s.1 s.2) (tR s.1 s.2) (tN s.1 s.2)).length≤255;rw[(mN h').1];exact ZZ _
theorem LJ(s:Rd):(jT s).2.length≤s.2.length:=aj (cC _ _ _) (aj (cC _ _ _) (aj (cC _ _ _) (cC _ _ _)))
def Rp(W:World)(r:List Ent×Int):Value→World→Prop:=fun v w'=>∃ o c,v=.tuple #[.slice o r.1.length c,iV r.2]∧bJ 3 bH 39 w'.heap o c r.1∧Fr W.heap.size o∧aA nob W w'
theorem Kn(ao:Option Addr)(ac:Nat)(b:By)(W:World)(hv:Vw b8 W.heap ao ac b)(hb:b.length≤1099511627776) :
 CA 121 [.slice ao b.length ac] W (Rp W (fA b)):=by
 refine cS 40 [(0,_)] Tryz.func121 ?_;refine Gz 9 ?_;refine Wh MU rfl (qO ao ac b W hv (by omega)) rfl ?_;rintro _ w1 ⟨p,rfl,hp,hP,hf1⟩;have hz1:=hf1.size;have hpl:=RdO.lt hP;refine Gz 15 ?_;refine Wp (β:=(List Ent×By)×(Option Addr×Nat)) (fun⟨⟨l,ys⟩,⟨oo,oc⟩⟩=>[(4,pT p),(5,.slice oo l.length oc),(6,.string (bs (oH l)))]) (fun⟨⟨l,ys⟩,⟨oo,oc⟩⟩ w=>DtI b l (0,ys)∧b=bE l++ys∧aT [] l∧RdL (fun k=>W.heap.size≤k∧k<w1.heap.size) w.heap p 0 ys∧bJ 3 bH 39 w.heap oo oc l∧Fr w1.heap.size oo∧l.length+ys.length≤b.length∧aA (fun k=>k=p∨w1.heap.size≤k) w1 w) (fun⟨⟨l,ys⟩,⟨oo,oc⟩⟩=>ys.length) ⟨⟨[],b⟩,⟨none,0⟩⟩ ⟨rfl,rfl,rfl,trivial⟩ ⟨DtI.zero b,rfl,trivial,hP,Zy,Zs,by simp,Zn _ _⟩ ?_;rintro⟨⟨l,ys⟩,⟨oo,oc⟩⟩ w2 ⟨hI,hcb,hch,hP2,hoo,hfro,hlen,hF2⟩;refine cA 4 Q8 (vW p 0 ys w2 hP2) ?_;rintro _ wq ⟨rfl,hwq⟩;subst wq;have e0:pP 0 ys=ys.length:=rfl;refine fK 0 ?_ ?_<;>intro h12
 ·have hne:ys≠[]:=by intro e;subst e;simp[pP] at h12
  have hst:=hI.step hne;refine Gz 1 ?_;refine aW [(4,_),(5,_),(6,_),(12,_)] ?_;refine Gz 8 ?_;refine Wh Qa rfl (B3 p 0 ys w2 hP2 (by omega)) rfl ?_;rintro _ w3 ⟨rfl,hP3,hF3⟩;have hP3:RdL (fun k=>W.heap.size≤k∧k<w1.heap.size) w3.heap p (eW (0,ys)).1 (eW (0,ys)).2:=hP3;rw[show fD (tE 0 ys) (tR 0 ys) (tN 0 ys)=gTx (0,ys) from rfl];have hl3:(eW (0,ys)).2.length≤ys.length:=aj (cC _ _ _) (cC _ _ _);refine cL (bU (bH (gTx (0,ys),0,0)) Ah pR) ?_;refine Wn pR rfl ?_;intro w4 hg4 hs4 hf4;obtain⟨q,eq⟩:∃ q,q=w3.heap.size:=⟨_,rfl⟩
  rw[←eq] at hg4 ⊢;have hz2:=hF2.size;have hz3:=hF3.size;refine sA rfl eA (by exact fT _) hg4 ?_;intro w5 hg5 hs5 hf5;have hf35:aA nob w3 w5:=hf4.tw hf5;refine Gz 5 ?_;refine Wh AO rfl (iF p _ _ 1 w5 (hP3.ZM hf35) (by omega)) rfl ?_;rintro _ w6 ⟨rfl,hP6,hF6⟩;have hP6:RdL (fun k=>W.heap.size≤k∧k<w1.heap.size) w6.heap p (gS 1 (eW (0,ys))).1 (gS 1 (eW (0,ys))).2:=hP6;have hg6:=hF6.obj hg5 (fun h=>by have h:q=p:=h;omega);have hl6:(gS 1 (eW (0,ys))).2.length≤ys.length:=aj (cC _ _ _) hl3;refine Gz 1 ?_;refine Wl aF rfl rfl rfl hg6 rfl ?_;intro w7 hg7 hs7 hf7;have hg7:w7.heap[q]?=some (.cells (bH (gTx (0,ys),gV 1 (eW (0,ys)),0)).toArray 39 (0,0)):=hg7;have hP7:=hP6.ZN hf7 (fun k hk e=>by have e:k=q:=e;have:=hk.2;omega);refine Gz 5 ?_;refine Wh AO rfl (iF p _ _ 4 w7 hP7 (by omega)) rfl ?_;rintro _ w8 ⟨rfl,hP8,hF8⟩;have hP8:RdL (fun k=>W.heap.size≤k∧k<w1.heap.size) w8.heap p (jT (0,ys)).1 (jT (0,ys)).2:=hP8;have hg8:=hF8.obj hg7 (fun h=>by have h:q=p:=h;omega);refine Gz 1 ?_;refine Wl aF rfl rfl rfl hg8 rfl ?_;intro w9 hg9 hs9 hf9;have hg9:w9.heap[q]?=some (.cells (bH (kT (0,ys))).toArray 39 (0,0)):=hg9;have hP9:=hP8.ZN hf9 (fun k hk e=>by have e:k=q:=e;have:=hk.2;omega);have hJ9:aA (fun k=>k=p∨w1.heap.size≤k) w1 w9:=((((hF2.trans (hF3.mono (fun k h=>.inl h))).trans hf35.any).trans (hF6.mono (fun k h=>.inl h))).trans (hf7.mono (fun k h=>.inr (by have h:k=q:=h;omega)))).trans (hF8.mono (fun k h=>.inl h)) |>.trans (hf9.mono (fun k h=>.inr (by have h:k=q:=h;omega)));have hs29:aA (fun k=>k=p∨w2.heap.size≤k) w2 w9:=(((((hF3.mono (fun k h=>.inl h))).trans hf35.any).trans (hF6.mono (fun k h=>.inl h))).trans (hf7.mono (fun k h=>.inr (by have h:k=q:=h;omega)))).trans (hF8.mono (fun k h=>.inl h)) |>.trans (hf9.mono (fun k h=>.inr (by have h:k=q:=h;omega)));have hlo:=hoo.lt;have hoo9:=hoo.ZN hs29 (fun a ha h=>by have h1:=hlo a ha;have h2:=hfro a ha;rcases h with h|h<;>omega);have hz9:=hs29.size;refine Gz 8 ?_;refine Wh G7 rfl (Ef p _ _ w9 hP9) rfl ?_;rintro _ wq ⟨rfl,hwq⟩;subst wq;refine fK 0 ?_ ?_<;>intro h26
  ·have hbad:fA b=([],2):=nC (fun L h1 h2=>h26 (hst.2 L h1 h2).1);refine Gz 22 ?_;rw[hbad];exact⟨_,rfl,none,0,rfl,Zy,Zs,(hf1.any.ZJ hJ9 (fun k h=>.inl h)).fresh (fun k h=>by omega)⟩
  have e0s:(jT (0,ys)).1=0:=Z5.1 h26;refine Gz 1 ?_;refine cW (Ws (cs:=bH (kT (0,ys))) eA rfl (aQ hg9 0 rfl)) ?_;refine Gz 1 ?_;refine Wy rfl rfl SL rfl (Ni (kT (0,ys)) (oH l) w9 (by have:=Ip (0,ys);show (gTx (0,ys)).length≤maxLen;unfold maxLen;omega)) rfl ?_;rintro _ w10 ⟨rfl,hf10⟩;by_cases h30:kF (kT (0,ys)) (oH l)
  ·rw[Z3 h30];have hg10:=hf10.obj hg9 id;have hoo10:=hoo9.ZM hf10;have hP10:=hP9.ZM hf10;have hless:=uJ e0s;have hcat:=(C9 e0s).2.1;have hz10:=hf10.size;refine cW (WQ rfl) ?_;refine Gz 6 ?_;refine Wv 8 (fun H=>H[q]?=some (.cells (bH (kT (0,ys))).toArray 39 (0,0))) [2,3] [0,1,4,5,2,3,6,7] aK (by kernel_rfl) (hg10) ?_;refine Gz 1 ?_;refine xC rfl (W9 (cs:=bH (kT (0,ys))) eA rfl (fun H hH j v hj=>aB hH hj)) ?_;refine Gz 2 ?_;refine Wo rfl rfl (WD lW (cs:=(bH (kT (0,ys))).toArray) pR rfl rfl rfl (by kernel_rfl) rfl ?_);intro w11 hg11 hs11 hf11;have hf11:=hf11.ZK;have ho11:=bS (e:=39) (xs:=[kT (0,ys)]) bA (by simpa using hg11) (by show 1≤maxLen;decide);refine Wu (by exact hf11.obj hg10 id) ?_;refine Wo rfl rfl (Wx bA rfl lW rfl rfl (hoo10.ZM hf11) (ho11.vw bA) (by simp only[ZU];omega) (by simp only[ZU];unfold maxLen;omega) rfl ?_);intro o12 c12 w12 ho12 hf12 hr12 hn12;have hz11:=hf11.size;have hg12:=hf12.obj (hf11.obj hg10 id) (fun⟨a,ha,e⟩=>by have h1:=hlo a ha;omega);refine Wu (by exact hg12) ?_;refine Gz 4 ?_;have hs912:aA (fun k=>k=p∨w1.heap.size≤k) w9 w12:=(hf10.any.trans hf11.any).trans (hf12.mono (fun k ⟨a,ha,e⟩=>.inr (by have:=hfro a ha;omega)));refine Wz ⟨⟨l++[kT (0,ys)],(jT (0,ys)).2⟩,⟨o12,c12⟩⟩ ⟨rfl,rfl,?_,trivial⟩ ⟨by have h:=hst.1;rwa[show jT (0,ys)=(0,(jT (0,ys)).2) from fm e0s rfl] at h,?_,kQ.2 ⟨hch,?_⟩,?_,ho12,aS hfro hr12 (by omega),?_,hJ9.trans hs912⟩ (by show (jT (0,ys)).2.length<ys.length;omega)
   ·rw[AB];rfl
   ·rw[tF,Z6,←hcat];exact hcb
   · by_cases he:l=[]
     ·subst he;exact h30
     ·rw[ZO he];exact h30
   · have hP12:=(hP10.ZM hf11).ZN hf12 (fun k hk ⟨a,ha,e⟩=>by have:=hfro a ha;have:=hk.2;omega)
     rwa[e0s] at hP12
   ·rw[ZR,ZU];show l.length+1+(jT (0,ys)).2.length≤b.length;omega
  rw[ZV h30];have hbad:fA b=([],2):=nC (fun L h1 h2=>h30 (hst.2 L h1 h2).2);refine cW (WQ rfl) ?_;refine Gz 17 ?_;rw[hbad];exact⟨_,rfl,none,0,rfl,Zy,Zs,((hf1.any.ZJ hJ9 (fun k h=>.inl h)).trans hf10.any).fresh (fun k h=>by omega)⟩
 have hye:ys=[]:=by
  rw[e0] at h12;exact List.eq_nil_of_length_eq_zero (by omega)
 refine Gz 1 ?_;refine aW [(4,_),(5,_),(6,_),(12,_)] ?_;refine Gz 16 ?_;have e:fA b=(l,0):=vI hch (by rw[hcb,hye,bp]);rw[e];exact⟨_,rfl,oo,oc,rfl,hoo,hfro.mono hz1,(hf1.any.ZJ hF2 (fun k h=>.inl h)).fresh (fun k h=>by omega)⟩
end Go.Proofs.YthdecfkdgdagcaaGreat
