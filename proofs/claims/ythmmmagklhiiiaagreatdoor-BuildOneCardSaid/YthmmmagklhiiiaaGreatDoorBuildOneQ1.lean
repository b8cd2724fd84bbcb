/- lamella: what the law needs. No condition beyond the bounds that each states. -/
import Derived.WalkKit
import Derived.WalkSpells
import Derived.WalkLawsBesides
import Derived.Deep.Quiet
import Derived.Deep.LoopGhost
import Derived.Orders
import Derived.Test.YthmmmagklhiiiaaGreatDoorRows
import Derived.IntWalk
import Derived.Laws.BytesArg
import Derived.StillTail
import Derived.KernelRfl
import Derived.Lib.Bytealg
import Derived.Lib.ConvBytes
import Derived.Laws.Small
import Derived.Laws.StructEq
import Derived.Laws.Rows
import Derived.ProofKit
import Derived.OpenShut
import Derived.ShutString
import Derived.ChangeOld
import Derived.Below
import Derived.Deep.Slices
import Derived.Deep.SlicePairs
import Derived.Deep.Fields
import Derived.ChangeKeysEq
import Derived.Maps.Keyed
import Derived.WideKeyArr2
import Derived.WideKeyPair
namespace Go.Proofs.YthmmmagklhiiiaaGreatDoor
open Go Go.RowKit
set_option linter.unusedVariables false
set_option linter.unusedSectionVars false
set_option maxHeartbeats 64000000
open List (drop_length map_nil range'_succ)
open List renaming getElem?_eq_getElem → Wv, length_append → Ww, getElem?_eq_some_iff → Wy, mem_of_getElem? → Wz, length_take → WB, length_drop → WE, length_singleton → WF, getD → WI, take_of_length_le → WJ, length_map → WK, append_assoc → WL, length_pos_iff → WN, getElem?_of_mem → WO, eq_nil_of_length_eq_zero → WQ, mem_map → WS, length_cons → WT, take_succ_eq_append_getElem → WV, take_append_drop → WX, length_nil → W2, replicate → W4, mem_cons → W5, getElem?_map → W7, nil_append → Xc, getElem?_eq_none → Xe, getElem?_take → Xf, take_length → Xg, not_mem_nil → Xm, map_cons → Xo, cons_append → Xq, range → Xr, drop_left' → Xs, take_append_of_le_length → Xt, drop_eq_getElem_cons → Xv, ext_getElem? → Xy, take_left' → Xz, foldl_cons → XA, mem_range → XB, drop_drop → XC, flatMap_cons → XD, append_nil → XK, map_map → XL, getElem?_append_left → XM, foldl_append → XO, filter_append → XQ, getElem?_set → XT, getElem?_drop → X0, map_congr_left → X5, range' → X8, flatMap_append → Yg, filter_eq_self → Yh, filter_cons_of_pos → Yi, cons → Yr, getElem?_mapIdx → Yv, getElem?_append_right → Yw, range_succ → YD, mem_filter → YE, filter_cons_of_neg → YG, take_zero → YH, size_toArray → YI, mem_range'_1 → YJ, take_append → YO, nodup_cons → YQ, mapM_cons → YZ, drop_zero → Y0, map_toArray → Zc
open _root_.Nat renaming le_refl → WC, zero_le → WG, le_trans → W9, blt → Xb, mul_le_mul_right → Xh, lt_of_lt_of_le → Xk, zero_add → Xp, add_mul → Xx, lt_trichotomy → XN, blt_eq → XP, succ_eq_add_one → XU, one_mul → XW, beq → X7, mul_comm → Yc, add_zero → Yd, lt_or_ge → Yj, strongRecOn → Yn, add_assoc → Yq, eq_zero_or_pos → YF, ble_eq → YN, mod_eq_of_lt → Za
open _root_.Array renaming getElem?_eq_some_iff → WD, replicate → X4, getElem?_modify → Ys, getElem?_eq_none → YK
open Classical renaming byContradiction → WH
open UInt8 renaming ofNat → WP, toNat_ofNat' → Xj, toNat_inj → XV, lt_iff_toNat_lt → XY
open _root_.Option renaming map_eq_some_iff → WR, map_some → Ym, ne_none_iff_exists' → YU
open Go.Op renaming bytesLess → WU, stringOp → YP, shift → Y9
open _root_.Bool renaming and_eq_true → WW, or_eq_true → X3
open Prod renaming ext → Yl
open _root_.Int renaming fdiv_eq_ediv_of_nonneg → Y2
theorem Wt.{u}{c:Prop}{h:Decidable c}(n:¬c){α:Sort u}{t e:α}:ite c t e=e:=if_neg n
theorem Wu.{u}{c:Prop}{h:Decidable c}(n:c){α:Sort u}{t e:α}:ite c t e=t:=if_pos n
theorem Wx{p:Prop}[i:Decidable p](h:¬p):decide p=false:=decide_eq_false h
theorem WA{p:Prop}[i:Decidable p](h:p):decide p=true:=decide_eq_true h
abbrev SF:=List (Nat×Value)
def lk:SF→Nat→Option Value
|[],_=>none
|(s,v)::r,t=>bif X7 s t then some v else lk r t
theorem oX{d:Nat}{v:Value}{l:SF}:lk ((d,v)::l) d=some v:=by simp[lk]
theorem lH{d t:Nat}{v:Value}{l:SF}(h:d≠t):lk ((d,v)::l) t=lk l t:=by
 have:X7 d t=false:=by rw[←Bool.not_eq_true,Nat.beq_eq];exact h
 simp[lk,this]
def evL(l:SF):Operand→Option Value
|.tmp t=>lk l t
|.const v=>some v
|.global g=>some (.pointer (some ⟨g,0,none⟩))
|.func f=>some (.func (.func f) #[] #[])
structure Nt where
 n:Nat
 ds:List Deferred
structure bQ (N:Nt)(l:SF)(a:Act):Prop where
 dfr:a.defers=N.ds
 siz:a.tmps.size=N.n
 has:∀ t v,lk l t=some v→a.tmps[t]?=some v
theorem bQ.ev{N:Nt}{l:SF}{a:Act}(h:bQ N l a){x:Operand}{v:Value}(hx:evL l x=some v):a.eval x=v:=by
 cases x with
|tmp t=>have:=h.has t v hx;simp[Act.eval,this]
|const u=>simpa[evL,Act.eval] using hx
|global g=>simpa[evL,Act.eval] using hx
|func f=>simpa[evL,Act.eval] using hx
theorem bQ.put{N:Nt}{l:SF}{a:Act}(h:bQ N l a){d:Nat}(hd:Xb d N.n=true)(v:Value):bQ N ((d,v)::l) (a.put (some d) v):=by
 have hd':d<N.n:=by simpa[XP] using hd
 refine⟨h.dfr,by simp[Act.put,h.siz],fun t u ht=>?_⟩;by_cases e:d=t
 · subst e
   rw[oX] at ht;cases ht;simp[Act.put,h.siz,hd']
 · rw[lH e] at ht
   have:=h.has t u ht;simp only[Act.put];rw[Array.getElem?_setIfInBounds_ne e];exact this
def Sub:SF→SF→Prop
|[],_=>True
|(t,v)::r,l=>lk l t=some v∧Sub r l
theorem Sub.lk:∀ {l' l:SF},Sub l' l→∀ t v,Go.Proofs.YthmmmagklhiiiaaGreatDoor.lk l' t=some v→Go.Proofs.YthmmmagklhiiiaaGreatDoor.lk l t=some v
|[],_,_,t,v,h=>by simp[Go.Proofs.YthmmmagklhiiiaaGreatDoor.lk] at h
|(s,u)::r,l,hs,t,v,h=>by
   by_cases e:s=t
   ·subst e;rw[oX] at h;cases h;exact hs.1
   ·rw[lH e] at h;exact Sub.lk hs.2 t v h
theorem bQ.sub{N:Nt}{l l':SF}{a:Act}(h:bQ N l a)(hs:Sub l' l):bQ N l' a:=⟨h.dfr,h.siz,fun t v ht=>h.has t v (hs.lk t v ht)⟩
section
variable {P:Program}{N:Nt}{Q:Exit→Act→World→Prop}{l:SF}{w:World}
def Sc(P:Program)(N:Nt)(c:Code)(Q:Exit→Act→World→Prop)(l:SF)(w:World):Prop:=∀ a,bQ N l a→c.wp P Q a w
def Sl(P:Program)(N:Nt)(ops:Array Oper)(Q:Exit→Act→World→Prop)(rest:List Oper)(l:SF)(w:World):Prop:=∀ a,bQ N l a→wpList P ops Q rest a w
theorem VD{x y:Code}(h:Sc P N x (Exit.then (y.wp P Q) Q) l w):Sc P N (.seq x y) Q l w:=fun a ha=>wp_seq (h a ha)
theorem U2{id:Nat}{c:Code}(h:Sc P N c (Exit.inBlock id Q) l w):Sc P N (.block id c) Q l w:=fun a ha=>wp_block (h a ha)
theorem UU{id:Nat}{ops:List Oper}(h:Sl P N ops.toArray Q ops l w):Sc P N (.region id ops.toArray false) Q l w:=fun a ha=>wp_region_lit (h a ha)
theorem UV{c:Operand}{x y:Code}(hc:evL l c=some (.bool true))(h:Sc P N x Q l w):Sc P N (.cond c x y) Q l w:=fun a ha=>wp_cond (ha.ev hc) (h a ha)
theorem UW{c:Operand}{x y:Code}(hc:evL l c=some (.bool false))(h:Sc P N y Q l w):Sc P N (.cond c x y) Q l w:=fun a ha=>wp_cond (ha.ev hc) (h a ha)
def At(N:Nt)(e:Exit)(Q:Exit→Act→World→Prop)(l:SF)(w:World):Prop:=∀ a,bQ N l a→Q e a w
theorem Vj(h:At N .normal Q l w):Sc P N .skip Q l w:=fun a ha=>wp_skip (h a ha)
theorem VE(h:At N .ret Q l w):Sc P N .ret Q l w:=fun a ha=>wp_ret (h a ha)
theorem Vk{id:Nat}(h:At N (.exit id) Q l w):Sc P N (.exit id) Q l w:=fun a ha=>wp_exit (h a ha)
theorem VF{ops:Array Oper}(h:At N .normal Q l w):Sl P N ops Q [] l w:=fun a ha=>wpList_nil (h a ha)
theorem VJ{y:Code}(h:Sc P N y Q l w):At N .normal (Exit.then (y.wp P Q) Q) l w:=fun a ha=>h a ha
theorem Uq{K:Act→World→Prop}(h:At N .ret Q l w):At N .ret (Exit.then K Q) l w:=fun a ha=>h a ha
theorem Uk{K:Act→World→Prop}{id:Nat}(h:At N (.exit id) Q l w):At N (.exit id) (Exit.then K Q) l w:=fun a ha=>h a ha
theorem Ul{i:Nat}(h:At N .ret Q l w):At N .ret (Exit.inBlock i Q) l w:=fun a ha=>h a ha
theorem T7{i:Nat}(h:At N .normal Q l w):At N .normal (Exit.inBlock i Q) l w:=fun a ha=>h a ha
theorem Um{i:Nat}(h:At N .normal Q l w):At N (.exit i) (Exit.inBlock i Q) l w:=fun a ha=>by
 show (if i=i then Q .normal a w else Q (.exit i) a w);rw[Wu rfl];exact h a ha
theorem Uf{i j:Nat}(hij:X7 j i=false)(h:At N (.exit j) Q l w):At N (.exit j) (Exit.inBlock i Q) l w:=fun a ha=>by
 show (if j=i then Q .normal a w else Q (.exit j) a w);rw[Wt (fun e=>by subst e;simp at hij)];exact h a ha
theorem Vl{e:Exit}(l':SF)(hs:Sub l' l)(h:At N e Q l' w):At N e Q l w:=fun a ha=>h a (ha.sub hs)
def K8(N:Nt){β:Type}(L:β→SF)(J:β→World→Prop)(μ:β→Nat)(b:β)(a':Act)(w':World):Prop:=∃ b',bQ N (L b') a'∧J b' w'∧μ b'<μ b
theorem SO{β:Type}(L:β→SF)(J:β→World→Prop)(μ:β→Nat){c:Code}(b0:β)(hl:Sub (L b0) l)(h0:J b0 w)
 (round:∀ b w,J b w→Sc P N c (Exit.then (K8 N L J μ b) Q) (L b) w):Sc P N (.loop c) Q l w:=by
 intro a ha;refine wp_loop_ghost (fun n a w=>∃ b,μ b=n∧bQ N (L b) a∧J b w) (μ b0) ⟨b0,rfl,ha.sub hl,h0⟩ ?_;rintro n a w ⟨b,rfl,hL,hJ⟩;refine wp_mono (round b w hJ a hL) ?_;intro e a' w' hq;cases e with
|normal=>obtain⟨b',h1,h2,h3⟩:=hq;exact⟨μ b',h3,b',rfl,h1,h2⟩
|exit id=>exact hq
|goto l=>exact hq
|ret=>exact hq
|panic ch=>exact hq
|outgrown=>exact hq
theorem S9{β:Type}{L:β→SF}{J:β→World→Prop}{μ:β→Nat}{b:β}(b':β)(hl:Sub (L b') l)(hJ:J b' w)(hm:μ b'<μ b) :
 At N .normal (Exit.then (K8 N L J μ b) Q) l w:=fun _ ha=>⟨b',ha.sub hl,hJ,hm⟩
theorem Tj{x y:Code}{β:Type}(L:β→SF)(J:β→World→Prop)(h1:Sc P N x (Exit.then (fun a w=>∃ b,bQ N (L b) a∧J b w) Q) l w)
 (h2:∀ b w,J b w→Sc P N y Q (L b) w):Sc P N (.seq x y) Q l w:=fun a ha=>
 wp_seq (wp_mono (h1 a ha) fun e a' w' hq=>by
  cases e with
 |normal=>obtain⟨b,h3,h4⟩:=hq;exact h2 b w' h4 a' h3
 |exit id=>exact hq
 |goto l=>exact hq
 |ret=>exact hq
 |panic ch=>exact hq
 |outgrown=>exact hq)
theorem Tn{β:Type}{L:β→SF}{J:β→World→Prop}(b:β)(hl:Sub (L b) l)(hJ:J b w) :
 At N .normal (Exit.then (fun a w=>∃ b,bQ N (L b) a∧J b w) Q) l w:=fun _ ha=>⟨b,ha.sub hl,hJ⟩
theorem DD{P:Program}{f:FuncId}{fn:Func}{c:Code}{args:List Value}{w:World}{R:Ending→World→Prop}(N:Nat)(l:SF)
 (hf:P.funcs[f]?=some fn)(hb:fn.body=some c)(hN:fn.ntmps=N)(hle:Nat.ble args.length N=true)
 (hl:∀ t v,lk l t=some v→args[t]?=some v)
 (h:Sc P ⟨N,[]⟩ c (bodyPost P fn R) l w):Calls P f args.toArray w R:=by
 refine calls_of_wp hf hb (h _ ⟨rfl,?_,?_⟩)
 · have:args.length≤N:=by simpa[YN] using hle
   simp[hN];omega
 · intro t v ht
   have:=hl t v ht;have hlt:t<args.length:=(Wy.1 this).1;rw[Wv hlt] at this;simpa[Array.getElem?_append,hlt] using this
theorem tK{args:List Value}{l:SF}(h:Sub l ((Xr args.length).zip args)):∀ t v,lk l t=some v→args[t]?=some v:=by
 have key:∀ (vs:List Value) (k:Nat) t v,lk ((X8 k vs.length).zip vs) t=some v→vs[t-k]?=some v:=by
  intro vs
  induction vs with
 |nil=>intro k t v h;simp[lk] at h
 |cons x xs ih=>
    intro k t v h;simp only[WT,range'_succ,List.zip_cons_cons] at h;by_cases e:k=t
    ·subst e;rw[oX] at h;cases h;simp
    · rw[lH e] at h
      have h2:=ih (k+1) t v h;by_cases hlt:k<t
      ·rw[show t-k=(t-(k+1))+1 by omega];simpa using h2
      · have hnone:lk ((X8 (k+1) xs.length).zip xs) t=none:=by
         have:∀ (ys:List Value) (m:Nat),t<m→lk ((X8 m ys.length).zip ys) t=none:=by
          intro ys
          induction ys with
         |nil=>intro m _;simp[lk]
         |cons y ys ihy=>intro m hm;simp only[WT,range'_succ,List.zip_cons_cons];rw[lH (by omega)];exact ihy (m+1) (by omega)
         exact this xs (k+1) (by omega)
        rw[hnone] at h;cases h
 intro t v ht;have h1:=h.lk t v ht;rw[List.range_eq_range'] at h1;simpa using key args 0 t v h1
theorem Vm{P:Program}{N:Nat}{fn:Func}{R:Ending→World→Prop}{l:SF}{w:World}{t:Nat}{v:Value}(hr:fn.results=#[.tmp t])(hv:lk l t=some v)(h:R (.returned v) w) :
 At ⟨N,[]⟩ .ret (bodyPost P fn R) l w:=fun a ha=>⟨ha.dfr,v,by rw[results_tmp hr];simp[ha.has t v hv],h⟩
theorem Vn{P:Program}{N:Nat}{fn:Func}{R:Ending→World→Prop}{l:SF}{w:World}{t u:Nat}{v x:Value}(hr:fn.results=#[.tmp t,.tmp u])(hv:lk l t=some v)(hx:lk l u=some x)
 (h:R (.returned (.tuple #[v,x])) w) :
 At ⟨N,[]⟩ .ret (bodyPost P fn R) l w:=fun a ha=>⟨ha.dfr,_,by rw[results_tmp2 hr],by simpa[ha.has t v hv,ha.has u x hx] using h⟩
theorem Vo{P:Program}{N:Nat}{fn:Func}{R:Ending→World→Prop}{l:SF}{w:World}{t u s:Nat}{v x y:Value}(hr:fn.results=#[.tmp t,.tmp u,.tmp s])(hv:lk l t=some v)(hx:lk l u=some x)(hy:lk l s=some y)
 (h:R (.returned (.tuple #[v,x,y])) w) :
 At ⟨N,[]⟩ .ret (bodyPost P fn R) l w:=fun a ha=>⟨ha.dfr,_,by rw[results_tmp3 hr],by simpa[ha.has t v hv,ha.has u x hx,ha.has s y hy] using h⟩
theorem Tf{P:Program}{N:Nat}{fn:Func}{R:Ending→World→Prop}{l:SF}{w:World}(hr:fn.results=#[])(h:R (.returned (.tuple #[])) w) :
 At ⟨N,[]⟩ .normal (bodyPost P fn R) l w:=fun a ha=>⟨ha.dfr,_,by rw[results_none hr],h⟩
theorem Vp{P:Program}{N:Nat}{fn:Func}{R:Ending→World→Prop}{l:SF}{w:World}(hr:fn.results=#[])(h:R (.returned (.tuple #[])) w) :
 At ⟨N,[]⟩ .ret (bodyPost P fn R) l w:=fun a ha=>⟨ha.dfr,_,by rw[results_none hr],h⟩
end
def bH(H:Array Obj)(a:Addr):Option Value:=
 match H[a.block]? with
|some (.cells c _ _)=>if a.spot.isSome then none else c[a.off]?
|_=>none
theorem cell?_eq(w:World)(a:Addr):w.cell? a=bH w.heap a:=rfl
def Cm(P:Program)(N:Nt)(CH:Array Obj→Prop)(l:SF)(o:Oper)(v:Value):Prop:=
 ∀ a w,bQ N l a→CH w.heap→(execOp a.eval o).run P w=.ok (.value v) w
def zO:Value→Bool→Bool
|.bool c,b=>c != b
|.tuple _,_=>true
|_,_=>false
section
variable {P:Program}{N:Nt}{Q:Exit→Act→World→Prop}{l:SF}{w:World}{ops:Array Oper}{rest:List Oper}
variable {op:Op}{ty:TypeId}{pos:String}{aft:Array Edge}{d:Nat}{v:Value}{CH:Array Obj→Prop}
theorem T8(hv:Cm P N (· = w.heap) l ⟨some d,op,ty,pos,aft,none⟩ v)(hd:Xb d N.n=true)(h:Sl P N ops Q rest ((d,v)::l) w) :
 Sl P N ops Q (⟨some d,op,ty,pos,aft,none⟩::rest) l w:=fun a ha=>by
 unfold wpList;rw[Wu (by simp[Region.wanted])];refine .inl ?_;unfold Oper.wp;rw[hv a w ha rfl];exact h _ (ha.put hd v)
theorem gJ{a:Act}(ha:bQ N l a){j s:Nat}{u:Value}(hj:(ops[j]?).bind (·.dst)=some s)(hs:lk l s=some u) :
 yielded ops a.tmps j=(match u with|.bool b=>some b|_=>none):=by
 unfold yielded;rw[hj];simp only[Option.bind_some,ha.has s u hs];cases u<;>rfl
theorem T9{j s:Nat}{b:Bool}(hj:(ops[j]?).bind (·.dst)=some s)(hs:lk l s=some (.bool b))
 (hv:Cm P N (· = w.heap) l ⟨some d,op,ty,pos,aft,some (j,b)⟩ v)(hd:Xb d N.n=true)(h:Sl P N ops Q rest ((d,v)::l) w) :
 Sl P N ops Q (⟨some d,op,ty,pos,aft,some (j,b)⟩::rest) l w:=fun a ha=>by
 unfold wpList;rw[Wu (by simp[Region.wanted,gJ ha hj hs])];refine .inl ?_;unfold Oper.wp;rw[hv a w ha rfl];exact h _ (ha.put hd v)
theorem Tl{p:Prop}[Decidable p](hv:Cm P N (· = w.heap) l ⟨some d,op,ty,pos,aft,none⟩ (.bool (decide p)))(hd:Xb d N.n=true)
 (h1:p→Sl P N ops Q rest ((d,.bool true)::l) w)(h2:¬ p→Sl P N ops Q rest ((d,.bool false)::l) w) :
 Sl P N ops Q (⟨some d,op,ty,pos,aft,none⟩::rest) l w:=by
 by_cases h:p
 ·rw[WA h] at hv;exact T8 hv hd (h1 h)
 ·rw[Wx h] at hv;exact T8 hv hd (h2 h)
theorem Ta{p:Prop}[Decidable p]{j s:Nat}{b:Bool}(hj:(ops[j]?).bind (·.dst)=some s)(hs:lk l s=some (.bool b))
 (hv:Cm P N (· = w.heap) l ⟨some d,op,ty,pos,aft,some (j,b)⟩ (.bool (decide p)))(hd:Xb d N.n=true)
 (h1:p→Sl P N ops Q rest ((d,.bool true)::l) w)(h2:¬ p→Sl P N ops Q rest ((d,.bool false)::l) w) :
 Sl P N ops Q (⟨some d,op,ty,pos,aft,some (j,b)⟩::rest) l w:=by
 by_cases h:p
 ·rw[WA h] at hv;exact T9 hj hs hv hd (h1 h)
 ·rw[Wx h] at hv;exact T9 hj hs hv hd (h2 h)
theorem TZ{j s:Nat}{b:Bool}{u:Value}(hj:(ops[j]?).bind (·.dst)=some s)(hs:lk l s=some u)(hb:zO u b=true)(hd:Xb d N.n=true)
 (h:Sl P N ops Q rest ((d,undef)::l) w) :
 Sl P N ops Q (⟨some d,op,ty,pos,aft,some (j,b)⟩::rest) l w:=fun a ha=>by
 unfold wpList;rw[Wt (by
  simp only[Region.wanted,gJ ha hj hs];cases u<;>simp_all [zO])]
 exact h _ (ha.put hd undef)
section
variable {x y:Operand}{t t':TypeId}{g:Option (Nat×Bool)}{dd:Option Nat}
variable {k k':IntKind}{m n:Int}
theorem SQ(hx:evL l x=some v):Cm P N CH l ⟨dd,.move x,ty,pos,aft,g⟩ v:=fun a w ha _=>by simp[execOp,ha.ev hx]
theorem TV(hx:evL l x=some v):Cm P N CH l ⟨dd,.assign x,ty,pos,aft,g⟩ v:=fun a w ha _=>by simp[execOp,ha.ev hx]
theorem TW{c:Operand}(hc:evL l c=some (.bool true))(hx:evL l x=some v):Cm P N CH l ⟨dd,.pick c x y,ty,pos,aft,g⟩ v:=fun a w ha _=>by
 simp[execOp,ha.ev hc,ha.ev hx,asBool]
theorem TX{c:Operand}(hc:evL l c=some (.bool false))(hy:evL l y=some v):Cm P N CH l ⟨dd,.pick c x y,ty,pos,aft,g⟩ v:=fun a w ha _=>by
 simp[execOp,ha.ev hc,ha.ev hy,asBool]
theorem UO(hx:evL l x=some (.int k m))(hy:evL l y=some (.int k n)):Cm P N CH l ⟨dd,.binOp .add t x y t',ty,pos,aft,g⟩ (.int k (k.wrap (m+n))):=fun a w ha _=>by
 simp[execOp,ha.ev hx,ha.ev hy,eqGuard,binOp,Op.intArith]
theorem Vq(hx:evL l x=some (.int k m))(hy:evL l y=some (.int k n)):Cm P N CH l ⟨dd,.binOp .sub t x y t',ty,pos,aft,g⟩ (.int k (k.wrap (m-n))):=fun a w ha _=>by
 simp[execOp,ha.ev hx,ha.ev hy,eqGuard,binOp,Op.intArith]
theorem UP(hx:evL l x=some (.int k m))(hy:evL l y=some (.int k n)):Cm P N CH l ⟨dd,.binOp .mul t x y t',ty,pos,aft,g⟩ (.int k (k.wrap (m*n))):=fun a w ha _=>by
 simp[execOp,ha.ev hx,ha.ev hy,eqGuard,binOp,Op.intArith]
theorem dC{z:Int}(h : -9223372036854775808≤z∧z≤9223372036854775807):IntKind.i64.wrap z=z:=IntWalk.i64_in z (by omega)
theorem Tx(hx:evL l x=some (.int .i64 m))(hy:evL l y=some (.int .i64 n))(hb : -9223372036854775808≤m+n∧m+n≤9223372036854775807) :
 Cm P N CH l ⟨dd,.binOp .add t x y t',ty,pos,aft,g⟩ (.int .i64 (m+n)):=by
 have:=@UO P N l ty pos aft CH x y t t' g dd .i64 m n hx hy;rwa[dC hb] at this
theorem TK(hx:evL l x=some (.int .i64 m))(hy:evL l y=some (.int .i64 n))(hb : -9223372036854775808≤m-n∧m-n≤9223372036854775807) :
 Cm P N CH l ⟨dd,.binOp .sub t x y t',ty,pos,aft,g⟩ (.int .i64 (m-n)):=by
 have:=@Vq P N l ty pos aft CH x y t t' g dd .i64 m n hx hy;rwa[dC hb] at this
theorem TE(hx:evL l x=some (.int .i64 m))(hy:evL l y=some (.int .i64 n))(hb : -9223372036854775808≤m*n∧m*n≤9223372036854775807) :
 Cm P N CH l ⟨dd,.binOp .mul t x y t',ty,pos,aft,g⟩ (.int .i64 (m*n)):=by
 have:=@UP P N l ty pos aft CH x y t t' g dd .i64 m n hx hy;rwa[dC hb] at this
theorem Vr(hx:evL l x=some (.int k m))(hy:evL l y=some (.int k n))(hn:n≠0):Cm P N CH l ⟨dd,.binOp .quo t x y t',ty,pos,aft,g⟩ (.int k (k.wrap (m.tdiv n))):=fun a w ha _=>by
 simp[execOp,ha.ev hx,ha.ev hy,eqGuard,binOp,Op.intDiv,hn]
theorem U3(hx:evL l x=some (.int .i64 m))(hy:evL l y=some (.int .i64 n))(hm:0≤m∧m≤9223372036854775807)(hn:1≤n):Cm P N CH l ⟨dd,.binOp .quo t x y t',ty,pos,aft,g⟩ (.int .i64 (m/n)):=by
 have:=@Vr P N l ty pos aft CH x y t t' g dd .i64 m n hx hy (by omega);rw[Int.tdiv_eq_ediv_of_nonneg hm.1,dC ⟨by have:=Int.ediv_nonneg hm.1 (show 0≤n by omega);omega,Int.le_trans (Int.ediv_le_self n hm.1) hm.2⟩] at this;exact this
theorem Vs(hx:evL l x=some (.int k m))(hy:evL l y=some (.int k n))(hn:n≠0):Cm P N CH l ⟨dd,.binOp .rem t x y t',ty,pos,aft,g⟩ (.int k (m.tmod n)):=fun a w ha _=>by
 simp[execOp,ha.ev hx,ha.ev hy,eqGuard,binOp,Op.intDiv,hn]
theorem U4(hx:evL l x=some (.int k m))(hy:evL l y=some (.int k n))(hm:0≤m)(hn:n≠0):Cm P N CH l ⟨dd,.binOp .rem t x y t',ty,pos,aft,g⟩ (.int k (m%n)):=by
 have:=@Vs P N l ty pos aft CH x y t t' g dd k m n hx hy hn;rw[Int.tmod_eq_emod_of_nonneg hm] at this;exact this
theorem TI(hx:evL l x=some (.int k m))(hy:evL l y=some (.int k n)):Cm P N CH l ⟨dd,.binOp .lss t x y t',ty,pos,aft,g⟩ (.bool (decide (m<n))):=fun a w ha _=>by
 simp[execOp,ha.ev hx,ha.ev hy,eqGuard,binOp,Op.intCmp]
theorem TR(hx:evL l x=some (.int k m))(hy:evL l y=some (.int k n)):Cm P N CH l ⟨dd,.binOp .leq t x y t',ty,pos,aft,g⟩ (.bool (decide (m≤n))):=fun a w ha _=>by
 simp[execOp,ha.ev hx,ha.ev hy,eqGuard,binOp,Op.intCmp]
theorem Un(hx:evL l x=some (.int k m))(hy:evL l y=some (.int k n)):Cm P N CH l ⟨dd,.binOp .gtr t x y t',ty,pos,aft,g⟩ (.bool (decide (n<m))):=fun a w ha _=>by
 simp[execOp,ha.ev hx,ha.ev hy,eqGuard,binOp,Op.intCmp]
theorem T5(hx:evL l x=some (.int k m))(hy:evL l y=some (.int k n)):Cm P N CH l ⟨dd,.binOp .geq t x y t',ty,pos,aft,g⟩ (.bool (decide (n≤m))):=fun a w ha _=>by
 simp[execOp,ha.ev hx,ha.ev hy,eqGuard,binOp,Op.intCmp]
theorem Ty(hx:evL l x=some (.int k m))(hy:evL l y=some (.int k n)):Cm P N CH l ⟨dd,.binOp .eql t x y t',ty,pos,aft,g⟩ (.bool (decide (m=n))):=fun a w ha _=>by
 simp[execOp,ha.ev hx,ha.ev hy,eqGuard,binOp,Op.intCmp];rfl
theorem T6(hx:evL l x=some (.int k m))(hy:evL l y=some (.int k n)):Cm P N CH l ⟨dd,.binOp .neq t x y t',ty,pos,aft,g⟩ (.bool (decide (m≠n))):=fun a w ha _=>by
 simp[execOp,ha.ev hx,ha.ev hy,eqGuard,binOp,Op.intCmp];by_cases h:m=n<;>simp[h]
theorem TD{o:Oper}{p:Prop}[Decidable p](h:Cm P N CH l o (.bool (decide p)))(hp:p):Cm P N CH l o (.bool true):=by rwa[WA hp] at h
theorem Ur{o:Oper}{p:Prop}[Decidable p](h:Cm P N CH l o (.bool (decide p)))(hp:¬ p):Cm P N CH l o (.bool false):=by rwa[Wx hp] at h
theorem SN{o:Oper}{u:Value}(h:Cm P N CH l o v)(e:v=u):Cm P N CH l o u:=e ▸ h
theorem S3{b:Bool}(hx:evL l x=some (.bool b)):Cm P N CH l ⟨dd,.unOp .not t x,ty,pos,aft,g⟩ (.bool (!b)):=fun a w ha _=>by
 simp[execOp,ha.ev hx,Op.unary]
theorem U5(hs:(P.underlying t).isSome=true)(hd:P.underlying t'=some (.int k'))(hx:evL l x=some (.int k m)):Cm P N CH l ⟨dd,.convert t t' x,ty,pos,aft,g⟩ (.int k' (k'.wrap m)):=fun a w ha _=>by
 obtain⟨u,hu⟩:=Option.isSome_iff_exists.1 hs;simp only[execOp,ha.ev hx,convert,Sem.run_bind,run_underlying hu,run_underlying hd,Result.andThen_ok];cases u<;>simp[Conv.intToInt]
theorem S1(hs:(P.underlying t).isSome=true)(hd:P.underlying t'=some (.int k'))(hx:evL l x=some (.int k m))(hw:k'.wrap m=n):Cm P N CH l ⟨dd,.convert t t' x,ty,pos,aft,g⟩ (.int k' n):=by
 have:=@U5 P N l ty pos aft CH x t t' g dd k k' m hs hd hx;rwa[hw] at this
theorem UE{vs:List Value}{i:Nat}(hx:evL l x=some (.tuple vs.toArray))(hi:vs[i]?=some v):Cm P N CH l ⟨dd,.extract x i,ty,pos,aft,g⟩ v:=fun a w ha _=>by
 simp[execOp,ha.ev hx,Instr.extract,hi]
theorem S7{ad:Addr}(hx:evL l x=some (.pointer (some ad))):Cm P N CH l ⟨dd,.nilCheck x,ty,pos,aft,g⟩ (.pointer (some ad)):=fun a w ha _=>by
 simp[execOp,ha.ev hx]
structure aZ (P:Program)(t e:TypeId)(size bytes:Nat):Prop where
 und:P.underlying t=some (.slice e)
 inf:(P.info? e).map (fun i=>(i.zero.map (·.cells.size),i.size,i.bytes))=some (some size,size,bytes)
theorem aZ.parts{e:TypeId}{size bytes:Nat}(h:aZ P t e size bytes):∃ i z,P.info? e=some i∧i.zero=some z∧z.cells.size=size∧i.size=size∧i.bytes=bytes:=by
 obtain⟨i,hi,h1⟩:=WR.1 h.inf;simp only[Prod.mk.injEq] at h1;obtain⟨z,hz,h2⟩:=WR.1 h1.1;exact⟨i,z,hi,hz,h2,h1.2.1,h1.2.2⟩
theorem aZ.size{e:TypeId}{size bytes:Nat}(h:aZ P t e size bytes)(w:World):(sizeOf e).run P w=.ok size w:=by
 obtain⟨i,z,hi,h1,hz,h2,h3⟩:=h.parts;simp[sizeOf,typeInfo,hi,h2]
theorem UF{e:TypeId}{size bytes:Nat}(ht:aZ P t e size bytes){ao:Option Addr}{c n:Nat}(hx:evL l x=some (.slice ao n c)) :
 Cm P N CH l ⟨dd,.call ⟨.builtin .len,#[x],#[t]⟩,ty,pos,aft,g⟩ (.int .i64 n):=fun a w ha _=>by
 simp[execOp,ha.ev hx,resolve,invoke,builtin,Builtin.len_,run_underlying ht.und,goInt]
theorem Vt(ht:P.underlying t=some .string){s:ByteArray}(hx:evL l x=some (.string s)) :
 Cm P N CH l ⟨dd,.call ⟨.builtin .len,#[x],#[t]⟩,ty,pos,aft,g⟩ (.int .i64 s.size):=fun a w ha _=>by
 simp[execOp,ha.ev hx,resolve,invoke,builtin,Builtin.len_,run_underlying ht,goInt]
theorem Uo{ts:Array TypeId}(hx:evL l x=some (.int k m))(hy:evL l y=some (.int k n)) :
 Cm P N CH l ⟨dd,.call ⟨.builtin .min,#[x,y],ts⟩,ty,pos,aft,g⟩ (.int k (if n<m then n else m)):=fun a w ha _=>by
 simp[execOp,ha.ev hx,ha.ev hy,resolve,invoke,builtin,Builtin.min_,Builtin.min2]
def adr(ao:Option Addr)(i:Nat):Addr:=(ao.getD ⟨0,0,none⟩).add i
theorem SL{e:TypeId}{size bytes:Nat}(ht:aZ P t e size bytes){ao:Option Addr}{c len:Nat}(hx:evL l x=some (.slice ao len c))(hy:evL l y=some (.int k n))
 (hao:len≠0→ao≠none)(hn:0≤n∧n<len) :
 Cm P N CH l ⟨dd,.indexAddr t x y,ty,pos,aft,g⟩ (.pointer (some (adr ao (n.toNat*size)))):=fun a w ha _=>by
 have:ao≠none:=hao (by omega);cases ao with
|none=>exact absurd rfl this
|some ad=>simp[execOp,ha.ev hx,ha.ev hy,Instr.indexAt,asIntOf,run_underlying ht.und,ht.size w,hn,adr]
theorem SI{e:TypeId}{bytes:Nat}(ht:aZ P t e 1 bytes){ao:Option Addr}{c len:Nat}(hx:evL l x=some (.slice ao len c))(hy:evL l y=some (.int k n))
 (hao:len≠0→ao≠none)(hn:0≤n∧n<len) :
 Cm P N CH l ⟨dd,.indexAddr t x y,ty,pos,aft,g⟩ (.pointer (some (adr ao n.toNat))):=by
 have:=@SL P N l ty pos aft CH x y t g dd k n e 1 bytes ht ao c len hx hy hao hn;rwa[Nat.mul_one] at this
end
end
structure aA (S:Nat→Prop)(w w':World):Prop where
 os:w'.os=w.os
 tape:w'.tape=w.tape
 output:w'.output=w.output
 size:w.heap.size≤w'.heap.size
 same:∀ k,k<w.heap.size→¬ S k→w'.heap[k]?=w.heap[k]?
def nob:Nat→Prop:=fun _=>False
theorem VK(S:Nat→Prop)(w:World):aA S w w:=⟨rfl,rfl,rfl,WC _,fun _ _ _=>rfl⟩
theorem aA.trans{S:Nat→Prop}{a b c:World}(h:aA S a b)(k:aA S b c):aA S a c:=
 ⟨k.os.trans h.os,k.tape.trans h.tape,k.output.trans h.output,W9 h.size k.size,
  fun i hi hs=>(k.same i (Xk hi h.size) hs).trans (h.same i hi hs)⟩
theorem aA.step{S S':Nat→Prop}{a b c:World}(h:aA S a b)(k:aA S' b c)(hs:∀ i,S' i→S i∨a.heap.size≤i):aA S a c:=
 ⟨k.os.trans h.os,k.tape.trans h.tape,k.output.trans h.output,W9 h.size k.size,
  fun i hi hn=>(k.same i (Xk hi h.size) (fun h'=>by rcases hs i h' with h1|h1;exact hn h1;omega)).trans (h.same i hi hn)⟩
theorem aA.Wo{S S':Nat→Prop}{a b c:World}(h:aA S a b)(k:aA S' b c)(hs:∀ i,S' i→S i∨a.heap.size≤i):aA S a c:=h.step k hs
theorem aA.mono{S S':Nat→Prop}{a b:World}(h:aA S a b)(hs:∀ i,S i→S' i):aA S' a b:=
 ⟨h.os,h.tape,h.output,h.size,fun i hi hn=>h.same i hi (fun h'=>hn (hs i h'))⟩
theorem aA.draws{S:Nat→Prop}{a b:World}(h:aA S a b)(n:Nat):aA S a (b.drewN n):=⟨h.os,h.tape,h.output,h.size,h.same⟩
theorem aA.Wp{S:Nat→Prop}{w w':World}{n:Nat}(h:aA S (w.drewN n) w'):aA S w w':=⟨h.os,h.tape,h.output,h.size,h.same⟩
theorem VL{S:Nat→Prop}{w:World}(n:Nat):aA S w (w.drewN n):=(VK S w).draws n
theorem aA.alloc(S:Nat→Prop)(w:World)(o:Obj):aA S w (w.alloc o):=⟨rfl,rfl,rfl,by simp,fun _ hk _=>Below.heap_alloc w o _ hk⟩
theorem VM(S:Nat→Prop)(w:World)(o:Obj):aA S w (w.drew.alloc o):=⟨rfl,rfl,rfl,by simp,fun _ hk _=>Below.heap_alloc w.drew o _ hk⟩
theorem aA.below{w w':World}(h:aA nob w w'):Below w.heap.size w w':=⟨h.os,h.tape,h.output,h.size,fun k hk=>h.same k hk id⟩
theorem aA.obj{S:Nat→Prop}{w w':World}(h:aA S w w'){g:Nat}{o:Obj}(hg:w.heap[g]?=some o)(hs:¬ S g):w'.heap[g]?=some o:=
 (h.same g (WD.1 hg).1 hs).trans hg
def blk(ao:Option Addr):Nat→Prop:=fun k=>∃ a,ao=some a∧a.block=k
def Fr(B:Nat)(ao:Option Addr):Prop:=∀ a,ao=some a→B≤a.block
def Lt(B:Nat)(ao:Option Addr):Prop:=∀ a,ao=some a→a.block<B
def Ap(ao bo:Option Addr):Prop:=∀ a b,ao=some a→bo=some b→a.block≠b.block
theorem VN{b:Option Addr}:Ap none b:=fun _ _ h=>by cases h
theorem VO{b:Option Addr}:Ap b none:=fun _ _ _ h=>by cases h
theorem Ap.not{a b:Option Addr}(h:Ap a b):∀ x,a=some x→¬ blk b x.block:=fun x hx ⟨y,hy,e⟩=>h x y hx hy e.symm
theorem VP{B:Nat}:Fr B none:=fun _ h=>by cases h
theorem Fr.mono{B B':Nat}{a:Option Addr}(h:Fr B a)(hB:B'≤B):Fr B' a:=fun x hx=>W9 hB (h x hx)
theorem Fr.step{B:Nat}{a:Option Addr}(h:Fr B a){S:Nat→Prop}:∀ i,blk a i→S i∨B≤i:=fun i ⟨x,hx,e⟩=>.inr (by have:=h x hx;omega)
theorem AJ(a:Addr)(n:Nat):(a.add n).block=a.block:=by unfold Addr.add;split<;>rfl
theorem nX(a:Addr)(n:Nat):(adr (some a) n).block=a.block:=AJ a n
structure Vw {α:Type}(enc:α→Value)(H:Array Obj)(ao:Option Addr)(cap:Nat)(xs:List α):Prop where
 le:xs.length≤cap
 max:cap≤maxLen
 non:xs.length≠0→ao≠none
 get:∀ i x,xs[i]?=some x→bH H (adr ao i)=some (enc x)
def b8(x:UInt8):Value:=.int .u8 x.toNat
def i64(x:Int):Value:=.int .i64 x
section
variable {α:Type}{enc:α→Value}{H:Array Obj}{ao:Option Addr}{cap:Nat}{xs:List α}
theorem Vw.at(h:Vw enc H ao cap xs){i:Nat}(hi:i<xs.length):bH H (adr ao i)=some (enc xs[i]):=h.get i _ (Wv hi)
theorem Vw.gd(h:Vw enc H ao cap xs)(dflt:α){i:Nat}(hi:i<xs.length):bH H (adr ao i)=some (enc (xs.getD i dflt)):=by
 rw[h.at hi];simp[WI,hi]
theorem Vw.gz(h:Vw enc H ao cap xs)(dflt:α)(i:Nat){z:Int}(hz:z=i)(hi:i<xs.length):bH H (adr ao z.toNat)=some (enc (xs.getD i dflt)):=by
 subst hz;exact h.gd dflt hi
theorem Vw.Wq(h:Vw enc H ao cap xs):(xs.length:Int)≤9223372036854775807:=by have:=h.le;have:=h.max;unfold maxLen at this;omega
theorem VQ(c:Nat)(hc:c≤maxLen):Vw enc H ao c []:=⟨by simp,hc,by simp,by simp⟩
theorem Vw.lt(h:Vw enc H ao cap xs)(hne:xs≠[]):Lt H.size ao:=fun a ha=>by
 have hl:0<xs.length:=WN.2 hne;have:=h.at hl;subst ha;unfold bH at this
 split at this
 ·rename_i hb;rw[nX] at hb;exact(WD.1 hb).1
 ·cases this
theorem Vw.Ws{w w':World}{S:Nat→Prop}(h:Vw enc w.heap ao cap xs)(f:aA S w w')(hs:∀ a,ao=some a→¬ S a.block):Vw enc w'.heap ao cap xs:=by
 refine⟨h.le,h.max,h.non,fun i x hx=>?_⟩;have h1:=h.get i x hx;have hne:xs.length≠0:=by intro e;have:xs=[]:=WQ e;subst this;simp at hx
 cases hao:ao with
|none=>exact absurd hao (h.non hne)
|some a=>
   rw[hao] at h1;rw[←h1];unfold bH;rw[nX,f.same a.block (h.lt (fun e=>hne (by simp[e])) a hao) (hs a hao)]
theorem Vw.Wr{w w':World}(h:Vw enc w.heap ao cap xs)(f:aA nob w w'):Vw enc w'.heap ao cap xs:=h.Ws f (fun _ _=>id)
theorem Vw.take(h:Vw enc H ao cap xs)(n:Nat):Vw enc H ao cap (xs.take n):=
 ⟨by have:=h.le;simp;omega,h.max,fun hn=>h.non (fun e=>hn (by have:xs=[]:=WQ e;simp[this])),fun i x hx=>h.get i x (by
  rw[Xf] at hx
  split at hx
  ·exact hx
  ·cases hx)⟩
end
theorem rH(a:Addr)(i j:Nat):(a.add i).add j=a.add (i+j):=by
 unfold Addr.add;by_cases hi:i=0
 ·simp[hi]
 · by_cases hj:j=0
   ·simp[hj]
   ·simp[hi,hj,Yq]
def bG(ao:Option Addr)(m l size:Nat):Option Addr:=if m=l then ao else ao.map (·.add (l*size))
section
variable {α:Type}{enc:α→Value}{H:Array Obj}{ao:Option Addr}{cap:Nat}{xs:List α}
theorem Vw.cut(v:Vw enc H ao cap xs){l h m:Nat}(hl:l≤h)(hh:h≤xs.length)(hm:h≤m)(hmc:m≤cap) :
 Vw enc H (bG ao m l 1) (m-l) ((xs.drop l).take (h-l)):=by
 refine⟨by simp;omega,by have:=v.max;omega,fun hne=>?_,fun i x hx=>?_⟩
 · have h0:xs.length≠0:=by simp at hne;omega
   have:=v.non h0;unfold bG
   split
   ·exact this
   ·cases ao<;>simp_all
 · have hi:i<h-l:=by
    have:=(Wy.1 hx).1;simp at this;omega
   have hx':xs[l+i]?=some x:=by
    rw[Xf,Wu hi,X0] at hx;exact hx
   have h1:=v.get (l+i) x hx';rw[←h1];unfold bG;rw[Wt (by omega)];cases ao with
  |none=>exact absurd rfl (v.non (by have:=(Wy.1 hx').1;omega))
  |some a=>simp[adr,rH]
theorem bD(ao:Option Addr)(m s:Nat):bG ao m 0 s=ao:=by
 unfold bG;split
 ·rfl
 · cases ao with
  |none=>rfl
  |some a=>simp[Addr.add]
theorem lO{m l s k:Nat}(h:blk (bG ao m l s) k):blk ao k:=by
 obtain⟨a,ha,rfl⟩:=h;unfold bG at ha
 split at ha
 ·exact⟨a,ha,rfl⟩
 · cases ao with
  |none=>simp at ha
  |some b=>simp at ha;subst ha;exact⟨b,rfl,(AJ _ _).symm⟩
end
def Own{α:Type}(enc:α→Value)(e:TypeId)(H:Array Obj)(ao:Option Addr)(cap:Nat)(xs:List α):Prop:=
 (ao=none∧cap=0∧xs=[]) ∨
 ∃ g cur,ao=some ⟨g,0,none⟩∧H[g]?=some (.cells cur e (0,0))∧xs.length≤cap∧cap≤maxLen∧cur.size=cap∧cur.toList.take xs.length=xs.map enc
section
variable {α:Type}{enc:α→Value}{e:TypeId}{H:Array Obj}{ao:Option Addr}{cap:Nat}{xs:List α}
theorem VR:Own enc e H none 0 ([]:List α):=.inl ⟨rfl,rfl,rfl⟩
theorem Own.vw(h:Own enc e H ao cap xs):Vw enc H ao cap xs:=by
 rcases h with⟨rfl,rfl,rfl⟩|⟨g,cur,rfl,hg,h1,h2,h3,h4⟩
 ·exact VQ 0 (WG _)
 · refine⟨h1,h2,fun _=>by simp,fun i x hx=>?_⟩
   have hi:i<xs.length:=(Wy.1 hx).1;have hadd:(adr (some ⟨g,0,none⟩) i)=⟨g,i,none⟩:=by
    show (⟨g,0,none⟩:Addr).add i=_;rw[Addr.add_lit,Xp]
   rw[hadd];simp only[bH,hg];have h5:(cur.toList.take xs.length)[i]?=some (enc x):=by rw[h4,W7,hx];rfl
   rw[Xf,Wu hi] at h5;simpa using h5
theorem Own.lt(h:Own enc e H ao cap xs):Lt H.size ao:=by
 intro a ha;rcases h with⟨rfl,_⟩|⟨g,cur,rfl,hg,_⟩
 ·cases ha
 ·cases ha;exact(WD.1 hg).1
theorem Own.Ws{w w':World}{S:Nat→Prop}(h:Own enc e w.heap ao cap xs)(f:aA S w w')(hs:∀ a,ao=some a→¬ S a.block):Own enc e w'.heap ao cap xs:=by
 rcases h with h|⟨g,cur,rfl,hg,r⟩
 ·exact .inl h
 ·exact .inr ⟨g,cur,rfl,f.obj hg (hs _ rfl),r⟩
theorem Own.Wr{w w':World}(h:Own enc e w.heap ao cap xs)(f:aA nob w w'):Own enc e w'.heap ao cap xs:=h.Ws f (fun _ _=>id)
end
theorem jA{P:Program}{w:World}{t ty e:TypeId}{i:TypeInfo}(ht:P.underlying t=some (.slice e))(hi:P.info? e=some i)
 {ao:Option Addr}{n cap:Nat}(hn:n≤cap){bo:Option Addr}{bcap:Nat} :
 (Builtin.append_ #[t,t] ty #[.slice ao n cap,.slice bo 0 bcap]).run P w=.ok (.slice ao n cap) w:=by
 cases ao<;>cases bo<;>simp[Builtin.append_,run_underlying ht,sizeOf,typeInfo,hi,Builtin.lenOf,Builtin.firstCells,hn,storeCells,loadCells,loadCellsFrom]
theorem tT{α:Type}{enc:α→Value}(henc:∀ x,(enc x).oneCell'=true){P:Program}{w:World}{t ty e:TypeId}{bytes:Nat}(ht:aZ P t e 1 bytes)
 {ao:Option Addr}{cap:Nat}{xs:List α}(ho:Own enc e w.heap ao cap xs){bo:Option Addr}{bcap:Nat}{ys:List α}(hy:Vw enc w.heap bo bcap ys)
 (hb:(xs.length+ys.length)*bytes≤140737488355328)(hm:xs.length+ys.length≤maxLen) :
 ∃ ao' cap' w',(Builtin.append_ #[t,t] ty #[.slice ao xs.length cap,.slice bo ys.length bcap]).run P w=.ok (.slice ao' (xs.length+ys.length) cap') w' ∧
  Own enc e w'.heap ao' cap' (xs++ys)∧aA (blk ao) w w'∧(∀ a,ao'=some a→ao=some a∨w.heap.size≤a.block)∧(ao'=none→ao=none∧ys=[]):=by
 obtain⟨i,z,hi,h1,hz,h2,h3⟩:=ht.parts;have hnews1:∀ u∈ys.map enc,u.oneCell'=true:=by intro u hu;obtain⟨x,_,rfl⟩:=WS.1 hu;exact henc x
 have hsmall:xs.length+ys.length≤9223372036854775807:=by unfold maxLen at hm;omega
 by_cases hys:ys=[]
 · subst hys
   refine⟨ao,cap,w,?_,by simpa using ho,VK _ _,fun a ha=>.inl ha,fun h=>⟨h,rfl⟩⟩;exact jA ht.und hi ho.vw.le
 · have hne:ys.length≠0:=fun e=>hys (WQ e)
   obtain⟨b,rfl⟩:∃ b,bo=some b:=YU.1 (hy.non hne);have hnews:∀ j u,(ys.map enc)[j]?=some u→w.cell? (b.add j)=some u:=by
    intro j u hu;rw[W7] at hu;obtain⟨x,hx,rfl⟩:=WR.1 hu;exact hy.get j x hx
   have hl:(ys.map enc).length=ys.length*i.size:=by simp[h2]
   have big:∀ (old:Nat),old<xs.length+ys.length→Own enc e (w.drew.alloc (.cells ((xs.map enc).toArray++(ys.map enc).toArray++Builtin.zeroCells z.cells (grownCap w (xs.length+ys.length) old e-(xs.length+ys.length))) e)).heap
    (some ⟨w.heap.size,0,none⟩) (grownCap w (xs.length+ys.length) old e) (xs++ys):=by
    intro old _;have hge:=grownCap_ge w (xs.length+ys.length) old e;refine .inr ⟨w.heap.size,_,rfl,heap_alloc_new w.drew _,by simpa using hge,grownCap_le_maxLen w _ old e hm,?_,?_⟩
    ·simp only[Array.size_append,YI,WK,size_zeroCells,hz];omega
    · simp[YO]
      exact WJ (by simp)
   have hfoot:∀ (old:Nat),aA (blk ao) w (w.drew.alloc (.cells ((xs.map enc).toArray++(ys.map enc).toArray++Builtin.zeroCells z.cells (grownCap w (xs.length+ys.length) old e-(xs.length+ys.length))) e)):=fun old=>VM _ _ _;rcases ho with⟨rfl,rfl,rfl⟩|⟨g,cur,rfl,hg,g1,g2,g3,g4⟩
   · have hr:=run_append_nil (P:=P) w t ty e i z ht.und hi h1 b ys.length bcap (ys.map enc) hl hnews (by omega) (by simp at hsmall;omega) (by simp at hb;rw[h3];omega)
     have hB:=big 0 (by simp;omega);have hF:=hfoot 0;simp only[W2,Xp,map_nil,Xc,Array.empty_append] at hB hF ⊢;exact⟨_,_,_,hr,hB,hF,fun a ha=>.inr (by cases ha;exact WC _),fun h=>by cases h⟩
   · have holds:∀ j v,(xs.map enc)[j]?=some v→w.cell? ((⟨g,0,none⟩:Addr).add j)=some v:=by
      intro j v hv;rw[W7] at hv;obtain⟨x,hx,rfl⟩:=WR.1 hv;exact(Own.vw (.inr ⟨g,cur,rfl,hg,g1,g2,g3,g4⟩:Own enc e w.heap (some ⟨g,0,none⟩) cap xs)).get j x hx
     by_cases hroom:xs.length+ys.length≤cap
     · have hr:=run_append_room (P:=P) w t ty e i ht.und hi g xs.length cap cur hg b ys.length bcap (ys.map enc) hl hnews hnews1 hroom (by simp[h2,g3];omega)
       refine⟨_,_,_,hr,.inr ⟨g,_,rfl,setRow_heap w g cur _ e _ hg,by simpa using hroom,g2,?_,?_⟩,?_,fun a ha=>.inl ha,fun h=>by cases h⟩
       ·simp[h2,g3];omega
       · rw[h2,Nat.mul_one,g4];simp[YO]
         exact WJ (by simp)
       ·exact⟨rfl,rfl,rfl,by simp[World.setRow],fun k hk hn=>setRow_other w g k _ (fun e=>hn ⟨_,rfl,e.symm⟩)⟩
     · have hr:=run_append_grow (P:=P) w t ty e i z ht.und hi h1 ⟨g,0,none⟩ xs.length cap (xs.map enc) (by simp[h2]) holds b ys.length bcap (ys.map enc) hl hnews (by omega) (by omega)
        (by rw[h3];exact growslice_fits (by omega) hb)
       exact⟨_,_,_,hr,big cap (by omega),hfoot cap,fun a ha=>.inr (by cases ha;exact WC _),fun h=>by cases h⟩
def bs(xs:List UInt8):ByteArray:=⟨xs.toArray⟩
theorem fR(xs:List UInt8):(bs xs).toList=xs:=by rw[ByteArray.toList_eq];simp[bs]
theorem KP{a b:List UInt8}(h:bs a=bs b):a=b:=by rw[←fR a,h,fR]
theorem iQ(xs:List UInt8):(bs xs).size=xs.length:=by simp[bs,ByteArray.size]
def Ret(R:Value→World→Prop)(e:Ending)(w:World):Prop:=∃ v,e=.returned v∧R v w
def sD(l:SF):List Operand→Option (List Value)
|[]=>some []
|x::r=>match evL l x,sD l r with
  |some v,some vs=>some (v::vs)
  |_,_=>none
theorem bQ.evs{N:Nt}{l:SF}{a:Act}(h:bQ N l a):∀ {xs:List Operand} {vs:List Value},sD l xs=some vs→xs.map a.eval=vs
|[],vs,e=>by simp[sD] at e;simp[e]
|x::r,vs,e=>by
   unfold sD at e
   split at e
   · rename_i v us h1 h2
     cases e;simp[h.ev h1,h.evs h2]
   ·cases e
def fS(P:Program)(t:TypeId):Bool:=
 (match P.underlying t with|some (.struct _)|some (.array _ _)|none=>false|_=>true) && ((P.info? t).map (·.size) == some 1)
theorem Fz{P:Program}{t:TypeId}(h:fS P t=true)(w:World):(isAgg t).run P w=.ok false w:=by
 simp only[fS,WW] at h;unfold isAgg;cases hu:P.underlying t with
|none=>simp[hu] at h
|some d=>rw[Sem.run_bind,run_underlying hu w];cases d<;>simp_all
theorem IC{P:Program}{t:TypeId}(h:fS P t=true)(w:World):(sizeOf t).run P w=.ok 1 w:=by
 simp only[fS,WW,beq_iff_eq] at h;obtain⟨i,hi,h1⟩:=WR.1 h.2;simp[sizeOf,typeInfo,hi,h1]
def OE(P:Program)(s f off:Nat):Bool:=
 match P.underlying s with
|some (.struct fs)=>match fs[f]? with
  |some fd=>fd.offset == off && (match (P.info? fd.type).map (·.size) with|some n=>n != 0|none=>false)
  |none=>false
|_=>false
def fnB (P:Program) (f:FuncId):Bool:=
 match P.funcs[f]? with
 | some fn => !(fn.name == "runtime.NumGoroutine") && fn.body.isSome
 | none=>false
theorem eJ{P:Program}{f:FuncId}(h:fnB P f=true)(args:Array Value)(w:World):(callFunc f args).run P w=.ok (.enter f args) w:=by
 unfold fnB at h
 split at h
 · rename_i fn hf
   simp only[WW,Bool.not_eq_true'] at h;have hb:fn.body.isNone=false:=by cases hb:fn.body<;>simp_all
   unfold callFunc;rw[Sem.run_bind,run_program,Result.andThen_ok,hf];simp only[h.1,hb];rfl
 ·cases h
section
variable {P:Program}{N:Nt}{Q:Exit→Act→World→Prop}{l:SF}{w:World}{ops:Array Oper}{rest:List Oper}
variable {op:Op}{ty:TypeId}{pos:String}{aft:Array Edge}{d:Nat}{v:Value}{CH:Array Obj→Prop}
variable {x y:Operand}{t t':TypeId}{g:Option (Nat×Bool)}{dd:Option Nat}
theorem Tk{w':World}(hr:∀ a,bQ N l a→(execOp a.eval ⟨some d,op,ty,pos,aft,none⟩).run P w=.ok (.value v) w')(hd:Xb d N.n=true)(h:Sl P N ops Q rest ((d,v)::l) w') :
 Sl P N ops Q (⟨some d,op,ty,pos,aft,none⟩::rest) l w:=fun a ha=>by
 unfold wpList;rw[Wu (by simp[Region.wanted])];refine .inl ?_;unfold Oper.wp;rw[hr a ha];exact h _ (ha.put hd v)
theorem TL{w':World}(hr:∀ a,bQ N l a→(execOp a.eval ⟨none,op,ty,pos,aft,none⟩).run P w=.ok .skip w')(h:Sl P N ops Q rest l w') :
 Sl P N ops Q (⟨none,op,ty,pos,aft,none⟩::rest) l w:=fun a ha=>by
 unfold wpList;rw[Wu (by simp[Region.wanted])];refine .inl ?_;unfold Oper.wp;rw[hr a ha];exact h _ ha
theorem Cn{f:FuncId}{xs:List Operand}{vs:List Value}{ts:Array TypeId}{a:Act}(hf:fnB P f=true)(ha:bQ N l a)(hx:sD l xs=some vs) :
 (execOp a.eval ⟨dd,.call ⟨.value (.func f),xs.toArray,ts⟩,ty,pos,aft,g⟩).run P w=.ok (.enter f vs.toArray) w:=by
 simp[execOp,resolve,Act.eval,Deferred.ofValue,invoke,eJ hf];rw[←ha.evs hx]
theorem SJ{f:FuncId}{xs:List Operand}{vs:List Value}{ts:Array TypeId}(hf:fnB P f=true)(hx:sD l xs=some vs){R:Value→World→Prop}(hc:Calls P f vs.toArray w (Ret R))(hd:Xb d N.n=true)
 (h:∀ v w',R v w'→Sl P N ops Q rest ((d,v)::l) w') :
 Sl P N ops Q (⟨some d,.call ⟨.value (.func f),xs.toArray,ts⟩,ty,pos,aft,none⟩::rest) l w:=fun a ha=>by
 unfold wpList;rw[Wu (by simp[Region.wanted])];refine .inl ?_;unfold Oper.wp;rw[Cn hf ha hx];refine hc.mono ?_;rintro e w' ⟨v,rfl,hR⟩;exact h v w' hR _ (ha.put hd v)
theorem SS{f:FuncId}{xs:List Operand}{vs:List Value}{ts:Array TypeId}{j s:Nat}{b:Bool}(hj:(ops[j]?).bind (·.dst)=some s)(hs:lk l s=some (.bool b))(hf:fnB P f=true)(hx:sD l xs=some vs){R:Value→World→Prop}(hc:Calls P f vs.toArray w (Ret R))(hd:Xb d N.n=true)
 (h:∀ v w',R v w'→Sl P N ops Q rest ((d,v)::l) w') :
 Sl P N ops Q (⟨some d,.call ⟨.value (.func f),xs.toArray,ts⟩,ty,pos,aft,some (j,b)⟩::rest) l w:=fun a ha=>by
 unfold wpList;rw[Wu (by simp[Region.wanted,gJ ha hj hs])];refine .inl ?_;unfold Oper.wp;rw[Cn hf ha hx];refine hc.mono ?_;rintro e w' ⟨v,rfl,hR⟩;exact h v w' hR _ (ha.put hd v)
theorem SR{ad:Addr}(ht:fS P t=true)(hx:evL l x=some (.pointer (some ad)))(hc:∀ H,CH H→bH H ad=some v):Cm P N CH l ⟨dd,.load t x,ty,pos,aft,g⟩ v:=fun a w ha hw=>by
 have:=hc _ hw;simp[execOp,ha.ev hx,Instr.loadAt,Instr.sureAddr,loadVar,Fz ht,cell?_eq,this]
theorem SM{H:Array Obj}{ad:Addr}(ht:fS P t=true)(hx:evL l x=some (.pointer (some ad)))(hc:bH H ad=some v):Cm P N (· = H) l ⟨dd,.load t x,ty,pos,aft,g⟩ v:=
 SR ht hx (fun _ e=>by rw[e];exact hc)
theorem Tb{ad:Addr}{s f off:Nat}(hs:OE P s f off=true)(hx:evL l x=some (.pointer (some ad))):Cm P N CH l ⟨dd,.fieldAddr s x f,ty,pos,aft,g⟩ (.pointer (some (ad.add off))):=fun a w ha _=>by
 unfold OE at hs
 split at hs
 · rename_i fs hu
   split at hs
   · rename_i fd hf
     simp only[WW,beq_iff_eq] at hs;obtain⟨h1,h2⟩:=hs
     split at h2
     · rename_i n hn
       obtain⟨i,hi,h3⟩:=WR.1 hn;have h4:i.size≠0:=by rw[h3];simpa using h2
       simp[execOp,ha.ev hx,Instr.fieldAt,run_underlying hu,hf,Instr.sureAddr,fieldPlace,sizeOf,typeInfo,hi,h4,h1]
     ·cases h2
   ·cases hs
 ·cases hs
theorem bR(k:IntKind){i:Int}{y:Nat}{code:BoundsCode}(w:World)(h:0≤i∧i≤y):(Instr.sliceBound (.int k i) y code).run P w=.ok i.toNat w:=by
 simp[Instr.sliceBound,asIntOf,h]
theorem Tp{e:TypeId}{size bytes:Nat}(ht:aZ P t e size bytes){ao:Option Addr}{len cap:Nat}{kl:IntKind}{n:Int}{lo:Operand}(hx:evL l x=some (.slice ao len cap))(hl:evL l lo=some (.int kl n))
 (hn:0≤n∧n≤len):Cm P N CH l ⟨dd,.slice t x (some lo) none none,ty,pos,aft,g⟩ (.slice (bG ao cap n.toNat size) (len-n.toNat) (cap-n.toNat)):=fun a w ha _=>by
 simp[execOp,ha.ev hx,ha.ev hl,Instr.sliceAt,Instr.slice,run_underlying ht.und,Instr.sliceBounds,bR _ _ hn,ht.size,bG]
theorem S8{e:TypeId}{size bytes:Nat}(ht:aZ P t e size bytes){ao:Option Addr}{len cap:Nat}{kh:IntKind}{n:Int}{hi:Operand}(hx:evL l x=some (.slice ao len cap))(hh:evL l hi=some (.int kh n))
 (hn:0≤n∧n≤cap):Cm P N CH l ⟨dd,.slice t x none (some hi) none,ty,pos,aft,g⟩ (.slice (bG ao cap 0 size) n.toNat cap):=fun a w ha _=>by
 simp[execOp,ha.ev hx,ha.ev hh,Instr.sliceAt,Instr.slice,run_underlying ht.und,Instr.sliceBounds,bR _ _ hn,ht.size,bG]
theorem UG{e:TypeId}{size bytes:Nat}(ht:aZ P t e size bytes){ao:Option Addr}{len cap:Nat}{kl kh:IntKind}{m n:Int}{lo hi:Operand}(hx:evL l x=some (.slice ao len cap))(hl:evL l lo=some (.int kl m))(hh:evL l hi=some (.int kh n))
 (hm:0≤m∧m≤n)(hn:n≤cap):Cm P N CH l ⟨dd,.slice t x (some lo) (some hi) none,ty,pos,aft,g⟩ (.slice (bG ao cap m.toNat size) (n.toNat-m.toNat) (cap-m.toNat)):=fun a w ha _=>by
 have h1:0≤n∧n≤(cap:Int):=⟨by omega,hn⟩
 have h2:0≤m∧m≤(n.toNat:Int):=⟨hm.1,by omega⟩
 simp only[execOp,ha.ev hx,ha.ev hl,ha.ev hh,Instr.sliceAt,Instr.slice,run_underlying ht.und,Instr.sliceBounds,Ym,Option.map_none,Sem.run_bind,Result.andThen_ok,Sem.run_pure,
  bR _ _ h1,bR _ _ h2,ht.size,bG]
theorem TS{e:TypeId}{size bytes:Nat}(ht:aZ P t e size bytes){ao:Option Addr}{len cap:Nat}{kl kh km:IntKind}{m n q:Int}{lo hi mx:Operand}(hx:evL l x=some (.slice ao len cap))(hl:evL l lo=some (.int kl m))(hh:evL l hi=some (.int kh n))(hq:evL l mx=some (.int km q))
 (hm:0≤m∧m≤n)(hn:n≤q)(hqc:q≤cap):Cm P N CH l ⟨dd,.slice t x (some lo) (some hi) (some mx),ty,pos,aft,g⟩ (.slice (bG ao q.toNat m.toNat size) (n.toNat-m.toNat) (q.toNat-m.toNat)):=fun a w ha _=>by
 have h0:0≤q∧q≤(cap:Int):=⟨by omega,hqc⟩
 have h1:0≤n∧n≤(q.toNat:Int):=⟨by omega,by omega⟩
 have h2:0≤m∧m≤(n.toNat:Int):=⟨hm.1,by omega⟩
 simp only[execOp,ha.ev hx,ha.ev hl,ha.ev hh,ha.ev hq,Instr.sliceAt,Instr.slice,run_underlying ht.und,Instr.sliceBounds,Ym,Sem.run_bind,Result.andThen_ok,Sem.run_pure,
  bR _ _ h0,bR _ _ h1,bR _ _ h2,ht.size,bG]
theorem Uc{e:TypeId}{size bytes:Nat}(ht:aZ P t e size bytes)(he:P.underlying e=some (.int .u8))(hd:P.underlying t'=some .string){ao:Option Addr}{cap:Nat}{xs:List UInt8}(hx:evL l x=some (.slice ao xs.length cap))(hv:∀ H,CH H→Vw b8 H ao cap xs) :
 Cm P N CH l ⟨dd,.convert t t' x,ty,pos,aft,g⟩ (.string (bs xs)):=fun a w ha hw=>by
 have hv:=hv _ hw;simp only[execOp,ha.ev hx,Sem.run_bind];cases hao:ao with
|none=>
   have hn:xs=[]:=by
    rcases YF xs.length with h0|h0
    ·exact WQ h0
    ·exact absurd hao (hv.non (by omega))
   subst hn;rw[run_convert_bytes_nil w t e ht.und he _ _ t' hd];rfl
|some b=>
   have hl:(loadCells b xs.length).run P w=.ok ((xs.map fun u=>((u.toNat:Int))).map (Value.int .u8)).toArray w:=by
    have:=run_loadCells_list (P:=P) w b (xs.map b8) (fun j u hj=>by
     rw[W7] at hj;obtain⟨q,hq,rfl⟩:=WR.1 hj;have:=hv.get j q hq;rw[hao] at this;exact this)
    rw[WK] at this;rw[this,XL];rfl
   rw[run_convert_bytes_string w t t' e _ xs.length cap ht.und he hd,run_bytesToString w b xs.length cap _ hl,foldl_push_bytes];simp[bs,ByteArray.empty,ByteArray.emptyWithCapacity,Function.comp_def];rfl
theorem Tt{H:Array Obj}{e:TypeId}{size bytes:Nat}(ht:aZ P t e size bytes)(he:P.underlying e=some (.int .u8))(hd:P.underlying t'=some .string){ao:Option Addr}{cap:Nat}{xs:List UInt8}(hx:evL l x=some (.slice ao xs.length cap))(hv:Vw b8 H ao cap xs) :
 Cm P N (· = H) l ⟨dd,.convert t t' x,ty,pos,aft,g⟩ (.string (bs xs)):=Uc ht he hd hx (fun _ e=>by rw[e];exact hv)
theorem Vu{a b:ByteArray}(hx:evL l x=some (.string a))(hy:evL l y=some (.string b)):Cm P N CH l ⟨dd,.binOp .eql t x y t',ty,pos,aft,g⟩ (.bool (decide (a.toList=b.toList))):=fun c w ha _=>by
 simp[execOp,ha.ev hx,ha.ev hy,eqGuard,binOp,YP];by_cases h:a.toList=b.toList<;>simp[h]
theorem Vv{a b:ByteArray}(hx:evL l x=some (.string a))(hy:evL l y=some (.string b)):Cm P N CH l ⟨dd,.binOp .neq t x y t',ty,pos,aft,g⟩ (.bool (decide (a.toList≠b.toList))):=fun c w ha _=>by
 simp[execOp,ha.ev hx,ha.ev hy,eqGuard,binOp,YP];by_cases h:a.toList=b.toList<;>simp[h]
theorem Tz{a b:List UInt8}(hx:evL l x=some (.string (bs a)))(hy:evL l y=some (.string (bs b))):Cm P N CH l ⟨dd,.binOp .eql t x y t',ty,pos,aft,g⟩ (.bool (decide (a=b))):=by
 have:=@Vu P N l ty pos aft CH x y t t' g dd (bs a) (bs b) hx hy;simpa only[fR] using this
theorem T0{a b:List UInt8}(hx:evL l x=some (.string (bs a)))(hy:evL l y=some (.string (bs b))):Cm P N CH l ⟨dd,.binOp .neq t x y t',ty,pos,aft,g⟩ (.bool (decide (a≠b))):=by
 have:=@Vv P N l ty pos aft CH x y t t' g dd (bs a) (bs b) hx hy;simpa only[fR] using this
theorem S4{α:Type}{enc:α→Value}(henc:∀ x,(enc x).oneCell'=true){e:TypeId}{bytes:Nat}(ht:aZ P t e 1 bytes)
 {ao bo:Option Addr}{cap bcap:Nat}{xs ys:List α}(hx:evL l x=some (.slice ao xs.length cap))(hy:evL l y=some (.slice bo ys.length bcap))
 (ho:Own enc e w.heap ao cap xs)(hv:Vw enc w.heap bo bcap ys)
 (hb:(xs.length+ys.length)*bytes≤140737488355328)(hm:xs.length+ys.length≤maxLen)(hd:Xb d N.n=true)
 (h:∀ ao' cap' w',Own enc e w'.heap ao' cap' (xs++ys)→aA (blk ao) w w'→(∀ a,ao'=some a→ao=some a∨w.heap.size≤a.block)→(ao'=none→ao=none∧ys=[]) →
   Sl P N ops Q rest ((d,.slice ao' (xs++ys).length cap')::l) w') :
 Sl P N ops Q (⟨some d,.call ⟨.builtin .append,#[x,y],#[t,t]⟩,ty,pos,aft,none⟩::rest) l w:=by
 obtain⟨ao',cap',w',hr,h1,h2,h3,h4⟩:=tT henc (ty:=ty) ht ho hv hb hm;refine Tk (w':=w') (v:=.slice ao' (xs++ys).length cap') (fun a ha=>?_) hd (h ao' cap' w' h1 h2 h3 h4);simp[execOp,ha.ev hx,ha.ev hy,resolve,invoke,builtin,hr]
theorem Td{T:TypeId}(hx:evL l x=some v)(hd:Xb d N.n=true)
 (h:∀ w',w'.heap[w.heap.size]?=some (.cells v.cells T (0,0))→w'.heap.size=w.heap.size+1→aA nob w w'→Sl P N ops Q rest ((d,.pointer (some ⟨w.heap.size,0,none⟩))::l) w') :
 Sl P N ops Q (⟨some d,.box T x,ty,pos,aft,none⟩::rest) l w:=by
 refine Tk (w':=w.alloc (.cells v.cells T)) (fun a ha=>?_) hd (h _ (heap_alloc_new w _) (by simp) (aA.alloc _ _ _));simp[execOp,ha.ev hx,Instr.box,newVar,newRow]
theorem jQ{α:Type}{enc:α→Value}{e:TypeId}{H:Array Obj}{g:Nat}{xs:List α}(hg:H[g]?=some (.cells (xs.map enc).toArray e (0,0)))(hm:xs.length≤maxLen):Own enc e H (some ⟨g,0,none⟩) xs.length xs:=
 .inr ⟨g,_,rfl,hg,WC _,hm,by simp,by simp;exact WJ (by simp)⟩
theorem wD{f:Nat→Value}:(Array.range 0).map f=#[]:=by apply Array.ext';simp
theorem Eh{f:Nat→Value}{u:Value}:((Array.range 1).map f).setIfInBounds 0 u=#[u]:=by apply Array.ext';simp[YD]
theorem Eg{f:Nat→Value}{u u':Value}:(((Array.range 2).map f).setIfInBounds 0 u).setIfInBounds 1 u'=#[u,u']:=by apply Array.ext';simp[YD]
theorem T1{α:Type}(enc:α→Value){e:TypeId}{bytes:Nat}(ht:aZ P t e 1 bytes)(hd:Xb d N.n=true)
 (h:∀ w',Own enc e w'.heap (some ⟨w.heap.size,0,none⟩) 0 ([]:List α)→w'.heap.size=w.heap.size+1→aA nob w w'→Sl P N ops Q rest ((d,.slice (some ⟨w.heap.size,0,none⟩) 0 0)::l) w') :
 Sl P N ops Q (⟨some d,.buildSlice t 0 #[],ty,pos,aft,none⟩::rest) l w:=by
 refine Tk (w':=w.alloc (.cells #[] e)) (fun a ha=>?_) hd (h _ (jQ (xs:=[]) (heap_alloc_new w _) (WG _)) (by simp) (aA.alloc _ _ _));simp[execOp,Instr.buildSlice,run_underlying ht.und,ht.size,Instr.fill,newRow];rw[wD]
theorem TJ{α:Type}{enc:α→Value}{e:TypeId}{bytes:Nat}(ht:aZ P t e 1 bytes){u:α}(hu:(enc u).oneCell'=true)(hx:evL l x=some (enc u))(hd:Xb d N.n=true)
 (h:∀ w',Own enc e w'.heap (some ⟨w.heap.size,0,none⟩) 1 [u]→w'.heap.size=w.heap.size+1→aA nob w w'→Sl P N ops Q rest ((d,.slice (some ⟨w.heap.size,0,none⟩) 1 1)::l) w') :
 Sl P N ops Q (⟨some d,.buildSlice t 1 #[(0,x)],ty,pos,aft,none⟩::rest) l w:=by
 obtain⟨i,z,hi,h1,hz,h2,h3⟩:=ht.parts;have hc:(enc u).cells=#[enc u]:=by cases he:enc u<;>simp_all [Value.cells,Value.oneCell']
 refine Tk (w':=w.alloc (.cells #[enc u] e)) (fun a ha=>?_) hd (h _ (jQ (xs:=[u]) (heap_alloc_new w _) (by simp[maxLen])) (by simp) (aA.alloc _ _ _));simp[execOp,Instr.buildSlice,run_underlying ht.und,ht.size,zeroValue,typeInfo,hi,h1,Instr.fill,ha.ev hx,hc,newRow];rw[Eh]
theorem UQ{α:Type}{enc:α→Value}{e:TypeId}{bytes:Nat}(ht:aZ P t e 1 bytes){u u':α}(hu:∀ x,(enc x).oneCell'=true)(hx:evL l x=some (enc u))(hy:evL l y=some (enc u'))(hd:Xb d N.n=true)
 (h:∀ w',Own enc e w'.heap (some ⟨w.heap.size,0,none⟩) 2 [u,u']→w'.heap.size=w.heap.size+1→aA nob w w'→Sl P N ops Q rest ((d,.slice (some ⟨w.heap.size,0,none⟩) 2 2)::l) w') :
 Sl P N ops Q (⟨some d,.buildSlice t 2 #[(0,x),(1,y)],ty,pos,aft,none⟩::rest) l w:=by
 obtain⟨i,z,hi,h1,hz,h2,h3⟩:=ht.parts;have hc:∀ u,(enc u).cells=#[enc u]:=fun u=>by have:=hu u;cases he:enc u<;>simp_all [Value.cells,Value.oneCell']
 refine Tk (w':=w.alloc (.cells #[enc u,enc u'] e)) (fun a ha=>?_) hd (h _ (jQ (xs:=[u,u']) (heap_alloc_new w _) (by simp[maxLen])) (by simp) (aA.alloc _ _ _));simp[execOp,Instr.buildSlice,run_underlying ht.und,ht.size,zeroValue,typeInfo,hi,h1,Instr.fill,ha.ev hx,ha.ev hy,hc,newRow];rw[Eg]
theorem SV{b o:Nat}{cur:List Value}{T:TypeId}(ht:fS P t=true)(hx:evL l x=some (.pointer (some ⟨b,o,none⟩)))(hy:evL l y=some v)(h1:v.oneCell'=true)
 (hg:w.heap[b]?=some (.cells cur.toArray T (0,0)))(ho:Xb o cur.length=true)
 (h:∀ w',w'.heap[b]?=some (.cells (cur.set o v).toArray T (0,0))→w'.heap.size=w.heap.size→aA (· = b) w w'→Sl P N ops Q rest l w') :
 Sl P N ops Q (⟨none,.store t x y,ty,pos,aft,none⟩::rest) l w:=by
 have ho':o<cur.length:=by simpa[XP] using ho
 have hb:=(WD.1 hg)
 have hc:v.cells=#[v]:=by cases v<;>simp_all [Value.cells,Value.oneCell']
 have hcell:w.cell? ((⟨b,o,none⟩:Addr).add 0)=some cur[o]:=by simp[Addr.add,World.cell?,hg,ho']
 have hfro:w.frozen? ((⟨b,o,none⟩:Addr).add 0)=false:=by simp[Addr.add,World.frozen?,hg]
 refine TL (w':=w.setCell ⟨b,o,none⟩ v) (fun a ha=>?_) (h _ ?_ ?_ ?_)
 · simp[execOp,ha.ev hx,ha.ev hy,Instr.storeAt,Instr.sureAddr,storeVar,IC ht,hc,storeCells,run_store P w _ v _ h1,hcell,hfro]
   simp[Addr.add]
 ·simp[World.setCell,Ys,hg]
 ·simp[World.setCell]
 ·exact⟨rfl,rfl,rfl,by simp[World.setCell],fun k hk hn=>Below.heap_setCell _ _ _ _ hn⟩
end
section
variable {P:Program}{ops:Array Oper}{md:Region.Mode}{CH:Array Obj→Prop}
def YC(P:Program)(ops:Array Oper)(CH:Array Obj→Prop)(o:Oper)(v:Value)(a:Act):Prop:=
 (Region.wanted o (yielded ops a.tmps)=true∧∀ w,CH w.heap→(execOp a.eval o).run P w=.ok (.value v) w) ∨
 (Region.wanted o (yielded ops a.tmps)=false∧v=undef)
theorem YC.of_same{o:Oper}{v:Value}{a a':Act}(hy:YC P ops CH o v a)(he:execOp a'.eval o=execOp a.eval o)
 (hw:Region.wanted o (yielded ops a'.tmps)=Region.wanted o (yielded ops a.tmps)):YC P ops CH o v a':=by
 unfold YC at *;rw[he,hw];exact hy
def iR(K:Act→World→Prop):Exit→Act→World→Prop
|.normal,a,w=>K a w
|_,_,_=>False
theorem YC.wpOp{i:Nat}{o:Oper}{v:Value}{a:Act}{Q:Exit→Act→World→Prop}(hi:ops[i]?=some o)(hy:YC P ops CH o v a)
 {K:Act→World→Prop}{w:World}(hc:CH w.heap)(h:K (a.put o.dst v) w):wpOp P ops Q i K a w:=by
 unfold Go.wpOp;simp only[hi];rcases hy with⟨hw,hv⟩|⟨hw,rfl⟩
 ·simp only[hw,if_true,Oper.wp,hv w hc,Oper.upon];exact .inl h
 ·simp only[hw,Bool.false_eq_true,if_false];exact h
theorem rJ{K0:Act→World→Prop}{j:Nat}{oi oj:Oper}{v:Value}(hj:ops[j]?=some oj)(hap:oi.apart ops oj=true)
 (hsi:∀ cs b,oi.op≠.select cs b)(hsj:∀ cs b,oj.op≠.select cs b){K:Act→World→Prop}{a:Act}{w:World}
 (hy:YC P ops CH oi v a)(h:wpOp P ops (iR K0) j K (a.put oi.dst v) w) :
 wpOp P ops (iR K0) j (fun a' w'=>YC P ops CH oi v a'∧K (a'.put oi.dst v) w') a w:=by
 obtain⟨h1,h2,h3⟩:=Oper.apart_spec hap;have keep:∀ (a:Act),YC P ops CH oi v a→∀ u,YC P ops CH oi v (a.put oj.dst u):=fun a hy u=>
  hy.of_same (execOp_put oi hsi a oj.dst u h3) (wanted_put oi a oj.dst u h3)
 have keepD:∀ d,YC P ops CH oi v { a with defers:=d::a.defers }:=fun d=>hy.of_same rfl rfl;unfold wpOp at *;simp only[hj] at *;rw[wanted_put oj a oi.dst v h1] at h
 split
 · rename_i hw
   simp only[hw,if_true] at h;rcases h with h|⟨hasks,hlets⟩
   case inr=>exact .inr ⟨by unfold Oper.asks at *;rw[execOp_put oj hsj a oi.dst v h1] at hasks;exact hasks,hlets⟩
   refine .inl ?_;unfold Oper.wp at *;rw[execOp_put oj hsj a oi.dst v h1] at h;generalize (execOp a.eval oj).run P w=r at *;cases r with
  |ok n w'=>
     cases n<;>simp only[Oper.upon] at h ⊢
     case value u=>exact⟨keep a hy u,by rw[←Act.put_comm a v u h2];exact h⟩
     case skip=>exact⟨keep a hy _,by rw[←Act.put_comm a v undef h2];exact h⟩
     case defer d=>
      refine⟨keep _ (keepD d) _,?_⟩;rw[←Act.put_comm _ v undef h2,←Act.put_defers];exact h
     case enter f args=>
      refine Calls.mono h fun e w'' he=>?_;cases e with
     |returned u=>exact⟨keep a hy u,by rw[←Act.put_comm a v u h2];exact he⟩
     |panicked c=>exact he
     |outgrown=>exact he
     case row row args=>exact Rows.mono h fun u w'' he=>⟨keep a hy u,by rw[←Act.put_comm a v u h2];exact he⟩
  |halt x w'=>
     cases x<;>simp only[Oper.upon] at h ⊢
     case panic u=>exact h
 · rename_i hw
   simp only[hw] at h;exact⟨keep a hy _,by rw[←Act.put_comm a v undef h2];exact h⟩
def bF(P:Program)(md:Region.Mode)(ops:Array Oper)(n:Nat)(CH:Array Obj→Prop)(K0:Act→World→Prop):Nat→Array Bool→Act→World→Prop
|0,listed,a,w=>(listed.getD n false=false→CH w.heap)∧Region.ready md ops listed=[]∧K0 a w
|fuel+1,listed,a,w=>(listed.getD n false=false→CH w.heap) ∧
   (Region.ready md ops listed=[]→K0 a w) ∧
   ∀ i∈Region.ready md ops listed,wpOp P ops (iR K0) i (bF P md ops n CH K0 fuel (listed.setIfInBounds i true)) a w
theorem bF.ch{n:Nat}{K0:Act→World→Prop}:∀ {fuel:Nat} {listed:Array Bool} {a:Act} {w:World},bF P md ops n CH K0 fuel listed a w→listed.getD n false=false→CH w.heap
|0,_,_,_,h=>h.1
|_+1,_,_,_,h=>h.1
theorem bF.any{n:Nat}{K0:Act→World→Prop}:∀ {fuel:Nat} {listed:Array Bool} {a:Act} {w:World},bF P md ops n CH K0 fuel listed a w→wpAny P md ops (iR K0) fuel listed a w
|0,_,_,_,h=>h.2
|_+1,_,_,_,h=>⟨h.2.1,fun i hi=>wpOp_mono (fun _ _ h'=>bF.any h') (h.2.2 i hi)⟩
def yW(ops:Array Oper)(n:Nat):Bool:=Nat.ble ops.size n || (Region.sinkB .any ops n && Region.chainB .any ops n)
theorem HA{n:Nat}{listed:Array Bool}(hf:yW ops n=true)(inv:HeadInv .any ops n listed){i j:Nat}(hi:i<n)(hun:listed.getD i true=false)(hj:j∈Region.ready .any ops listed):j<n:=by
 have hjs:j<ops.size:=by
  obtain⟨_,o,ho,_⟩:=mem_ready.1 hj;exact(WD.1 ho).1
 simp only[yW,X3,WW,YN] at hf;rcases Yj n ops.size with hn|hn
 · rcases hf with hf|hf
   ·omega
   · rcases Yj j n with h|h
     ·exact h
     ·exact absurd hj (tail_waits hf.1 hf.2 hn inv _ i rfl hi hun j h)
 ·omega
theorem yV{n:Nat}{listed:Array Bool}(hf:yW ops n=true)(inv:HeadInv .any ops n listed){j:Nat}(hj:j∈Region.ready .any ops listed)(h:n<j):False:=by
 obtain⟨_,o,ho,hall⟩:=mem_ready.1 hj;have hjs:j<ops.size:=(WD.1 ho).1;simp only[yW,X3,WW,YN] at hf;rcases hf with hf|hf
 ·omega
 · have h1:=List.all_eq_true.1 hf.2 j (XB.2 hjs)
   simp only[X3,decide_eq_true_eq] at h1;rcases h1 with h1|h1
   ·omega
   · obtain⟨o',ho',e,he,hb,hon⟩:=Region.waitsFor_spec h1
     have:o'=o:=Option.some.inj (ho'.symm.trans ho);subst this;have h2:=hall e he hb;rw[hon,getD_both (inv.tail (j-1) (by omega) (by omega))] at h2;cases h2
theorem yU{n:Nat}{listed:Array Bool}(inv:HeadInv .any ops n listed):listed.getD n false=false:=by
 rcases Yj n ops.size with h|h
 ·exact getD_both (inv.tail n (WC _) h)
 · have:listed.size≤n:=by rw[inv.size];exact h
   simp[YK this]
theorem pJ{n:Nat}{K0:Act→World→Prop}{i:Nat}{oi:Oper}{v:Value}(hi:ops[i]?=some oi)(hsel:∀ (j:Nat) (o:Oper) cs b,ops[j]?=some o→o.op≠.select cs b)(hf:yW ops n=true)(hin:i<n) :
 ∀ (fuel:Nat) (listed:Array Bool) (a:Act) (w:World),HeadInv .any ops n listed→CH w.heap →
  (∀ j oj,ops[j]?=some oj→j≠i→listed.getD j true=false→(∀ e∈oj.after,Region.binds .any e=true→e.on≠i)→oi.apart ops oj=true) →
  i∈Region.ready .any ops listed→YC P ops CH oi v a →
  bF P .any ops n CH K0 fuel (listed.setIfInBounds i true) (a.put oi.dst v) w→bF P .any ops n CH K0 (fuel+1) listed a w:=by
 intro fuel
 induction fuel with
|zero=>
   intro listed a w _ hc _ hr hy H;refine⟨fun _=>hc,fun h=>(by rw[h] at hr;cases hr),fun j hj=>?_⟩;by_cases hji:j=i
   ·subst hji;exact hy.wpOp hi hc H
   · have:=ready_mono hj hji
     rw[H.2.1] at this;cases this
|succ fuel ih=>
   intro listed a w inv hc hfree hr hy H;refine⟨fun _=>hc,fun h=>(by rw[h] at hr;cases hr),fun j hj=>?_⟩;by_cases hji:j=i
   ·subst hji;exact hy.wpOp hi hc H
   · have h1:=H.2.2 j (ready_mono hj hji)
     obtain⟨hjun,oj,hoj,hall⟩:=mem_ready.1 hj;have hjn:j<n:=HA hf inv hin (mem_ready.1 hr).1 hj;have inv':=inv.set hj hjn;have hnot:∀ e∈oj.after,Region.binds .any e=true→e.on≠i:=fun e he hb heq=>by
      have h1:=hall e he hb;have h0:=(mem_ready.1 hr).1;rw[heq] at h1;rcases Yj i listed.size with h'|h'
      ·simp[h'] at h0 h1;rw[h0] at h1;cases h1
      ·simp[YK h'] at h1
     have h2:=rJ hoj (hfree j oj hoj hji hjun hnot) (fun cs b=>hsel i oi cs b hi) (fun cs b=>hsel j oj cs b hoj) hy h1;have hfree':∀ k ok,ops[k]?=some ok→k≠i→(listed.setIfInBounds j true).getD k true=false →
      (∀ e∈ok.after,Region.binds .any e=true→e.on≠i)→oi.apart ops ok=true:=fun k ok hk hki hun hno=>by
      refine hfree k ok hk hki ?_ hno;by_cases hjk:j=k
      ·subst hjk;exact hjun
      ·rw[getD_set_ne true hjk] at hun;exact hun
     have hstill:((listed.setIfInBounds i true).setIfInBounds j true).getD n false=false:=by
      rw[getD_set_ne false (by omega),getD_set_ne false (by omega)];exact yU inv
     refine wpOp_mono (fun a' w' h3=>ih (listed.setIfInBounds j true) a' w' inv' (h3.2.ch hstill) hfree' (ready_mono hr (Ne.symm hji)) h3.1 ?_) h2;rw[Array.setIfInBounds_comm _ _ hji];exact h3.2
def Ae(ops:Array Oper)(n:Nat)(effs:List Nat):List Nat→Array Bool→Bool
|[],listed=>(Region.ready .any ops listed).isEmpty
|i::r,listed=>
   (bif effs.contains i then (match Region.ready .any ops listed with|[j]=>X7 j i|_=>false) && (Xb i n || r.isEmpty) else ((Region.ready .any ops listed).contains i && Region.free .any ops listed i && Xb i n)) &&
   Ae ops n effs r (listed.setIfInBounds i true)
def Sx(P:Program)(N:Nt)(ops:Array Oper)(n:Nat):(Array Obj→Prop)→List Nat→(Act→World→Prop)→List Nat→SF→World→Prop
|_,_,K0,[],l,w=>∀ a,bQ N l a→K0 a w
|CH,effs,K0,i::r,l,w=>∃ o,ops[i]?=some o ∧
   (bif effs.contains i then Sl P N ops (iR fun a w=>∃ l',bQ N l' a∧∃ CH':Array Obj→Prop,(∀ H,CH' H→CH H)∧(Xb i n=true→CH' w.heap)∧Sx P N ops n CH' effs K0 r l' w) [o] l w
    else ∃ v,(∀ a,bQ N l a→YC P ops CH o v a)∧∃ l',(∀ a,bQ N l a→bQ N l' (a.put o.dst v))∧Sx P N ops n CH effs K0 r l' w)
theorem bF.mono{n:Nat}{K0:Act→World→Prop}{CH CH':Array Obj→Prop}(hs:∀ H,CH' H→CH H):∀ {fuel:Nat} {listed:Array Bool} {a:Act} {w:World},bF P md ops n CH' K0 fuel listed a w→bF P md ops n CH K0 fuel listed a w
|0,_,_,_,h=>⟨fun h0=>hs _ (h.1 h0),h.2⟩
|_+1,_,_,_,h=>⟨fun h0=>hs _ (h.1 h0),h.2.1,fun i hi=>wpOp_mono (fun _ _ h'=>bF.mono hs h') (h.2.2 i hi)⟩
theorem VS{o:Oper}{a:Act}{w:World}{K K':Act→World→Prop}{M M':Act→World→Prop}(h:∀ a w,K a w→K' a w)(hh:o.wp P a w K (iR M)):o.wp P a w K' (iR M'):=by
 unfold Oper.wp at *;generalize (execOp a.eval o).run P w=r at *;cases r with
|ok n w'=>
   cases n<;>simp only[Oper.upon] at hh ⊢ <;>
    first
    |exact h _ _ hh
    |exact Calls.mono hh (fun e w'' he=>by cases e<;>first|exact h _ _ he|exact he.elim|(obtain⟨_,_,hf⟩:=he;exact hf.elim))
    |exact Rows.mono hh (fun _ _ he=>h _ _ he)
|halt x w'=>cases x<;>simp only[Oper.upon] at hh ⊢;exact hh.elim
theorem vP{N:Nt}{n:Nat}{effs:List Nat}{K0:Act→World→Prop}(hsel:Region.noSelect ops=true)(hfin:yW ops n=true):∀ (ord:List Nat) (CH:Array Obj→Prop) (fuel:Nat) (listed:Array Bool) (l:SF) (a:Act) (w:World),ord.length≤fuel→Ae ops n effs ord listed=true →
 bQ N l a→(HeadInv .any ops n listed∧CH w.heap)∨(ord=[]∧listed.getD n false=true)→Sx P N ops n CH effs K0 ord l w→bF P .any ops n CH K0 fuel listed a w
|[],CH,fuel,listed,l,a,w,_,hm,ha,hc,h=>by
   have hr:Region.ready .any ops listed=[]:=by simpa[Ae] using hm
   have hch:listed.getD n false=false→CH w.heap:=fun h0=>by
    rcases hc with hc|hc
    ·exact hc.2
    ·rw[hc.2] at h0;cases h0
   cases fuel with
  |zero=>exact⟨hch,hr,h a ha⟩
  |succ f=>exact⟨hch,fun _=>h a ha,by rw[hr];simp⟩
|i::r,CH,0,listed,l,a,w,hf,hm,ha,hc,h=>by simp at hf
|i::r,CH,f+1,listed,l,a,w,hf,hm,ha,hc,h=>by
   obtain⟨inv,hc⟩:=hc.resolve_right (fun hc=>by cases hc.1);obtain⟨o,ho,h⟩:=h;simp only[Ae,WW] at hm;obtain⟨hm1,hm2⟩:=hm;cases he:effs.contains i with
  |true=>
     rw[he] at h hm1;simp only[cond_true,WW] at h hm1;obtain⟨hm1,hm3⟩:=hm1;have hr:Region.ready .any ops listed=[i]:=by
      split at hm1
      ·rename_i j hj;rw[hj,Nat.eq_of_beq_eq_true hm1]
      ·cases hm1
     refine⟨fun _=>hc,fun h0=>(by rw[hr] at h0;cases h0),fun j hj=>?_⟩;have hjr:=hj;rw[hr] at hj;obtain rfl:j=i:=by simpa using hj
     have h1:=h a ha;unfold wpList at h1;unfold wpOp;simp only[ho]
     have key:∀ a' w',wpList P ops (iR fun a w=>∃ l',bQ N l' a∧∃ CH':Array Obj→Prop,(∀ H,CH' H→CH H)∧(Xb j n=true→CH' w.heap)∧Sx P N ops n CH' effs K0 r l' w) [] a' w'→bF P .any ops n CH K0 f (listed.setIfInBounds j true) a' w':=by
      intro a' w' h2;obtain⟨l',h3,CH',hsub,h4,h5⟩:=h2;refine bF.mono hsub (vP hsel hfin r CH' f _ l' a' w' (by simp at hf;omega) hm2 h3 ?_ h5);rcases Yj j n with hjn|hjn
      ·exact .inl ⟨inv.set hjr hjn,h4 (by simpa[XP] using hjn)⟩
      · have hjs:j<ops.size:=(WD.1 ho).1
        have hb:Xb j n=false:=by rw[←Bool.not_eq_true,XP];omega
        simp only[hb,Bool.false_or,List.isEmpty_iff] at hm3;have hr0:r=[]:=hm3
        · have hjn':j=n:=by
           rcases Yj n j with h6|h6
           ·have h7:=yV hfin inv hjr h6;exact h7.elim
           ·omega
          subst hjn';exact .inr ⟨hr0,by simp[inv.size,hjs]⟩
     split
     · rename_i hw
       rw[Wu hw] at h1;rcases h1 with h1|⟨_,_,_,h1⟩
       ·exact .inl (VS key h1)
       ·exact h1.elim
     · rename_i hw
       rw[Wt hw] at h1;exact key _ _ h1
  |false=>
     rw[he] at h hm1;simp only[cond_false,WW] at h hm1;obtain⟨v,hy,l',hl',hs⟩:=h;have hin:i<n:=by simpa[XP] using hm1.2
     have hir:i∈Region.ready .any ops listed:=by simpa using hm1.1.1
     exact pJ ho (Region.noSelect_spec hsel) hfin hin f listed a w inv hc (Region.free_spec ho hm1.1.2) hir (hy a ha) (vP hsel hfin r CH f _ l' _ w (by simp at hf;omega) hm2 (hl' a ha) (.inl ⟨inv.set hir hin,hc⟩) hs)
variable {N:Nt}{Q:Exit→Act→World→Prop}{l:SF}{w:World}
theorem C5{n:Nat}:HeadInv .any ops n (X4 ops.size false):=
 ⟨by simp,(fun j oj hj hl=>by rw[getD_replicate_false] at hl;cases hl),(fun t _ ht=>by simp[ht])⟩
theorem SZ{id:Nat}{lops:List Oper}(n:Nat)(CH:Array Obj→Prop)(effs ord:List Nat)(hm:P.follows .mixedOrders=true)(hs:(Region.noSelect lops.toArray && yW lops.toArray n &&
 Ae lops.toArray n effs ord (X4 lops.length false) && Nat.ble ord.length lops.length)=true)(hc:CH w.heap)
 (h:Sx P N lops.toArray n CH effs (fun a w=>Q .normal a w) ord l (w.drewN 1)):Sc P N (.region id lops.toArray true) Q l w:=fun a ha=>by
 simp only[WW] at hs;obtain⟨⟨⟨hs,hfin⟩,hok⟩,hlen⟩:=hs;have h1:=vP (P:=P) (N:=N) (K0:=fun a w=>Q .normal a w) hs hfin ord CH lops.length _ l a (w.drewN 1) (by simpa[YN] using hlen) hok ha
  (.inl ⟨by have:=C5 (ops:=lops.toArray) (n:=n);simpa using this,hc⟩) h
 have h2:=wp_region_any (P:=P) (id:=id) (ops:=lops.toArray) (Q:=iR fun a w=>Q .normal a w) (a:=a) (w:=w) hm (by
  have:=h1.any;simpa[World.drewN] using this)
 refine wp_mono h2 ?_;intro e a' w' hq;cases e<;>first|exact hq|exact hq.elim
variable {n:Nat}{effs:List Nat}{K0:Act→World→Prop}{r:List Nat}{i:Nat}{op:Op}{ty:TypeId}{pos:String}{aft:Array Edge}{d:Nat}{v:Value}
theorem Ua(hi:ops[i]?=some ⟨some d,op,ty,pos,aft,none⟩)(he:effs.contains i=false)(hv:Cm P N CH l ⟨some d,op,ty,pos,aft,none⟩ v)(hd:Xb d N.n=true)
 (h:Sx P N ops n CH effs K0 r ((d,v)::l) w):Sx P N ops n CH effs K0 (i::r) l w:=
 ⟨_,hi,by rw[he];exact⟨v,fun a ha=>.inl ⟨by simp[Region.wanted],fun w hw=>hv a w ha hw⟩,_,fun a ha=>ha.put hd v,h⟩⟩
theorem Ub{j s:Nat}{b:Bool}(hi:ops[i]?=some ⟨some d,op,ty,pos,aft,some (j,b)⟩)(he:effs.contains i=false)(hj:(ops[j]?).bind (·.dst)=some s)(hs:lk l s=some (.bool b))
 (hv:Cm P N CH l ⟨some d,op,ty,pos,aft,some (j,b)⟩ v)(hd:Xb d N.n=true)
 (h:Sx P N ops n CH effs K0 r ((d,v)::l) w):Sx P N ops n CH effs K0 (i::r) l w:=
 ⟨_,hi,by rw[he];exact⟨v,fun a ha=>.inl ⟨by simp[Region.wanted,gJ ha hj hs],fun w hw=>hv a w ha hw⟩,_,fun a ha=>ha.put hd v,h⟩⟩
theorem Vx{p:Prop}[Decidable p](hi:ops[i]?=some ⟨some d,op,ty,pos,aft,none⟩)(he:effs.contains i=false)(hv:Cm P N CH l ⟨some d,op,ty,pos,aft,none⟩ (.bool (decide p)))(hd:Xb d N.n=true)
 (h1:p→Sx P N ops n CH effs K0 r ((d,.bool true)::l) w)(h2:¬ p→Sx P N ops n CH effs K0 r ((d,.bool false)::l) w):Sx P N ops n CH effs K0 (i::r) l w:=by
 by_cases h:p
 ·rw[WA h] at hv;exact Ua hi he hv hd (h1 h)
 ·rw[Wx h] at hv;exact Ua hi he hv hd (h2 h)
theorem TT{p:Prop}[Decidable p]{j s:Nat}{b:Bool}(hi:ops[i]?=some ⟨some d,op,ty,pos,aft,some (j,b)⟩)(he:effs.contains i=false)(hj:(ops[j]?).bind (·.dst)=some s)(hs:lk l s=some (.bool b))
 (hv:Cm P N CH l ⟨some d,op,ty,pos,aft,some (j,b)⟩ (.bool (decide p)))(hd:Xb d N.n=true)
 (h1:p→Sx P N ops n CH effs K0 r ((d,.bool true)::l) w)(h2:¬ p→Sx P N ops n CH effs K0 r ((d,.bool false)::l) w):Sx P N ops n CH effs K0 (i::r) l w:=by
 by_cases h:p
 ·rw[WA h] at hv;exact Ub hi he hj hs hv hd (h1 h)
 ·rw[Wx h] at hv;exact Ub hi he hj hs hv hd (h2 h)
theorem Vy{j s:Nat}{b:Bool}{u:Value}(hi:ops[i]?=some ⟨some d,op,ty,pos,aft,some (j,b)⟩)(he:effs.contains i=false)(hj:(ops[j]?).bind (·.dst)=some s)(hs:lk l s=some u)(hb:zO u b=true)(hd:Xb d N.n=true)
 (h:Sx P N ops n CH effs K0 r ((d,undef)::l) w):Sx P N ops n CH effs K0 (i::r) l w:=
 ⟨_,hi,by rw[he];exact⟨undef,fun a ha=>.inr ⟨by
  simp only[Region.wanted,gJ ha hj hs];cases u<;>simp_all [zO],rfl⟩,_,fun a ha=>ha.put hd undef,h⟩⟩
def KX(P:Program)(N:Nt)(ops:Array Oper)(n:Nat)(CH:Array Obj→Prop)(effs:List Nat)(K0:Act→World→Prop)(i:Nat)(r:List Nat):Exit→Act→World→Prop:=
 iR fun a w=>∃ l',bQ N l' a∧∃ CH':Array Obj→Prop,(∀ H,CH' H→CH H)∧(Xb i n=true→CH' w.heap)∧Sx P N ops n CH' effs K0 r l' w
theorem SU{o:Oper}(hi:ops[i]?=some o)(he:effs.contains i=true)(h:Sl P N ops (KX P N ops n CH effs K0 i r) [o] l w):Sx P N ops n CH effs K0 (i::r) l w:=
 ⟨_,hi,by rw[he];exact h⟩
theorem S5(hc:CH w.heap)(h:Sx P N ops n CH effs K0 r l w):Sl P N ops (KX P N ops n CH effs K0 i r) [] l w:=fun _ ha=>⟨l,ha,CH,fun _ h=>h,fun _=>hc,h⟩
theorem Ts(hb:Xb i n=false)(h:Sx P N ops n CH effs K0 r l w):Sl P N ops (KX P N ops n CH effs K0 i r) [] l w:=fun _ ha=>⟨l,ha,CH,fun _ h=>h,(fun h0=>by rw[hb] at h0;cases h0),h⟩
theorem VG(h:At N .normal Q l w):Sx P N ops n CH effs (fun a w=>Q .normal a w) [] l w:=fun a ha=>h a ha
theorem Tg{id:Nat}{lops:List Oper}(n:Nat)(ord:List Nat)(hm:P.follows .mixedOrders=true)(hs:(Region.noSelect lops.toArray && yW lops.toArray n &&
 Ae lops.toArray n [] ord (X4 lops.length false) && Nat.ble ord.length lops.length)=true)
 (h:Sx P N lops.toArray n (· = w.heap) [] (fun a w=>Q .normal a w) ord l (w.drewN 1)):Sc P N (.region id lops.toArray true) Q l w:=
 SZ n (· = w.heap) [] ord hm hs rfl h
end
inductive GoR:Nat→Prop→Prop→Prop
 |z {p:Prop}:GoR 0 p p
 |s {n:Nat} {p q r:Prop} (h:r→p) (k:GoR n r q):GoR (n+1) p q
theorem GoR.run{n:Nat}{p q:Prop}(h:GoR n p q):q→p:=by
  induction h with
 |z=>exact id
 |s f _ ih=>exact fun h=>f (ih h)
section
variable {P:Program}{N:Nt}{Q:Exit→Act→World→Prop}{l:SF}{w:World}{ops:Array Oper}{rest:List Oper}{k d:Nat}{z:Prop}{ty:TypeId}{pos:String}{aft:Array Edge}{v:Value}
theorem gA1{y:Code}(h:GoR k (Sc P N y Q l w) z):GoR (k+1) (At N .normal (Exit.then (y.wp P Q) Q) l w) z:=.s VJ h
theorem gA2{K:Act→World→Prop}(h:GoR k (At N .ret Q l w) z):GoR (k+1) (At N .ret (Exit.then K Q) l w) z:=.s Uq h
theorem gA3{K:Act→World→Prop}{id:Nat}(h:GoR k (At N (.exit id) Q l w) z):GoR (k+1) (At N (.exit id) (Exit.then K Q) l w) z:=.s Uk h
theorem gA4{i:Nat}(h:GoR k (At N .ret Q l w) z):GoR (k+1) (At N .ret (Exit.inBlock i Q) l w) z:=.s Ul h
theorem gA5{i:Nat}(h:GoR k (At N .normal Q l w) z):GoR (k+1) (At N .normal (Exit.inBlock i Q) l w) z:=.s T7 h
theorem gA6{i:Nat}(h:GoR k (At N .normal Q l w) z):GoR (k+1) (At N (.exit i) (Exit.inBlock i Q) l w) z:=.s Um h
theorem gC1{x y:Code}(h:GoR k (Sc P N x (Exit.then (y.wp P Q) Q) l w) z):GoR (k+1) (Sc P N (.seq x y) Q l w) z:=.s VD h
theorem gC2{id:Nat}{os:List Oper}(h:GoR k (Sl P N os.toArray Q os l w) z):GoR (k+1) (Sc P N (.region id os.toArray false) Q l w) z:=.s UU h
theorem gC3{c:Operand}{x y:Code}(hc:evL l c=some (.bool true))(h:GoR k (Sc P N x Q l w) z):GoR (k+1) (Sc P N (.cond c x y) Q l w) z:=.s (UV hc) h
theorem gC4{c:Operand}{x y:Code}(hc:evL l c=some (.bool false))(h:GoR k (Sc P N y Q l w) z):GoR (k+1) (Sc P N (.cond c x y) Q l w) z:=.s (UW hc) h
theorem gC5(h:GoR k (At N .normal Q l w) z):GoR (k+1) (Sc P N .skip Q l w) z:=.s Vj h
theorem gC6{id:Nat}{c:Code}(h:GoR k (Sc P N c (Exit.inBlock id Q) l w) z):GoR (k+1) (Sc P N (.block id c) Q l w) z:=.s U2 h
theorem gC7{id:Nat}(h:GoR k (At N (.exit id) Q l w) z):GoR (k+1) (Sc P N (.exit id) Q l w) z:=.s Vk h
theorem gC8(h:GoR k (At N .ret Q l w) z):GoR (k+1) (Sc P N .ret Q l w) z:=.s VE h
theorem gL0(h:GoR k (At N .normal Q l w) z):GoR (k+1) (Sl P N ops Q [] l w) z:=.s VF h
theorem gL3{op:Op}{j s:Nat}{b:Bool}{u:Value}(hj:(ops[j]?).bind (·.dst)=some s)(hs:lk l s=some u)(hb:zO u b=true)(hd:Nat.blt d N.n=true)(h:GoR k (Sl P N ops Q rest ((d,undef)::l) w) z):GoR (k+1) (Sl P N ops Q (⟨some d,op,ty,pos,aft,some (j,b)⟩::rest) l w) z:=.s (TZ hj hs hb hd) h
end
section
variable {P:Program}{N:Nt}{Q:Exit→Act→World→Prop}{l:SF}{w:World}{ops:Array Oper}{k i d n:Nat}{z:Prop}{ty:TypeId}{pos:String}{aft:Array Edge}{v:Value}{CH:Array Obj→Prop}{effs r:List Nat}{K0:Act→World→Prop}
theorem gX0(h:GoR k (At N .normal Q l w) z):GoR (k+1) (Sx P N ops n CH effs (fun a w=>Q .normal a w) [] l w) z:=.s VG h
theorem gX3{op:Op}{j s:Nat}{b:Bool}{u:Value}(hi:ops[i]?=some ⟨some d,op,ty,pos,aft,some (j,b)⟩)(he:effs.contains i=false)(hj:(ops[j]?).bind (·.dst)=some s)(hs:lk l s=some u)(hb:zO u b=true)(hd:Nat.blt d N.n=true)(h:GoR k (Sx P N ops n CH effs K0 r ((d,undef)::l) w) z):GoR (k+1) (Sx P N ops n CH effs K0 (i::r) l w) z:=.s (Vy hi he hj hs hb hd) h
end
class Fld (P:Program)(s f:Nat)(off:outParam Nat):Prop where h:OE P s f off=true
class Sca (P:Program)(t:Nat):Prop where h:fS P t=true
class Slt (P:Program)(t:Nat):Prop where h:∃ e size bytes,aZ P t e size bytes
theorem rE{H:Array Obj}{p:Nat}{cs:List Value}{T:TypeId}{fr:Nat×Nat}(h:H[p]?=some (.cells cs.toArray T fr)){i:Nat}{v:Value}(hi:cs[i]?=some v):bH H ((⟨p,0,none⟩:Addr).add i)=some v:=by
  rw[Addr.add_lit,Nat.zero_add];simp[bH,h,hi]
section
variable {P:Program}{N:Nt}{l:SF}{ty:TypeId}{pos:String}{aft:Array Edge}{v:Value}{CH:Array Obj→Prop}{x y:Operand}{t t':TypeId}{g:Option (Nat×Bool)}{dd:Option Nat}
theorem UX{ad:Addr}{s f off:Nat}[hs:Fld P s f off](hx:evL l x=some (.pointer (some ad))):Cm P N CH l ⟨dd,.fieldAddr s x f,ty,pos,aft,g⟩ (.pointer (some (ad.add off))):=Tb hs.h hx
theorem Vz[ht:Slt P t]{ao:Option Addr}{c n:Nat}(hx:evL l x=some (.slice ao n c)):Cm P N CH l ⟨dd,.call ⟨.builtin .len,#[x],#[t]⟩,ty,pos,aft,g⟩ (.int .i64 n):=by
  obtain⟨_,_,_,h⟩:=ht.h;exact UF h hx
theorem VH{H:Array Obj}{ad:Addr}[ht:Sca P t](hx:evL l x=some (.pointer (some ad)))(hc:bH H ad=some v):Cm P N (· = H) l ⟨dd,.load t x,ty,pos,aft,g⟩ v:=SM ht.h hx hc
theorem TM{ad:Addr}[ht:Sca P t](hx:evL l x=some (.pointer (some ad)))(hc:∀ H,CH H→bH H ad=some v):Cm P N CH l ⟨dd,.load t x,ty,pos,aft,g⟩ v:=SR ht.h hx hc
end
section
variable {P:Program}{N:Nt}{Q:Exit→Act→World→Prop}{l:SF}{w:World}{ops:Array Oper}{rest:List Oper}{k d i n:Nat}{ty:TypeId}{pos:String}{aft:Array Edge}{v:Value}{op:Op}{z:Prop}{CH:Array Obj→Prop}{effs r:List Nat}{K0:Act→World→Prop}
theorem gV1(hv:Cm P N (· = w.heap) l ⟨some d,op,ty,pos,aft,none⟩ v)(hd:Nat.blt d N.n=true)(h:GoR k (Sl P N ops Q rest ((d,v)::l) w) z):GoR (k+1) (Sl P N ops Q (⟨some d,op,ty,pos,aft,none⟩::rest) l w) z:=.s (T8 hv hd) h
theorem gV2{j s:Nat}{b:Bool}(hj:(ops[j]?).bind (·.dst)=some s)(hs:lk l s=some (.bool b))(hv:Cm P N (· = w.heap) l ⟨some d,op,ty,pos,aft,some (j,b)⟩ v)(hd:Nat.blt d N.n=true)(h:GoR k (Sl P N ops Q rest ((d,v)::l) w) z):GoR (k+1) (Sl P N ops Q (⟨some d,op,ty,pos,aft,some (j,b)⟩::rest) l w) z:=.s (T9 hj hs hv hd) h
theorem gV3(hi:ops[i]?=some ⟨some d,op,ty,pos,aft,none⟩)(he:effs.contains i=false)(hv:Cm P N CH l ⟨some d,op,ty,pos,aft,none⟩ v)(hd:Nat.blt d N.n=true)(h:GoR k (Sx P N ops n CH effs K0 r ((d,v)::l) w) z):GoR (k+1) (Sx P N ops n CH effs K0 (i::r) l w) z:=.s (Ua hi he hv hd) h
theorem gV4{j s:Nat}{b:Bool}(hi:ops[i]?=some ⟨some d,op,ty,pos,aft,some (j,b)⟩)(he:effs.contains i=false)(hj:(ops[j]?).bind (·.dst)=some s)(hs:lk l s=some (.bool b))(hv:Cm P N CH l ⟨some d,op,ty,pos,aft,some (j,b)⟩ v)(hd:Nat.blt d N.n=true)(h:GoR k (Sx P N ops n CH effs K0 r ((d,v)::l) w) z):GoR (k+1) (Sx P N ops n CH effs K0 (i::r) l w) z:=.s (Ub hi he hj hs hv hd) h
end
section
variable {P:Program}{N k:Nat}{fn:Func}{R:Ending→World→Prop}{l:SF}{w:World}{z:Prop}{t u s:Nat}{v x y:Value}
theorem gR1(hr:fn.results=#[.tmp t])(hv:lk l t=some v)(h:GoR k (R (.returned v) w) z):GoR (k+1) (At ⟨N,[]⟩ .ret (bodyPost P fn R) l w) z:=.s (Vm hr hv) h
theorem gR2(hr:fn.results=#[.tmp t,.tmp u])(hv:lk l t=some v)(hx:lk l u=some x)(h:GoR k (R (.returned (.tuple #[v,x])) w) z):GoR (k+1) (At ⟨N,[]⟩ .ret (bodyPost P fn R) l w) z:=.s (Vn hr hv hx) h
theorem gR3(hr:fn.results=#[.tmp t,.tmp u,.tmp s])(hv:lk l t=some v)(hx:lk l u=some x)(hy:lk l s=some y)(h:GoR k (R (.returned (.tuple #[v,x,y])) w) z):GoR (k+1) (At ⟨N,[]⟩ .ret (bodyPost P fn R) l w) z:=.s (Vo hr hv hx hy) h
theorem gR0(hr:fn.results=#[])(h:GoR k (R (.returned (.tuple #[])) w) z):GoR (k+1) (At ⟨N,[]⟩ .ret (bodyPost P fn R) l w) z:=.s (Vp hr) h
end
theorem Gp (n : Nat) {p q : Prop} (h : GoR n p q := by
  repeat first
    | exact .z
    | with_reducible apply gA1
    | with_reducible apply gC1
    | with_reducible apply gC2
    | with_reducible apply gL0
    | ((with_reducible apply gL3); exact rfl; exact rfl; exact rfl; exact rfl)
    | ((with_reducible apply gC3); exact rfl)
    | ((with_reducible apply gC4); exact rfl)
    | with_reducible apply gC5
    | with_reducible apply gC6
    | with_reducible apply gC7
    | with_reducible apply gC8
    | with_reducible apply gA2
    | with_reducible apply gA3
    | with_reducible apply gA4
    | with_reducible apply gA5
    | with_reducible apply gA6
    | with_reducible apply gX0
    | ((with_reducible apply gX3); exact rfl; exact rfl; exact rfl; exact rfl; exact rfl; exact rfl)
    | ((first
        | with_reducible apply gV1
        | ((with_reducible apply gV2); exact rfl; exact rfl)
        | ((with_reducible apply gV3); exact rfl; exact rfl)
        | ((with_reducible apply gV4); exact rfl; exact rfl; exact rfl; exact rfl))
       (first
        | exact SQ rfl
        | exact TV rfl
        | exact UE rfl rfl
        | exact TW rfl rfl
        | exact TX rfl rfl
        | exact S7 rfl
        | exact UX rfl
        | exact Vz rfl
        | exact Tx rfl rfl (by omega)
        | exact TK rfl rfl (by omega)
        | (apply VH; exact rfl; apply rE; assumption; exact rfl)
        | exact TM rfl (fun H hH => rE hH rfl)
        | exact TM rfl (fun H hH => rE hH.1 rfl)
        | exact TM rfl (fun H hH => rE hH.2 rfl)
        | exact TM rfl (fun H hH => rE hH.1.1 rfl)
        | exact TM rfl (fun H hH => rE hH.2.1 rfl)
        | exact TM rfl (fun H hH => rE hH.2.2 rfl)
        | exact TM rfl (fun H hH => rE hH.2.2.1 rfl))
       exact rfl)
    | ((with_reducible apply gR1); exact rfl; exact rfl)
    | ((with_reducible apply gR2); exact rfl; exact rfl; exact rfl)
    | ((with_reducible apply gR3); exact rfl; exact rfl; exact rfl; exact rfl)
    | ((with_reducible apply gR0); exact rfl)) : GoR n p q := h
theorem Gz(n:Nat){p q:Prop}(k:q)(h:GoR n p q:=by exact Gp _):p:=h.run k
section
variable {P:Program}{N:Nt}{Q:Exit→Act→World→Prop}{l:SF}{w:World}{ops:Array Oper}{rest:List Oper}{d i n:Nat}{ty:TypeId}{pos:String}{aft:Array Edge}{op:Op}{CH:Array Obj→Prop}{effs r:List Nat}{K0:Act→World→Prop}{p:Prop}[Decidable p]
theorem fK(m:Nat){z:Prop}(h1:p→Sl P N ops Q rest ((d,.bool true)::l) w)(h2:¬ p→Sl P N ops Q rest ((d,.bool false)::l) w)(hg:GoR m z (Sl P N ops Q (⟨some d,op,ty,pos,aft,none⟩::rest) l w):=by exact Gp _)(hv:Cm P N (· = w.heap) l ⟨some d,op,ty,pos,aft,none⟩ (.bool (decide p)):=by first|exact TI rfl rfl|exact T6 rfl rfl|exact Ty rfl rfl|exact Un rfl rfl|exact TR rfl rfl|exact T5 rfl rfl|exact Tz rfl rfl|exact T0 rfl rfl)(hd:Nat.blt d N.n=true:=by rfl):z:=hg.run (Tl hv hd h1 h2)
theorem fW(m:Nat){z:Prop}{j s:Nat}{b:Bool}(h1:p→Sl P N ops Q rest ((d,.bool true)::l) w)(h2:¬ p→Sl P N ops Q rest ((d,.bool false)::l) w)(hg:GoR m z (Sl P N ops Q (⟨some d,op,ty,pos,aft,some (j,b)⟩::rest) l w):=by exact Gp _)(hj:(ops[j]?).bind (·.dst)=some s:=by rfl)(hs:lk l s=some (.bool b):=by rfl)(hv:Cm P N (· = w.heap) l ⟨some d,op,ty,pos,aft,some (j,b)⟩ (.bool (decide p)):=by first|exact TI rfl rfl|exact T6 rfl rfl|exact Ty rfl rfl|exact Un rfl rfl|exact TR rfl rfl|exact T5 rfl rfl|exact Tz rfl rfl|exact T0 rfl rfl)(hd:Nat.blt d N.n=true:=by rfl):z:=hg.run (Ta hj hs hv hd h1 h2)
theorem xK(m:Nat){z:Prop}(h1:p→Sx P N ops n CH effs K0 r ((d,.bool true)::l) w)(h2:¬ p→Sx P N ops n CH effs K0 r ((d,.bool false)::l) w)(hg:GoR m z (Sx P N ops n CH effs K0 (i::r) l w):=by exact Gp _)(hi:ops[i]?=some ⟨some d,op,ty,pos,aft,none⟩:=by rfl)(he:effs.contains i=false:=by rfl)(hv:Cm P N CH l ⟨some d,op,ty,pos,aft,none⟩ (.bool (decide p)):=by first|exact TI rfl rfl|exact T6 rfl rfl|exact Ty rfl rfl|exact Un rfl rfl|exact TR rfl rfl|exact T5 rfl rfl|exact Tz rfl rfl|exact T0 rfl rfl)(hd:Nat.blt d N.n=true:=by rfl):z:=hg.run (Vx hi he hv hd h1 h2)
theorem xW(m:Nat){z:Prop}{j s:Nat}{b:Bool}(h1:p→Sx P N ops n CH effs K0 r ((d,.bool true)::l) w)(h2:¬ p→Sx P N ops n CH effs K0 r ((d,.bool false)::l) w)(hg:GoR m z (Sx P N ops n CH effs K0 (i::r) l w):=by exact Gp _)(hi:ops[i]?=some ⟨some d,op,ty,pos,aft,some (j,b)⟩:=by rfl)(he:effs.contains i=false:=by rfl)(hj:(ops[j]?).bind (·.dst)=some s:=by rfl)(hs:lk l s=some (.bool b):=by rfl)(hv:Cm P N CH l ⟨some d,op,ty,pos,aft,some (j,b)⟩ (.bool (decide p)):=by first|exact TI rfl rfl|exact T6 rfl rfl|exact Ty rfl rfl|exact Un rfl rfl|exact TR rfl rfl|exact T5 rfl rfl|exact Tz rfl rfl|exact T0 rfl rfl)(hd:Nat.blt d N.n=true:=by rfl):z:=hg.run (TT hi he hj hs hv hd h1 h2)
end
theorem cS{P:Program}{f:FuncId}{fn:Func}{c:Code}{args:List Value}{w:World}{R:Ending→World→Prop}(N:Nat)(l:SF)(hf:P.funcs[f]?=some fn)(h:Sc P ⟨N,[]⟩ c (bodyPost P fn R) l w)(hb:fn.body=some c:=by rfl)(hN:fn.ntmps=N:=by rfl)(hle:Nat.ble args.length N=true:=by rfl)(hl:Sub l ((List.range args.length).zip args):=by repeat first|exact trivial|refine⟨rfl,?_⟩):Calls P f args.toArray w R:=DD N l hf hb hN hle (tK hl) h
section
variable {P:Program}{N:Nt}{Q:Exit→Act→World→Prop}{l:SF}{w:World}{ops:Array Oper}{rest:List Oper}{d i n:Nat}{ty:TypeId}{pos:String}{aft:Array Edge}{op:Op}{v:Value}{CH:Array Obj→Prop}{effs r:List Nat}{K0:Act→World→Prop}
theorem cA(m:Nat){z:Prop}{f:FuncId}{xs:List Operand}{vs:List Value}{ts:Array TypeId}(hf:fnB P f=true){R:Value→World→Prop}(hc:Calls P f vs.toArray w (Ret R))(h:∀ v w',R v w'→Sl P N ops Q rest ((d,v)::l) w')(hg:GoR m z (Sl P N ops Q (⟨some d,.call ⟨.value (.func f),xs.toArray,ts⟩,ty,pos,aft,none⟩::rest) l w):=by exact Gp _)(hx:sD l xs=some vs:=by rfl)(hd:Nat.blt d N.n=true:=by rfl):z:=hg.run (SJ hf hx hc hd h)
theorem cL(hv:Cm P N (· = w.heap) l ⟨some d,op,ty,pos,aft,none⟩ v)(h:Sl P N ops Q rest ((d,v)::l) w)(hd:Nat.blt d N.n=true:=by rfl):Sl P N ops Q (⟨some d,op,ty,pos,aft,none⟩::rest) l w:=T8 hv hd h
theorem cW{j s:Nat}{b:Bool}(hv:Cm P N (· = w.heap) l ⟨some d,op,ty,pos,aft,some (j,b)⟩ v)(h:Sl P N ops Q rest ((d,v)::l) w)(hj:(ops[j]?).bind (·.dst)=some s:=by rfl)(hs:lk l s=some (.bool b):=by rfl)(hd:Nat.blt d N.n=true:=by rfl):Sl P N ops Q (⟨some d,op,ty,pos,aft,some (j,b)⟩::rest) l w:=T9 hj hs hv hd h
theorem xC(hi:ops[i]?=some ⟨some d,op,ty,pos,aft,none⟩)(hv:Cm P N CH l ⟨some d,op,ty,pos,aft,none⟩ v)(h:Sx P N ops n CH effs K0 r ((d,v)::l) w)(he:effs.contains i=false:=by rfl)(hd:Nat.blt d N.n=true:=by rfl):Sx P N ops n CH effs K0 (i::r) l w:=Ua hi he hv hd h
theorem xV{j s:Nat}{b:Bool}(hi:ops[i]?=some ⟨some d,op,ty,pos,aft,some (j,b)⟩)(hv:Cm P N CH l ⟨some d,op,ty,pos,aft,some (j,b)⟩ v)(h:Sx P N ops n CH effs K0 r ((d,v)::l) w)(he:effs.contains i=false:=by rfl)(hj:(ops[j]?).bind (·.dst)=some s:=by rfl)(hs:lk l s=some (.bool b):=by rfl)(hd:Nat.blt d N.n=true:=by rfl):Sx P N ops n CH effs K0 (i::r) l w:=Ub hi he hj hs hv hd h
theorem aW{e:Exit}(l':SF)(h:At N e Q l' w)(hs:Sub l' l:=by repeat first|exact trivial|refine⟨rfl,?_⟩):At N e Q l w:=Vl l' hs h
end
theorem aA.tw{S:Nat→Prop}{w w1 w2:World}{y:Nat}(h:aA S w w1)(g:aA (· = y) w1 w2)(hy:w.heap.size≤y:=by first|omega|(dsimp only;omega)):aA S w w2:=h.Wo g (fun k hk=>.inr (by have e:k=y:=hk;omega))
abbrev iV(x:Int):Value:=.int .i64 x
section
variable {N:Nt}{l:SF}{w:World}{Q:Exit→Act→World→Prop}{β:Type}{L:β→SF}{J:β→World→Prop}{μ:β→Nat}{b:β}
theorem aG(b':β)(hJ:J b' w)(hm:μ b'<μ b)(hl:Sub (L b') l:=by repeat first|exact trivial|refine⟨rfl,?_⟩):At N .normal (Exit.then (K8 N L J μ b) Q) l w:=S9 b' hl hJ hm
theorem aC(b:β)(hJ:J b w)(hl:Sub (L b) l:=by repeat first|exact trivial|refine⟨rfl,?_⟩):At N .normal (Exit.then (fun a w=>∃ b,bQ N (L b) a∧J b w) Q) l w:=Tn b hl hJ
end
abbrev By:=List UInt8
abbrev pT(p:Nat):Value:=.pointer (some ⟨p,0,none⟩)
abbrev sN:Value:=.slice none 0 0
def places(P:Program)(t:TypeId):Option (List (Nat×Nat)):=
 match P.underlying t with
|some (.struct fs)=>fs.toList.mapM fun f=>(P.info? f.type).map fun i=>(f.offset,i.size)
|_=>none
theorem lR{P:Program}{w:World}:∀ (fs:List Field) (pl:List (Nat×Nat)),(fs.mapM fun f=>(P.info? f.type).map fun i=>(f.offset,i.size))=some pl →
 (fs.mapM fun(f:Field)=>(do pure (f.offset,←sizeOf f.type):Sem (Nat×Nat))).run P w=.ok pl w
|[],pl,h=>by simp at h;subst h;simp
|f::r,pl,h=>by
   simp only[YZ,Option.bind_eq_bind,Option.bind_eq_some_iff,WR,Option.pure_def,Option.some.injEq] at h;obtain⟨p,⟨i,hi,rfl⟩,ps,hps,rfl⟩:=h;have ih:=lR (w:=w) r ps hps;simp[YZ,sizeOf,typeInfo,hi];simp[sizeOf,typeInfo] at ih;rw[ih];rfl
def evPs(l:SF):List (Nat×Operand)→Option (List (Nat×Value))
|[]=>some []
|(i,x)::r=>match evL l x,evPs l r with
  |some v,some vs=>some ((i,v)::vs)
  |_,_=>none
theorem bQ.evPs{N:Nt}{l:SF}{a:Act}(h:bQ N l a):∀ {xs:List (Nat×Operand)} {vs:List (Nat×Value)},Go.Proofs.YthmmmagklhiiiaaGreatDoor.evPs l xs=some vs→xs.map (fun p=>(p.1,a.eval p.2))=vs
|[],vs,e=>by simp[Go.Proofs.YthmmmagklhiiiaaGreatDoor.evPs] at e;simp[e]
|(i,x)::r,vs,e=>by
   unfold Go.Proofs.YthmmmagklhiiiaaGreatDoor.evPs at e
   split at e
   · rename_i v us h1 h2
     cases e;simp[h.ev h1,h.evPs h2]
   ·cases e
section
variable {P:Program}{N:Nt}{Q:Exit→Act→World→Prop}{l:SF}{w:World}{ops:Array Oper}{rest:List Oper}
variable {op:Op}{ty:TypeId}{pos:String}{aft:Array Edge}{d:Nat}{v:Value}{CH:Array Obj→Prop}
variable {x y:Operand}{t t':TypeId}{g:Option (Nat×Bool)}{dd:Option Nat}
theorem TQ{parts:List (Nat×Operand)}{vs:List (Nat×Value)}{pl:List (Nat×Nat)}{zc cs:Array Value}(hp:places P t=some pl)(hz:(P.info? t).map (fun i=>i.zero.map (·.cells))=some (some zc))
 (hx:evPs l parts=some vs)(hf:Instr.fill (fun i=>pl.toArray[i]?) zc vs=some cs):Cm P N CH l ⟨dd,.build t parts.toArray,ty,pos,aft,g⟩ (.agg cs):=fun a w ha _=>by
 unfold places at hp
 split at hp
 · rename_i fs hu
   obtain⟨i,hi,h1⟩:=WR.1 hz;obtain⟨z,hz',rfl⟩:=WR.1 h1;have hm:=lR (P:=P) (w:=w) fs.toList pl hp;have hm':(fs.mapM fun(f:Field)=>(do pure (f.offset,←sizeOf f.type):Sem (Nat×Nat))).run P w=.ok pl.toArray w:=by
    rw[←Array.toArray_toList (xs:=fs),List.mapM_toArray];simp only[Sem.run_map,hm,Result.andThen_ok]
   have hv:=ha.evPs hx;simp only[execOp,Instr.build,Sem.run_bind,zeroValue,typeInfo,run_program,Result.andThen_ok,hi,hz',run_underlying hu,Sem.run_pure,hm',Zc,hv];rw[hf];simp
 ·cases hp
theorem bU {parts:List (Nat×Operand)} {vs:List (Nat×Value)} {pl:List (Nat×Nat)} {zc:Array Value} (cs:List Value) (hp:places P t=some pl) (hz:(P.info? t).map (fun i=>i.zero.map (·.cells))=some (some zc)) (hx:evPs l parts=some vs:=by rfl) (hf:Instr.fill (fun i=>pl.toArray[i]?) zc vs=some cs.toArray:=by kernel_rfl):Cm P N CH l ⟨dd,.build t parts.toArray,ty,pos,aft,g⟩ (.agg cs.toArray):=TQ hp hz hx hf
theorem Ti{e:TypeId}{size bytes:Nat}(ht:aZ P t e size bytes){ao:Option Addr}{n c:Nat}(hx:evL l x=some (.slice ao n c))(hy:evL l y=some sN):Cm P N CH l ⟨dd,.binOp .eql t x y t',ty,pos,aft,g⟩ (.bool ao.isNone):=fun b w ha _=>by
 simp only[execOp,ha.ev hx,ha.ev hy];have:=Lib.run_eql_slice_nil w t e ao n c 0 0 ht.und;cases ao<;>simp[eqGuard] at this ⊢<;>simp[this]
theorem UR{α:Type}(enc:α→Value){e:TypeId}(z0:α){bytes:Nat}(ht:aZ P t e 1 bytes)(hz:(P.info? e).map (·.zero)=some (some (enc z0)))(h1:(enc z0).oneCell'=true){k k':IntKind}{n m:Int}
 (hx:evL l x=some (.int k n))(hy:evL l y=some (.int k' m))(h0:0≤n)(hnm:n≤m)(hn:(bytes:Int)*m≤281474976710656)(hm:m≤9223372036854775807)(hd:Xb d N.n=true)
 (h:∀ w',Own enc e w'.heap (some ⟨w.heap.size,0,none⟩) m.toNat (W4 n.toNat z0)→w'.heap.size=w.heap.size+1→aA nob w w'→Sl P N ops Q rest ((d,.slice (some ⟨w.heap.size,0,none⟩) n.toNat m.toNat)::l) w') :
 Sl P N ops Q (⟨some d,.makeSlice t x y,ty,pos,aft,none⟩::rest) l w:=by
 obtain⟨i,z,hi,hz1,hzc,h2,h3⟩:=ht.parts;have hzz:z=enc z0:=by rw[hi] at hz;simp[hz1] at hz;exact hz
 subst hzz;have hc:(enc z0).cells=#[enc z0]:=by cases he:enc z0<;>simp_all [Value.cells,Value.oneCell']
 have hr:=run_make (P:=P) w t e i (enc z0) ht.und hi hz1 k k' n m h0 hnm (by rw[h3];exact hn) hm;have hmc:madeCells (enc z0).cells (m.toNat*i.size)=(W4 m.toNat (enc z0)).toArray:=by
  rw[hc,h2,Nat.mul_one];apply Array.ext';rw[toList_madeCells_one]
 rw[hmc] at hr;refine Tk (w':=w.alloc (.cells (W4 m.toNat (enc z0)).toArray e)) (fun a ha=>?_) hd (h _ ?_ (by simp) (aA.alloc _ _ _))
 ·simp only[execOp,ha.ev hx,ha.ev hy,Sem.run_bind,hr,Result.andThen_ok,Sem.run_pure]
 · refine .inr ⟨w.heap.size,_,rfl,heap_alloc_new w _,by simp;omega,by unfold maxLen;omega,by simp,?_⟩
   simp;omega
theorem Own.set{α:Type}{enc:α→Value}{e:TypeId}{H H':Array Obj}{ao:Option Addr}{cap:Nat}{xs:List α}(h:Own enc e H ao cap xs){a:Addr}(ha:ao=some a){i:Nat}{u:α}{cur:Array Value}(hg:H[a.block]?=some (.cells cur e (0,0)))
 (hg':H'[a.block]?=some (.cells (cur.setIfInBounds i (enc u)) e (0,0))):Own enc e H' ao cap (xs.set i u):=by
 rcases h with⟨rfl,_⟩|⟨g,cur',rfl,hg2,h1,h2,h3,h4⟩
 ·cases ha
 · cases ha
   rw[hg] at hg2;cases hg2;refine .inr ⟨g,_,rfl,hg',by simpa using h1,h2,by simpa using h3,?_⟩;simp only[List.length_set,Array.toList_setIfInBounds,List.map_set];rw[List.take_set,h4]
theorem Tm{α:Type}{enc:α→Value}(henc:∀ x,(enc x).oneCell'=true)(ht:fS P t=true){e:TypeId}{ao:Option Addr}{cap:Nat}{xs:List α}{z:Int}{u:α}(hx:evL l x=some (.pointer (some (adr ao z.toNat))))(hy:evL l y=some (enc u))
 (ho:Own enc e w.heap ao cap xs)(hz:0≤z∧z<xs.length)
 (h:∀ w',Own enc e w'.heap ao cap (xs.set z.toNat u)→w'.heap.size=w.heap.size→aA (blk ao) w w'→Sl P N ops Q rest l w') :
 Sl P N ops Q (⟨none,.store t x y,ty,pos,aft,none⟩::rest) l w:=by
 have ho2:=ho;rcases ho with⟨rfl,_,rfl⟩|⟨g,cur,rfl,hg,h1,h2,h3,h4⟩
 ·simp at hz;omega
 · have hi:z.toNat<cur.toList.length:=by simp[h3];omega
   have e1:adr (some (⟨g,0,none⟩:Addr)) z.toNat=⟨g,z.toNat,none⟩:=by
    show (⟨g,0,none⟩:Addr).add _=_;rw[Addr.add_lit,Xp]
   rw[e1] at hx;refine SV (cur:=cur.toList) (T:=e) ht hx hy (henc u) (by simpa using hg) (by simpa[XP] using hi) ?_;intro w' hw hs hf;refine h w' (Own.set ho2 (i:=z.toNat) rfl hg ?_) hs (hf.mono (fun k hk=>⟨_,rfl,hk.symm⟩));rw[hw];congr 2;apply Array.ext';simp
end
section
variable {P:Program}{N:Nt}{Q:Exit→Act→World→Prop}{l:SF}{w:World}{ops:Array Oper}{rest:List Oper}
variable {op:Op}{ty:TypeId}{pos:String}{aft:Array Edge}{d:Nat}{v:Value}{CH:Array Obj→Prop}
variable {x y:Operand}{t t':TypeId}{g:Option (Nat×Bool)}{dd:Option Nat}{k k':IntKind}{m n:Int}
theorem UH(hx:evL l x=some (iV m))(hy:evL l y=some (.int k' n))(hn:0≤n∧n≤64):Cm P N CH l ⟨dd,.binOp .shr t x y t',ty,pos,aft,g⟩ (iV (m/2 ^ n.toNat)):=fun a w ha _=>by
 have h1:¬ (n<0):=by omega
 have h2:min n.toNat 64=n.toNat:=by omega
 have h3:m.fdiv (2 ^ n.toNat)=m/2 ^ n.toNat:=Y2 _ (Int.pow_nonneg (by decide));have h4:(Y9 .shr .i64 m k' n).run P w=.ok (iV (m/2 ^ n.toNat)) w:=by
  unfold Y9;rw[Wt h1];show (pure (Value.int .i64 (m.fdiv (2 ^ min n.toNat 64))):Sem Value).run P w=_;rw[h2,h3];rfl
 simp only[execOp,ha.ev hx,ha.ev hy,eqGuard,binOp,Sem.run_bind];simp
theorem VA(hx:evL l x=some (iV m))(hy:evL l y=some (.int k' n))(hn:0≤n∧n≤64):Cm P N CH l ⟨dd,.binOp .shl t x y t',ty,pos,aft,g⟩ (iV (IntKind.i64.wrap (m*2 ^ n.toNat))):=fun a w ha _=>by
 have h1:¬ (n<0):=by omega
 have h2:min n.toNat 64=n.toNat:=by omega
 have h4:(Y9 .shl .i64 m k' n).run P w=.ok (iV (IntKind.i64.wrap (m*2 ^ n.toNat))) w:=by
  unfold Y9;rw[Wt h1];show (pure (Value.int .i64 (IntKind.i64.wrap (m*2 ^ min n.toNat 64))):Sem Value).run P w=_;rw[h2];rfl
 simp only[execOp,ha.ev hx,ha.ev hy,eqGuard,binOp,Sem.run_bind];simp
theorem U6(hx:evL l x=some (iV m))(hy:evL l y=some (.int k' n))(hn:0≤n∧n≤64)(hb : -9223372036854775808≤m*2 ^ n.toNat∧m*2 ^ n.toNat≤9223372036854775807) :
 Cm P N CH l ⟨dd,.binOp .shl t x y t',ty,pos,aft,g⟩ (iV (m*2 ^ n.toNat)):=by
 have:=@VA P N l ty pos aft CH x y t t' g dd k' m n hx hy hn;rwa[dC hb] at this
theorem DF{a:Nat}(h:a<2 ^ 63):(BitVec.ofInt 64 (a:Int)).toNat=a:=by
 simp;omega
theorem VI{a b:Nat}(hx:evL l x=some (iV a))(hy:evL l y=some (iV b))(ha:a<2 ^ 63)(hb:b<2 ^ 63):Cm P N CH l ⟨dd,.binOp .or t x y t',ty,pos,aft,g⟩ (iV ((a ||| b:Nat):Int)):=fun c w hc _=>by
 have h1:(a ||| b)<2 ^ 63:=Nat.or_lt_two_pow ha hb;have h2:(BitVec.ofInt 64 (a:Int) ||| BitVec.ofInt 64 (b:Int)).toNat=a ||| b:=by
  rw[BitVec.toNat_or,DF ha,DF hb]
 have h3:(Op.intBits .or .i64 (a:Int) (b:Int)).run P w=.ok (iV ((a ||| b:Nat):Int)) w:=by
  show (pure (Value.int .i64 (IntKind.i64.wrap ((BitVec.ofInt 64 (a:Int) ||| BitVec.ofInt 64 (b:Int)).toNat:Int))):Sem Value).run P w=_;rw[h2,dC (by omega)];rfl
 simp[execOp,hc.ev hx,hc.ev hy,binOp,eqGuard];rw[h3];rfl
theorem Us{a b:By}(hx:evL l x=some (.string (bs a)))(hy:evL l y=some (.string (bs b))):Cm P N CH l ⟨dd,.binOp .lss t x y t',ty,pos,aft,g⟩ (.bool (WU a b)):=fun c w ha _=>by
 simp[execOp,ha.ev hx,ha.ev hy,eqGuard,binOp,YP,fR]
theorem Ut{a b:By}(hx:evL l x=some (.string (bs a)))(hy:evL l y=some (.string (bs b))):Cm P N CH l ⟨dd,.binOp .leq t x y t',ty,pos,aft,g⟩ (.bool (WU a b || a == b)):=fun c w ha _=>by
 simp[execOp,ha.ev hx,ha.ev hy,eqGuard,binOp,YP,fR]
theorem Uu{a b:By}(hx:evL l x=some (.string (bs a)))(hy:evL l y=some (.string (bs b))):Cm P N CH l ⟨dd,.binOp .gtr t x y t',ty,pos,aft,g⟩ (.bool (!(WU a b || a == b))):=fun c w ha _=>by
 simp[execOp,ha.ev hx,ha.ev hy,eqGuard,binOp,YP,fR]
theorem U7{a b:By}(hx:evL l x=some (.string (bs a)))(hy:evL l y=some (.string (bs b))):Cm P N CH l ⟨dd,.binOp .geq t x y t',ty,pos,aft,g⟩ (.bool (!WU a b)):=fun c w ha _=>by
 simp[execOp,ha.ev hx,ha.ev hy,eqGuard,binOp,YP,fR]
theorem Te(ht:P.underlying t=some .string){s:By}(hx:evL l x=some (.string (bs s))) :
 Cm P N CH l ⟨dd,.call ⟨.builtin .len,#[x],#[t]⟩,ty,pos,aft,g⟩ (iV s.length):=by
 have:=@Vt P N l ty pos aft CH x t g dd ht (bs s) hx;rwa[iQ] at this
theorem T2(ht:P.underlying t=some .string){s:By}(hx:evL l x=some (.string (bs s)))(hy:evL l y=some (.int k n))(hn:0≤n∧n<s.length) :
 Cm P N CH l ⟨dd,.index t x y,ty,pos,aft,g⟩ (b8 (s.getD n.toNat 0)):=fun c w ha _=>by
 have h1:n.toNat<s.length:=by omega
 have h2:n.toNat<(bs s).size:=by rw[iQ];exact h1
 have h3:(bs s)[n.toNat]?=some (s.getD n.toNat 0):=by
  rw[getElem?_pos (bs s) n.toNat h2];have:(bs s)[n.toNat]=s[n.toNat]:=rfl;rw[this,WI,Wv h1];rfl
 simp[execOp,ha.ev hx,ha.ev hy,Instr.index,asIntOf,run_underlying ht,hn.1,h3,b8]
theorem U8{a b:By}(hx:evL l x=some (.string (bs a)))(hy:evL l y=some (.string (bs b)))(hl:a.length+b.length≤9223372036854775807):Cm P N CH l ⟨dd,.binOp .add t x y t',ty,pos,aft,g⟩ (.string (bs (a++b))):=fun c w ha _=>by
 have h1:bs a++bs b=bs (a++b):=by
  apply ByteArray.ext;simp[bs,ByteArray.data_append]
 have h2:¬ (((bs a).size+(bs b).size:Nat):Int) > IntKind.i64.max:=by
  rw[iQ,iQ];show ¬ (_ > (9223372036854775807:Int));omega
 simp only[execOp,ha.ev hx,ha.ev hy,binOp,YP,Wt h2];simp[eqGuard,h1]
structure IbT (P:Program) (f:FuncId):Prop where
 fn : ∃ fn, P.funcs[f]? = some fn ∧ (fn.name == "runtime.NumGoroutine") = false ∧ fn.body.isNone = true ∧ Extern.findNext fn = none ∧ Extern.find fn = some Extern.BytealgIndexByte.indexByte
theorem VT {P : Program} {f : FuncId} {fn : Func} (h0 : P.funcs[f]? = some fn) (h1 : (fn.name == "runtime.NumGoroutine") = false) (h2 : fn.body.isNone = true) (h3 : Extern.findNext fn = none) (h4 : Extern.find fn = some Extern.BytealgIndexByte.indexByte) : IbT P f := ⟨fn, h0, h1, h2, h3, h4⟩
theorem Up{f:FuncId}{ts:Array TypeId}(hf:IbT P f){s:By}{c:Int}(hx:evL l x=some (.string (bs s)))(hy:evL l y=some (.int .u8 c)) :
 Cm P N CH l ⟨dd,.call ⟨.value (.func f),#[x,y],ts⟩,ty,pos,aft,g⟩ (iV (Lib.indexByte s c.toNat.toUInt8)):=fun a w ha _=>by
 obtain⟨fn,h0,h1,h2,h3,h4⟩:=hf;have hr:=run_callFunc_extern h0 h1 h2 h3 h4 #[.string (bs s),.int .u8 c] w;rw[Lib.run_indexByteString] at hr;simp only[Result.andThen_ok] at hr;rw[←ha.ev hx,←ha.ev hy] at hr;simp[execOp,resolve,Act.eval,Deferred.ofValue,invoke] at hr ⊢;rw[hr];rfl
theorem oH(s:By)(c:UInt8):Lib.indexByte s c<0↔c∉s:=by
 induction s with
|nil=>simp[Lib.indexByte]
|cons b r ih=>
   have hge:=Lib.indexByte_ge r c;unfold Lib.indexByte;by_cases h:b=c
   ·simp[h]
   · simp only[beq_iff_eq,h,if_false,W5,not_or]
     split
     · rename_i h1
       rw[h1] at ih;have:=ih.1 (by decide);exact⟨fun _=>⟨fun e=>h e.symm,this⟩,fun _=>by decide⟩
     · rename_i h1
       constructor
       ·intro h2;omega
       · intro h2
         have:=ih.2 h2.2;omega
theorem Tw(ht:P.underlying t=some .bool){a b:Bool}(hx:evL l x=some (.bool a))(hy:evL l y=some (.bool b)):Cm P N CH l ⟨dd,.binOp .eql t x y t',ty,pos,aft,g⟩ (.bool (a == b)):=fun c w ha _=>by
 simp[execOp,ha.ev hx,ha.ev hy,eqGuard,binOp,run_equal_bool w t a b ht]
theorem UI(ht:P.underlying t=some .bool){a b:Bool}(hx:evL l x=some (.bool a))(hy:evL l y=some (.bool b)):Cm P N CH l ⟨dd,.binOp .neq t x y t',ty,pos,aft,g⟩ (.bool (a != b)):=fun c w ha _=>by
 simp[execOp,ha.ev hx,ha.ev hy,eqGuard,binOp,run_equal_bool w t a b ht,bne]
theorem UJ{e:TypeId}{size bytes:Nat}(hs:P.underlying t=some .string)(ht:aZ P t' e size bytes)(he:P.underlying e=some (.int .u8)){s:By}(hx:evL l x=some (.string (bs s)))(hl:s.length≤maxLen)(hd:Xb d N.n=true)
 (h:∀ w' cap,Vw b8 w'.heap (some ⟨w.heap.size,0,none⟩) cap s→w'.heap.size=w.heap.size+1→aA nob w w'→Sl P N ops Q rest ((d,.slice (some ⟨w.heap.size,0,none⟩) s.length cap)::l) w') :
 Sl P N ops Q (⟨some d,.convert t t' x,ty,pos,aft,none⟩::rest) l w:=by
 have hr:=Lib.run_convert_string_bytes (P:=P) w t t' e (bs s) hs ht.und he;rw[iQ] at hr;refine Tk (w':=Lib.bytesWorld w e (bs s)) (fun a ha=>?_) hd (h _ (grownCap w s.length 0 e) ⟨grownCap_ge w _ _ _,grownCap_le_maxLen w _ _ e hl,fun _=>by simp,fun i u hu=>?_⟩ (Lib.bytesWorld_size _ _ _) ?_)
 ·simp[execOp,ha.ev hx,hr]
 · have hi:i<s.length:=(Wy.1 hu).1
   have e1:adr (some (⟨w.heap.size,0,none⟩:Addr)) i=⟨w.heap.size,i,none⟩:=by
    show (⟨w.heap.size,0,none⟩:Addr).add _=_;rw[Addr.add_lit,Xp]
   rw[e1,←cell?_eq,Lib.bytesWorld_cell w e (bs s) i (by rw[iQ];exact hi)];simp[bs,hu,b8]
 ·refine⟨rfl,rfl,rfl,by rw[Lib.bytesWorld_size];omega,fun k hk _=>Lib.bytesWorld_at_old w e _ k hk⟩
theorem U9{e:TypeId}{size bytes:Nat}(ht:aZ P t e size bytes)(he:P.underlying e=some (.int .u8)){a:Nat}{cap:Nat}{xs:By}{cur:Array Value}(hx:evL l x=some (.slice (some ⟨a,0,none⟩) xs.length cap))
 (hg:w.heap[a]?=some (.cells cur e (0,0)))(hv:Vw b8 w.heap (some ⟨a,0,none⟩) cap xs)(hd:Xb d N.n=true)
 (h:∀ w',Vw b8 w'.heap (some ⟨a,0,none⟩) cap xs→w'.heap.size=w.heap.size→aA (· = a) w w'→Sl P N ops Q rest ((d,.slice (some ⟨a,0,none⟩) xs.length cap)::l) w') :
 Sl P N ops Q (⟨some d,.convert t t x,ty,pos,aft,none⟩::rest) l w:=by
 have hsh:w.shape? a=some (e,cur.size):=by simp[World.shape?,hg]
 have hlt:=(WD.1 hg)
 obtain⟨hal,hge⟩:=hlt;refine Tk (w':=w.freeze ⟨a,cur.size,none⟩ 1) (fun c hc=>?_) hd (h _ ⟨hv.le,hv.max,hv.non,fun i u hu=>?_⟩ ?_ ?_)
 ·simp[execOp,hc.ev hx,convert,run_underlying ht.und,run_underlying he,markStringish,hsh]
 · have h1:=hv.get i u hu
   have e1:adr (some (⟨a,0,none⟩:Addr)) i=⟨a,i,none⟩:=by
    show (⟨a,0,none⟩:Addr).add _=_;rw[Addr.add_lit,Xp]
   rw[e1] at h1 ⊢;have h2:(w.freeze ⟨a,cur.size,none⟩ 1).heap[a]?=some (.cells cur e (cur.size,cur.size+1)):=by
    simp[World.freeze,Ys,hg]
   unfold bH at h1 ⊢;rw[hg] at h1;rw[h2];exact h1
 ·simp[World.freeze]
 · exact⟨rfl,rfl,rfl,by simp[World.freeze],fun k hk hn=>by
    simp[World.freeze,Ys,Ne.symm hn]⟩
end
theorem DC{H:Array Obj}{a:Addr}{v:Value}(h:bH H a=some v):a.block<H.size:=by
 unfold bH at h
 split at h
 ·rename_i hb;exact(WD.1 hb).1
 ·cases h
theorem yC{w w':World}{S:Nat→Prop}{a:Addr}{v:Value}(h:bH w.heap a=some v)(f:aA S w w')(hs:¬ S a.block):bH w'.heap a=some v:=by
 have hl:=DC h;unfold bH at h ⊢;rw[f.same _ hl hs];exact h
structure VwM {α:Type}(k:Nat)(enc:α→List Value)(H:Array Obj)(ao:Option Addr)(cap:Nat)(xs:List α):Prop where
 le:xs.length≤cap
 max:cap≤maxLen
 non:xs.length≠0→ao≠none
 get:∀ i x,xs[i]?=some x→∀ j v,(enc x)[j]?=some v→bH H (adr ao (i*k+j))=some v
section
variable {α:Type}{k:Nat}{enc:α→List Value}{H:Array Obj}{ao:Option Addr}{cap:Nat}{xs:List α}
theorem VU(c:Nat)(hc:c≤maxLen):VwM k enc H ao c []:=⟨by simp,hc,by simp,by simp⟩
theorem VwM.Wq(h:VwM k enc H ao cap xs):(xs.length:Int)≤9223372036854775807:=by have:=h.le;have:=h.max;unfold maxLen at this;omega
theorem VwM.Ws{w w':World}{S:Nat→Prop}(h:VwM k enc w.heap ao cap xs)(f:aA S w w')(hs:∀ a,ao=some a→¬ S a.block):VwM k enc w'.heap ao cap xs:=by
 refine⟨h.le,h.max,h.non,fun i x hx j v hv=>yC (h.get i x hx j v hv) f ?_⟩;have hne:xs.length≠0:=by have:=(Wy.1 hx).1;omega
 cases hao:ao with
|none=>exact absurd hao (h.non hne)
|some a=>rw[nX];exact hs a hao
theorem VwM.Wr{w w':World}(h:VwM k enc w.heap ao cap xs)(f:aA nob w w'):VwM k enc w'.heap ao cap xs:=h.Ws f (fun _ _=>id)
theorem VwM.take(h:VwM k enc H ao cap xs)(n:Nat):VwM k enc H ao cap (xs.take n):=
 ⟨by have:=h.le;simp;omega,h.max,fun hn=>h.non (fun e=>hn (by have:xs=[]:=WQ e;simp[this])),fun i x hx=>h.get i x (by
  rw[Xf] at hx
  split at hx
  ·exact hx
  ·cases hx)⟩
theorem VwM.row(h:VwM k enc H ao cap xs){i:Nat}{x:α}(hx:xs[i]?=some x):∀ j v,(enc x)[j]?=some v→bH H ((adr ao (i*k)).add j)=some v:=fun j v hv=>by
 have h1:=h.get i x hx j v hv;rwa[adr,←rH] at h1
theorem VwM.rowZ(h:VwM k enc H ao cap xs){z:Int}(i:Nat)(hz:z=i){x:α}(hx:xs[i]?=some x):∀ j v,(enc x)[j]?=some v→bH H ((adr ao (z.toNat*k)).add j)=some v:=by
 subst hz;exact h.row hx
theorem VwM.lt(h:VwM k enc H ao cap xs)(hne:xs≠[])(henc:∀ x,enc x≠[]):Lt H.size ao:=fun a ha=>by
 have hl:0<xs.length:=WN.2 hne;have hq:(enc xs[0])[0]?=some ((enc xs[0])[0]'(WN.2 (henc _))):=Wv _;have h1:=DC (h.get 0 xs[0] (Wv hl) 0 _ hq);subst ha;rwa[nX] at h1
theorem VwM.cut(v:VwM k enc H ao cap xs){l h m:Nat}(hl:l≤h)(hh:h≤xs.length)(hm:h≤m)(hmc:m≤cap) :
 VwM k enc H (bG ao m l k) (m-l) ((xs.drop l).take (h-l)):=by
 refine⟨by simp;omega,by have:=v.max;omega,fun hne=>?_,fun i x hx j u hu=>?_⟩
 · have h0:xs.length≠0:=by simp at hne;omega
   have:=v.non h0;unfold bG
   split
   ·exact this
   ·cases ao<;>simp_all
 · have hi:i<h-l:=by
    have:=(Wy.1 hx).1;simp at this;omega
   have hx':xs[l+i]?=some x:=by
    rw[Xf,Wu hi,X0] at hx;exact hx
   have h1:=v.get (l+i) x hx' j u hu;rw[←h1];unfold bG;rw[Wt (by omega)];cases ao with
  |none=>exact absurd rfl (v.non (by have:=(Wy.1 hx').1;omega))
  |some a=>simp[adr,rH,Xx,Yq]
end
def bP{α:Type}(k:Nat)(enc:α→List Value)(e:TypeId)(H:Array Obj)(ao:Option Addr)(cap:Nat)(xs:List α):Prop:=
 (ao=none∧cap=0∧xs=[]) ∨
 ∃ g cur,ao=some ⟨g,0,none⟩∧H[g]?=some (.cells cur e (0,0))∧xs.length≤cap∧cap≤maxLen∧cur.size=cap*k∧cur.toList.take (xs.length*k)=xs.flatMap enc
def jY{α:Type}(k:Nat)(enc:α→List Value):Prop:=∀ x,(enc x).length=k∧∀ v∈enc x,v.oneCell'=true
theorem cE{α:Type}{k:Nat}{enc:α→List Value}(hk:∀ x,(enc x).length=k):∀ xs:List α,(xs.flatMap enc).length=xs.length*k
|[]=>by simp
|x::r=>by simp[cE hk r,hk x,Xx];omega
theorem pC{α:Type}{k:Nat}{enc:α→List Value}(hk:∀ x,(enc x).length=k):∀ (xs:List α) (i:Nat) (x:α),xs[i]?=some x→∀ j v,(enc x)[j]?=some v→(xs.flatMap enc)[i*k+j]?=some v
|[],i,x,h,j,v,hv=>by simp at h
|y::r,0,x,h,j,v,hv=>by
   simp at h;subst h;have:j<(enc y).length:=(Wy.1 hv).1;simp[XM this,hv]
|y::r,i+1,x,h,j,v,hv=>by
   have:=pC hk r i x (by simpa using h) j v hv;rw[XD,Yw (by rw[hk y];rw[Xx];omega),hk y];rw[←this];congr 1;rw[Xx];omega
theorem pB{α:Type}{k:Nat}{enc:α→List Value}(hk:∀ x,(enc x).length=k)(hk0:0<k):∀ (xs:List α) (q:Nat) (v:Value),(xs.flatMap enc)[q]?=some v→∃ x,xs[q/k]?=some x∧(enc x)[q%k]?=some v
|[],q,v,h=>by simp at h
|y::r,q,v,h=>by
   rw[XD] at h;by_cases hq:q<k
   · rw[XM (by rw[hk y];exact hq)] at h
     exact⟨y,by simp[Nat.div_eq_of_lt hq],by rwa[Za hq]⟩
   · rw[Yw (by rw[hk y];omega),hk y] at h
     obtain⟨x,h1,h2⟩:=pB hk hk0 r (q-k) v h;refine⟨x,?_,?_⟩
     ·rw[show q/k=(q-k)/k+1 from by rw[←Nat.add_div_right _ hk0,Nat.sub_add_cancel (by omega)]];simpa using h1
     ·rwa[show q%k=(q-k)%k from by rw[←Nat.add_mod_right (q-k),Nat.sub_add_cancel (by omega)]]
section
variable {α:Type}{k:Nat}{enc:α→List Value}{e:TypeId}{H:Array Obj}{ao:Option Addr}{cap:Nat}{xs:List α}
theorem VV:bP k enc e H none 0 ([]:List α):=.inl ⟨rfl,rfl,rfl⟩
theorem bP.lt(h:bP k enc e H ao cap xs):Lt H.size ao:=by
 intro a ha;rcases h with⟨rfl,_⟩|⟨g,cur,rfl,hg,_⟩
 ·cases ha
 ·cases ha;exact(WD.1 hg).1
theorem bP.Ws{w w':World}{S:Nat→Prop}(h:bP k enc e w.heap ao cap xs)(f:aA S w w')(hs:∀ a,ao=some a→¬ S a.block):bP k enc e w'.heap ao cap xs:=by
 rcases h with h|⟨g,cur,rfl,hg,r⟩
 ·exact .inl h
 ·exact .inr ⟨g,cur,rfl,f.obj hg (hs _ rfl),r⟩
theorem bP.Wr{w w':World}(h:bP k enc e w.heap ao cap xs)(f:aA nob w w'):bP k enc e w'.heap ao cap xs:=h.Ws f (fun _ _=>id)
theorem bP.vw(hk:jY k enc)(h:bP k enc e H ao cap xs):VwM k enc H ao cap xs:=by
 rcases h with⟨rfl,rfl,rfl⟩|⟨g,cur,rfl,hg,h1,h2,h3,h4⟩
 ·exact VU 0 (WG _)
 · refine⟨h1,h2,fun _=>by simp,fun i x hx j v hv=>?_⟩
   have hi:i<xs.length:=(Wy.1 hx).1;have hj:j<k:=by have:=(Wy.1 hv).1;rwa[(hk x).1] at this
   have hadd:(adr (some ⟨g,0,none⟩) (i*k+j))=⟨g,i*k+j,none⟩:=by
    show (⟨g,0,none⟩:Addr).add _=_;rw[Addr.add_lit,Xp]
   rw[hadd];simp only[bH,hg];have h5:=pC (fun x=>(hk x).1) xs i x hx j v hv;have hlt:i*k+j<xs.length*k:=by
    have:=Xh k (show i+1≤xs.length from hi);rw[Xx] at this;omega
   rw[←h4,Xf,Wu hlt] at h5;simpa using h5
end
theorem tS{α:Type}{k:Nat}{enc:α→List Value}(henc:jY k enc)(hk0:0<k){P:Program}{w:World}{t ty e:TypeId}{bytes:Nat}(ht:aZ P t e k bytes)
 {ao:Option Addr}{cap:Nat}{xs:List α}(ho:bP k enc e w.heap ao cap xs){bo:Option Addr}{bcap:Nat}{ys:List α}(hy:VwM k enc w.heap bo bcap ys)
 (hb:(xs.length+ys.length)*bytes≤140737488355328)(hm:xs.length+ys.length≤maxLen) :
 ∃ ao' cap' w',(Builtin.append_ #[t,t] ty #[.slice ao xs.length cap,.slice bo ys.length bcap]).run P w=.ok (.slice ao' (xs.length+ys.length) cap') w' ∧
  bP k enc e w'.heap ao' cap' (xs++ys)∧aA (blk ao) w w'∧(∀ a,ao'=some a→ao=some a∨w.heap.size≤a.block)∧(ao'=none→ao=none∧ys=[]):=by
 obtain⟨i,z,hi,h1,hz,h2,h3⟩:=ht.parts;have hkl:∀ x,(enc x).length=k:=fun x=>(henc x).1;have hnews1:∀ u∈ys.flatMap enc,u.oneCell'=true:=by intro u hu;obtain⟨x,_,hx⟩:=List.mem_flatMap.1 hu;exact(henc x).2 u hx
 have hsmall:xs.length+ys.length≤9223372036854775807:=by unfold maxLen at hm;omega
 by_cases hys:ys=[]
 · subst hys
   refine⟨ao,cap,w,?_,by simpa using ho,VK _ _,fun a ha=>.inl ha,fun h=>⟨h,rfl⟩⟩;exact jA ht.und hi (ho.vw henc).le
 · have hne:ys.length≠0:=fun e=>hys (WQ e)
   obtain⟨b,rfl⟩:∃ b,bo=some b:=YU.1 (hy.non hne);have hnews:∀ j u,(ys.flatMap enc)[j]?=some u→w.cell? (b.add j)=some u:=by
    intro j u hu;obtain⟨x,hx1,hx2⟩:=pB hkl hk0 ys j u hu;have:=hy.get _ x hx1 _ u hx2;rwa[Yc,Nat.div_add_mod] at this
   have hl:(ys.flatMap enc).length=ys.length*i.size:=by rw[cE hkl,h2]
   have big:∀ (old:Nat),old<xs.length+ys.length→bP k enc e (w.drew.alloc (.cells ((xs.flatMap enc).toArray++(ys.flatMap enc).toArray++Builtin.zeroCells z.cells (grownCap w (xs.length+ys.length) old e-(xs.length+ys.length))) e)).heap
    (some ⟨w.heap.size,0,none⟩) (grownCap w (xs.length+ys.length) old e) (xs++ys):=by
    intro old _;have hge:=grownCap_ge w (xs.length+ys.length) old e;refine .inr ⟨w.heap.size,_,rfl,heap_alloc_new w.drew _,by simpa using hge,grownCap_le_maxLen w _ old e hm,?_,?_⟩
    ·simp only[Array.size_append,YI,cE hkl,size_zeroCells,hz];rw[←Xx,←Xx];congr 1;omega
    · have h6:((xs++ys).flatMap enc).length=(xs++ys).length*k:=cE hkl _
      rw[Yg] at h6 ⊢;simp only[Array.toList_append];rw[Xt (by rw[h6];exact WC _)];exact WJ (by rw[h6];exact WC _)
   have hfoot:∀ (old:Nat),aA (blk ao) w (w.drew.alloc (.cells ((xs.flatMap enc).toArray++(ys.flatMap enc).toArray++Builtin.zeroCells z.cells (grownCap w (xs.length+ys.length) old e-(xs.length+ys.length))) e)):=fun old=>VM _ _ _;rcases ho with⟨rfl,rfl,rfl⟩|⟨g,cur,rfl,hg,g1,g2,g3,g4⟩
   · have hr:=run_append_nil (P:=P) w t ty e i z ht.und hi h1 b ys.length bcap (ys.flatMap enc) hl hnews (by omega) (by simp at hsmall;omega) (by simp at hb;rw[h3];omega)
     have hB:=big 0 (by simp;omega);have hF:=hfoot 0;simp only[W2,Xp,List.flatMap_nil,Xc,Array.empty_append] at hB hF ⊢;exact⟨_,_,_,hr,hB,hF,fun a ha=>.inr (by cases ha;exact WC _),fun h=>by cases h⟩
   · have holds:∀ j v,(xs.flatMap enc)[j]?=some v→w.cell? ((⟨g,0,none⟩:Addr).add j)=some v:=by
      intro j v hv;obtain⟨x,hx1,hx2⟩:=pB hkl hk0 xs j v hv;have:=(bP.vw henc (.inr ⟨g,cur,rfl,hg,g1,g2,g3,g4⟩:bP k enc e w.heap (some ⟨g,0,none⟩) cap xs)).get _ x hx1 _ v hx2;rwa[Yc,Nat.div_add_mod] at this
     by_cases hroom:xs.length+ys.length≤cap
     · have hmul:(xs.length+ys.length)*k≤cap*k:=Xh k hroom
       have hmul2:=hmul;rw[Xx] at hmul2;have hr:=run_append_room (P:=P) w t ty e i ht.und hi g xs.length cap cur hg b ys.length bcap (ys.flatMap enc) hl hnews hnews1 hroom (by rw[cE hkl,h2,g3];exact hmul2);have hcl:cur.toList.length=cap*k:=by simp[g3]
       have hle1:xs.length*k≤cap*k:=Xh k (by omega);have hlen1:(cur.toList.take (xs.length*k)).length=xs.length*k:=by rw[WB,hcl,Nat.min_eq_left hle1]
       refine⟨_,_,_,hr,.inr ⟨g,_,rfl,setRow_heap w g cur _ e _ hg,by simpa using hroom,g2,?_,?_⟩,?_,fun a ha=>.inl ha,fun h=>by cases h⟩
       ·rw[h2];simp only[YI,Ww,hlen1,cE hkl,WE,Array.length_toList,g3];omega
       · have h6:((xs++ys).flatMap enc).length=(xs++ys).length*k:=cE hkl _
         rw[h2,g4,Yg] at *;rw[Xt (by rw[h6];exact WC _)];exact WJ (by rw[h6];exact WC _)
       ·exact⟨rfl,rfl,rfl,by simp[World.setRow],fun k hk hn=>setRow_other w g k _ (fun e=>hn ⟨_,rfl,e.symm⟩)⟩
     · have hr:=run_append_grow (P:=P) w t ty e i z ht.und hi h1 ⟨g,0,none⟩ xs.length cap (xs.flatMap enc) (by rw[cE hkl,h2]) holds b ys.length bcap (ys.flatMap enc) hl hnews (by omega) (by omega)
        (by rw[h3];exact growslice_fits (by omega) hb)
       exact⟨_,_,_,hr,big cap (by omega),hfoot cap,fun a ha=>.inr (by cases ha;exact WC _),fun h=>by cases h⟩
def iG(P:Program)(t:TypeId)(k:Nat):Bool:=
 (match P.underlying t with|some (.struct _)|some (.array _ _)=>true|_=>false) && ((P.info? t).map (·.size) == some k)
theorem yL{P:Program}{t:TypeId}{k:Nat}(h:iG P t k=true)(w:World):(Go.isAgg t).run P w=.ok true w:=by
 simp only[iG,WW] at h;unfold Go.isAgg;cases hu:P.underlying t with
|none=>simp[hu] at h
|some d=>rw[Sem.run_bind,run_underlying hu w];cases d<;>simp_all
theorem sO{P:Program}{t:TypeId}{k:Nat}(h:iG P t k=true)(w:World):(sizeOf t).run P w=.ok k w:=by
 simp only[iG,WW,beq_iff_eq] at h;obtain⟨i,hi,h1⟩:=WR.1 h.2;simp[sizeOf,typeInfo,hi,h1]
section
variable {P:Program}{N:Nt}{Q:Exit→Act→World→Prop}{l:SF}{w:World}{ops:Array Oper}{rest:List Oper}
variable {op:Op}{ty:TypeId}{pos:String}{aft:Array Edge}{d:Nat}{v:Value}{CH:Array Obj→Prop}
variable {x y:Operand}{t t':TypeId}{g:Option (Nat×Bool)}{dd:Option Nat}
theorem TN{ad:Addr}{cs:List Value}(ht:iG P t cs.length=true)(hx:evL l x=some (.pointer (some ad)))(hc:∀ H,CH H→∀ j v,cs[j]?=some v→bH H (ad.add j)=some v) :
 Cm P N CH l ⟨dd,.load t x,ty,pos,aft,g⟩ (.agg cs.toArray):=fun a w ha hw=>by
 have h1:=hc _ hw;have hl:=run_loadCells_list (P:=P) w ad cs h1;simp only[execOp,ha.ev hx,Instr.loadAt,Instr.sureAddr,Sem.run_bind,loadVar,yL ht w,sO ht w,Result.andThen_ok,Sem.run_pure,if_true,hl]
theorem SX{H:Array Obj}{ad:Addr}{cs:List Value}(ht:iG P t cs.length=true)(hx:evL l x=some (.pointer (some ad)))(hc:∀ j v,cs[j]?=some v→bH H (ad.add j)=some v) :
 Cm P N (· = H) l ⟨dd,.load t x,ty,pos,aft,g⟩ (.agg cs.toArray):=TN ht hx (fun _ e=>by rw[e];exact hc)
theorem UY{b o:Nat}{cur vs:List Value}{T:TypeId}(ht:iG P t vs.length=true)(hx:evL l x=some (.pointer (some ⟨b,o,none⟩)))(hy:evL l y=some (.agg vs.toArray))(h1:∀ v∈vs,v.oneCell'=true)
 (hg:w.heap[b]?=some (.cells cur.toArray T (0,0)))(ho:o+vs.length≤cur.length)
 (h:∀ w',w'.heap[b]?=some (.cells (cur.take o++vs++cur.drop (o+vs.length)).toArray T (0,0))→w'.heap.size=w.heap.size→aA (· = b) w w'→Sl P N ops Q rest l w') :
 Sl P N ops Q (⟨none,.store t x y,ty,pos,aft,none⟩::rest) l w:=by
 have hst:=run_storeCells_at P b o T vs 0 cur.toArray w hg (by simpa using ho) h1;simp only[Yd] at hst;refine TL (w':=_) (fun a ha=>?_) (h (w.setRow b (cur.take o++vs++cur.drop (o+vs.length)).toArray) ?_ ?_ ?_)
 ·simp only[execOp,ha.ev hx,ha.ev hy,Instr.storeAt,Instr.sureAddr,Sem.run_bind,storeVar,sO ht w,Result.andThen_ok,Sem.run_pure,Value.cells,YI,ne_eq,not_true,if_false,hst]
 ·exact setRow_heap w b cur.toArray _ T _ hg
 ·simp[World.setRow]
 ·exact⟨rfl,rfl,rfl,by simp[World.setRow],fun k hk hn=>setRow_other w b k _ (fun e=>hn e)⟩
theorem SY{b:Nat}{cur vs:List Value}{T:TypeId}(ht:iG P t vs.length=true)(hx:evL l x=some (pT b))(hy:evL l y=some (.agg vs.toArray))(h1:∀ v∈vs,v.oneCell'=true)
 (hg:w.heap[b]?=some (.cells cur.toArray T (0,0)))(ho:vs.length=cur.length)
 (h:∀ w',w'.heap[b]?=some (.cells vs.toArray T (0,0))→w'.heap.size=w.heap.size→aA (· = b) w w'→Sl P N ops Q rest l w') :
 Sl P N ops Q (⟨none,.store t x y,ty,pos,aft,none⟩::rest) l w:=by
 refine UY ht hx hy h1 hg (by omega) (fun w' h2 h3 h4=>h w' ?_ h3 h4);rw[h2];simp[ho]
theorem sA {b:Nat} {cur vs:List Value} {T:TypeId} (hy:evL l y=some (.agg vs.toArray)) (ht:iG P t vs.length=true) (h1:∀ v∈vs,v.oneCell'=true) (hg:w.heap[b]?=some (.cells cur.toArray T (0,0))) (h:∀ w',w'.heap[b]?=some (.cells vs.toArray T (0,0))→w'.heap.size=w.heap.size→aA (· = b) w w'→Sl P N ops Q rest l w') (hx:evL l x=some (pT b):=by rfl) (ho:vs.length=cur.length:=by rfl):Sl P N ops Q (⟨none,.store t x y,ty,pos,aft,none⟩::rest) l w:=SY ht hx hy h1 hg ho h
theorem S2{α:Type}{k:Nat}{enc:α→List Value}(henc:jY k enc)(hk0:Xb 0 k=true){e:TypeId}{bytes:Nat}(ht:aZ P t e k bytes)
 {ao bo:Option Addr}{cap bcap:Nat}{xs ys:List α}(hx:evL l x=some (.slice ao xs.length cap))(hy:evL l y=some (.slice bo ys.length bcap))
 (ho:bP k enc e w.heap ao cap xs)(hv:VwM k enc w.heap bo bcap ys)
 (hb:(xs.length+ys.length)*bytes≤140737488355328)(hm:xs.length+ys.length≤maxLen)(hd:Xb d N.n=true)
 (h:∀ ao' cap' w',bP k enc e w'.heap ao' cap' (xs++ys)→aA (blk ao) w w'→(∀ a,ao'=some a→ao=some a∨w.heap.size≤a.block)→(ao'=none→ao=none∧ys=[]) →
   Sl P N ops Q rest ((d,.slice ao' (xs++ys).length cap')::l) w') :
 Sl P N ops Q (⟨some d,.call ⟨.builtin .append,#[x,y],#[t,t]⟩,ty,pos,aft,none⟩::rest) l w:=by
 obtain⟨ao',cap',w',hr,h1,h2,h3,h4⟩:=tS henc (by simpa[XP] using hk0) (ty:=ty) ht ho hv hb hm;refine Tk (w':=w') (v:=.slice ao' (xs++ys).length cap') (fun a ha=>?_) hd (h ao' cap' w' h1 h2 h3 h4);simp[execOp,ha.ev hx,ha.ev hy,resolve,invoke,builtin,hr]
theorem Tc{e:TypeId}{size bytes:Nat}(ht:aZ P t e size bytes){n:Nat}{parts:List (Nat×Operand)}{vs:List (Nat×Value)}{zc cs:Array Value}
 (hz:(P.info? e).map (fun i=>i.zero.map (·.cells))=some (some zc))(hn:Nat.ble (n*size) 16777216=true)(hn0:Xb 0 (n*size)=true)(hx:evPs l parts=some vs)
 (hf:Instr.fill (fun i=>some (i*size,size)) ((Array.range (n*size)).map (zc[· % zc.size]!)) vs=some cs)(hd:Xb d N.n=true)
 (h:∀ w',w'.heap[w.heap.size]?=some (.cells cs e (0,0))→w'.heap.size=w.heap.size+1→aA nob w w'→Sl P N ops Q rest ((d,.slice (some ⟨w.heap.size,0,none⟩) n n)::l) w') :
 Sl P N ops Q (⟨some d,.buildSlice t n parts.toArray,ty,pos,aft,none⟩::rest) l w:=by
 obtain⟨i,hi,h1⟩:=WR.1 hz;obtain⟨z,hz',rfl⟩:=WR.1 h1
 have hn' : ¬ (n * size > 2 ^ 24) := by have : n * size ≤ 16777216 := by simpa[YN] using hn
                                        show ¬ (_ > 16777216);omega
 have hn0' : ¬ (n * size = 0) := by have : 0 < n * size := by simpa[XP] using hn0
                                    omega
 refine Tk (w':=w.alloc (.cells cs e)) (fun a ha=>?_) hd (h _ (heap_alloc_new w _) (by simp) (aA.alloc _ _ _));have hv:=ha.evPs hx;simp only[execOp,Instr.buildSlice,Sem.run_bind,run_underlying ht.und,ht.size,Result.andThen_ok,Wt hn',Wt hn0',Sem.run_pure,zeroValue,typeInfo,run_program,hi,hz',Zc,hv];rw[hf];simp[newRow]
theorem bX{α:Type}{k:Nat}{enc:α→List Value}(hk:jY k enc){e:TypeId}{H:Array Obj}{g:Nat}{xs:List α}(hg:H[g]?=some (.cells (xs.flatMap enc).toArray e (0,0)))(hm:xs.length≤maxLen):bP k enc e H (some ⟨g,0,none⟩) xs.length xs:=
 .inr ⟨g,_,rfl,hg,WC _,hm,by simp[cE (fun x=>(hk x).1)],by simp;exact WJ (by rw[cE (fun x=>(hk x).1)];exact WC _)⟩
theorem GL{f:FuncId}{xs:List Operand}{vs:List Value}{ts:Array TypeId}{a:Act}(hf:fnB P f=true)(ha:bQ N l a)(hc:evL l x=some (.func (.func f) #[] #[]))(hx:sD l xs=some vs) :
 (execOp a.eval ⟨dd,.call ⟨.value x,xs.toArray,ts⟩,ty,pos,aft,g⟩).run P w=.ok (.enter f vs.toArray) w:=by
 have h1:=ha.ev hc;simp[execOp,resolve,h1,Deferred.ofValue,invoke,eJ hf];rw[←ha.evs hx]
theorem TU{f:FuncId}{xs:List Operand}{vs:List Value}{ts:Array TypeId}(hf:fnB P f=true)(hc0:evL l x=some (.func (.func f) #[] #[]))(hx:sD l xs=some vs){R:Value→World→Prop}(hc:Calls P f vs.toArray w (Ret R))(hd:Xb d N.n=true)
 (h:∀ v w',R v w'→Sl P N ops Q rest ((d,v)::l) w') :
 Sl P N ops Q (⟨some d,.call ⟨.value x,xs.toArray,ts⟩,ty,pos,aft,none⟩::rest) l w:=fun a ha=>by
 unfold wpList;rw[Wu (by simp[Region.wanted])];refine .inl ?_;unfold Oper.wp;rw[GL hf ha hc0 hx];refine hc.mono ?_;rintro e w' ⟨v,rfl,hR⟩;exact h v w' hR _ (ha.put hd v)
def okV(P:Program)(t:TypeId)(v:Value):Prop:=
 match P.underlying t,v with
|some (.int k),.int k' _=>k'=k
|some .string,.string _=>True
|some .bool,.bool _=>True
|_,_=>False
theorem tJ {P : Program} (w : World) {d d1 : Nat} (hd1 : d1 = d + 1) {xs ys : Array Value} : ∀ (fs : List Field), (∀ f ∈ fs, f.name ≠ "_" ∧ ∃ a b, xs[f.offset]? = some a ∧ ys[f.offset]? = some b ∧ okV P f.type a ∧ okV P f.type b) →
 ∃ r,(Op.eqFields d1 xs ys fs).run P w=.ok r w∧(r=true↔∀ f∈fs,xs[f.offset]?=ys[f.offset]?)
 | [],_=>⟨true,by simp [Op.eqFields],by simp⟩
 | f::fs,h=>by
   subst hd1;obtain ⟨h1,a,b,h2,h3,h4,h5⟩:=h f (by simp);obtain ⟨r,hr,hr2⟩:=tJ (d:=d) w rfl fs (fun g hg=>h g (by simp [hg]));have hag:(isAgg f.type).run P w=.ok false w:=by
    unfold isAgg okV at *;cases hu:P.underlying f.type with
    | none=>simp [hu] at h4
    | some u=>rw [Sem.run_bind,run_underlying hu w];cases u <;> simp_all
   have hpa:(part f.type xs f.offset).run P w=.ok a w:=by
    unfold part;rw [Sem.run_bind,hag];simp [h2]
   have hpb:(part f.type ys f.offset).run P w=.ok b w:=by
    unfold part;rw [Sem.run_bind,hag];simp [h3]
   have he:∃ q,(Op.equalIn (d+1) f.type a b).run P w=.ok q w∧(q=true↔a=b):=by
    unfold okV at h4 h5;cases hu:P.underlying f.type with
    | none=>simp [hu] at h4
    | some u=>
      cases u <;> simp [hu] at h4 h5 <;> cases a <;> simp at h4 <;> cases b <;> simp at h5
      case int.int.int k k1 m k2 n=>subst h4;subst h5;exact ⟨m == n,run_equalIn_int w d _ _ _ m n hu,by simp⟩
      case string.string.string m n=>exact ⟨_,run_equalIn_string w d _ m n hu,by rw [beq_iff_eq,ByteArray.toList_eq,ByteArray.toList_eq];simp [ByteArray.ext_iff]⟩
      case bool.bool.bool m n=>exact ⟨_,run_equalIn_bool w d _ m n hu,by simp⟩
   obtain ⟨q,hq,hq2⟩:=he;refine ⟨q && r,?_,?_⟩
   · unfold Op.eqFields
     rw [Wu h1];simp only [Sem.run_bind,hpa,hpb,hq,Result.andThen_ok];cases q <;> simp [hr]
   · rw [WW,hq2,hr2]
     simp [h2,h3]
theorem SP{T:TypeId}{zc:Array Value}(hz:(P.info? T).map (fun i=>i.zero.map (·.cells))=some (some zc))(hd:Xb d N.n=true)
 (h:∀ w',w'.heap[w.heap.size]?=some (.cells zc T (0,0))→w'.heap.size=w.heap.size+1→aA nob w w'→Sl P N ops Q rest ((d,pT w.heap.size)::l) w') :
 Sl P N ops Q (⟨some d,.alloc T,ty,pos,aft,none⟩::rest) l w:=by
 obtain⟨i,hi,h1⟩:=WR.1 hz;obtain⟨z,hz',rfl⟩:=WR.1 h1;refine Tk (w':=w.alloc (.cells z.cells T)) (fun a ha=>?_) hd (h _ (heap_alloc_new w _) (by simp) (aA.alloc _ _ _));simp[execOp,Instr.alloc,zeroValue,typeInfo,hi,hz',newVar,newRow]
theorem T3{b:Bool}(hx:evL l x=some (.bool b)):Cm P N CH l ⟨dd,.unOp .not t x,ty,pos,aft,g⟩ (.bool (decide (b=false))):=by
 have h:=@S3 P N l ty pos aft CH x t g dd b hx;cases b<;>exact h
theorem S6{o:Oper}{b:Bool}(h:Cm P N CH l o (.bool b)):Cm P N CH l o (.bool (decide (b=true))):=by
 have:decide (b=true)=b:=by cases b<;>rfl
 rwa[this]
end
abbrev CA(f:Nat)(xs:List Value)(W:World)(R:Value→World→Prop):Prop:=Calls Tryz.prog f xs.toArray W (Ret R)
theorem ty3:Tryz.prog.underlying 3=some (.int .i64):=by kernel_rfl
theorem is3:(Tryz.prog.underlying 3).isSome=true:=by kernel_rfl
theorem aN:fS Tryz.prog 3=true:=by kernel_rfl
instance:Sca Tryz.prog 3:=⟨aN⟩
theorem z3:(Tryz.prog.info? 3).map (·.zero)=some (some (iV 0)):=by kernel_rfl
theorem AY:fS Tryz.prog 4=true:=by kernel_rfl
instance:Sca Tryz.prog 4:=⟨AY⟩
theorem z4:(Tryz.prog.info? 4).map (·.zero)=some (some (.bool false)):=by kernel_rfl
theorem ty4:Tryz.prog.underlying 4=some .bool:=by kernel_rfl
theorem ty5:Tryz.prog.underlying 5=some (.int .u8):=by kernel_rfl
theorem is5:(Tryz.prog.underlying 5).isSome=true:=by kernel_rfl
theorem yS:fS Tryz.prog 5=true:=by kernel_rfl
instance:Sca Tryz.prog 5:=⟨yS⟩
theorem zc5:(Tryz.prog.info? 5).map (fun i=>i.zero.map (·.cells))=some (some #[.int .u8 0]):=by kernel_rfl
theorem z5:(Tryz.prog.info? 5).map (·.zero)=some (some (.int .u8 0)):=by kernel_rfl
theorem ty9:Tryz.prog.underlying 9=some .string:=by kernel_rfl
theorem fT:fS Tryz.prog 9=true:=by kernel_rfl
instance:Sca Tryz.prog 9:=⟨fT⟩
theorem zR:fS Tryz.prog 22=true:=by kernel_rfl
instance:Sca Tryz.prog 22:=⟨zR⟩
theorem aS:aZ Tryz.prog 22 37 10 136:=⟨by kernel_rfl,by kernel_rfl⟩
instance:Slt Tryz.prog 22:=⟨_,_,_,aS⟩
theorem aX:fS Tryz.prog 25=true:=by kernel_rfl
instance:Sca Tryz.prog 25:=⟨aX⟩
theorem aT:aZ Tryz.prog 25 5 1 1:=⟨by kernel_rfl,by kernel_rfl⟩
instance:Slt Tryz.prog 25:=⟨_,_,_,aT⟩
theorem OR:(Tryz.prog.info? 25).map (fun i=>i.zero.map (·.cells))=some (some #[sN]):=by kernel_rfl
theorem IE:fS Tryz.prog 26=true:=by kernel_rfl
instance:Sca Tryz.prog 26:=⟨IE⟩
theorem sZ:fS Tryz.prog 31=true:=by kernel_rfl
instance:Sca Tryz.prog 31:=⟨sZ⟩
theorem cI:aZ Tryz.prog 31 3 1 8:=⟨by kernel_rfl,by kernel_rfl⟩
instance:Slt Tryz.prog 31:=⟨_,_,_,cI⟩
theorem z31:(Tryz.prog.info? 31).map (·.zero)=some (some sN):=by kernel_rfl
theorem eW:fS Tryz.prog 32=true:=by kernel_rfl
instance:Sca Tryz.prog 32:=⟨eW⟩
theorem jK:aZ Tryz.prog 32 9 1 16:=⟨by kernel_rfl,by kernel_rfl⟩
instance:Slt Tryz.prog 32:=⟨_,_,_,jK⟩
theorem OP:(Tryz.prog.info? 34).map (fun i=>i.zero.map (·.cells))=some (some #[iV 0,iV 0,iV 0]):=by kernel_rfl
theorem tP:iG Tryz.prog 34 3=true:=by kernel_rfl
instance Ry:Fld Tryz.prog 34 0 0:=⟨by kernel_rfl⟩
instance Rx:Fld Tryz.prog 34 1 1:=⟨by kernel_rfl⟩
instance Rw:Fld Tryz.prog 34 2 2:=⟨by kernel_rfl⟩
theorem cF:fS Tryz.prog 35=true:=by kernel_rfl
instance:Sca Tryz.prog 35:=⟨cF⟩
theorem iY:aZ Tryz.prog 35 123 2 40:=⟨by kernel_rfl,by kernel_rfl⟩
instance:Slt Tryz.prog 35:=⟨_,_,_,iY⟩
theorem fF:(Tryz.prog.info? 37).map (fun i=>i.zero.map (·.cells))=some (some #[sN,iV 0,iV 0,iV 0,iV 0,iV 0,sN,.string ByteArray.empty,sN,.bool false]):=by kernel_rfl
theorem bB:iG Tryz.prog 37 10=true:=by kernel_rfl
theorem Pe:places Tryz.prog 37=some [(0,1),(1,1),(2,1),(3,3),(6,1),(7,1),(8,1),(9,1)]:=by kernel_rfl
instance uT:Fld Tryz.prog 37 0 0:=⟨by kernel_rfl⟩
instance Rv:Fld Tryz.prog 37 1 1:=⟨by kernel_rfl⟩
instance Ru:Fld Tryz.prog 37 2 2:=⟨by kernel_rfl⟩
instance Rt:Fld Tryz.prog 37 3 3:=⟨by kernel_rfl⟩
instance uS:Fld Tryz.prog 37 4 6:=⟨by kernel_rfl⟩
instance Rs:Fld Tryz.prog 37 5 7:=⟨by kernel_rfl⟩
instance nQ:Fld Tryz.prog 37 6 8:=⟨by kernel_rfl⟩
instance Rr:Fld Tryz.prog 37 7 9:=⟨by kernel_rfl⟩
theorem OZ:Tryz.prog.underlying 39=some (.int .u32):=by kernel_rfl
theorem Oi:(Tryz.prog.underlying 39).isSome=true:=by kernel_rfl
theorem ID:fS Tryz.prog 39=true:=by kernel_rfl
instance:Sca Tryz.prog 39:=⟨ID⟩
theorem QT:iG Tryz.prog 41 256=true:=by kernel_rfl
theorem tQ:(Tryz.prog.info? 44).map (fun i=>i.zero.map (·.cells))=some (some #[iV 0,iV 0,iV 0,iV 0,iV 0,iV 0,iV 0,iV 0,iV 0,iV 0]):=by kernel_rfl
theorem eF:iG Tryz.prog 44 10=true:=by kernel_rfl
theorem tC:places Tryz.prog 44=some [(0,1),(1,1),(2,1),(3,1),(4,1),(5,1),(6,1),(7,1),(8,1),(9,1)]:=by kernel_rfl
instance Rq:Fld Tryz.prog 44 0 0:=⟨by kernel_rfl⟩
instance Rp:Fld Tryz.prog 44 1 1:=⟨by kernel_rfl⟩
instance Ro:Fld Tryz.prog 44 2 2:=⟨by kernel_rfl⟩
instance Rn:Fld Tryz.prog 44 3 3:=⟨by kernel_rfl⟩
instance Rm:Fld Tryz.prog 44 4 4:=⟨by kernel_rfl⟩
instance Rl:Fld Tryz.prog 44 5 5:=⟨by kernel_rfl⟩
instance Rj:Fld Tryz.prog 44 6 6:=⟨by kernel_rfl⟩
instance Ri:Fld Tryz.prog 44 7 7:=⟨by kernel_rfl⟩
instance Rh:Fld Tryz.prog 44 8 8:=⟨by kernel_rfl⟩
instance Rg:Fld Tryz.prog 44 9 9:=⟨by kernel_rfl⟩
theorem M9:fS Tryz.prog 47=true:=by kernel_rfl
instance:Sca Tryz.prog 47:=⟨M9⟩
theorem vV:fS Tryz.prog 53=true:=by kernel_rfl
instance:Sca Tryz.prog 53:=⟨vV⟩
theorem RA:(Tryz.prog.info? 56).map (fun i=>i.zero.map (·.cells))=some (some #[.pointer none,.pointer none,.pointer none]):=by kernel_rfl
theorem Pd:places Tryz.prog 56=some [(0,1),(1,1),(2,1)]:=by kernel_rfl
instance Rf:Fld Tryz.prog 56 0 0:=⟨by kernel_rfl⟩
instance Re:Fld Tryz.prog 56 1 1:=⟨by kernel_rfl⟩
instance Rb:Fld Tryz.prog 56 2 2:=⟨by kernel_rfl⟩
theorem O7:fS Tryz.prog 58=true:=by kernel_rfl
instance:Sca Tryz.prog 58:=⟨O7⟩
theorem O6:fS Tryz.prog 59=true:=by kernel_rfl
instance:Sca Tryz.prog 59:=⟨O6⟩
theorem O5:fS Tryz.prog 60=true:=by kernel_rfl
instance:Sca Tryz.prog 60:=⟨O5⟩
theorem Rz:(Tryz.prog.info? 62).map (fun i=>i.zero.map (·.cells))=some (some #[.pointer none,.pointer none,.pointer none,sN,sN,.map none,.map none,.map none]):=by kernel_rfl
theorem Pc:places Tryz.prog 62=some [(0,3),(3,1),(4,1),(5,1),(6,1),(7,1)]:=by kernel_rfl
instance Ra:Fld Tryz.prog 62 0 0:=⟨by kernel_rfl⟩
instance Q9:Fld Tryz.prog 62 1 3:=⟨by kernel_rfl⟩
instance Q8:Fld Tryz.prog 62 2 4:=⟨by kernel_rfl⟩
instance Q7:Fld Tryz.prog 62 3 5:=⟨by kernel_rfl⟩
instance Q6:Fld Tryz.prog 62 4 6:=⟨by kernel_rfl⟩
instance Q5:Fld Tryz.prog 62 5 7:=⟨by kernel_rfl⟩
theorem sY:fS Tryz.prog 63=true:=by kernel_rfl
instance:Sca Tryz.prog 63:=⟨sY⟩
theorem vS:aZ Tryz.prog 71 25 1 24:=⟨by kernel_rfl,by kernel_rfl⟩
instance:Slt Tryz.prog 71:=⟨_,_,_,vS⟩
theorem zQ:fS Tryz.prog 72=true:=by kernel_rfl
instance:Sca Tryz.prog 72:=⟨zQ⟩
theorem NC:(Tryz.prog.info? 72).map (fun i=>i.zero.map (·.cells))=some (some #[.pointer none]):=by kernel_rfl
theorem AW:aZ Tryz.prog 73 72 1 8:=⟨by kernel_rfl,by kernel_rfl⟩
instance:Slt Tryz.prog 73:=⟨_,_,_,AW⟩
theorem HZ:(Tryz.prog.info? 88).map (fun i=>i.zero.map (·.cells))=some (some #[iV 0,iV 0,iV 0,iV 0,iV 0,iV 0,iV 0,iV 0,iV 0,iV 0,.string ByteArray.empty]):=by kernel_rfl
theorem tO:iG Tryz.prog 88 11=true:=by kernel_rfl
theorem Pb:places Tryz.prog 88=some [(0,1),(1,1),(2,1),(3,1),(4,1),(5,1),(6,1),(7,1),(8,1),(9,1),(10,1)]:=by kernel_rfl
instance Q4:Fld Tryz.prog 88 0 0:=⟨by kernel_rfl⟩
instance Q3:Fld Tryz.prog 88 1 1:=⟨by kernel_rfl⟩
instance Q2:Fld Tryz.prog 88 2 2:=⟨by kernel_rfl⟩
instance Q1:Fld Tryz.prog 88 3 3:=⟨by kernel_rfl⟩
instance Q0:Fld Tryz.prog 88 4 4:=⟨by kernel_rfl⟩
instance QZ:Fld Tryz.prog 88 5 5:=⟨by kernel_rfl⟩
instance QY:Fld Tryz.prog 88 6 6:=⟨by kernel_rfl⟩
instance QX:Fld Tryz.prog 88 7 7:=⟨by kernel_rfl⟩
instance QW:Fld Tryz.prog 88 8 8:=⟨by kernel_rfl⟩
instance QV:Fld Tryz.prog 88 9 9:=⟨by kernel_rfl⟩
instance Qt:Fld Tryz.prog 88 10 10:=⟨by kernel_rfl⟩
theorem H9:Tryz.prog.underlying 97=some (.int .u64):=by kernel_rfl
theorem JE:(Tryz.prog.underlying 97).isSome=true:=by kernel_rfl
instance QO:Fld Tryz.prog 106 0 0:=⟨by kernel_rfl⟩
theorem OW:(Tryz.prog.info? 108).map (fun i=>i.zero.map (·.cells))=some (some #[iV 0,sN]):=by kernel_rfl
theorem NZ:places Tryz.prog 108=some [(0,1),(1,1)]:=by kernel_rfl
instance QN:Fld Tryz.prog 108 0 0:=⟨by kernel_rfl⟩
instance QM:Fld Tryz.prog 108 1 1:=⟨by kernel_rfl⟩
theorem sS:(Tryz.prog.info? 123).map (fun i=>i.zero.map (·.cells))=some (some #[.string ByteArray.empty,sN]):=by kernel_rfl
theorem dS:iG Tryz.prog 123 2=true:=by kernel_rfl
instance QL:Fld Tryz.prog 123 0 0:=⟨by kernel_rfl⟩
instance qP:Fld Tryz.prog 123 1 1:=⟨by kernel_rfl⟩
theorem OV:(Tryz.prog.info? 125).map (fun i=>i.zero.map (·.cells))=some (some #[.pointer none,sN,sN]):=by kernel_rfl
theorem NY:places Tryz.prog 125=some [(0,1),(1,1),(2,1)]:=by kernel_rfl
instance QK:Fld Tryz.prog 125 0 0:=⟨by kernel_rfl⟩
instance QJ:Fld Tryz.prog 125 1 1:=⟨by kernel_rfl⟩
instance QI:Fld Tryz.prog 125 2 2:=⟨by kernel_rfl⟩
theorem OU:(Tryz.prog.info? 132).map (fun i=>i.zero.map (·.cells))=some (some #[.pointer none,iV 0,sN,.map none]):=by kernel_rfl
theorem NX:places Tryz.prog 132=some [(0,1),(1,1),(2,1),(3,1)]:=by kernel_rfl
instance QH:Fld Tryz.prog 132 0 0:=⟨by kernel_rfl⟩
instance QG:Fld Tryz.prog 132 1 1:=⟨by kernel_rfl⟩
instance QF:Fld Tryz.prog 132 2 2:=⟨by kernel_rfl⟩
instance QE:Fld Tryz.prog 132 3 3:=⟨by kernel_rfl⟩
theorem zA:(Tryz.prog.info? 143).map (fun i=>i.zero.map (·.cells))=some (some #[iV 0,sN]):=by kernel_rfl
instance QD:Fld Tryz.prog 143 0 0:=⟨by kernel_rfl⟩
instance QC:Fld Tryz.prog 143 1 1:=⟨by kernel_rfl⟩
theorem Fy:aZ Tryz.prog 155 157 3 32:=⟨by kernel_rfl,by kernel_rfl⟩
instance:Slt Tryz.prog 155:=⟨_,_,_,Fy⟩
theorem H1:(Tryz.prog.info? 157).map (fun i=>i.zero.map (·.cells))=some (some #[.string ByteArray.empty,iV 0,iV 0]):=by kernel_rfl
theorem EX:iG Tryz.prog 157 3=true:=by kernel_rfl
theorem NW:places Tryz.prog 157=some [(0,1),(1,1),(2,1)]:=by kernel_rfl
instance QB:Fld Tryz.prog 157 0 0:=⟨by kernel_rfl⟩
instance QA:Fld Tryz.prog 157 1 1:=⟨by kernel_rfl⟩
instance Qz:Fld Tryz.prog 157 2 2:=⟨by kernel_rfl⟩
theorem H0:(Tryz.prog.info? 168).map (fun i=>i.zero.map (·.cells))=some (some #[iV 0,iV 0,iV 0,iV 0,iV 0,iV 0,iV 0,iV 0]):=by kernel_rfl
theorem EW:iG Tryz.prog 168 8=true:=by kernel_rfl
theorem OS:(Tryz.prog.info? 184).map (fun i=>i.zero.map (·.cells))=some (some #[sN,sN]):=by kernel_rfl
theorem NV:places Tryz.prog 184=some [(0,1),(1,1)]:=by kernel_rfl
instance Qy:Fld Tryz.prog 184 0 0:=⟨by kernel_rfl⟩
instance Qx:Fld Tryz.prog 184 1 1:=⟨by kernel_rfl⟩
theorem sX:aZ Tryz.prog 191 196 3 24:=⟨by kernel_rfl,by kernel_rfl⟩
instance:Slt Tryz.prog 191:=⟨_,_,_,sX⟩
theorem NN:fS Tryz.prog 194=true:=by kernel_rfl
instance:Sca Tryz.prog 194:=⟨NN⟩
theorem iH:(Tryz.prog.info? 196).map (fun i=>i.zero.map (·.cells))=some (some #[.nilFunc,iV 0,iV 0]):=by kernel_rfl
theorem BG:iG Tryz.prog 196 3=true:=by kernel_rfl
theorem jD:places Tryz.prog 196=some [(0,1),(1,1),(2,1)]:=by kernel_rfl
instance Qw:Fld Tryz.prog 196 0 0:=⟨by kernel_rfl⟩
instance Qv:Fld Tryz.prog 196 1 1:=⟨by kernel_rfl⟩
instance Qu:Fld Tryz.prog 196 2 2:=⟨by kernel_rfl⟩
theorem Fc:(Tryz.prog.info? 201).map (fun i=>i.zero.map (·.cells))=some (some #[.int .u8 0,.int .u8 0,.int .u8 0]):=by kernel_rfl
theorem yM:iG Tryz.prog 201 3=true:=by kernel_rfl
theorem OQ:(Tryz.prog.info? 270).map (fun i=>i.zero.map (·.cells))=some (some #[.int .u8 0,.int .u8 0,.int .u8 0]):=by kernel_rfl
theorem BF:iG Tryz.prog 270 3=true:=by kernel_rfl
theorem fn8:fnB Tryz.prog 8=true:=by kernel_rfl
theorem fn9:fnB Tryz.prog 9=true:=by kernel_rfl
theorem OC:fnB Tryz.prog 10=true:=by kernel_rfl
theorem St:fnB Tryz.prog 12=true:=by kernel_rfl
theorem Qb:fnB Tryz.prog 13=true:=by kernel_rfl
theorem Ss:fnB Tryz.prog 14=true:=by kernel_rfl
theorem P3:fnB Tryz.prog 15=true:=by kernel_rfl
theorem Sr:fnB Tryz.prog 18=true:=by kernel_rfl
theorem Mx:fnB Tryz.prog 19=true:=by kernel_rfl
theorem Sq:fnB Tryz.prog 20=true:=by kernel_rfl
theorem So:fnB Tryz.prog 21=true:=by kernel_rfl
theorem Sn:fnB Tryz.prog 22=true:=by kernel_rfl
theorem Pz:fnB Tryz.prog 23=true:=by kernel_rfl
theorem Px:fnB Tryz.prog 24=true:=by kernel_rfl
theorem Sm:fnB Tryz.prog 25=true:=by kernel_rfl
theorem Mw:fnB Tryz.prog 26=true:=by kernel_rfl
theorem Mv:fnB Tryz.prog 27=true:=by kernel_rfl
theorem Sk:fnB Tryz.prog 28=true:=by kernel_rfl
theorem Sj:fnB Tryz.prog 29=true:=by kernel_rfl
theorem Pw:fnB Tryz.prog 39=true:=by kernel_rfl
theorem Pv:fnB Tryz.prog 40=true:=by kernel_rfl
theorem Sh:fnB Tryz.prog 41=true:=by kernel_rfl
theorem OB:fnB Tryz.prog 42=true:=by kernel_rfl
theorem Pu:fnB Tryz.prog 43=true:=by kernel_rfl
theorem OA:fnB Tryz.prog 44=true:=by kernel_rfl
theorem Pt:fnB Tryz.prog 45=true:=by kernel_rfl
theorem Pr:fnB Tryz.prog 46=true:=by kernel_rfl
theorem Dc:fnB Tryz.prog 47=true:=by kernel_rfl
theorem Oz:fnB Tryz.prog 48=true:=by kernel_rfl
theorem Pq:fnB Tryz.prog 49=true:=by kernel_rfl
theorem Sg:fnB Tryz.prog 50=true:=by kernel_rfl
theorem Sf:fnB Tryz.prog 51=true:=by kernel_rfl
theorem Se:fnB Tryz.prog 52=true:=by kernel_rfl
theorem Sd:fnB Tryz.prog 53=true:=by kernel_rfl
theorem Sb:fnB Tryz.prog 54=true:=by kernel_rfl
theorem Sa:fnB Tryz.prog 55=true:=by kernel_rfl
theorem R9:fnB Tryz.prog 56=true:=by kernel_rfl
theorem R8:fnB Tryz.prog 57=true:=by kernel_rfl
theorem Pp:fnB Tryz.prog 59=true:=by kernel_rfl
theorem Po:fnB Tryz.prog 60=true:=by kernel_rfl
theorem EF:fnB Tryz.prog 61=true:=by kernel_rfl
theorem Pn:fnB Tryz.prog 62=true:=by kernel_rfl
theorem R7:fnB Tryz.prog 63=true:=by kernel_rfl
theorem R6:fnB Tryz.prog 64=true:=by kernel_rfl
theorem R5:fnB Tryz.prog 65=true:=by kernel_rfl
theorem R4:fnB Tryz.prog 66=true:=by kernel_rfl
theorem R3:fnB Tryz.prog 67=true:=by kernel_rfl
theorem RZ:fnB Tryz.prog 68=true:=by kernel_rfl
theorem RY:fnB Tryz.prog 69=true:=by kernel_rfl
theorem RX:fnB Tryz.prog 70=true:=by kernel_rfl
theorem RW:fnB Tryz.prog 71=true:=by kernel_rfl
theorem Pm:fnB Tryz.prog 72=true:=by kernel_rfl
theorem RV:fnB Tryz.prog 73=true:=by kernel_rfl
theorem RU:fnB Tryz.prog 74=true:=by kernel_rfl
theorem RT:fnB Tryz.prog 75=true:=by kernel_rfl
theorem xG:fnB Tryz.prog 76=true:=by kernel_rfl
theorem Bw:fnB Tryz.prog 77=true:=by kernel_rfl
theorem Mu:fnB Tryz.prog 78=true:=by kernel_rfl
theorem JY:fnB Tryz.prog 79=true:=by kernel_rfl
theorem RS:fnB Tryz.prog 80=true:=by kernel_rfl
theorem JX:fnB Tryz.prog 81=true:=by kernel_rfl
theorem RR:fnB Tryz.prog 82=true:=by kernel_rfl
theorem Bv:fnB Tryz.prog 97=true:=by kernel_rfl
theorem RQ:fnB Tryz.prog 98=true:=by kernel_rfl
theorem RP:fnB Tryz.prog 99=true:=by kernel_rfl
theorem Qs:fnB Tryz.prog 100=true:=by kernel_rfl
theorem Gl:fnB Tryz.prog 101=true:=by kernel_rfl
theorem Qr:fnB Tryz.prog 102=true:=by kernel_rfl
theorem Qq:fnB Tryz.prog 103=true:=by kernel_rfl
theorem Qp:fnB Tryz.prog 104=true:=by kernel_rfl
theorem Qo:fnB Tryz.prog 105=true:=by kernel_rfl
theorem Qn:fnB Tryz.prog 106=true:=by kernel_rfl
theorem J3:fnB Tryz.prog 107=true:=by kernel_rfl
theorem Qm:fnB Tryz.prog 108=true:=by kernel_rfl
theorem Ql:fnB Tryz.prog 109=true:=by kernel_rfl
theorem Qk:fnB Tryz.prog 110=true:=by kernel_rfl
theorem Qj:fnB Tryz.prog 111=true:=by kernel_rfl
theorem Qi:fnB Tryz.prog 114=true:=by kernel_rfl
theorem Qh:fnB Tryz.prog 118=true:=by kernel_rfl
theorem Qg:fnB Tryz.prog 119=true:=by kernel_rfl
theorem Qf:fnB Tryz.prog 120=true:=by kernel_rfl
theorem Qe:fnB Tryz.prog 121=true:=by kernel_rfl
theorem Nw:fnB Tryz.prog 122=true:=by kernel_rfl
theorem Qd:fnB Tryz.prog 124=true:=by kernel_rfl
theorem Qc:fnB Tryz.prog 125=true:=by kernel_rfl
theorem Nv:fnB Tryz.prog 126=true:=by kernel_rfl
theorem Nu:fnB Tryz.prog 127=true:=by kernel_rfl
theorem Gk:fnB Tryz.prog 128=true:=by kernel_rfl
theorem J2:fnB Tryz.prog 129=true:=by kernel_rfl
theorem Qa:fnB Tryz.prog 130=true:=by kernel_rfl
theorem P9:fnB Tryz.prog 131=true:=by kernel_rfl
theorem P8:fnB Tryz.prog 132=true:=by kernel_rfl
theorem P7:fnB Tryz.prog 136=true:=by kernel_rfl
theorem P6:fnB Tryz.prog 143=true:=by kernel_rfl
theorem Ns:fnB Tryz.prog 144=true:=by kernel_rfl
theorem Nr:fnB Tryz.prog 145=true:=by kernel_rfl
theorem Nq:fnB Tryz.prog 146=true:=by kernel_rfl
theorem Np:fnB Tryz.prog 147=true:=by kernel_rfl
theorem P5:fnB Tryz.prog 148=true:=by kernel_rfl
theorem P4:fnB Tryz.prog 149=true:=by kernel_rfl
theorem No:fnB Tryz.prog 150=true:=by kernel_rfl
theorem oI:fnB Tryz.prog 151=true:=by kernel_rfl
theorem J1:fnB Tryz.prog 152=true:=by kernel_rfl
theorem P2:fnB Tryz.prog 153=true:=by kernel_rfl
theorem Nn:fnB Tryz.prog 164=true:=by kernel_rfl
theorem PZ:fnB Tryz.prog 167=true:=by kernel_rfl
theorem PY:fnB Tryz.prog 168=true:=by kernel_rfl
theorem PX:fnB Tryz.prog 169=true:=by kernel_rfl
theorem PW:fnB Tryz.prog 170=true:=by kernel_rfl
theorem PV:fnB Tryz.prog 171=true:=by kernel_rfl
theorem PU:fnB Tryz.prog 172=true:=by kernel_rfl
theorem PT:fnB Tryz.prog 173=true:=by kernel_rfl
theorem PS:fnB Tryz.prog 174=true:=by kernel_rfl
theorem J0:fnB Tryz.prog 175=true:=by kernel_rfl
theorem PR:fnB Tryz.prog 176=true:=by kernel_rfl
theorem PQ:fnB Tryz.prog 177=true:=by kernel_rfl
theorem PP:fnB Tryz.prog 178=true:=by kernel_rfl
theorem PO:fnB Tryz.prog 179=true:=by kernel_rfl
theorem PN:fnB Tryz.prog 180=true:=by kernel_rfl
theorem PM:fnB Tryz.prog 181=true:=by kernel_rfl
theorem PL:fnB Tryz.prog 182=true:=by kernel_rfl
theorem PK:fnB Tryz.prog 183=true:=by kernel_rfl
theorem PJ:fnB Tryz.prog 184=true:=by kernel_rfl
theorem PI:fnB Tryz.prog 185=true:=by kernel_rfl
theorem Nm:fnB Tryz.prog 186=true:=by kernel_rfl
theorem Nl:fnB Tryz.prog 187=true:=by kernel_rfl
theorem Nk:fnB Tryz.prog 190=true:=by kernel_rfl
theorem PH:fnB Tryz.prog 194=true:=by kernel_rfl
theorem Nj:fnB Tryz.prog 195=true:=by kernel_rfl
theorem PG:fnB Tryz.prog 196=true:=by kernel_rfl
theorem PF:fnB Tryz.prog 210=true:=by kernel_rfl
theorem PE:fnB Tryz.prog 214=true:=by kernel_rfl
theorem PD:fnB Tryz.prog 215=true:=by kernel_rfl
theorem PC:fnB Tryz.prog 216=true:=by kernel_rfl
theorem PB:fnB Tryz.prog 217=true:=by kernel_rfl
theorem PA:fnB Tryz.prog 228=true:=by kernel_rfl
theorem Ni:fnB Tryz.prog 229=true:=by kernel_rfl
theorem Gj:fnB Tryz.prog 230=true:=by kernel_rfl
theorem Py:fnB Tryz.prog 236=true:=by kernel_rfl
theorem JZ:fnB Tryz.prog 237=true:=by kernel_rfl
theorem Pi:IbT Tryz.prog 231:=VT Tryz.func231 (by kernel_rfl) (by kernel_rfl) (by kernel_rfl) (by kernel_rfl)
theorem aL:Tryz.prog.follows .mixedOrders=true:=by kernel_rfl
def inN(n:Nat):Value:=iV n
theorem F9(x:Nat):(inN x).oneCell'=true:=rfl
theorem dK(x:UInt8):(b8 x).oneCell'=true:=rfl
theorem RB{k k':IntKind}{a b c d:Int}(h1:a=c)(h2:b=d):Value.tuple #[.int k a,.int k' b]=Value.tuple #[.int k c,.int k' d]:=by rw[h1,h2]
theorem aD{H:Array Obj}{p:Nat}{cs:List Value}{T:TypeId}{fr:Nat×Nat}(h:H[p]?=some (.cells cs.toArray T fr)){i:Nat}{v:Value}(hi:cs[i]?=some v):bH H ((⟨p,0,none⟩:Addr).add i)=some v:=by
 rw[Addr.add_lit,Xp];simp[bH,h,hi]
theorem bN{H:Array Obj}{p:Nat}{cs:List Value}{T:TypeId}{fr:Nat×Nat}(h:H[p]?=some (.cells cs.toArray T fr)){i:Nat}{v:Value}(hi:cs[i]?=some v):bH H (⟨p,i,none⟩:Addr)=some v:=by
 simp[bH,h,hi]
structure Hd where
 a:Option Addr
 n:Nat
 c:Nat
def hd(h:Hd):Value:=.slice h.a h.n h.c
theorem EB(h:Hd):(hd h).oneCell'=true:=rfl
def dB(D:Nat→Prop)(H:Array Obj)(hs:List Hd)(L:List By):Prop:=
 hs.length=L.length∧∀ (i:Nat) (h:Hd) (xs:By),hs[i]?=some h→L[i]?=some xs→h.n=xs.length∧Vw b8 H h.a h.c xs∧(xs≠[]→∀ k,blk h.a k→D k)
theorem Vw.keep'{α:Type}{enc:α→Value}{ao:Option Addr}{cap:Nat}{xs:List α}{w w':World}{S:Nat→Prop}(h:Vw enc w.heap ao cap xs)(f:aA S w w')(hs:xs≠[]→∀ a,ao=some a→¬ S a.block):Vw enc w'.heap ao cap xs:=by
 by_cases he:xs=[]
 ·subst he;exact VQ cap h.max
 ·exact h.Ws f (hs he)
theorem dB.Ws{D S:Nat→Prop}{w w':World}{hs:List Hd}{L:List By}(h:dB D w.heap hs L)(f:aA S w w')(hS:∀ k,D k→¬ S k):dB D w'.heap hs L:=
 ⟨h.1,fun i x xs hx hxs=>by
  obtain⟨h1,h2,h3⟩:=h.2 i x xs hx hxs;exact⟨h1,h2.keep' f (fun hne a ha=>hS _ (h3 hne _ ⟨a,ha,rfl⟩)),h3⟩⟩
theorem VW{D:Nat→Prop}{H:Array Obj}:dB D H [] []:=⟨rfl,fun i h xs hh=>by simp at hh⟩
theorem dB.mono{D D':Nat→Prop}{H:Array Obj}{hs:List Hd}{L:List By}(h:dB D H hs L)(hd:∀ k,D k→D' k):dB D' H hs L:=
 ⟨h.1,fun i x xs hx hxs=>by obtain⟨h1,h2,h3⟩:=h.2 i x xs hx hxs;exact⟨h1,h2,fun hne k hk=>hd k (h3 hne k hk)⟩⟩
theorem dB.snoc{D:Nat→Prop}{H:Array Obj}{hs:List Hd}{L:List By}(h:dB D H hs L){x:Hd}{xs:By}(h1:x.n=xs.length)(h2:Vw b8 H x.a x.c xs)(h3:xs≠[]→∀ k,blk x.a k→D k):dB D H (hs++[x]) (L++[xs]):=by
 refine⟨by simp[h.1],fun i y ys hy hys=>?_⟩;by_cases hi:i<hs.length
 · rw[XM hi] at hy
   rw[XM (by rw[←h.1];exact hi)] at hys;exact h.2 i y ys hy hys
 · have hi':i=hs.length:=by
    have:=(Wy.1 hy).1;simp at this;omega
   subst hi';simp at hy;rw[h.1] at hys;simp at hys;subst hy;subst hys;exact⟨h1,h2,h3⟩
theorem dB.at{D:Nat→Prop}{H:Array Obj}{hs:List Hd}{L:List By}(h:dB D H hs L){i:Nat}(hi:i<L.length) :
 ∃ x:Hd,hs[i]?=some x∧x.n=(L.getD i []).length∧Vw b8 H x.a x.c (L.getD i [])∧(L.getD i []≠[]→∀ k,blk x.a k→D k):=by
 have hi2:i<hs.length:=by rw[h.1];exact hi
 refine⟨hs[i],Wv hi2,?_⟩;have:=h.2 i hs[i] L[i] (Wv hi2) (Wv hi);simpa[WI,hi] using this
theorem Ao(n:Nat):Fr n (some (⟨n,0,none⟩:Addr)):=fun a ha=>by cases ha;exact WC _
theorem nP{B n:Nat}{ao bo:Option Addr}(h:Fr B ao)(hr:∀ a,bo=some a→ao=some a∨n≤a.block)(hn:B≤n):Fr B bo:=fun a ha=>by
 rcases hr a ha with h1|h1
 ·exact h a h1
 ·omega
theorem aA.fresh{S:Nat→Prop}{w w':World}(h:aA S w w')(hs:∀ k,S k→w.heap.size≤k):aA nob w w':=
 ⟨h.os,h.tape,h.output,h.size,fun k hk _=>h.same k hk (fun h'=>by have:=hs k h';omega)⟩
theorem aA.any{S:Nat→Prop}{w w':World}(h:aA nob w w'):aA S w w':=h.mono (fun _ h=>h.elim)
theorem mQ{D:Nat→Prop}{S:Nat→Prop}{w w':World}(h:aA S w w')(hD:∀ k,w.heap.size≤k→D k):∀ k,w'.heap.size≤k→D k:=fun k hk=>hD k (W9 h.size hk)
theorem Iz(s:By)(c:Int)(W:World):CA 216 [.string (bs s),.int .u8 c] W fun v w'=>v=iV (Lib.indexByte s c.toNat.toUInt8)∧w'=W:=by
 refine cS 8 [(0,_),(1,_)] Tryz.func216 ?_;refine Gz 9 ?_;refine cL (Up Pi rfl rfl) ?_;refine Gz 5 ?_;exact⟨_,rfl,rfl,rfl⟩
theorem Ey(s:By)(c:Int)(W:World):CA 175 [.string (bs s),.int .u8 c] W fun v w'=>v=iV (Lib.indexByte s c.toNat.toUInt8)∧w'=W:=by
 refine cS 8 [(0,_),(1,_)] Tryz.func175 ?_;refine cA 9 PC (Iz s c W) ?_;rintro _ w1 ⟨rfl,hw1⟩;subst w1;refine Gz 5 ?_;exact⟨_,rfl,rfl,rfl⟩
theorem pW{s:By}(h:Lib.indexByte s (0:Int).toNat.toUInt8<0):(0:UInt8)∉s:=(oH s 0).1 h
theorem pV{s:By}(h:0≤Lib.indexByte s (0:Int).toNat.toUInt8):(0:UInt8)∈s:=by
 apply WH;intro hn;have:=(oH s 0).2 hn;have h2:Lib.indexByte s (0:Int).toNat.toUInt8=Lib.indexByte s 0:=rfl;omega
theorem iB:∀ a b:By,(WU a b || a == b) = !WU b a
|[],[]=>rfl
|[],_::_=>rfl
|_::_,[]=>rfl
|x::a,y::b=>by
   have ih:=iB a b;unfold WU;rcases XN x.toNat y.toNat with h|h|h
   · have h1:x<y:=XY.2 h
     have h2:¬ y<x:=by rw[XY];omega
     have h3:x≠y:=by intro e;subst e;omega
     simp[h1,h2,Ne.symm h3]
   · have h1:x=y:=XV.1 h
     subst h1;have h2:¬ x<x:=by rw[XY];omega
     simpa[h2] using ih
   · have h1:y<x:=XY.2 h
     have h2:¬ x<y:=by rw[XY];omega
     have h3:x≠y:=by intro e;subst e;omega
     simp[h1,h2,h3]
theorem Jv(a:By):WU [] a=true↔a≠[]:=by cases a<;>simp[WU]
theorem F1{a b:By}(h:WU a b=true):b≠[]:=by intro e;subst e;cases a<;>simp[WU] at h
abbrev Xa:=By×By
def x0:Xa:=([],[])
def fC(x:By×Hd):List Value:=[.string (bs x.1),hd x.2]
theorem cH:jY 2 fC:=fun x=>⟨rfl,by simp[fC,Value.oneCell',hd]⟩
def XaV(H:Array Obj)(ao:Option Addr)(cap:Nat)(X:List Xa):Prop:=
 ∃ xs:List (By×Hd),VwM 2 fC H ao cap xs∧xs.length=X.length∧∀ (i:Nat) (x:By×Hd) (y:Xa),xs[i]?=some x→X[i]?=some y→x.1=y.1∧x.2.n=y.2.length∧Vw b8 H x.2.a x.2.c y.2∧y.1.length≤maxLen
theorem XaV.Wr{w w':World}{ao:Option Addr}{cap:Nat}{X:List Xa}(h:XaV w.heap ao cap X)(f:aA nob w w'):XaV w'.heap ao cap X:=by
 obtain⟨xs,h1,h2,h3⟩:=h;exact⟨xs,h1.Wr f,h2,fun i x y hx hy=>⟨(h3 i x y hx hy).1,(h3 i x y hx hy).2.1,(h3 i x y hx hy).2.2.1.Wr f,(h3 i x y hx hy).2.2.2⟩⟩
theorem XaV.non{H:Array Obj}{ao:Option Addr}{cap:Nat}{X:List Xa}(h:XaV H ao cap X):X.length≠0→ao≠none:=by
 obtain⟨xs,h1,h2,h3⟩:=h;rw[←h2];exact h1.non
theorem XaV.Wq{H:Array Obj}{ao:Option Addr}{cap:Nat}{X:List Xa}(h:XaV H ao cap X):(X.length:Int)≤9223372036854775807:=by
 obtain⟨xs,h1,h2,h3⟩:=h;rw[←h2];exact h1.Wq
theorem XaV.at{H:Array Obj}{ao:Option Addr}{cap:Nat}{X:List Xa}(h:XaV H ao cap X){i:Nat}{z:Int}(hz:z=i)(hi:i<X.length) :
 ∃ xa xc,(∀ j v,[Value.string (bs (X.getD i x0).1),.slice xa (X.getD i x0).2.length xc][j]?=some v→bH H ((adr ao (z.toNat*2)).add j)=some v)∧Vw b8 H xa xc (X.getD i x0).2∧(X.getD i x0).1.length≤maxLen:=by
 obtain⟨xs,h1,h2,h3⟩:=h;have hi2:i<xs.length:=by omega
 have e:X.getD i x0=X[i]:=by simp[WI,hi]
 rw[e];obtain⟨e1,e2,e3,e4⟩:=h3 i xs[i] X[i] (Wv hi2) (Wv hi);have hrow:=h1.rowZ i hz (Wv hi2);refine⟨xs[i].2.a,xs[i].2.c,fun j v hv=>hrow j v ?_,e3,e4⟩;rw[←hv,←e1,←e2];rfl
def tB(X:List Xa):Nat→By
|0=>[]
|i+1=>(X.getD i x0).1
def Ai(X:List Xa)(i:Nat):Prop:=WU (tB X i) (X.getD i x0).1=true∧(X.getD i x0).1.length≤40∧(0:UInt8)∉(X.getD i x0).1∧(X.getD i x0).2.length≤200
instance (X:List Xa)(i:Nat):Decidable (Ai X i):=by unfold Ai;exact inferInstance
def dF(X:List Xa):Prop:=(∀ i,i<X.length→Ai X i)∧X.length≤8
instance (X:List Xa):Decidable (dF X):=by unfold dF;exact inferInstance
structure Nd where
 names:List By
 ino:Int
 kind:Int
 md:Int
 ud:Int
 gd:Int
 data:By
 tgt:By
 xs:List Xa
 opq:Bool
structure NdH where
 names:Hd
 data:Hd
 xs:Hd
def hd0:Hd:=⟨none,0,0⟩
def nd0:Nd:=⟨[],0,0,0,0,0,[],[],[],false⟩
def mN:NdH:=⟨hd0,hd0,hd0⟩
def aF(p:NdH×Nd):List Value:=[hd p.1.names,iV p.2.ino,iV p.2.kind,iV p.2.md,iV p.2.ud,iV p.2.gd,hd p.1.data,.string (bs p.2.tgt),hd p.1.xs,.bool p.2.opq]
theorem aB:jY 10 aF:=fun p=>⟨rfl,by
 intro v hv;simp only[aF,W5,Xm,or_false] at hv;rcases hv with rfl|rfl|rfl|rfl|rfl|rfl|rfl|rfl|rfl|rfl<;>rfl⟩
def gQ(s:By):Value:=.string (bs s)
theorem Is:∀ s,(gQ s).oneCell'=true:=fun _=>rfl
section
variable {D D':Nat→Prop}{H:Array Obj}
def NmV(D:Nat→Prop)(H:Array Obj)(h:Hd)(l:List By):Prop:=h.n=l.length∧Vw gQ H h.a h.c l∧(l≠[]→∀ k,blk h.a k→D k)
def ByV(D:Nat→Prop)(H:Array Obj)(h:Hd)(l:By):Prop:=h.n=l.length∧Vw b8 H h.a h.c l∧(l≠[]→∀ k,blk h.a k→D k)
def XsV(D:Nat→Prop)(H:Array Obj)(h:Hd)(X:List Xa):Prop:=
 h.n=X.length∧∃ ys:List (By×Hd),VwM 2 fC H h.a h.c ys∧ys.length=X.length∧(ys≠[]→∀ k,blk h.a k→D k)∧∀ (i:Nat) (x:By×Hd) (y:Xa),ys[i]?=some x→X[i]?=some y→x.1=y.1∧ByV D H x.2 y.2
def NdV(D:Nat→Prop)(H:Array Obj)(p:NdH×Nd):Prop:=NmV D H p.1.names p.2.names∧ByV D H p.1.data p.2.data∧XsV D H p.1.xs p.2.xs
def aQ(D:Nat→Prop)(H:Array Obj)(ao:Option Addr)(cap:Nat)(ps:List (NdH×Nd)):Prop:=VwM 10 aF H ao cap ps∧∀ p∈ps,NdV D H p
theorem VwM.keep'{α:Type}{k:Nat}{enc:α→List Value}{ao:Option Addr}{cap:Nat}{xs:List α}{w w':World}{S:Nat→Prop}(h:VwM k enc w.heap ao cap xs)(f:aA S w w')(hs:xs≠[]→∀ a,ao=some a→¬ S a.block):VwM k enc w'.heap ao cap xs:=by
 by_cases hx:xs=[]
 ·subst hx;exact⟨h.le,h.max,h.non,fun i x hx=>by simp at hx⟩
 ·exact h.Ws f (hs hx)
theorem NmV.Ws{S:Nat→Prop}{w w':World}{h:Hd}{l:List By}(v:NmV D w.heap h l)(f:aA S w w')(hS:∀ k,D k→¬ S k):NmV D w'.heap h l:=
 ⟨v.1,v.2.1.keep' f (fun hne a ha=>hS _ (v.2.2 hne _ ⟨a,ha,rfl⟩)),v.2.2⟩
theorem ByV.Ws{S:Nat→Prop}{w w':World}{h:Hd}{l:By}(v:ByV D w.heap h l)(f:aA S w w')(hS:∀ k,D k→¬ S k):ByV D w'.heap h l:=
 ⟨v.1,v.2.1.keep' f (fun hne a ha=>hS _ (v.2.2 hne _ ⟨a,ha,rfl⟩)),v.2.2⟩
theorem XsV.Ws{S:Nat→Prop}{w w':World}{h:Hd}{X:List Xa}(v:XsV D w.heap h X)(f:aA S w w')(hS:∀ k,D k→¬ S k):XsV D w'.heap h X:=by
 obtain⟨h1,ys,h2,h3,h4,h5⟩:=v;exact⟨h1,ys,h2.keep' f (fun hne a ha=>hS _ (h4 hne _ ⟨a,ha,rfl⟩)),h3,h4,fun i x y hx hy=>⟨(h5 i x y hx hy).1,(h5 i x y hx hy).2.Ws f hS⟩⟩
theorem NdV.Ws{S:Nat→Prop}{w w':World}{p:NdH×Nd}(v:NdV D w.heap p)(f:aA S w w')(hS:∀ k,D k→¬ S k):NdV D w'.heap p:=⟨v.1.Ws f hS,v.2.1.Ws f hS,v.2.2.Ws f hS⟩
theorem NdV.Wr{w w':World}{p:NdH×Nd}(v:NdV D w.heap p)(f:aA nob w w'):NdV D w'.heap p:=v.Ws f (fun _ _=>id)
theorem NmV.mono{h:Hd}{l:List By}(v:NmV D H h l)(hd:∀ k,D k→D' k):NmV D' H h l:=⟨v.1,v.2.1,fun hne k hk=>hd k (v.2.2 hne k hk)⟩
theorem ByV.mono{h:Hd}{l:By}(v:ByV D H h l)(hd:∀ k,D k→D' k):ByV D' H h l:=⟨v.1,v.2.1,fun hne k hk=>hd k (v.2.2 hne k hk)⟩
theorem XsV.mono{h:Hd}{X:List Xa}(v:XsV D H h X)(hd:∀ k,D k→D' k):XsV D' H h X:=by
 obtain⟨h1,ys,h2,h3,h4,h5⟩:=v;exact⟨h1,ys,h2,h3,fun hne k hk=>hd k (h4 hne k hk),fun i x y hx hy=>⟨(h5 i x y hx hy).1,(h5 i x y hx hy).2.mono hd⟩⟩
theorem NdV.mono{p:NdH×Nd}(v:NdV D H p)(hd:∀ k,D k→D' k):NdV D' H p:=⟨v.1.mono hd,v.2.1.mono hd,v.2.2.mono hd⟩
theorem aQ.Ws{S:Nat→Prop}{w w':World}{ao:Option Addr}{cap:Nat}{ps:List (NdH×Nd)}(v:aQ D w.heap ao cap ps)(f:aA S w w')(hS:∀ k,D k→¬ S k)(ha:ps≠[]→∀ a,ao=some a→¬ S a.block):aQ D w'.heap ao cap ps:=
 ⟨v.1.keep' f ha,fun p hp=>(v.2 p hp).Ws f hS⟩
theorem aQ.Wr{w w':World}{ao:Option Addr}{cap:Nat}{ps:List (NdH×Nd)}(v:aQ D w.heap ao cap ps)(f:aA nob w w'):aQ D w'.heap ao cap ps:=v.Ws f (fun _ _=>id) (fun _ _ _=>id)
theorem XsV.xav{h:Hd}{X:List Xa}(v:XsV D H h X)(hl:∀ x∈X,x.1.length≤maxLen):XaV H h.a h.c X:=by
 obtain⟨h1,ys,h2,h3,h4,h5⟩:=v;exact⟨ys,h2,h3,fun i x y hx hy=>⟨(h5 i x y hx hy).1,(h5 i x y hx hy).2.1,(h5 i x y hx hy).2.2.1,hl y (Wz hy)⟩⟩
def okN(n:Nd):Prop:=∀ z∈[n.ino,n.kind,n.md,n.ud,n.gd],-9223372036854775808≤z∧z≤9223372036854775807
def smN(n:Nd):Prop:=n.tgt.length≤maxLen∧(∀ s∈n.names,s.length≤maxLen)∧∀ x∈n.xs,x.1.length≤maxLen
end
section
open Go Go.RowKit Go.ChangeShapes Go.WideShapes Go.ChangeAt Go.Deep
theorem QR{n:Int}(h:(Lit.int .u8 n).wf=true):Value.int .u8 n=b8 (WP n.toNat):=by
 have hb:0≤n∧n≤255:=by simpa[Lit.wf,IntKind.min,IntKind.max,IntKind.signed,IntKind.bits] using h
 have:((WP n.toNat).toNat:Int)=n:=by
  rw[Xj];omega
 rw[b8,this]
section
variable {H:Type}{enc:TypeId×Value→H}{P:Program}{w:World}{t e:TypeId}{d:DataW H}{p:List MemPlace}
theorem lT(ht:P.underlying t=some (.slice e))(he:P.underlying e=some (.int .u8))(hc:P.cellsOf e=1){fuel:Nat}{v:Value}{x:DataW H×List MemPlace}(h:DataW.trod enc P w 0 (fun _=>true) true fuel t [v]=some x) :
 ∃ (a:Option Addr) (cap:Nat) (xs:By),v=.slice a xs.length cap∧Vw b8 w.heap a cap xs:=by
 rcases open_ints ht he hc h with⟨hcs,_⟩|⟨x,l,c,zs,hcs,_,hl,hm,hz,_,hcell,hwz⟩
 ·refine⟨none,0,[],by simpa using hcs,VQ 0 (WG _)⟩
 · have hz':zs.length=c:=by simpa using hz
   refine⟨some x,c,(zs.take l).map (fun n=>WP n.toNat),?_,by simp;omega,hm,fun _=>by simp,fun i u hu=>?_⟩
   · have:v=.slice (some x) l c:=by simpa using hcs
     rw[this];congr 1;simp;omega
   · rw[W7] at hu
     obtain⟨n,hn,rfl⟩:=WR.1 hu;rw[Xf] at hn
     split at hn
     · have hi:i<zs.length:=(Wy.1 hn).1
       have:=hcell i hi;rw[show zs.getD i 0=n from by simp[WI,hn]] at this;rw[←QR (hwz n (Wz hn))];exact this
     ·cases hn
end
theorem IM{W w':World}{e:Ending}(h:Ret (fun v w'=>v=.bool true∧aA nob W w') e w'):e=.returned (.bool true)∧Below W.heap.size W w':=by
 obtain⟨v,rfl,rfl,hf⟩:=h;exact⟨rfl,hf.below⟩
end
section
open Go Go.RowKit Go.ChangeShapes Go.WideShapes Go.ChangeAt Go.Deep
section
variable {H:Type}{enc:TypeId×Value→H}{P:Program}{w:World}{t e:TypeId}{d:DataW H}{p:List MemPlace}
theorem CF{q:TypeId}{f0 f1:Field}(ht:P.underlying t=some (.slice e))(he:P.underlying e=some (.struct #[f0,f1]))(ce:P.cellsOf e=2)(o0:f0.offset=0)(o1:f1.offset=1)(c0:P.cellsOf f0.type=1)(c1:P.cellsOf f1.type=1)
 (hs:P.underlying f0.type=some .string)(hq:P.underlying f1.type=some (.slice q))(hb:P.underlying q=some (.int .u8))(hcq:P.cellsOf q=1){fuel:Nat}{v:Value}{x:DataW H×List MemPlace}(h:DataW.trod enc P w 0 (fun _=>true) true fuel t [v]=some x) :
 ∃ (a:Option Addr) (cap:Nat) (X:List Xa),v=.slice a X.length cap∧XaV w.heap a cap X:=by
 rcases open_slice_pairs ht he ce o0 o1 c0 c1 h with⟨hcs,_⟩|⟨a,len,cap,m,n,V0,V1,D0,D1,P0,P1,hcs,_,hl,hm,hmm,_,hx⟩
 ·refine⟨none,0,[],by simpa using hcs,[],VU 0 (WG _),rfl,fun i x y hx=>by simp at hx⟩
 · simp only[if_true] at hmm
   have:Inhabited ((By×Hd)×Xa):=⟨(([],⟨none,0,0⟩),x0)⟩
   obtain⟨Y,hY⟩:=choose_lt (α:=(By×Hd)×Xa) (p:=fun i y=>V0 i=.string (bs y.1.1)∧V1 i=hd y.1.2∧y.1.1=y.2.1∧y.1.2.n=y.2.2.length∧Vw b8 w.heap y.1.2.a y.1.2.c y.2.2∧y.2.1.length≤maxLen) (n:=m) (fun i hi=>by
    obtain⟨_,_,h3,h4⟩:=hx i hi;obtain⟨s,hs1,_,hs2⟩:=DataW.trod_string hs h3;obtain⟨b,c,ys,h5,h6⟩:=lT hq hb hcq h4;have hs1:V0 i=.string s:=by simpa using hs1
    exact⟨((s.data.toList,⟨b,ys.length,c⟩),(s.data.toList,ys)),by rw[hs1];rfl,h5,rfl,rfl,h6,hs2⟩)
   refine⟨some a,cap,(Xr len).map (fun i=>(Y i).2),by simpa using hcs,(Xr len).map (fun i=>(Y i).1),⟨by simp;omega,hm,fun _=>by simp,fun i x hxi j v hv=>?_⟩,by simp,fun i x y hxi hyi=>?_⟩
   · rw[W7] at hxi
     obtain⟨k,hk,rfl⟩:=WR.1 hxi;have hki:k=i∧i<len:=by
      have:=Wy.1 hk;obtain⟨h1,h2⟩:=this;simp at h1 h2;omega
     obtain⟨rfl,hil⟩:=hki;obtain⟨h1,h2,_,_⟩:=hx k (by omega);obtain⟨g1,g2,_⟩:=hY k (by omega)
     match j,hv with
    |0,hv=>
       have:v=.string (bs (Y k).1.1):=by simpa[fC] using hv.symm
       rw[this,←g1];exact h1
    |1,hv=>
       have:v=hd (Y k).1.2:=by simpa[fC] using hv.symm
       rw[this,←g2];exact h2
    |j+2,hv=>simp[fC] at hv
   · rw[W7] at hxi hyi
     obtain⟨k,hk,rfl⟩:=WR.1 hxi;rw[hk] at hyi;simp at hyi;subst hyi;have hkl:k<len:=by have:=Wz hk;simpa using this
     obtain⟨_,_,h3⟩:=hY k (by omega);exact h3
end
end
section
open Go Go.RowKit Go.ChangeShapes Go.WideShapes Go.ChangeAt Go.Deep
section
variable {H:Type}{enc:TypeId×Value→H}{P:Program}{w:World}{t e:TypeId}{d:DataW H}{p:List MemPlace}
theorem Vw.blocks{α:Type}{en:α→Value}{Hp:Array Obj}{a:Option Addr}{c:Nat}{xs:List α}(h:Vw en Hp a c xs)(hne:xs≠[]):∀ k,blk a k→k<Hp.size:=fun k ⟨b,hb,e⟩=>by have:=h.lt hne b hb;omega
theorem Ha{q:TypeId}(ht:P.underlying t=some (.slice q))(hq:P.underlying q=some .string)(hc:P.cellsOf q=1){fuel:Nat}{v:Value}{x:DataW H×List MemPlace}(h:DataW.trod enc P w 0 (fun _=>true) true fuel t [v]=some x) :
 ∃ (z:Hd) (l:List By),v=hd z∧NmV (fun k=>k<w.heap.size) w.heap z l∧∀ s∈l,s.length≤maxLen:=by
 rcases open_slice1 ht hc h with⟨hcs,_⟩|⟨x,l,c',m,n',V,Dd,Pl,hcs,_,hl,hm,hmm,_,hx⟩
 ·exact⟨hd0,[],show v=sN by simpa using hcs,⟨rfl,VQ 0 (WG _),fun h=>absurd rfl h⟩,by simp⟩
 · simp only[if_true] at hmm
   obtain⟨Y,hY⟩:=choose_lt (α:=By) (p:=fun i y=>V i=gQ y∧y.length≤maxLen) (n:=m) (fun i hi=>by
    obtain⟨s,hs,_,hsz⟩:=DataW.trod_string hq (hx i hi).2;have hs:V i=.string s:=by simpa using hs
    exact⟨s.data.toList,hs,hsz⟩)
   have hv:Vw gQ w.heap (some x) c' ((Xr l).map Y):=⟨by simp;omega,hm,fun _=>by simp,fun i u hu=>by
    rw[W7] at hu;by_cases hi:i<l
    · simp[hi] at hu
      subst hu;have:=(hx i (by omega)).1;rw[(hY i (by omega)).1] at this;exact this
    ·simp[hi] at hu⟩
   refine⟨⟨some x,l,c'⟩,(Xr l).map Y,show v=.slice (some x) l c' by simpa using hcs,⟨by simp,hv,fun hne k hk=>hv.blocks hne k hk⟩,fun s hs=>?_⟩;obtain⟨i,hi,rfl⟩:=WS.1 hs;exact(hY i (by have:=XB.1 hi;omega)).2
theorem I9{q:TypeId}(ht:P.underlying t=some (.slice q))(hq:P.underlying q=some (.int .u8))(hc:P.cellsOf q=1){fuel:Nat}{v:Value}{x:DataW H×List MemPlace}(h:DataW.trod enc P w 0 (fun _=>true) true fuel t [v]=some x) :
 ∃ (z:Hd) (l:By),v=hd z∧ByV (fun k=>k<w.heap.size) w.heap z l:=by
 obtain⟨a,c,xs,h1,h2⟩:=lT ht hq hc h;exact⟨⟨a,xs.length,c⟩,xs,h1,rfl,h2,fun hne k hk=>h2.blocks hne k hk⟩
theorem I8{q:TypeId}{f0 f1:Field}(ht:P.underlying t=some (.slice e))(he:P.underlying e=some (.struct #[f0,f1]))(ce:P.cellsOf e=2)(o0:f0.offset=0)(o1:f1.offset=1)(c0:P.cellsOf f0.type=1)(c1:P.cellsOf f1.type=1)
 (hs:P.underlying f0.type=some .string)(hq:P.underlying f1.type=some (.slice q))(hb:P.underlying q=some (.int .u8))(hcq:P.cellsOf q=1){fuel:Nat}{v:Value}{x:DataW H×List MemPlace}(h:DataW.trod enc P w 0 (fun _=>true) true fuel t [v]=some x) :
 ∃ (z:Hd) (X:List Xa),v=hd z∧XsV (fun k=>k<w.heap.size) w.heap z X∧∀ x∈X,x.1.length≤maxLen:=by
 obtain⟨a,c,X,h1,xs,h2,h3,h4⟩:=CF ht he ce o0 o1 c0 c1 hs hq hb hcq h;refine⟨⟨a,X.length,c⟩,X,h1,⟨rfl,xs,h2,h3,fun hne k ⟨b,hb,e⟩=>?_,fun i x y hx hy=>?_⟩,fun x hx=>?_⟩
 ·have:=h2.lt hne (fun x=>by simp[fC]) b hb;omega
 · obtain⟨g1,g2,g3,_⟩:=h4 i x y hx hy
   exact⟨g1,g2,g3,fun hne k hk=>g3.blocks hne k hk⟩
 · obtain⟨i,hi⟩:=WO hx
   have hil:=(Wy.1 hi).1;exact(h4 i _ x (Wv (by omega)) hi).2.2.2
theorem DG{z:Int}(h:(Lit.int .i64 z).wf=true) : -9223372036854775808≤z∧z≤9223372036854775807:=by simpa[Lit.wf,IntKind.min,IntKind.max,IntKind.signed,IntKind.bits] using h
structure NB (P:Program)(e:TypeId)(f0 f1 f2 f3 f4 f5 f6 f7 g0 g1 g2 x0 x1:Field)(q0 q4 q6 q7:TypeId):Prop where
 und:P.underlying e=some (.struct #[f0,f1,f2,f3,f4,f5,f6,f7])
 cells:P.cellsOf e=10
 offs:[f0,f1,f2,f3,f4,f5,f6,f7].map (·.offset)=[0,1,2,3,6,7,8,9]
 cell:[f0,f1,f2,f3,f4,f5,f6,f7].map (fun f=>P.cellsOf f.type)=[1,1,1,3,1,1,1,1]
 u0:P.underlying f0.type=some (.slice q0)
 uq0:P.underlying q0=some .string
 cq0:P.cellsOf q0=1
 u1:P.underlying f1.type=some (.int .i64)
 u2:P.underlying f2.type=some (.int .i64)
 u3:P.underlying f3.type=some (.struct #[g0,g1,g2])
 goffs:[g0,g1,g2].map (·.offset)=[0,1,2]
 gcell:[g0,g1,g2].map (fun f=>P.cellsOf f.type)=[1,1,1]
 v0:P.underlying g0.type=some (.int .i64)
 v1:P.underlying g1.type=some (.int .i64)
 v2:P.underlying g2.type=some (.int .i64)
 u4:P.underlying f4.type=some (.slice q4)
 uq4:P.underlying q4=some (.int .u8)
 cq4:P.cellsOf q4=1
 u5:P.underlying f5.type=some .string
 u6:P.underlying f6.type=some (.slice q6)
 uq6:P.underlying q6=some (.struct #[x0,x1])
 cq6:P.cellsOf q6=2
 xoffs:x0.offset=0∧x1.offset=1
 xcell:P.cellsOf x0.type=1∧P.cellsOf x1.type=1
 w0:P.underlying x0.type=some .string
 w1:P.underlying x1.type=some (.slice q7)
 uq7:P.underlying q7=some (.int .u8)
 cq7:P.cellsOf q7=1
 u7:P.underlying f7.type=some .bool
theorem eQ{cs:List Value}{i:Nat}(h:i<cs.length):(cs.drop i).take 1=[cs.getD i undef]:=by
 have h2:(cs.drop i).take 1=[cs[i]]:=by rw[Xv h];rfl
 rw[h2];simp[WI,h]
theorem Hb{f0 f1 f2 f3 f4 f5 f6 f7 g0 g1 g2 x0 x1:Field}{q0 q4 q6 q7:TypeId}(T:NB P e f0 f1 f2 f3 f4 f5 f6 f7 g0 g1 g2 x0 x1 q0 q4 q6 q7){fuel:Nat}{cs:List Value}{x:DataW H×List MemPlace}
 (h:DataW.trod enc P w 0 (fun _=>true) true fuel e cs=some x):∃ p:NdH×Nd,cs=aF p∧NdV (fun k=>k<w.heap.size) w.heap p∧okN p.2∧smN p.2:=by
 obtain⟨xs,n,_,_,hl,hxl,hf⟩:=DataW.trod_struct T.und h;rw[T.cells] at hl;have ho:=T.offs;have hc:=T.cell;simp only[Xo,map_nil,Yr.injEq,and_true] at ho hc;obtain⟨o0,o1,o2,o3,o4,o5,o6,o7⟩:=ho;obtain⟨c0,c1,c2,c3,c4,c5,c6,c7⟩:=hc;have k0:=hf 0 f0 rfl;rw[Wv (show 0<xs.length by rw[hxl];show _<8;decide)] at k0;have k1:=hf 1 f1 rfl;rw[Wv (show 1<xs.length by rw[hxl];show _<8;decide)] at k1;have k2:=hf 2 f2 rfl;rw[Wv (show 2<xs.length by rw[hxl];show _<8;decide)] at k2;have k3:=hf 3 f3 rfl;rw[Wv (show 3<xs.length by rw[hxl];show _<8;decide)] at k3;have k4:=hf 4 f4 rfl;rw[Wv (show 4<xs.length by rw[hxl];show _<8;decide)] at k4;have k5:=hf 5 f5 rfl;rw[Wv (show 5<xs.length by rw[hxl];show _<8;decide)] at k5;have k6:=hf 6 f6 rfl;rw[Wv (show 6<xs.length by rw[hxl];show _<8;decide)] at k6;have k7:=hf 7 f7 rfl;rw[Wv (show 7<xs.length by rw[hxl];show _<8;decide)] at k7;rw[o0,c0,eQ (by omega)] at k0;rw[o1,c1,eQ (by omega)] at k1;rw[o2,c2,eQ (by omega)] at k2;rw[o3,c3] at k3;rw[o4,c4,eQ (by omega)] at k4;rw[o5,c5,eQ (by omega)] at k5;rw[o6,c6,eQ (by omega)] at k6;rw[o7,c7,eQ (by omega)] at k7;obtain⟨z0,l0,e0,n0,s0⟩:=Ha T.u0 T.uq0 T.cq0 k0;obtain⟨m1,e1,_,w1⟩:=DataW.trod_int T.u1 k1;obtain⟨m2,e2,_,w2⟩:=DataW.trod_int T.u2 k2;obtain⟨ys,n',_,_,gl,gxl,gf⟩:=DataW.trod_struct T.u3 k3;have go:=T.goffs;have gc:=T.gcell;simp only[Xo,map_nil,Yr.injEq,and_true] at go gc;have j0:=gf 0 g0 rfl;rw[Wv (show 0<ys.length by rw[gxl];show _<3;decide)] at j0;have j1:=gf 1 g1 rfl;rw[Wv (show 1<ys.length by rw[gxl];show _<3;decide)] at j1;have j2:=gf 2 g2 rfl;rw[Wv (show 2<ys.length by rw[gxl];show _<3;decide)] at j2;have hl3:((cs.drop 3).take 3).length=3:=by rw[WB,WE];omega
 rw[go.1,gc.1,eQ (by omega)] at j0;rw[go.2.1,gc.2.1,eQ (by omega)] at j1;rw[go.2.2,gc.2.2,eQ (by omega)] at j2;obtain⟨a0,d0,_,b0⟩:=DataW.trod_int T.v0 j0;obtain⟨a1,d1,_,b1⟩:=DataW.trod_int T.v1 j1;obtain⟨a2,d2,_,b2⟩:=DataW.trod_int T.v2 j2;obtain⟨z4,l4,e4,n4⟩:=I9 T.u4 T.uq4 T.cq4 k4;obtain⟨s5,e5,_,w5⟩:=DataW.trod_string T.u5 k5;obtain⟨z6,l6,e6,n6,s6⟩:=I8 T.u6 T.uq6 T.cq6 T.xoffs.1 T.xoffs.2 T.xcell.1 T.xcell.2 T.w0 T.w1 T.uq7 T.cq7 k6;obtain⟨b7,e7,_⟩:=DataW.trod_bool T.u7 k7;have e1:cs.getD 1 undef=iV m1:=by simpa using e1
 have e2:cs.getD 2 undef=iV m2:=by simpa using e2
 have g3:∀ i,i<3→((cs.drop 3).take 3).getD i undef=cs.getD (3+i) undef:=fun i hi=>by simp[WI,hi,X0]
 have d0:cs.getD 3 undef=iV a0:=by rw[←g3 0 (by decide)];simpa using d0
 have d1:cs.getD 4 undef=iV a1:=by rw[←g3 1 (by decide)];simpa using d1
 have d2:cs.getD 5 undef=iV a2:=by rw[←g3 2 (by decide)];simpa using d2
 have e5:cs.getD 7 undef=.string s5:=by simpa using e5
 have e7:cs.getD 9 undef=.bool b7:=by simpa using e7
 refine⟨(⟨z0,z4,z6⟩,⟨l0,m1,m2,a0,a1,a2,l4,s5.data.toList,l6,b7⟩),?_,⟨n0,n4,n6⟩,?_,⟨w5,s0,s6⟩⟩
 · have key:∀ i v,i<10→cs.getD i undef=v→cs[i]?=some v:=fun i v hi hv=>by
    rw[Wv (by omega)];rw[←hv];simp[WI,show i<cs.length by omega]
   apply Xy;intro i
   match i with
  |0=>exact key 0 _ (by decide) e0
  |1=>exact key 1 _ (by decide) e1
  |2=>exact key 2 _ (by decide) e2
  |3=>exact key 3 _ (by decide) d0
  |4=>exact key 4 _ (by decide) d1
  |5=>exact key 5 _ (by decide) d2
  |6=>exact key 6 _ (by decide) e4
  |7=>exact key 7 _ (by decide) e5
  |8=>exact key 8 _ (by decide) e6
  |9=>exact key 9 _ (by decide) e7
  |i+10=>rw[Xe (by omega),Xe (by simp[aF])]
 · intro z hz
   simp only[W5,Xm,or_false] at hz;rcases hz with rfl|rfl|rfl|rfl|rfl
   ·exact DG w1
   ·exact DG w2
   ·exact DG b0
   ·exact DG b1
   ·exact DG b2
theorem wM{f0 f1 f2 f3 f4 f5 f6 f7 g0 g1 g2 x0 x1:Field}{q0 q4 q6 q7:TypeId}(ht:P.underlying t=some (.slice e))(T:NB P e f0 f1 f2 f3 f4 f5 f6 f7 g0 g1 g2 x0 x1 q0 q4 q6 q7){v:Value}(h:DataW.Trod enc P w 0 (fun _=>true) true t v d p)(hv:∃ a n c,v=.slice a n c) :
 ∃ (a:Option Addr) (cap:Nat) (ps:List (NdH×Nd)),v=.slice a ps.length cap∧aQ (fun k=>k<w.heap.size) w.heap a cap ps∧∀ p∈ps,okN p.2∧smN p.2:=by
 obtain⟨fuel,hf⟩:=h;obtain⟨a,n,c,rfl⟩:=hv;rcases open_slice ht hf with⟨hcs,_⟩|⟨x,l,c',m,n',D,Pl,hcs,_,hl,hm,hmm,_,hx⟩
 ·exact⟨none,0,[],by simpa[Value.cells] using hcs,⟨VU 0 (WG _),by simp⟩,by simp⟩
 · simp only[if_true] at hmm
   have:Inhabited (NdH×Nd):=⟨(mN,nd0)⟩
   obtain⟨Y,hY⟩:=choose_lt (α:=NdH×Nd) (p:=fun i y=>(∀ j v,(aF y)[j]?=some v→w.cell? ((x.add (i*10)).add j)=some v)∧NdV (fun k=>k<w.heap.size) w.heap y∧okN y.2∧smN y.2) (n:=m) (fun i hi=>by
    obtain⟨cs',h1,h2⟩:=hx i hi;rw[T.cells] at h1;obtain⟨_,hlen,hcell⟩:=World.cells?_some h1;obtain⟨y,hy,y1,y2,y3⟩:=Hb T h2;refine⟨y,fun j v hj=>?_,y1,y2,y3⟩;rw[←hy] at hj;have hjl:=(Wy.1 hj).1;rw[hcell j (by omega)];rw[←hj])
   refine⟨some x,c',(Xr l).map Y,by simpa[Value.cells] using hcs,⟨⟨by simp;omega,hm,fun _=>by simp,fun i u hu j v hj=>?_⟩,fun y hy=>?_⟩,fun y hy=>?_⟩
   · rw[W7] at hu
     obtain⟨q,hq,rfl⟩:=WR.1 hu;have hqi:q=i∧i<l:=by
      have:=Wy.1 hq;obtain⟨h1,h2⟩:=this;simp at h1 h2;omega
     obtain⟨rfl,hil⟩:=hqi;have h1:=(hY q (by omega)).1 j v hj;show w.cell? (x.add (q*10+j))=some v;rw[←rH];exact h1
   · obtain⟨q,hq,rfl⟩:=WS.1 hy
     exact(hY q (by have:=XB.1 hq;omega)).2.1
   · obtain⟨q,hq,rfl⟩:=WS.1 hy
     exact(hY q (by have:=XB.1 hq;omega)).2.2
end
end
section
variable {P:Program}{N:Nat}{l:SF}{w:World}{fn:Func}{R:Ending→World→Prop}
theorem tA{t:TypeId}{cs:List Value}{ad:Addr}(ht:iG P t cs.length=true)(hc:∀ j v,cs[j]?=some v→bH w.heap (ad.add j)=some v):(loadVar t ad).run P w=.ok (.agg cs.toArray) w:=by
 have hl:=run_loadCells_list (P:=P) w ad cs hc;simp only[Sem.run_bind,loadVar,yL ht w,sO ht w,Result.andThen_ok,Sem.run_pure,if_true,hl]
theorem VB{a u:Nat}{t:TypeId}{x:Value}{cs:List Value}{ad:Addr}(hr:fn.results=#[.cell a t,.tmp u])(ht:iG P t cs.length=true)(ha:lk l a=some (.pointer (some ad)))(hx:lk l u=some x)
 (hc:∀ j v,cs[j]?=some v→bH w.heap (ad.add j)=some v)(h:R (.returned (.tuple #[.agg cs.toArray,x])) w) :
 At ⟨N,[]⟩ .ret (bodyPost P fn R) l w:=fun act ha'=>by
 refine⟨ha'.dfr,_,?_,h⟩;have h1:=ha'.has a _ ha;have h2:=ha'.has u _ hx;have h3:=tA (P:=P) (w:=w) ht hc;simp[results,hr,h1,h2,asAddr,h3,Result.andThen]
theorem rC {a u:Nat} {t:TypeId} {x:Value} {cs:List Value} {p:Nat} {T:TypeId} {fr:Nat×Nat} (hg:w.heap[p]?=some (.cells cs.toArray T fr)) (ht:iG P t cs.length=true) (h:R (.returned (.tuple #[.agg cs.toArray,x])) w) (hr:fn.results=#[.cell a t,.tmp u]:=by rfl) (ha:lk l a=some (pT p):=by rfl) (hx:lk l u=some x:=by rfl):At ⟨N,[]⟩ .ret (bodyPost P fn R) l w:=VB hr ht ha hx (fun j v hj=>rE hg hj) h
theorem Uh{Q:Program}{N:Nt}{l:SF}{ty:TypeId}{pos:String}{aft:Array Edge}{CH:Array Obj→Prop}{x:Operand}{t e:TypeId}{g:Option (Nat×Bool)}{dd:Option Nat}{n:Nat}
 {ao:Option Addr}{c i len cap:Nat}(ht:Q.underlying t=some (.array n e))(hx:evL l x=some (.slice (bG ao c i 1) len cap))(hn:ao≠none)(hl:n≤len)(hi:i<c) :
 Cm Q N CH l ⟨dd,.sliceToArrayPointer t x,ty,pos,aft,g⟩ (.pointer (some (adr ao i))):=fun a w ha _=>by
 obtain⟨a0,rfl⟩:=YU.1 hn;have e1:bG (some a0) c i 1=some (adr (some a0) i):=by unfold bG;rw[Wt (by omega)];simp[adr]
 rw[e1] at hx;simp only[execOp,ha.ev hx,Instr.arrayAt,Sem.run_bind,run_underlying ht,Result.andThen_ok];rw[Wt (by omega)];simp
end
theorem vD{x:Int}(h:0≤x):IntKind.u8.wrap x=((WP x.toNat).toNat:Int):=by
 have h1:IntKind.u8.wrap x=x%256:=by
  show IntKind.wrap .u8 x=_;simp[IntKind.wrap,IntKind.signed,IntKind.bits]
 rw[h1,Xj];omega
def EZ(W:World)(r:By×Int):Value→World→Prop:=fun v w'=>∃ ao c,v=.tuple #[.slice ao r.1.length c,iV r.2]∧Own b8 5 w'.heap ao c r.1∧Fr W.heap.size ao∧aA nob W w'
def SE(W:World)(x:By)(e:Int):Value→World→Prop:=fun v w'=>∃ ao c,v=.tuple #[.slice ao x.length c,iV e]∧Own b8 5 w'.heap ao c x∧Fr W.heap.size ao∧aA nob W w'
section
variable {P:Program}{N:Nt}{Q:Exit→Act→World→Prop}{l:SF}{w:World}{ops:Array Oper}{rest:List Oper}
variable {ty:TypeId}{pos:String}{aft:Array Edge}{d:Nat}{CH:Array Obj→Prop}
variable {x y:Operand}{t t' e:TypeId}{gd:Option (Nat×Bool)}{dd:Option Nat}
theorem ND{n:Nat}(h:n<256):IntKind.u8.wrap (n:Int)=n:=by
 show IntKind.wrap .u8 n=_;simp[IntKind.wrap,IntKind.signed,IntKind.bits];omega
theorem tZ{n:Nat}(h:n<4294967296):IntKind.u32.wrap (n:Int)=n:=by
 show IntKind.wrap .u32 n=_;simp[IntKind.wrap,IntKind.signed,IntKind.bits];omega
theorem NA{a:Nat}(h:a<256):(BitVec.ofInt 8 (a:Int)).toNat=a:=by simp;omega
theorem BE{a:Nat}(h:a<4294967296):(BitVec.ofInt 32 (a:Int)).toNat=a:=by simp;omega
theorem pH{a b:Nat}(ha:a<256)(hb:b<256):a ^^^ b<256:=Nat.xor_lt_two_pow (n:=8) ha hb
theorem mB{a b:Nat}(ha:a<4294967296)(hb:b<4294967296):a ^^^ b<4294967296:=Nat.xor_lt_two_pow (n:=32) ha hb
theorem Cl{a b:Nat}(ha:a<256)(hb:b<256)(w:World):(Op.intBits .xor .u8 (a:Int) (b:Int)).run P w=.ok (.int .u8 ((a ^^^ b:Nat):Int)) w:=by
 have h2:(BitVec.ofInt 8 (a:Int) ^^^ BitVec.ofInt 8 (b:Int)).toNat=a ^^^ b:=by rw[BitVec.toNat_xor,NA ha,NA hb]
 show (pure (Value.int .u8 (IntKind.u8.wrap ((BitVec.ofInt 8 (a:Int) ^^^ BitVec.ofInt 8 (b:Int)).toNat:Int))):Sem Value).run P w=_;rw[h2,ND (pH ha hb)];rfl
theorem zS{a b:Nat}(ha:a<4294967296)(hb:b<4294967296)(w:World):(Op.intBits .xor .u32 (a:Int) (b:Int)).run P w=.ok (.int .u32 ((a ^^^ b:Nat):Int)) w:=by
 have h2:(BitVec.ofInt 32 (a:Int) ^^^ BitVec.ofInt 32 (b:Int)).toNat=a ^^^ b:=by rw[BitVec.toNat_xor,BE ha,BE hb]
 show (pure (Value.int .u32 (IntKind.u32.wrap ((BitVec.ofInt 32 (a:Int) ^^^ BitVec.ofInt 32 (b:Int)).toNat:Int))):Sem Value).run P w=_;rw[h2,tZ (mB ha hb)];rfl
theorem US{a b:Nat}(hx:evL l x=some (.int .u8 a))(hy:evL l y=some (.int .u8 b))(ha:a<256)(hb:b<256):Cm P N CH l ⟨dd,.binOp .xor t x y t',ty,pos,aft,gd⟩ (.int .u8 ((a ^^^ b:Nat):Int)):=fun c w hc _=>by
 simp[execOp,hc.ev hx,hc.ev hy,binOp,eqGuard];rw[Cl ha hb];rfl
theorem Uv{a b:Nat}(hx:evL l x=some (.int .u32 a))(hy:evL l y=some (.int .u32 b))(ha:a<4294967296)(hb:b<4294967296):Cm P N CH l ⟨dd,.binOp .xor t x y t',ty,pos,aft,gd⟩ (.int .u32 ((a ^^^ b:Nat):Int)):=fun c w hc _=>by
 simp[execOp,hc.ev hx,hc.ev hy,binOp,eqGuard];rw[zS ha hb];rfl
theorem Va{a b:Nat}(hx:evL l x=some (.int .u32 a))(hy:evL l y=some (.int .u32 b))(ha:a<4294967296)(hb:b<4294967296):Cm P N CH l ⟨dd,.binOp .and t x y t',ty,pos,aft,gd⟩ (.int .u32 ((a &&& b:Nat):Int)):=fun c w hc _=>by
 have h1:(a &&& b)<4294967296:=Nat.lt_of_le_of_lt Nat.and_le_left ha;have h2:(BitVec.ofInt 32 (a:Int) &&& BitVec.ofInt 32 (b:Int)).toNat=a &&& b:=by rw[BitVec.toNat_and,BE ha,BE hb]
 have h3:(Op.intBits .and .u32 (a:Int) (b:Int)).run P w=.ok (.int .u32 ((a &&& b:Nat):Int)) w:=by
  show (pure (Value.int .u32 (IntKind.u32.wrap ((BitVec.ofInt 32 (a:Int) &&& BitVec.ofInt 32 (b:Int)).toNat:Int))):Sem Value).run P w=_;rw[h2,tZ h1];rfl
 simp[execOp,hc.ev hx,hc.ev hy,binOp,eqGuard];rw[h3];rfl
theorem VC{a:Nat}(hx:evL l x=some (.int .u8 a))(ha:a<256):Cm P N CH l ⟨dd,.unOp .xor t x,ty,pos,aft,gd⟩ (.int .u8 ((255 ^^^ a:Nat):Int)):=fun c w hc _=>by
 have h:=Cl (P:=P) (show 255<256 by decide) ha w;have h2:(if IntKind.u8.signed=true then (-1:Int) else IntKind.u8.max)=((255:Nat):Int):=rfl;simp only[execOp,hc.ev hx,Op.unary,h2,Sem.run_bind,h,Result.andThen_ok,Sem.run_pure]
theorem Uw{a:Nat}(hx:evL l x=some (.int .u32 a))(ha:a<4294967296):Cm P N CH l ⟨dd,.unOp .xor t x,ty,pos,aft,gd⟩ (.int .u32 ((4294967295 ^^^ a:Nat):Int)):=fun c w hc _=>by
 have h:=zS (P:=P) (show 4294967295<4294967296 by decide) ha w;have h2:(if IntKind.u32.signed=true then (-1:Int) else IntKind.u32.max)=((4294967295:Nat):Int):=rfl;simp only[execOp,hc.ev hx,Op.unary,h2,Sem.run_bind,h,Result.andThen_ok,Sem.run_pure]
theorem Ux{a n:Nat}{k':IntKind}{m:Int}(hm:m=n)(hx:evL l x=some (.int .u32 a))(hy:evL l y=some (.int k' m))(hn:n≤32):Cm P N CH l ⟨dd,.binOp .shr t x y t',ty,pos,aft,gd⟩ (.int .u32 ((a/2 ^ n:Nat):Int)):=fun c w hc _=>by
 subst hm;have h1:¬ ((n:Int)<0):=by omega
 have h2:min (n:Int).toNat 32=n:=by omega
 have h3:(a:Int).fdiv (2 ^ n)=((a/2 ^ n:Nat):Int):=by rw[Y2 _ (Int.pow_nonneg (by decide))];simp
 have h4:∀ w,(Y9 .shr .u32 a k' n).run P w=.ok (.int .u32 ((a/2 ^ n:Nat):Int)) w:=fun w=>by
  unfold Y9;rw[Wt h1];show (pure (Value.int .u32 ((a:Int).fdiv (2 ^ min (n:Int).toNat 32))):Sem Value).run P w=_;rw[h2,h3];rfl
 have h5:∀ w:World,(if (!false)=true then (pure ():Sem Unit) else pure ()).run P w=.ok () w:=fun w=>rfl;simp only[execOp,hc.ev hx,hc.ev hy,eqGuard,binOp,Sem.run_bind,h5,h4,Result.andThen_ok,Sem.run_pure]
structure Fb (P:Program)(t e:TypeId)(n size:Nat):Prop where
 und:P.underlying t=some (.array n e)
 size:(P.info? e).map (·.size)=some size
theorem Fb.run_size{n size:Nat}(h:Fb P t e n size)(w:World):(sizeOf e).run P w=.ok size w:=by
 obtain⟨i,hi,h1⟩:=WR.1 h.size;simp[sizeOf,typeInfo,hi,h1]
theorem TF{n size:Nat}{ad:Addr}{k:IntKind}{z:Int}(ht:Fb P t e n size)(hx:evL l x=some (.pointer (some ad)))(hy:evL l y=some (.int k z))(h:0≤z∧z<n) :
 Cm P N CH l ⟨dd,.indexAddr t x y,ty,pos,aft,gd⟩ (.pointer (some (ad.add (z.toNat*size)))):=fun a w ha _=>by
 simp only[execOp,ha.ev hx,ha.ev hy,Instr.indexAt,asIntOf,Instr.sureAddr,Sem.run_bind,run_underlying ht.und,Result.andThen_ok,Sem.run_pure,ht.run_size w,Wu h]
theorem Uy{n size b:Nat}(ht:Fb P t e n size)(hx:evL l x=some (pT b)):Cm P N CH l ⟨dd,.slice t x none none none,ty,pos,aft,gd⟩ (.slice (some ⟨b,0,none⟩) n n):=fun a w ha _=>by
 simp[execOp,ha.ev hx,Instr.sliceAt,run_underlying ht.und,Instr.sureAddr,ht.run_size w,Instr.sliceBounds,Addr.add_lit]
theorem Uz{n size:Nat}{parts:List (Nat×Operand)}{vs:List (Nat×Value)}{zc cs:Array Value}(ht:Fb P t e n size)(hz:(P.info? t).map (fun i=>i.zero.map (·.cells))=some (some zc))
 (hx:evPs l parts=some vs)(hf:Instr.fill (fun i=>some (i*size,size)) zc vs=some cs):Cm P N CH l ⟨dd,.build t parts.toArray,ty,pos,aft,gd⟩ (.agg cs):=fun a w ha _=>by
 obtain⟨i,hi,h1⟩:=WR.1 hz;obtain⟨z,hz',rfl⟩:=WR.1 h1;have hv:=ha.evPs hx;simp only[execOp,Instr.build,Sem.run_bind,zeroValue,typeInfo,run_program,Result.andThen_ok,hi,hz',run_underlying ht.und,Sem.run_pure,ht.run_size w,Zc,hv];rw[hf];simp
theorem TO{f:Fn}{cs:List Operand}{vs:List Value}(hx:sD l cs=some vs):Cm P N CH l ⟨dd,.makeFunc f #[] cs.toArray,ty,pos,aft,gd⟩ (.func f #[] vs.toArray):=fun a w ha _=>by
 have:=ha.evs hx;simp[execOp,Instr.makeFunc];rw[←this]
theorem Tu{f:FuncId}{xs:List Operand}{vs cs:List Value}{ts:Array TypeId}(hf:fnB P f=true)(hc0:evL l x=some (.func (.func f) #[] cs.toArray))(hx:sD l xs=some vs){R:Value→World→Prop}(hc:Calls P f (vs++cs).toArray w (Ret R))(hd:Xb d N.n=true)
 (h:∀ v w',R v w'→Sl P N ops Q rest ((d,v)::l) w') :
 Sl P N ops Q (⟨some d,.call ⟨.value x,xs.toArray,ts⟩,ty,pos,aft,none⟩::rest) l w:=fun a ha=>by
 unfold wpList;rw[Wu (by simp[Region.wanted])];refine .inl ?_;unfold Oper.wp;have h1:=ha.ev hc0;have h2:(execOp a.eval ⟨some d,.call ⟨.value x,xs.toArray,ts⟩,ty,pos,aft,none⟩).run P w=.ok (.enter f (vs++cs).toArray) w:=by
  have h3:=ha.evs hx;simp[execOp,resolve,h1,Deferred.ofValue,invoke,eJ hf];rw[←h3]
 rw[h2];refine hc.mono ?_;rintro e w' ⟨v,rfl,hR⟩;exact h v w' hR _ (ha.put hd v)
theorem Ud{M:Nat}{fn:Func}{R:Ending→World→Prop}{a:Nat}{cs:List Value}{ad:Addr}(hr:fn.results=#[.cell a t])(ht:iG P t cs.length=true)(ha:lk l a=some (.pointer (some ad)))
 (hc:∀ j v,cs[j]?=some v→bH w.heap (ad.add j)=some v)(h:R (.returned (.agg cs.toArray)) w) :
 At ⟨M,[]⟩ .ret (bodyPost P fn R) l w:=fun act ha'=>by
 refine⟨ha'.dfr,_,?_,h⟩;have h1:=ha'.has a _ ha;have h3:=tA (P:=P) (w:=w) ht hc;simp[results,hr,h1,asAddr,h3]
end
def e1(r:Nat):Nat:=(r/2) ^^^ (if r%2=1 then 3988292384 else 0)
def eN(r:Nat):Nat→Nat
|0=>r
|k+1=>e1 (eN r k)
def ent(i:Nat):Nat:=eN i 8
def OI(r:Nat)(c:UInt8):Nat:=(r/256) ^^^ ent ((r%256) ^^^ c.toNat)
def Dy(r:Nat)(b:By):Nat:=b.foldl OI r
def fG(b:By):Nat:=4294967295 ^^^ Dy 4294967295 b
theorem QP{r:Nat}(h:r<4294967296):e1 r<4294967296:=mB (by omega) (by split<;>decide)
theorem Kk{r:Nat}(h:r<4294967296):∀ k,eN r k<4294967296
|0=>h
|k+1=>QP (Kk h k)
theorem Kf{i:Nat}(h:i<4294967296):ent i<4294967296:=Kk h 8
theorem JK(r:Nat)(c:UInt8):(r%256) ^^^ c.toNat<256:=pH (by omega) c.toNat_lt
theorem MN{r:Nat}(h:r<4294967296)(c:UInt8):OI r c<4294967296:=mB (by omega) (Kf (by have:=JK r c;omega))
theorem uX:∀ (b:By) {r:Nat},r<4294967296→Dy r b<4294967296
|[],_,h=>h
|c::b,r,h=>uX b (MN h c)
theorem pL(b:By):fG b<4294967296:=mB (by decide) (uX b (by decide))
theorem HI(r:Nat)(b:By)(c:UInt8):Dy r (b++[c])=OI (Dy r b) c:=by unfold Dy;rw[XO];rfl
theorem GC{b:By}{i:Nat}(h:i<b.length):b.take (i+1)=b.take i++[b.getD i 0]:=by
 rw[WV h,WI,Wv h];rfl
def pK(i:Nat):List Value:=(Xr 256).map (fun j=>.int .u32 ((if j<i then ent j else 0:Nat):Int))
def tab:List Value:=(Xr 256).map (fun j=>.int .u32 ((ent j:Nat):Int))
theorem vO(i:Nat):(pK i).length=256:=by simp[pK]
theorem uD:tab.length=256:=by simp[tab]
theorem Ik{i:Nat}(h:i<256):(pK i).set i (.int .u32 ((ent i:Nat):Int))=pK (i+1):=by
 apply Xy;intro q;rw[XT,vO];by_cases hq:i=q
 · subst hq
   rw[Wu rfl,Wu h];simp[pK,h]
 · rw[Wt hq]
   unfold pK;rw[W7,W7];by_cases hq2:q<256
   · rw[List.getElem?_range hq2]
     simp only[Ym];congr 3;by_cases h3:q<i
     ·rw[Wu h3,Wu (by omega)]
     ·rw[Wt h3,Wt (by omega)]
   ·rw[Xe (by simp;omega)];rfl
theorem Il:pK 256=tab:=by
 unfold pK tab;apply X5;intro j hj;rw[Wu (XB.1 hj)]
theorem zJ:(W4 256 (.int .u32 0):List Value)=pK 0:=by kernel_rfl
theorem Lk{i:Nat}(h:i<256):tab[i]?=some (.int .u32 ((ent i:Nat):Int)):=by simp[tab,h]
theorem AT:∀ v∈tab,v.oneCell'=true:=by
 intro v hv;obtain⟨j,_,rfl⟩:=WS.1 hv;rfl
theorem K9:(Tryz.prog.info? 41).map (fun i=>i.zero.map (·.cells))=some (some (W4 256 (.int .u32 0)).toArray):=by kernel_rfl
theorem QS:Fb Tryz.prog 41 39 256 1:=⟨by kernel_rfl,by kernel_rfl⟩
theorem yK:iG Tryz.prog 41 tab.length=true:=by rw[uD];exact QT
def TbV(H:Array Obj)(p:Nat):Prop:=H[p]?=some (.cells tab.toArray 41 (0,0))
theorem K2(q i:Nat):(⟨q,0,none⟩:Addr).add (((i:Nat):Int).toNat*1)=⟨q,i,none⟩:=by rw[Addr.add_lit];simp
theorem JN{x:Nat}(h:x<4294967296):IntKind.u32.wrap (((x &&& 1:Nat):Int)*3988292384)=((if x%2=1 then 3988292384 else 0:Nat):Int):=by
 have e:x &&& 1=x%2:=Nat.and_one_is_mod x;rw[e];by_cases h1:x%2=1
 ·rw[Wu h1,h1];rfl
 ·rw[Wt h1,show x%2=0 by omega];rfl
theorem AB(W:World):CA 13 [] W fun v w'=>v=.agg tab.toArray∧aA nob W w':=by
 refine cS 23 [] Tryz.func13 ?_;refine Gz 2 ?_;refine SP K9 rfl ?_;intro w1 hg1 hs1 hf1;have hg1:w1.heap[W.heap.size]?=some (.cells (pK 0).toArray 41 (0,0)):=by rw[←zJ];exact hg1
 refine Gz 4 ?_;refine SP K9 rfl ?_;intro w2 hg2 hs2 hf2;have hg2:w2.heap[w1.heap.size]?=some (.cells (pK 0).toArray 41 (0,0)):=by rw[←zJ];exact hg2
 have hg12:=hf2.obj hg1 id;obtain⟨q,hq⟩:∃ q,q=w1.heap.size:=⟨_,rfl⟩
 rw[←hq] at hg2 ⊢;have hF2:=hf1.trans hf2;refine Gz 9 ?_;refine SO (β:=Nat) (fun i=>[(0,pT W.heap.size),(1,pT q),(4,iV i)]) (fun i w=>i≤256∧w.heap[q]?=some (.cells (pK i).toArray 41 (0,0))∧w.heap[W.heap.size]?=some (.cells (pK 0).toArray 41 (0,0))∧aA nob W w) (fun i=>256-i) 0 ⟨rfl,rfl,rfl,trivial⟩ ⟨by decide,hg2,hg12,hF2⟩ ?_;rintro i w3 ⟨hi,hgq,hgr,hF3⟩;refine fK 2 ?_ ?_<;>intro h5
 ·refine Gz 17 ?_;refine cL (S1 (n:=(i:Int)) is3 OZ rfl (tZ (by omega))) ?_;refine Gz 10 ?_;refine SO (β:=Nat) (fun k=>[(0,pT W.heap.size),(1,pT q),(2,iV i),(3,.int .u32 ((eN i k:Nat):Int)),(4,iV i),(9,iV k)]) (fun k w=>k≤8∧w=w3) (fun k=>8-k) 0 ⟨rfl,rfl,rfl,rfl,rfl,rfl,trivial⟩ ⟨by decide,rfl⟩ ?_;rintro k wq ⟨hk,hwq⟩;subst wq;refine fK 2 ?_ ?_<;>intro h10
  ·refine Gz 10 ?_;have hlt:=Kk (r:=i) (by omega) k;refine cL (Ux (n:=1) rfl rfl rfl (by decide)) ?_;refine Gz 1 ?_;refine cL (Va (b:=1) rfl rfl hlt (by decide)) ?_;refine cL (SN (u:=.int .u32 ((if eN i k%2=1 then 3988292384 else 0:Nat):Int)) (UP rfl rfl) (by rw[JN hlt])) ?_;refine cL (Uv rfl rfl (by omega) (by split<;>decide)) ?_;refine Gz 8 ?_;exact aG (k+1) ⟨by omega,rfl⟩ (by show 8-(k+1)<8-k;omega)
  refine Gz 12 ?_;refine cL (SN (u:=.pointer (some ⟨q,i,none⟩)) (TF QS rfl rfl (by omega)) (by rw[K2])) ?_;have hk8:k=8:=by omega
  subst hk8;refine SV ID rfl rfl rfl hgq (by rw[XP,vO];omega) ?_;intro w4 hg4 hs4 hf4;have hg4:w4.heap[q]?=some (.cells (pK (i+1)).toArray 41 (0,0)):=by rw[hg4];congr 2;rw[←Ik (by omega)];rfl
  refine Gz 7 ?_;exact aG (i+1) ⟨by omega,hg4,hf4.obj hgr (by omega),hF3.tw hf4⟩ (by show 256-(i+1)<256-i;omega)
 refine Gz 11 ?_;have hi2:i=256:=by omega
 subst hi2;rw[Il] at hgq;refine cL (SX (cs:=tab) yK rfl (fun j v hj=>aD hgq hj)) ?_;refine SY (vs:=tab) yK rfl rfl AT hgr (by rw[uD,vO]) ?_;intro w5 hg5 hs5 hf5;refine Gz 3 ?_;refine Ud (cs:=tab) rfl yK rfl (fun j v hj=>aD hg5 hj) ?_;exact⟨_,rfl,rfl,hF3.tw hf5⟩
theorem DN(n:Nat):IntKind.u8.wrap (n:Int)=((n%256:Nat):Int):=by
 show IntKind.wrap .u8 n=_;simp[IntKind.wrap,IntKind.signed,IntKind.bits]
theorem L0(p:Nat)(s:Nat)(ao:Option Addr)(c:Nat)(b:By)(W:World)(ht:TbV W.heap p)(hv:Vw b8 W.heap ao c b)(hs:s<4294967296) :
 CA 98 [pT p,.int .u32 (s:Nat),.slice ao b.length c] W fun v w'=>v=.int .u32 ((4294967295 ^^^ Dy (4294967295 ^^^ s) b:Nat):Int)∧w'=W:=by
 have hs2:=mB (show 4294967295<4294967296 by decide) hs;have hl:=hv.Wq;refine cS 32 [(0,_),(1,_),(2,_)] Tryz.func98 ?_;refine Gz 8 ?_;refine cL (Uw rfl hs) ?_;refine Gz 12 ?_;refine SO (β:=Nat) (fun i=>[(0,pT p),(7,.int .u32 ((Dy (4294967295 ^^^ s) (b.take i):Nat):Int)),(12,.slice ao b.length c),(13,iV b.length),(14,iV i)]) (fun i w=>i≤b.length∧w=W) (fun i=>b.length-i) 0 ⟨rfl,rfl,rfl,rfl,rfl,trivial⟩ ⟨WG _,rfl⟩ ?_;rintro i wq ⟨hi,hwq⟩;subst wq;refine fK 2 ?_ ?_<;>intro h15
 ·refine Gz 10 ?_;refine cL (SI aT rfl rfl hv.non (by omega)) ?_;refine cL (SM yS rfl (hv.gz 0 i rfl (by omega))) ?_;obtain⟨r,hr⟩:∃ r,r=Dy (4294967295 ^^^ s) (b.take i):=⟨_,rfl⟩
  have hrl:r<4294967296:=by rw[hr];exact uX _ hs2
  rw[←hr];have hix:=JK r (b.getD i 0);refine Gz 5 ?_;refine cL (Ux (n:=8) rfl rfl rfl (by decide)) ?_;refine Gz 2 ?_;refine cL (S1 (n:=((r%256:Nat):Int)) Oi ty5 rfl (DN r)) ?_;refine Gz 1 ?_;refine cL (US rfl rfl (by omega) (b.getD i 0).toNat_lt) ?_;refine Gz 1 ?_;refine cL (SN (u:=.pointer (some ⟨p,(r%256) ^^^ (b.getD i 0).toNat,none⟩)) (TF QS rfl rfl (by omega)) (by rw[K2])) ?_;refine cL (SM ID rfl (bN ht (Lk hix))) ?_;refine cL (Uv rfl rfl (by omega) (Kf (by omega))) ?_;refine Gz 8 ?_;refine S9 (i+1) ⟨rfl,?_,rfl,rfl,rfl,trivial⟩ ⟨by omega,rfl⟩ (by show b.length-(i+1)<b.length-i;omega);rw[GC (by omega),HI,←hr];rfl
 refine Gz 12 ?_;refine cL (Uw rfl (uX _ hs2)) ?_;refine Gz 5 ?_;rw[WJ (by omega)];exact⟨_,rfl,rfl,rfl⟩
theorem DR(p:Nat)(ao:Option Addr)(c:Nat)(b:By)(W:World)(ht:TbV W.heap p)(hv:Vw b8 W.heap ao c b) :
 CA 48 [pT p,.slice ao b.length c] W fun v w'=>v=.int .u32 ((fG b:Nat):Int)∧w'=W:=by
 refine cS 8 [(0,_),(1,_)] Tryz.func48 ?_;refine Gz 9 ?_;refine SJ RQ rfl (L0 p 0 ao c b W ht hv (by decide)) rfl ?_;rintro _ w1 ⟨rfl,hw1⟩;subst w1;refine Gz 5 ?_;exact⟨_,rfl,rfl,rfl⟩
def CL(b:By)(a o i:Nat):Prop:=i<130∧a+i<b.length∧b.getD (a+i) 0=b.getD (o+i) 0
instance (b:By)(a o i:Nat):Decidable (CL b a o i):=by unfold CL;exact inferInstance
def Ju(b:By)(a o:Nat):Nat→Nat→Nat
|0,n=>n
|f+1,n=>if CL b a o n then Ju b a o f (n+1) else n
def lik(b:By)(a o:Nat):Nat:=Ju b a o 131 0
theorem Ag(b:By)(a o:Nat):∀ f n,131≤n+f→(∀ i,i<n→CL b a o i)→(∀ i,i<Ju b a o f n→CL b a o i)∧¬ CL b a o (Ju b a o f n)
|0,n,h,hc=>by have:=(hc (n-1) (by omega)).1;omega
|f+1,n,h,hc=>by
   unfold Ju
   split
   · rename_i hn
     exact Ag b a o f (n+1) (by omega) (fun i hi=>by by_cases h2:i=n;rw[h2];exact hn;exact hc i (by omega))
   ·rename_i hn;exact⟨hc,hn⟩
theorem qF(b:By)(a o:Nat):(∀ i,i<lik b a o→CL b a o i)∧¬ CL b a o (lik b a o):=Ag b a o 131 0 (by decide) (by intro i hi;omega)
theorem Et{b:By}{a o n:Nat}(h1:∀ i,i<n→CL b a o i)(h2:¬ CL b a o n):n=lik b a o:=by
 obtain⟨g1,g2⟩:=qF b a o;rcases XN n (lik b a o) with h|h|h
 ·exact absurd (g1 n h) h2
 ·exact h
 ·exact absurd (h1 _ h) g2
theorem Jt(b:By)(a o:Nat):lik b a o≤130∧(0<lik b a o→a+lik b a o≤b.length):=by
 obtain⟨g1,_⟩:=qF b a o;refine⟨?_,fun h=>?_⟩
 · by_cases h:0<lik b a o
   ·have:=(g1 (lik b a o-1) (by omega)).1;omega
   ·omega
 ·have:=(g1 (lik b a o-1) (by omega)).2.1;omega
theorem Mb(b:By)(a o:Nat):lik b a o≤b.length-a:=by
 have:=Jt b a o;omega
def stp(b:By)(a:Nat)(s:Nat×Nat)(i:Nat):Nat×Nat:=if s.1<lik b a i then (lik b a i,a-i) else s
def thr(s:Nat×Nat):Nat×Nat:=if s.1<3 then (0,0) else s
def bst(b:By)(a k:Nat):Nat×Nat:=((X8 (a-k) k).reverse).foldl (stp b a) (0,0)
def mt(b:By)(a:Nat):Nat×Nat:=if a<b.length then thr (bst b a (min 256 a)) else (0,0)
theorem KO(b:By){a k:Nat}(h:k+1≤a):bst b a (k+1)=stp b a (bst b a k) (a-(k+1)):=by
 unfold bst;rw[range'_succ,List.reverse_cons,XO,show a-(k+1)+1=a-k by omega];rfl
theorem yG(b:By)(a:Nat):∀ k,k≤a→(∀ j,1≤j→j≤k→lik b a (a-j)≤(bst b a k).1) ∧
 ((bst b a k).1=0∧(bst b a k).2=0∨1≤(bst b a k).2∧(bst b a k).2≤k∧0<(bst b a k).1∧lik b a (a-(bst b a k).2)=(bst b a k).1∧∀ j,1≤j→j<(bst b a k).2→lik b a (a-j)<(bst b a k).1)
|0,_=>⟨fun j h1 h2=>by omega,.inl ⟨rfl,rfl⟩⟩
|k+1,h=>by
   obtain⟨h1,h2⟩:=yG b a k (by omega);rw[KO b h];generalize bst b a k=s at h1 h2 ⊢;unfold stp;by_cases hs:s.1<lik b a (a-(k+1))
   · rw[Wu hs]
     refine⟨fun j j1 j2=>?_,.inr ⟨by simp only;omega,by simp only;omega,by simp only;omega,?_,fun j j1 j2=>?_⟩⟩
     · by_cases e:j=k+1
       ·rw[e];exact WC _
       ·exact Nat.le_of_lt (Nat.lt_of_le_of_lt (h1 j j1 (by omega)) hs)
     · simp only
       rw[show a-(a-(k+1))=k+1 by omega]
     ·exact Nat.lt_of_le_of_lt (h1 j j1 (by simp only at j2;omega)) hs
   · rw[Wt hs]
     refine⟨fun j j1 j2=>?_,?_⟩
     · by_cases e:j=k+1
       ·rw[e];omega
       ·exact h1 j j1 (by omega)
     · rcases h2 with h2|⟨c1,c2,c3,c4,c5⟩
       ·exact .inl h2
       ·exact .inr ⟨c1,by omega,c3,c4,c5⟩
theorem OL(b:By)(a k:Nat)(h:k≤a):(bst b a k).1≤130∧(bst b a k).1≤b.length-a:=by
 rcases(yG b a k h).2 with⟨e,_⟩|⟨_,_,_,e,_⟩
 ·omega
 ·rw[←e];exact⟨(Jt _ _ _).1,Mb _ _ _⟩
theorem uP{b:By}{a:Nat}(h:(mt b a).1≠0):a<b.length∧3≤(mt b a).1∧(mt b a).1≤130∧a+(mt b a).1≤b.length∧1≤(mt b a).2∧(mt b a).2≤256∧(mt b a).2≤a ∧
 lik b a (a-(mt b a).2)=(mt b a).1∧∀ j,1≤j→j<(mt b a).2→lik b a (a-j)<(mt b a).1:=by
 unfold mt at h ⊢;by_cases hb:a<b.length
 · rw[Wu hb] at h ⊢
   unfold thr at h ⊢;by_cases h3:(bst b a (min 256 a)).1<3
   ·rw[Wu h3] at h;exact absurd rfl h
   · rw[Wt h3] at h ⊢
     have hl:=OL b a (min 256 a) (by omega);rcases(yG b a (min 256 a) (by omega)).2 with⟨e,_⟩|⟨c1,c2,c3,c4,c5⟩
     ·omega
     ·exact⟨hb,by omega,hl.1,by omega,c1,by omega,by omega,c4,c5⟩
 ·rw[Wt hb] at h;exact absurd rfl h
theorem LZ{b:By}{a:Nat}(h:(mt b a).1=0):mt b a=(0,0):=by
 unfold mt thr at h ⊢
 split
 · rename_i hb
   rw[Wu hb] at h
   split
   ·rfl
   ·rename_i h3;rw[Wt h3] at h;omega
 ·rfl
theorem Jk{b:By}{a:Nat}(h:b.length<a+3):mt b a=(0,0):=by
 apply LZ;apply WH;intro hn;have:=uP hn;omega
def st3(b:By)(i:Nat):UInt8×UInt8×UInt8:=(b.getD i 0,b.getD (i+1) 0,b.getD (i+2) 0)
def iL(b:By)(lo hi:Nat)(a:UInt8×UInt8×UInt8):List Nat:=(X8 lo (hi-lo)).filter (fun i=>decide (i+3≤b.length∧st3 b i=a))
theorem Hm{b:By}{a i:Nat}(h:a+3≤b.length):3≤lik b a i↔st3 b i=st3 b a:=by
 obtain⟨g1,g2⟩:=qF b a i;constructor
 · intro h3
   have c0:=(g1 0 (by omega)).2.2;have c1:=(g1 1 (by omega)).2.2;have c2:=(g1 2 (by omega)).2.2;unfold st3;rw[Yd,Yd] at c0;rw[c0,c1,c2]
 · intro e
   unfold st3 at e;simp only[Prod.mk.injEq] at e;apply WH;intro hn;apply g2;refine⟨by omega,by omega,?_⟩;have:lik b a i=0∨lik b a i=1∨lik b a i=2:=by omega
   rcases this with e1|e1|e1<;>rw[e1]
   ·exact e.1.symm
   ·exact e.2.1.symm
   ·exact e.2.2.symm
theorem BW{b:By}{a:Nat}{p:Nat→Bool}:∀ (L:List Nat) (s:Nat×Nat),(∀ i∈L,p i=true↔3≤lik b a i)→thr (L.foldl (stp b a) s)=(L.filter p).foldl (stp b a) (thr s)
|[],s,_=>rfl
|i::r,s,h=>by
   have ih:=BW r (stp b a s i) (fun j hj=>h j (by simp[hj]));have hi:=h i (by simp);rw[XA,ih];by_cases hp:3≤lik b a i
   · rw[Yi (hi.2 hp),XA]
     congr 1;have e:thr (lik b a i,a-i)=(lik b a i,a-i):=by unfold thr;rw[Wt (by show ¬ lik b a i<3;omega)]
     by_cases h3:s.1<3
     · have e1:stp b a s i=(lik b a i,a-i):=by unfold stp;rw[Wu (by omega)]
       have e2:thr s=(0,0):=by unfold thr;rw[Wu h3]
       rw[e1,e2,e];unfold stp;rw[Wu (by show 0<lik b a i;omega)]
     · have e2:thr s=s:=by unfold thr;rw[Wt h3]
       rw[e2];by_cases h4:s.1<lik b a i
       · have e1:stp b a s i=(lik b a i,a-i):=by unfold stp;rw[Wu h4]
         rw[e1,e]
       · have e1:stp b a s i=s:=by unfold stp;rw[Wt h4]
         rw[e1,e2]
   · rw[YG (fun e=>hp (hi.1 e))]
     congr 1;by_cases h3:s.1<lik b a i
     · have e1:stp b a s i=(lik b a i,a-i):=by unfold stp;rw[Wu h3]
       rw[e1];unfold thr;rw[Wu (by show lik b a i<3;omega),Wu (by omega)]
     · have e1:stp b a s i=s:=by unfold stp;rw[Wt h3]
       rw[e1]
theorem Cz(b:By)(lo hi:Nat)(a:UInt8×UInt8×UInt8):(iL b lo hi a).Pairwise (· < ·):=(List.pairwise_lt_range' (s:=lo) (n:=hi-lo)).filter _
theorem IY{b:By}{lo hi i:Nat}{a:UInt8×UInt8×UInt8}:i∈iL b lo hi a↔lo≤i∧i<hi∧i+3≤b.length∧st3 b i=a:=by
 unfold iL;rw[YE,YJ];simp only[decide_eq_true_eq];constructor
 ·rintro⟨⟨h1,h2⟩,h3⟩;exact⟨h1,by omega,h3⟩
 ·rintro⟨h1,h2,h3⟩;exact⟨⟨h1,by omega⟩,h3⟩
theorem wH(b:By)(lo hi:Nat)(a:UInt8×UInt8×UInt8):(iL b lo hi a).length≤hi-lo:=by
 have:=List.length_filter_le (fun i=>decide (i+3≤b.length∧st3 b i=a)) (X8 lo (hi-lo));unfold iL;simpa using this
theorem Od{b:By}{lo a:Nat}(h:a+3≤b.length)(hlo:lo≤a-256) :
 mt b a=(((iL b lo a (st3 b a)).filter (fun i=>decide (a-i≤256))).reverse).foldl (stp b a) (0,0):=by
 have e1:mt b a=thr (bst b a (min 256 a)):=by unfold mt;rw[Wu (by omega)]
 rw[e1];unfold bst;rw[BW (p:=fun i=>decide (i+3≤b.length∧st3 b i=st3 b a)) _ _ (fun i hi=>by
  rw[List.mem_reverse,YJ] at hi;rw[decide_eq_true_iff,Hm h];exact⟨fun g=>g.2,fun g=>⟨by omega,g⟩⟩)]
 rw[List.filter_reverse];have e2:(X8 (a-min 256 a) (min 256 a)).filter (fun i=>decide (i+3≤b.length∧st3 b i=st3 b a))=(iL b lo a (st3 b a)).filter (fun i=>decide (a-i≤256)):=by
  unfold iL;have e3:X8 lo (a-lo)=X8 lo (a-256-lo)++X8 (a-min 256 a) (min 256 a):=by
   have:=List.range'_append (s:=lo) (m:=a-256-lo) (n:=min 256 a) (step:=1);rw[XW,show lo+(a-256-lo)=a-min 256 a by omega,show a-256-lo+min 256 a=a-lo by omega] at this;exact this.symm
  rw[e3,XQ,XQ];have e4:((X8 lo (a-256-lo)).filter (fun i=>decide (i+3≤b.length∧st3 b i=st3 b a))).filter (fun i=>decide (a-i≤256))=[]:=by
   rw[List.filter_eq_nil_iff];intro i hi;have:=YJ.1 (YE.1 hi).1;simp only[decide_eq_true_eq];omega
  rw[e4,Xc]
  symm
  rw[Yh];intro i hi;have:=YJ.1 (YE.1 hi).1;simp only[decide_eq_true_eq];omega
 rw[e2];simp[thr]
theorem oL{l:List Nat}{a j:Nat}(hs:l.Pairwise (· < ·))(hj:j<l.length)(hbad:256<a-l.getD j 0)(hok:∀ i∈l.drop (j+1),a-i≤256):l.filter (fun i=>decide (a-i≤256))=l.drop (j+1):=by
 conv=>lhs;rw[←WX (j+1) l]
 rw[XQ]
 have e1:(l.take (j+1)).filter (fun i=>decide (a-i≤256))=[]:=by
  rw[List.filter_eq_nil_iff];intro i hi;obtain⟨k,hk⟩:=WO hi;rw[Xf] at hk
  split at hk
  · rename_i hkj
    have hkl:=(Wy.1 hk).1;have hle:i≤l.getD j 0:=by
     rw[WI,Wv hj,Option.getD_some];rw[Wv hkl] at hk;have hk2:=Option.some.inj hk;by_cases e:k=j
     ·subst e;omega
     ·have:=List.pairwise_iff_getElem.1 hs k j hkl hj (by omega);omega
    simp only[decide_eq_true_eq];omega
  ·cases hk
 rw[e1,Xc,Yh];intro i hi;simp only[decide_eq_true_eq];exact hok i hi
theorem Aa{b:By}{lo i:Nat}(a:UInt8×UInt8×UInt8)(hlo:lo≤i)(h:i+3≤b.length):iL b lo (i+1) a=if a=st3 b i then iL b lo i a++[i] else iL b lo i a:=by
 unfold iL;rw[show i+1-lo=(i-lo)+1 by omega,List.range'_concat,XQ,show lo+1*(i-lo)=i by omega];by_cases e:a=st3 b i
 ·rw[Wu e,Yi (by simp[h,e])];rfl
 ·rw[Wt e,YG (by simp;intro _ e2;exact e e2.symm)];simp
theorem CB{b:By}{lo i j:Nat}(a:UInt8×UInt8×UInt8)(hlo:lo≤i)(h:b.length<i+3)(hij:i≤j):iL b lo j a=iL b lo i a:=by
 unfold iL;have:=List.range'_append (s:=lo) (m:=i-lo) (n:=j-i) (step:=1);rw[XW,show lo+(i-lo)=i by omega,show i-lo+(j-i)=j-lo by omega] at this;rw[←this,XQ];have e:(X8 i (j-i)).filter (fun i=>decide (i+3≤b.length∧st3 b i=a))=[]:=by
  rw[List.filter_eq_nil_iff];intro k hk;have:=YJ.1 hk;simp only[decide_eq_true_eq];omega
 rw[e,XK]
def rn(out l:By):By:=
 if h:l.length=0 then out else rn (out++(WP (min l.length 128-1)::l.take (min l.length 128))) (l.drop (min l.length 128))
termination_by l.length
decreasing_by simp;omega
theorem D8(out:By):rn out []=out:=by rw[rn];rfl
theorem A2{out l:By}(h:0<l.length):rn out l=rn (out++(WP (min l.length 128-1)::l.take (min l.length 128))) (l.drop (min l.length 128)):=by
 rw[rn,dif_neg (by omega)]
def pk(b:By)(a:Nat)(run out:By):By:=
 if h:a<b.length then
  if hn:(mt b a).1=0 then pk b (a+1) (run++[b.getD a 0]) out
  else pk b (a+(mt b a).1) [] (rn out run++[WP ((mt b a).1+125),WP ((mt b a).2-1)])
 else rn out run
termination_by b.length-a
def pkS(b:By):By:=pk b 0 [] []
theorem I3{b:By}{a:Nat}(h:¬ a<b.length)(run out:By):pk b a run out=rn out run:=by rw[pk,dif_neg h]
theorem I2{b:By}{a:Nat}(h:a<b.length)(hn:(mt b a).1=0)(run out:By):pk b a run out=pk b (a+1) (run++[b.getD a 0]) out:=by rw[pk,dif_pos h,dif_pos hn]
theorem FH{b:By}{a:Nat}(hn:(mt b a).1≠0)(run out:By):pk b a run out=pk b (a+(mt b a).1) [] (rn out run++[WP ((mt b a).1+125),WP ((mt b a).2-1)]):=by
 rw[pk,dif_pos (uP hn).1,dif_neg hn]
def cp(out:By)(back:Nat):Nat→By
|0=>out
|n+1=>cp (out++[out.getD (out.length-back) 0]) back n
def up(most:Int)(b out:By):By×Int:=
 match b with
|[]=>(out,0)
|t::r=>
   if t.toNat<128 then
    if r.length<t.toNat+1 then ([],2)
    else if most-out.length<t.toNat+1 then ([],3)
    else up most (r.drop (t.toNat+1)) (out++r.take (t.toNat+1))
   else match r with
   |[]=>([],2)
   |c::r'=>if out.length<c.toNat+1 then ([],2) else if most-out.length<(t.toNat:Int)-125 then ([],3) else up most r' (cp out (c.toNat+1) (t.toNat-125))
termination_by b.length
decreasing_by
 ·simp;omega
 ·simp;omega
def upS(b:By)(most:Int):By×Int:=if most<0 then ([],1) else up most b []
theorem rK(most:Int)(out:By):up most [] out=(out,0):=by rw[up]
theorem AP{most:Int}{t:UInt8}{r out:By}(h:t.toNat<128):up most (t::r) out=if r.length<t.toNat+1 then ([],2) else if most-out.length<t.toNat+1 then ([],3) else up most (r.drop (t.toNat+1)) (out++r.take (t.toNat+1)):=by
 rw[up.eq_def];simp only;rw[Wu h]
theorem BT{most:Int}{t:UInt8}{out:By}(h:¬ t.toNat<128):up most [t] out=([],2):=by rw[up,Wt h]
theorem AQ{most:Int}{t c:UInt8}{r out:By}(h:¬ t.toNat<128):up most (t::c::r) out=if out.length<c.toNat+1 then ([],2) else if most-out.length<(t.toNat:Int)-125 then ([],3) else up most r (cp out (c.toNat+1) (t.toNat-125)):=by
 rw[up,Wt h]
theorem ER(back:Nat):∀ (n:Nat) (out:By),(cp out back n).length=out.length+n
|0,out=>rfl
|n+1,out=>by unfold cp;rw[ER back n];simp;omega
theorem Gt(back:Nat):∀ (n:Nat) (out:By),cp out back (n+1)=cp out back n++[(cp out back n).getD ((cp out back n).length-back) 0]
|0,out=>rfl
|n+1,out=>by
   have h:=Gt back n (out++[out.getD (out.length-back) 0]);exact h
theorem Ky(back:Nat)(pre:By):∀ (n:Nat) (out:By),back≤out.length→1≤back→cp (pre++out) back n=pre++cp out back n
|0,out,_,_=>rfl
|n+1,out,h,h1=>by
   unfold cp;have e:(pre++out).getD ((pre++out).length-back) 0=out.getD (out.length-back) 0:=by
    rw[WI,WI,Ww,Yw (by omega)];congr 2;omega
   rw[e,WL,Ky back pre n _ (by simp;omega) h1]
theorem Kz(back:Nat):∀ (n:Nat) (out:By),∃ l,cp out back n=out++l
|0,out=>⟨[],by simp[cp]⟩
|n+1,out=>by
   obtain⟨l,hl⟩:=Kz back n (out++[out.getD (out.length-back) 0]);exact⟨_,by unfold cp;rw[hl,WL]⟩
theorem Dz{b:By}{a back:Nat}(h1:1≤back)(hb:back≤a):∀ n,(∀ i,i<n→CL b a (a-back) i)→cp (b.take a) back n=b.take (a+n)
|0,_=>rfl
|n+1,h=>by
   rw[Gt,Dz h1 hb n (fun i hi=>h i (by omega))];obtain⟨c1,c2,c3⟩:=h n (by omega);have e1:(b.take (a+n)).length=a+n:=by rw[WB];omega
   rw[e1,←Yq,WV (by omega)];congr 2;have e2:(b.take (a+n)).getD (a+n-back) 0=b.getD (a+n-back) 0:=by rw[WI,WI,Xf,Wu (by omega)]
   rw[e2,show a+n-back=a-back+n by omega,←c3];rw[WI,Wv c2];rfl
structure En (x o0 o1:By):Prop where
 pre:∃ l,o1=o0++l
 yes:∀ (p rest:By) (most:Int),(p.length:Int)+o1.length≤most→up most (x++rest) (p++o0)=up most rest (p++o1)
 big:∀ (p rest:By) (most:Int),(p.length:Int)+o0.length≤most→most<(p.length:Int)+o1.length→up most (x++rest) (p++o0)=([],3)
 cut:∀ (p:By) (most:Int) (n:Nat),(p.length:Int)+o1.length≤most→n<x.length→up most (x.take n) (p++o0)=([],2)∨∃ o l,o1=o++l∧up most (x.take n) (p++o0)=(p++o,0)
theorem En.nil(o:By):En [] o o:=⟨⟨[],by simp⟩,fun _ _ _ _=>rfl,fun _ _ _ h1 h2=>by omega,fun _ _ _ _ h=>by simp at h⟩
theorem En.trans{x y a b c:By}(h:En x a b)(k:En y b c):En (x++y) a c:=by
 obtain⟨l1,hl1⟩:=h.pre;obtain⟨l2,hl2⟩:=k.pre;have e1:b.length=a.length+l1.length:=by rw[hl1];simp
 have e2:c.length=b.length+l2.length:=by rw[hl2];simp
 refine⟨⟨l1++l2,by rw[hl2,hl1];simp⟩,fun p rest most hm=>?_,fun p rest most h1 h2=>?_,fun p most n hm hn=>?_⟩
 ·rw[WL,h.yes p _ most (by omega),k.yes p rest most hm]
 · rw[WL]
   by_cases hb:(p.length:Int)+b.length≤most
   ·rw[h.yes p _ most hb,k.big p rest most hb h2]
   ·exact h.big p _ most h1 (by omega)
 · rw[Ww] at hn
   by_cases hx:n<x.length
   · rw[Xt (by omega)]
     rcases h.cut p most n (by omega) hx with h1|⟨o,l,h1,h2⟩
     ·exact .inl h1
     ·exact .inr ⟨o,l++l2,by rw[hl2,h1];simp,h2⟩
   · rw[YO,WJ (by omega:x.length≤n),h.yes p _ most (by omega)]
     exact k.cut p most _ hm (by omega)
theorem En.run{l:By}(o:By)(h0:0<l.length)(h1:l.length≤128):En (WP (l.length-1)::l) o (o++l):=by
 have ht:(WP (l.length-1)).toNat=l.length-1:=by rw[Xj];omega
 have ht2:l.length-1+1=l.length:=by omega
 refine⟨⟨l,rfl⟩,fun p rest most hm=>?_,fun p rest most h1 h2=>?_,fun p most n hm hn=>?_⟩
 · rw[Ww] at hm
   rw[Xq,AP (by omega),ht,ht2,Wt (by simp),Wt (by simp;omega),Xs rfl,Xz rfl,WL]
 · rw[Ww] at h2
   rw[Xq,AP (by omega),ht,ht2,Wt (by simp),Wu (by simp;omega)]
 · cases n with
  |zero=>exact .inr ⟨o,l,rfl,by rw[YH,rK]⟩
  |succ n=>
     rw[WT] at hn;left;rw[List.take_succ_cons,AP (by omega),ht,ht2,Wu (by rw[WB];omega)]
theorem En.copy{o:By}{n back:Nat}(h3:3≤n)(hn:n≤130)(h1:1≤back)(h2:back≤256)(hb:back≤o.length):En [WP (n+125),WP (back-1)] o (cp o back n):=by
 have ht:(WP (n+125)).toNat=n+125:=by rw[Xj];omega
 have hc:(WP (back-1)).toNat=back-1:=by rw[Xj];omega
 have hc2:back-1+1=back:=by omega
 have hl:=ER back n o;obtain⟨l,he⟩:=Kz back n o;refine⟨⟨l,he⟩,fun p rest most hm=>?_,fun p rest most h1 h2=>?_,fun p most k hm hk=>?_⟩
 ·rw[Xq,Xq,Xc,AQ (by omega),ht,hc,hc2,Wt (by simp;omega),Wt (by simp;omega),show n+125-125=n by omega,Ky _ _ _ _ hb h1]
 ·rw[Xq,Xq,Xc,AQ (by omega),ht,hc,hc2,Wt (by simp;omega),Wu (by simp;omega)]
 · match k,hk with
  |0,_=>exact .inr ⟨o,l,he,by rw[YH,rK]⟩
  |1,_=>exact .inl (by show up most [WP (n+125)] _=_;rw[BT (by omega)])
theorem En.rn:∀ (k:Nat) (l out o0 o:By),l.length=k→En out o0 o→En (rn out l) o0 (o++l):=by
 intro k
 induction k using Yn with
|ind k ih=>
   intro l out o0 o hk h;by_cases h0:l.length=0
   · have:l=[]:=WQ h0
     subst this;rw[D8,XK];exact h
   · rw[A2 (by omega)]
     have hm:(l.take (min l.length 128)).length=min l.length 128:=by rw[WB];omega
     have ht:=En.run (l:=l.take (min l.length 128)) o (by omega) (by omega);rw[hm] at ht;have:=ih _ (by omega) (l.drop (min l.length 128)) _ o0 _ (WE ..) (h.trans ht);rwa[WL,WX] at this
theorem En.pk(b:By):∀ (k a:Nat) (run out o:By),b.length-a=k→a≤b.length→En out [] o→o++run=b.take a→En (pk b a run out) [] b:=by
 intro k
 induction k using Yn with
|ind k ih=>
   intro a run out o hk ha h ho;by_cases hlt:a<b.length
   · by_cases hn:(mt b a).1=0
     · rw[I2 hlt hn]
       refine ih (b.length-(a+1)) (by omega) (a+1) _ out o rfl (by omega) h ?_;rw[←WL,ho,WV hlt,WI,Wv hlt];rfl
     · rw[FH hn]
       obtain⟨m1,m2,m3,m4,m5,m6,m7,m8,m9⟩:=uP hn;have hr:=En.rn run.length run out [] o rfl h;rw[ho] at hr;have hl:(b.take a).length=a:=by rw[WB];omega
       have hc:=En.copy (o:=b.take a) m2 m3 m5 m6 (by omega);rw[Dz m5 m7 _ (fun i hi=>(qF b a _).1 i (by rw[m8];exact hi))] at hc;exact ih _ (by omega) _ [] _ _ rfl m4 (hr.trans hc) (by simp)
   · rw[I3 hlt]
     have hr:=En.rn run.length run out [] o rfl h;rw[ho,WJ (by omega)] at hr;exact hr
theorem VX(b:By):En (pkS b) [] b:=En.pk b _ 0 [] [] [] rfl (WG _) (En.nil _) (by simp)
theorem BU(b:By):upS (pkS b) b.length=(b,0):=by
 have h:=(VX b).yes [] [] b.length (by simp);unfold upS;rw[Wt (by omega)];simpa[rK] using h
theorem NQ:∀ (k:Nat) (l out:By),l.length=k→(rn out l).length=out.length+l.length+(l.length+127)/128:=by
 intro k
 induction k using Yn with
|ind k ih=>
   intro l out hk;by_cases h0:l.length=0
   · have:l=[]:=WQ h0
     subst this;rw[D8];simp
   · rw[A2 (by omega),ih _ (by omega) _ _ (WE ..)]
     simp only[Ww,WT,WB,WE];omega
def le(x:Int)(n:Nat):By:=(Xr n).map (fun i=>WP (x/256 ^ i).toNat)
theorem aY(x:Int)(n:Nat):(le x n).length=n:=by simp[le]
theorem le_succ(x:Int)(i:Nat):le x (i+1)=le x i++[WP (x/256 ^ i).toNat]:=by simp[le,YD]
def gD(x n:Int):Prop:=n<1∨4<n∨x<0∨x/2 ^ (8*n).toNat≠0
instance (x n:Int):Decidable (gD x n):=by unfold gD;exact inferInstance
def fH(E x n:Int):Int:=if E≠0 then E else if gD x n then 1 else 0
def oA(E:Int)(xs:By)(x n:Int):By:=if E≠0∨gD x n then xs else xs++le x n.toNat
def Ej(E:Int)(xs ys:By):By:=if E=0 then xs++ys else xs
def nY(E:Int)(s:By):Int:=if E≠0 then E else if 255<s.length then 3 else 0
def mC(E:Int)(xs s:By):By:=if E≠0∨255<s.length then xs else xs++WP s.length::s
theorem GB{E:Int}{s:By}(h:E≠0∨¬ 255<s.length):nY E s=E:=by
 unfold nY;by_cases hE:E=0
 ·rw[Wt (by omega),Wt (by omega),hE]
 ·rw[Wu hE]
theorem CN{E x n:Int}(h:E≠0∨gD x n):fH E x n≠0:=by unfold fH;split;assumption;rw[Wu (h.resolve_left (by assumption))];decide
theorem Hf{E x n:Int}(h:¬ (E≠0∨gD x n)):fH E x n=0:=by
 unfold fH;rw[Wt (fun h'=>h (.inl h')),Wt (fun h'=>h (.inr h'))]
theorem Je{E x n:Int}{xs:By}(h:fH E x n≠0):oA E xs x n=xs:=by
 unfold oA;rw[Wu (by apply WH;intro h';exact h (Hf h'))]
theorem iT{E x n:Int}{xs:By}(h:fH E x n=0):oA E xs x n=xs++le x n.toNat:=by
 unfold oA;rw[Wt (fun h'=>CN h' h)]
theorem He{E x n:Int}(h:fH E x n=0):E=0∧¬ gD x n:=by
 have:¬ (E≠0∨gD x n):=fun h'=>CN h' h;exact⟨WH fun h'=>this (.inl h'),fun h'=>this (.inr h')⟩
theorem GJ(x:Int)(i:Nat):x/2 ^ (8*(i:Int)).toNat=x/256 ^ i:=by
 rw[show (8*(i:Int)).toNat=8*i from by omega,Int.pow_mul];rfl
theorem nD{n:Nat}(h:n≤255):¬ gD n 1:=by
 unfold gD;have h2:((n:Int)/2 ^ (8*(1:Int)).toNat)=0:=by
  show (n:Int)/256=0;omega
 omega
theorem Bk(n:Nat):le n 1=[WP n]:=by
 simp[le,YD]
theorem M0{x:Int}(h:0≤x):Value.int .u8 (IntKind.u8.wrap x)=b8 (WP x.toNat):=by
 have h1:IntKind.u8.wrap x=x%256:=by
  show IntKind.wrap .u8 x=_;simp[IntKind.wrap,IntKind.signed,IntKind.bits]
 rw[h1,b8,Xj];congr 1;omega
theorem Gy{x:Int}(h:0≤x):IntKind.u8.wrap x=((WP x.toNat).toNat:Int):=by
 have:=M0 h;simpa[b8] using this
theorem hO{E x n:Int}(h:gD x n):fH E x n=if E=0 then 1 else E:=by
 unfold fH;by_cases hE:E=0<;>simp[hE,h]
theorem bT{E x n:Int}(h:¬ gD x n):fH E x n=E:=by
 unfold fH;by_cases hE:E=0<;>simp[hE,h]
theorem uL{E x n:Int}{xs:By}{i:Nat}(h1:fH E x n≠0→i=0)(h2:fH E x n=0→i=n.toNat):xs++le x i=oA E xs x n:=by
 by_cases h:fH E x n=0
 ·rw[iT h,h2 h]
 ·rw[Je h,h1 h];simp[le]
theorem Mc{xs:By}{x:Int}{i:Nat}:xs++le x (i+1)=(xs++le x i)++[WP (x/256 ^ i).toNat]:=by rw[le_succ,WL]
def csL(E:Int)(s:Value):List Value:=[iV E,s]
def WrO(cs:Int→Value→List Value)(T:TypeId)(D:Nat→Prop)(H:Array Obj)(p:Nat)(E:Int)(xs:By):Prop:=
 ∃ ao c,H[p]?=some (.cells (cs E (.slice ao xs.length c)).toArray T (0,0))∧Own b8 5 H ao c xs∧¬ blk ao p∧D p∧∀ k,blk ao k→D k
abbrev WrL:=WrO csL 143
section
variable {cs:Int→Value→List Value}{T:TypeId}{D:Nat→Prop}{p:Nat}{E:Int}{xs:List UInt8}
theorem WrO.lt{H:Array Obj}(h:WrO cs T D H p E xs):p<H.size:=by obtain⟨ao,c,hg,_⟩:=h;exact(WD.1 hg).1
theorem WrO.Ws{S:Nat→Prop}{w w':World}(h:WrO cs T D w.heap p E xs)(f:aA S w w')(hs:∀ k,D k→¬ S k):WrO cs T D w'.heap p E xs:=by
 obtain⟨ao,c,hg,ho,h1,h2,h3⟩:=h;exact⟨ao,c,f.obj hg (hs p h2),ho.Ws f (fun a ha=>hs _ (h3 _ ⟨a,ha,rfl⟩)),h1,h2,h3⟩
theorem WrO.Wr{w w':World}(h:WrO cs T D w.heap p E xs)(f:aA nob w w'):WrO cs T D w'.heap p E xs:=h.Ws f (fun _ _=>id)
theorem WrO.shrink{w w':World}(h:WrO cs T D w.heap p E xs)(f:aA nob w w'):WrO cs T (fun k=>D k∧(k<w.heap.size∨w'.heap.size≤k)) w'.heap p E xs:=by
 have h':=h.Wr f;have hl:=h.lt;obtain⟨ao,c,hg,ho,h1,h2,h3⟩:=h;refine⟨ao,c,f.obj hg id,ho.Wr f,h1,⟨h2,.inl hl⟩,fun k hk=>⟨h3 k hk,.inl ?_⟩⟩;obtain⟨a,ha,rfl⟩:=hk;exact ho.lt a ha
theorem WrO.mono{D':Nat→Prop}{H:Array Obj}(h:WrO cs T D H p E xs)(hd:∀ k,D k→D' k):WrO cs T D' H p E xs:=by
 obtain⟨ao,c,hg,ho,h1,h2,h3⟩:=h;exact⟨ao,c,hg,ho,h1,hd _ h2,fun k hk=>hd k (h3 k hk)⟩
theorem Ff{W w1 w2 w3:World}{ys:By}{ao ao2:Option Addr}{c2:Nat}(hD:∀ k,W.heap.size≤k→D k)(hap:¬ blk ao p)(hDp:D p)(hDa:∀ k,blk ao k→D k)(hpW:p<W.heap.size)
 (hf1:aA nob W w1)(ho2:Own b8 5 w2.heap ao2 c2 (xs++ys))(hf2:aA (blk ao) w1 w2)(hr2:∀ a,ao2=some a→ao=some a∨w1.heap.size≤a.block)
 (hg3:w3.heap[p]?=some (.cells (cs E (.slice ao2 (xs++ys).length c2)).toArray T (0,0)))(hf3:aA (· = p) w2 w3) :
 WrO cs T D w3.heap p E (xs++ys)∧aA D W w3:=by
 have h1:=hf1.size;have hap2:¬ blk ao2 p:=fun⟨a,ha,hb⟩=>by
  rcases hr2 a ha with h|h
  ·exact hap ⟨a,h,hb⟩
  ·omega
 refine⟨⟨ao2,c2,hg3,ho2.Ws hf3 (fun a ha h=>hap2 ⟨a,ha,h⟩),hap2,hDp,fun k hk=>?_⟩,?_⟩
 · obtain⟨a,ha,rfl⟩:=hk
   rcases hr2 a ha with h|h
   ·exact hDa _ ⟨a,h,rfl⟩
   ·exact hD _ (by omega)
 ·exact((hf1.mono (fun _ h=>h.elim)).trans (hf2.mono (fun k h=>hDa k h))).trans (hf3.mono (fun k h=>by subst h;exact hDp))
end
theorem qT(D:Nat→Prop)(p:Nat)(E:Int)(xs:By)(e:Int)(W:World)(hP:WrL D W.heap p E xs) :
 CA 97 [pT p,iV e] W fun v w'=>WrL D w'.heap p (if E=0 then e else E) xs∧aA D W w':=by
 have hPP:=hP;obtain⟨ao,c,hobj,hown,hap,hDp,hDa⟩:=hP;refine cS 13 [(0,_),(1,_)] Tryz.func97 ?_;refine fK 6 ?_ ?_<;>intro h8
 ·refine Gz 8 ?_;refine SV IE rfl rfl rfl hobj rfl ?_;intro w1 hg1 hs1 hf1;refine Gz 1 ?_;refine Tf rfl ?_;exact⟨_,rfl,by rw[Wu h8];exact⟨ao,c,hg1,hown.Ws hf1 (fun a ha h=>hap ⟨a,ha,h⟩),hap,hDp,hDa⟩,hf1.mono (fun k h=>by subst h;exact hDp)⟩
 refine Gz 4 ?_;refine Tf rfl ?_;exact⟨_,rfl,by rw[Wt h8];exact hPP,VK _ _⟩
theorem pD(D:Nat→Prop)(p:Nat)(E:Int)(xs:By)(W:World)(hP:WrL D W.heap p E xs) :
 CA 47 [pT p] W fun v w'=>v=iV E∧w'=W:=by
 obtain⟨ao,c,hobj,hown,hap,hDp,hDa⟩:=hP;refine cS 7 [(0,_)] Tryz.func47 ?_;refine Gz 16 ?_;exact⟨_,rfl,rfl,rfl⟩
theorem oR(D:Nat→Prop)(p:Nat)(E:Int)(xs:By)(x n:Int)(W:World)(hP:WrL D W.heap p E xs)(hD:∀ k,W.heap.size≤k→D k)(hb:xs.length≤1099511627776) :
 CA 76 [pT p,iV x,iV n] W fun v w'=>WrL D w'.heap p (fH E x n) (oA E xs x n)∧aA D W w':=by
 refine cS 55 [(0,_),(1,_),(2,_)] Tryz.func76 ?_;refine Tj (β:=Unit) (fun _u=>[(0,pT p),(1,iV x),(2,iV n)]) (fun _u w=>WrL D w.heap p (fH E x n) xs∧aA D W w) ?_ ?_
 ·refine fK 3 ?_ ?_<;>intro h8
  ·refine cA 22 Bv (qT D p E xs 1 W hP) ?_;rintro _ w1 hw1;refine Gz 1 ?_;refine aC () ?_
   first
   |exact⟨by rw[hO (by first|exact .inl h8|exact .inr (.inl h11)|exact .inr (.inr (.inl h15))|exact .inr (.inr (.inr h22)))];exact hw1.1,hw1.2⟩
   |exact⟨by rw[bT (by rintro(h|h|h|h);exact h8 h;exact h11 h;exact h15 h;exact h22 h)];exact hP,VK _ _⟩
  refine fW 2 ?_ ?_<;>intro h11
  ·refine cA 19 Bv (qT D p E xs 1 W hP) ?_;rintro _ w1 hw1;refine Gz 1 ?_;refine aC () ?_
   first
   |exact⟨by rw[hO (by first|exact .inl h8|exact .inr (.inl h11)|exact .inr (.inr (.inl h15))|exact .inr (.inr (.inr h22)))];exact hw1.1,hw1.2⟩
   |exact⟨by rw[bT (by rintro(h|h|h|h);exact h8 h;exact h11 h;exact h15 h;exact h22 h)];exact hP,VK _ _⟩
  refine fW 3 ?_ ?_<;>intro h15
  ·refine cA 15 Bv (qT D p E xs 1 W hP) ?_;rintro _ w1 hw1;refine Gz 1 ?_;refine aC () ?_
   first
   |exact⟨by rw[hO (by first|exact .inl h8|exact .inr (.inl h11)|exact .inr (.inr (.inl h15))|exact .inr (.inr (.inr h22)))];exact hw1.1,hw1.2⟩
   |exact⟨by rw[bT (by rintro(h|h|h|h);exact h8 h;exact h11 h;exact h15 h;exact h22 h)];exact hP,VK _ _⟩
  refine Gz 4 ?_;refine cW (TE rfl rfl (by omega)) ?_;refine cW (UH rfl rfl (by omega)) ?_;refine fW 0 ?_ ?_<;>intro h22
  ·refine cA 8 Bv (qT D p E xs 1 W hP) ?_;rintro _ w1 hw1;refine Gz 1 ?_;refine aC () ?_
   first
   |exact⟨by rw[hO (by first|exact .inl h8|exact .inr (.inl h11)|exact .inr (.inr (.inl h15))|exact .inr (.inr (.inr h22)))];exact hw1.1,hw1.2⟩
   |exact⟨by rw[bT (by rintro(h|h|h|h);exact h8 h;exact h11 h;exact h15 h;exact h22 h)];exact hP,VK _ _⟩
  refine Gz 5 ?_;refine aC () ?_
  first
  |exact⟨by rw[hO (by first|exact .inl h8|exact .inr (.inl h11)|exact .inr (.inr (.inl h15))|exact .inr (.inr (.inr h22)))];exact hw1.1,hw1.2⟩
  |exact⟨by rw[bT (by rintro(h|h|h|h);exact h8 h;exact h11 h;exact h15 h;exact h22 h)];exact hP,VK _ _⟩
 rintro _ w2 ⟨hP2,hF2⟩;refine Gz 6 ?_;refine SO (β:=Nat) (fun i=>[(0,pT p),(1,iV x),(2,iV n),(6,iV i)]) (fun i w=>(fH E x n≠0→i=0)∧(fH E x n=0→i≤n.toNat)∧WrL D w.heap p (fH E x n) (xs++le x i)∧aA D W w) (fun i=>n.toNat-i) 0 ⟨rfl,rfl,rfl,rfl,trivial⟩ ⟨fun _=>rfl,fun _=>WG _,by simpa[le] using hP2,hF2⟩ ?_;rintro i w3 ⟨hi0,hi1,hP3,hF3⟩;refine fK 5 ?_ ?_<;>intro h30
 ·refine Gz 5 ?_;have hP2:=hP3;obtain⟨ao,c,hobj,hown,hap,hDp,hDa⟩:=hP3;refine fW 1 ?_ ?_<;>intro h37
  ·refine Gz 8 ?_;have hn4:1≤n∧n≤4∧0≤x:=by have:=(He h37).2;unfold gD at this;omega
   refine SZ 14 (fun H=>H[p]?=some (.cells (csL (fH E x n) (.slice ao (xs++le x i).length c)).toArray 143 (0,0))) [10,11,14] [0,1,2,3,4,5,6,7,8,9,10,11,12,13,14] aL (by kernel_rfl) (hobj) ?_;refine Gz 7 ?_;refine xC rfl (TE rfl rfl (by omega)) ?_;refine xC rfl (UH rfl rfl (by omega)) ?_;refine xC rfl (S1 (n:=((WP (x/256 ^ i).toNat).toNat:Int)) is3 ty5 rfl (by rw[GJ];exact Gy (Int.ediv_nonneg hn4.2.2 (Int.pow_nonneg (by decide))))) ?_;refine SU rfl rfl (TJ (enc:=b8) (u:=WP (x/256 ^ i).toNat) aT rfl rfl rfl ?_);intro w4 ho4 hs4 hf4;refine S5 (by exact hf4.obj hobj (fun h=>h)) ?_;refine SU rfl rfl (S4 dK aT rfl rfl (hown.Wr hf4.Wp) ho4.vw (by simp only[WF,Ww,aY];omega) (by simp only[WF,Ww,aY];unfold maxLen;omega) rfl ?_);intro ao5 c5 w5 ho5 hf5 hr5 hn5;refine S5 (by exact hf5.obj (hf4.obj hobj (fun h=>h)) hap) ?_;refine Gz 2 ?_;refine SU rfl rfl (SV aX rfl rfl rfl (hf5.obj (hf4.obj hobj (fun h=>h)) hap) rfl ?_);intro w6 hg6 hs6 hf6;refine Ts rfl ?_;refine Gz 8 ?_;obtain⟨hP6,hF6⟩:=Ff (cs:=csL) (E:=fH E x n) (mQ hF3 hD) hap hDp hDa hP2.lt hf4.Wp ho5 hf5 hr5 hg6 hf6;refine aG (i+1) ?_ (by show n.toNat-(i+1)<n.toNat-i;omega);exact⟨fun h=>absurd h37 h,fun _=>by omega,by rw[Mc];exact hP6,hF3.trans hF6⟩
  refine Gz 8 ?_;refine Tf rfl ?_
  first
  |exact⟨_,rfl,by rw[←uL (i:=i) hi0 (fun h=>by have:=hi1 h;omega)];exact hP3,hF3⟩
  |exact⟨_,rfl,by rw[←uL (i:=i) hi0 (fun h=>absurd h h37)];exact hP2,hF3⟩
 refine Gz 15 ?_;refine Tf rfl ?_
 first
 |exact⟨_,rfl,by rw[←uL (i:=i) hi0 (fun h=>by have:=hi1 h;omega)];exact hP3,hF3⟩
 |exact⟨_,rfl,by rw[←uL (i:=i) hi0 (fun h=>absurd h h37)];exact hP2,hF3⟩
theorem mY(D:Nat→Prop)(p:Nat)(E:Int)(xs:By)(yo:Option Addr)(yc:Nat)(ys:By)(W:World)(hP:WrL D W.heap p E xs)(hD:∀ k,W.heap.size≤k→D k)(hv:Vw b8 W.heap yo yc ys)(hb:xs.length≤1099511627776)(hb2:ys.length≤1099511627776) :
 CA 81 [pT p,.slice yo ys.length yc] W fun v w'=>WrL D w'.heap p E (Ej E xs ys)∧aA D W w':=by
 have hP0:=hP;obtain⟨ao,c,hobj,hown,hap,hDp,hDa⟩:=hP;refine cS 19 [(0,_),(1,_)] Tryz.func81 ?_;refine fK 7 ?_ ?_<;>intro h9
 ·refine Gz 10 ?_;refine S4 dK aT rfl rfl hown hv (by omega) (by unfold maxLen;omega) rfl ?_;intro ao5 c5 w5 ho5 hf5 hr5 hn5;refine Gz 2 ?_;refine SV aX rfl rfl rfl (hf5.obj hobj hap) rfl ?_;intro w6 hg6 hs6 hf6;refine Gz 1 ?_;refine Tf rfl ?_;obtain⟨hP6,hF6⟩:=Ff (cs:=csL) (E:=E) hD hap hDp hDa hP0.lt (VK _ _) ho5 hf5 hr5 hg6 hf6;exact⟨_,rfl,by unfold Ej;rw[Wu h9];exact hP6,hF6⟩
 refine Gz 4 ?_;refine Tf rfl ?_;exact⟨_,rfl,by unfold Ej;rw[Wt h9];exact hP0,VK _ _⟩
theorem CM(E:Int)(xs:By)(x n:Int)(h:¬ gD x n):(oA E xs x n).length≤xs.length+4:=by
 unfold oA;split
 ·omega
 ·simp only[Ww,aY];unfold gD at h;omega
theorem Ia{E:Int}{xs s:By}(h:¬ 255<s.length):fH E s.length 1=nY E s∧Ej (fH E s.length 1) (oA E xs s.length 1) s=mC E xs s:=by
 have hb:=nD (n:=s.length) (by omega);rw[bT hb];unfold nY mC Ej oA;by_cases hE:E=0
 ·simp[hE,h,hb,Bk]
 ·simp[hE]
theorem pI(D:Nat→Prop)(p:Nat)(E:Int)(xs s:By)(W:World)(hP:WrL D W.heap p E xs)(hD:∀ k,W.heap.size≤k→D k)(hb:xs.length≤549755813888) :
 CA 128 [pT p,.string (bs s)] W fun v w'=>WrL D w'.heap p (nY E s) (mC E xs s)∧aA D W w':=by
 refine cS 19 [(0,_),(1,_)] Tryz.func128 ?_;refine Gz 4 ?_;refine cL (Te ty9 rfl) ?_;refine fK 0 ?_ ?_<;>intro h6
 ·refine cA 8 Bv (qT D p E xs 3 W hP) ?_;rintro _ w1 ⟨hP1,hF1⟩;refine Gz 5 ?_;refine⟨_,rfl,?_,hF1⟩;have h7:255<s.length:=by omega
  have e1:nY E s=if E=0 then 3 else E:=by unfold nY;by_cases hE:E=0<;>simp[hE,h7]
  have e2:mC E xs s=xs:=by unfold mC;rw[Wu (.inr h7)]
  rw[e1,e2];exact hP1
 refine Gz 9 ?_;refine cL (Te ty9 rfl) ?_;have hs:¬ 255<s.length:=by omega
 obtain⟨e1,e2⟩:=Ia (E:=E) (xs:=xs) hs;have hl1:=CM E xs s.length 1 (nD (by omega));refine SJ xG rfl (oR D p E xs s.length 1 W hP hD (by omega)) rfl ?_;rintro _ w1 ⟨hP1,hF1⟩;refine Gz 5 ?_;refine UJ ty9 aT ty5 rfl (by unfold maxLen;omega) rfl ?_;intro w2 c2 hv2 hs2 hf2;refine SJ JX rfl (mY D p _ _ _ c2 s w2 (hP1.Wr hf2) (mQ hf2 (mQ hF1 hD)) hv2 (by omega) (by omega)) rfl ?_;rintro _ w3 ⟨hP3,hF3⟩;refine Gz 1 ?_;refine Tf rfl ?_;rw[e2] at hP3;rw[e1] at hP3;exact⟨_,rfl,hP3,(hF1.trans (hf2.mono (fun _ h=>h.elim))).trans hF3⟩
def mX(W:World)(xs:By):Value→World→Prop:=fun v w'=>∃ ao' cap',v=.slice ao' xs.length cap'∧Own b8 5 w'.heap ao' cap' xs∧Fr W.heap.size ao'∧aA nob W w'
theorem DY(cap:Nat)(xs:By)(W:World)(hv:Vw b8 W.heap none cap xs):CA 79 [.slice none xs.length cap] W (mX W xs):=by
 have hx:xs=[]:=WQ (by
  rcases YF xs.length with h|h
  ·exact h
  ·exact absurd rfl (hv.non (by omega)))
 subst hx;refine cS 8 [(0,_)] Tryz.func79 ?_;refine Gz 9 ?_;refine cL (Ti aT rfl rfl) ?_;refine Gz 11 ?_;exact⟨_,rfl,none,0,rfl,VR,VP,VK _ _⟩
theorem Ck(a:Addr)(cap:Nat)(xs:By)(W:World)(hv:Vw b8 W.heap (some a) cap xs)(hb:xs.length≤140737488355328):CA 79 [.slice (some a) xs.length cap] W (mX W xs):=by
 have hl:=hv.Wq;refine cS 8 [(0,_)] Tryz.func79 ?_;refine Gz 9 ?_;refine cL (Ti aT rfl rfl) ?_;refine Gz 7 ?_;refine T1 b8 aT rfl ?_;intro w1 ho1 hs1 hf1;refine Gz 1 ?_;refine S4 dK aT rfl rfl ho1 (hv.Wr hf1) (by simp only[W2];omega) (by simp only[W2];unfold maxLen;omega) rfl ?_;intro ao2 c2 w2 ho2 hf2 hr2 hn2;refine Gz 5 ?_;have hfr:=Ao W.heap.size;refine⟨_,rfl,ao2,c2,rfl,ho2,fun a ha=>?_,hf1.Wo hf2 hfr.step⟩;rcases hr2 a ha with h|h
 ·exact hfr a h
 ·have:=hf1.size;omega
theorem kB(ao:Option Addr)(cap:Nat)(xs:By)(W:World)(hv:Vw b8 W.heap ao cap xs)(hb:xs.length≤140737488355328):CA 79 [.slice ao xs.length cap] W (mX W xs):=by
 cases ao with
|none=>exact DY cap xs W hv
|some a=>exact Ck a cap xs W hv hb
def jS(E:Int)(xs:By):By:=if E≠0 then [] else xs
theorem fY(D:Nat→Prop)(p:Nat)(E:Int)(xs:By)(W:World)(hP:WrL D W.heap p E xs)(hb:xs.length≤1099511627776) :
 CA 77 [pT p] W (mX W (jS E xs)):=by
 obtain⟨ao,c,hobj,hown,hap,hDp,hDa⟩:=hP;refine cS 14 [(0,_)] Tryz.func77 ?_;refine fK 13 ?_ ?_<;>intro h8
 ·refine Gz 11 ?_;refine⟨_,rfl,?_⟩;unfold jS;rw[Wu h8];exact⟨none,0,rfl,VR,VP,VK _ _⟩
 refine Gz 11 ?_;refine SJ JY rfl (kB ao c xs W hown.vw (by omega)) rfl ?_;rintro _ w1 ⟨ao1,c1,rfl,ho1,hfr1,hf1⟩;refine Gz 5 ?_;refine⟨_,rfl,?_⟩;unfold jS;rw[Wt h8];exact⟨ao1,c1,rfl,ho1,hfr1,hf1⟩
theorem VY{H:Array Obj}{p:Nat}(h:H[p]?=some (.cells #[iV 0,sN] 143 (0,0))){D:Nat→Prop}(hD:D p):WrL D H p 0 []:=
 ⟨none,0,h,VR,(fun⟨a,h,_⟩=>by cases h),hD,(fun k ⟨a,h,_⟩=>by cases h)⟩
section
def dJ(E:Int)(ys:By)(n:Int):Int:=if E≠0 then E else if n<0 then 1 else if (ys.length:Int)<n then 2 else 0
def iC(E:Int)(ys:By)(n:Int):By:=if dJ E ys n≠0 then [] else ys.take n.toNat
def qZ(E:Int)(ys:By)(n:Int):By:=if dJ E ys n≠0 then ys else ys.drop n.toNat
def cC:By→Nat
|[]=>0
|b::r=>b.toNat+256*cC r
def cT(E n:Int):Int:=if E≠0 then E else if n<1∨4<n then 1 else 0
theorem CO(E n:Int):cT E n=if E=0∧(n<1∨4<n) then 1 else E:=by
 unfold cT;by_cases hE:E=0
 ·simp[hE]
 ·simp[hE]
theorem oS{n:Int}(h1:1≤n)(h4:n≤4)(E:Int):cT E n=E:=by rw[CO,Wt (by omega)]
theorem sJ{E:Int}{ys:By}{n:Int}(h:E≠0):dJ E ys n=E:=by unfold dJ;rw[Wu h]
theorem Kw{E:Int}{ys:By}{n:Int}(h:n<0):dJ E ys n=if E=0 then 1 else E:=by
 unfold dJ;by_cases hE:E=0<;>simp[hE,h]
theorem xT{E:Int}{ys:By}{n:Int}(h:¬ n<0)(h2:(ys.length:Int)<n):dJ E ys n=if E=0 then 2 else E:=by
 unfold dJ;by_cases hE:E=0<;>simp[hE,h,h2]
theorem fQ{E:Int}{ys:By}{n:Int}(h:¬ n<0)(h2:¬ (ys.length:Int)<n):dJ E ys n=E:=by
 unfold dJ;by_cases hE:E=0<;>simp[hE,h,h2]
theorem Dx{E:Int}{ys:By}{n:Int}(h:dJ E ys n≠0):iC E ys n=[]∧qZ E ys n=ys:=by unfold iC qZ;rw[Wu h,Wu h];exact⟨rfl,rfl⟩
theorem dO{E:Int}{ys:By}{n:Int}(h:dJ E ys n=0):iC E ys n=ys.take n.toNat∧qZ E ys n=ys.drop n.toNat:=by unfold iC qZ;rw[Wt (by omega),Wt (by omega)];exact⟨rfl,rfl⟩
theorem nR{E:Int}{ys:By}{n:Int}(h:dJ E ys n=0):E=0∧0≤n∧n≤ys.length:=by
 unfold dJ at h
 split at h
 ·contradiction
 · split at h
   ·cases h
   · split at h
     ·cases h
     ·rename_i h1 h2 h3;exact⟨by omega,by omega,by omega⟩
theorem Kx(E:Int)(ys:By)(n:Int):(iC E ys n).length≤n.toNat:=by unfold iC;split<;>simp;omega
theorem xR(E:Int)(ys:By)(n:Int):(qZ E ys n).length≤ys.length:=by unfold qZ;split<;>simp
theorem sV:∀ (a b:By),cC (a++b)=cC a+256 ^ a.length*cC b
|[],b=>by simp[cC]
|x::a,b=>by
   simp only[Xq,cC,sV a b,WT,Nat.pow_succ];rw[Nat.mul_add,Nat.mul_assoc (256 ^ a.length) 256,Nat.mul_left_comm 256];omega
theorem uA:∀ a:By,cC a<256 ^ a.length
|[]=>by simp[cC]
|x::a=>by
   have h1:=uA a;have h2:=x.toNat_lt;simp only[cC,WT,Nat.pow_succ];omega
theorem GA(bs:By)(i:Nat)(h:i<bs.length):cC (bs.take (i+1))=cC (bs.take i) ||| ((bs.getD i 0).toNat*2 ^ (8*i)):=by
 have e:bs.take (i+1)=bs.take i++[bs.getD i 0]:=by rw[WV h];simp[WI,h]
 have hl:(bs.take i).length=i:=by rw[WB];omega
 rw[e,sV,hl];have hlt:=uA (bs.take i);rw[hl] at hlt;have h3:=Nat.shiftLeft_add_eq_or_of_lt (show cC (bs.take i)<2 ^ (8*i) by rw[Nat.pow_mul];exact hlt) (bs.getD i 0).toNat;rw[Nat.shiftLeft_eq] at h3;rw[Nat.or_comm,←h3,Nat.pow_mul,show (2:Nat) ^ 8=256 from rfl];simp only[cC,Nat.mul_zero,Yd];rw[Yc (256 ^ i)];omega
theorem Bj:∀ bs:By,le (cC bs) bs.length=bs
|[]=>rfl
|b::r=>by
   have ih:=Bj r;have h2:=b.toNat_lt;unfold le at *;simp only[WT,List.range_succ_eq_map,Xo,XL];congr 1
   · apply XV.1
     rw[Xj];show ((((cC (b::r):Nat):Int)/256 ^ 0).toNat)%2 ^ 8=b.toNat;simp only[cC,Int.pow_zero,Int.ediv_one];omega
   · conv=>rhs;rw[←ih]
     apply X5;intro i _;simp only[Function.comp];have e1:((cC (b::r):Nat):Int)/256 ^ (i+1)=((cC (b::r)/256 ^ (i+1):Nat):Int):=by rw[Int.natCast_ediv];simp
     have e2:((cC r:Nat):Int)/256 ^ i=((cC r/256 ^ i:Nat):Int):=by rw[Int.natCast_ediv];simp
     have e3:cC (b::r)/256 ^ (i+1)=cC r/256 ^ i:=by
      rw[Nat.pow_succ,Yc (256 ^ i) 256,←Nat.div_div_eq_div_mul];simp only[cC];congr 1;omega
     rw[XU,e1,e2,e3]
theorem Md(x:Int)(n:Nat):le x (n+1)=WP x.toNat::le (x/256) n:=by
 unfold le;rw[List.range_succ_eq_map,Xo,XL];congr 1
 ·simp
 · apply X5
   intro i _;simp only[Function.comp,XU];rw[Int.pow_succ,Int.mul_comm (256 ^ i),Int.ediv_ediv_of_nonneg (by decide)]
theorem mZ:∀ (n:Nat) (x:Int),0≤x→x<256 ^ n→((cC (le x n):Nat):Int)=x
|0,x,h0,h1=>by simp at h1;simp[le,cC];omega
|n+1,x,h0,h1=>by
   rw[Md];have h2:x/256<256 ^ n:=by
    rw[Int.pow_succ] at h1;exact Int.ediv_lt_of_lt_mul (by decide) h1
   have ih:=mZ n (x/256) (Int.ediv_nonneg h0 (by decide)) h2;simp only[cC];rw[Xj];omega
def ApD(D:Nat→Prop)(ao:Option Addr)(p n:Nat):Prop:=D p∧(0<n→¬ blk ao p∧∀ k,blk ao k→D k)
theorem JD{w w':World}{S:Nat→Prop}{ao:Option Addr}{c:Nat}{ys:By}(h:Vw b8 w.heap ao c ys)(f:aA S w w')(hs:0<ys.length→∀ a,ao=some a→¬ S a.block):Vw b8 w'.heap ao c ys:=by
 by_cases h0:0<ys.length
 ·exact h.Ws f (hs h0)
 · have:ys=[]:=WQ (by omega)
   subst this;exact VQ c h.max
def RdO(cs:Int→Value→List Value)(T:TypeId)(D:Nat→Prop)(H:Array Obj)(p:Nat)(E:Int)(ys:By):Prop:=
 ∃ ao c,H[p]?=some (.cells (cs E (.slice ao ys.length c)).toArray T (0,0))∧Vw b8 H ao c ys∧ApD D ao p ys.length
abbrev RdL:=RdO csL 108
section
variable {cs:Int→Value→List Value}{T:TypeId}{D:Nat→Prop}{p:Nat}{E:Int}{ys:List UInt8}
theorem RdO.lt{H:Array Obj}(h:RdO cs T D H p E ys):p<H.size:=by obtain⟨ao,c,hg,_⟩:=h;exact(WD.1 hg).1
theorem RdO.Wr{w w':World}(h:RdO cs T D w.heap p E ys)(f:aA nob w w'):RdO cs T D w'.heap p E ys:=by
 obtain⟨ao,c,hg,hv,h1⟩:=h;exact⟨ao,c,f.obj hg id,hv.Wr f,h1⟩
end
section
variable {cs:Int→Value→List Value}{T:TypeId}{D:Nat→Prop}{p:Nat}{E:Int}{ys:List UInt8}
theorem RdO.Ws{S:Nat→Prop}{w w':World}(h:RdO cs T D w.heap p E ys)(f:aA S w w')(hs:∀ k,D k→¬ S k):RdO cs T D w'.heap p E ys:=by
 obtain⟨ao,c,hg,hv,h1⟩:=h;exact⟨ao,c,f.obj hg (hs p h1.1),JD hv f (fun hn a ha=>hs _ ((h1.2 hn).2 _ ⟨a,ha,rfl⟩)),h1⟩
end
variable {D:Nat→Prop}
theorem AI{D:Nat→Prop}{ao:Option Addr}{m l s p n n2:Nat}(h:ApD D ao p n)(hn:n2≤n):ApD D (bG ao m l s) p n2:=⟨h.1,fun h0=>⟨fun h2=>(h.2 (by omega)).1 (lO h2),fun k hk=>(h.2 (by omega)).2 k (lO hk)⟩⟩
theorem pP(p:Nat)(E:Int)(ys:By)(e:Int)(W:World)(hP:RdL D W.heap p E ys) :
 CA 97 [pT p,iV e] W fun v w'=>RdL D w'.heap p (if E=0 then e else E) ys∧aA (· = p) W w':=by
 have hPP:=hP;obtain⟨ao,c,hobj,hv,hap⟩:=hP;refine cS 13 [(0,_),(1,_)] Tryz.func97 ?_;refine fK 6 ?_ ?_<;>intro h8
 ·refine Gz 8 ?_;refine SV IE rfl rfl rfl hobj rfl ?_;intro w1 hg1 hs1 hf1;refine Gz 1 ?_;refine Tf rfl ?_;exact⟨_,rfl,by rw[Wu h8];exact⟨ao,c,hg1,JD hv hf1 (fun hn a ha h=>(hap.2 hn).1 ⟨a,ha,h⟩),hap⟩,hf1⟩
 refine Gz 4 ?_;refine Tf rfl ?_;exact⟨_,rfl,by rw[Wt h8];exact hPP,VK _ _⟩
def RdP(cs:Int→Value→List Value)(T:TypeId)(D:Nat→Prop)(W:World)(p:Nat)(E:Int)(ys:By)(n:Int):Value→World→Prop:=fun v w'=>
 ∃ ao c,v=.slice ao (iC E ys n).length c∧Own b8 5 w'.heap ao c (iC E ys n)∧Fr W.heap.size ao∧RdO cs T D w'.heap p (dJ E ys n) (qZ E ys n)∧aA (· = p) W w'
theorem Ds{H:Array Obj}{ao:Option Addr}{c:Nat}{ys:By}(h:Vw b8 H ao c ys){n:Int}(h0:0≤n)(h1:n≤ys.length):Vw b8 H (bG ao c n.toNat 1) (c-n.toNat) (ys.drop n.toNat):=by
 have:=h.cut (l:=n.toNat) (h:=ys.length) (m:=c) (by omega) (WC _) h.le (WC _);rwa[WJ (by simp)] at this
theorem Ba(p:Nat)(E:Int)(ys:By)(n:Int)(W:World)(hP:RdL D W.heap p E ys)(hb:ys.length≤1099511627776) :
 CA 42 [pT p,iV n] W (RdP csL 108 D W p E ys n):=by
 have hP0:=hP;obtain⟨ao0,c0,hobj0,hv0,hap0⟩:=hP0;refine cS 48 [(0,_),(1,_)] Tryz.func42 ?_;refine Gz 5 ?_;refine Tj (β:=Unit) (fun _u=>[(0,pT p),(1,iV n)]) (fun _u w=>RdL D w.heap p (dJ E ys n) ys∧aA (· = p) W w) ?_ ?_
 ·refine fK 4 ?_ ?_<;>intro h8
  ·refine cA 8 Bv (pP p E ys 1 W hP) ?_;rintro _ w1 ⟨hP1,hF1⟩;refine Gz 2 ?_;refine aC () ?_;exact⟨by rw[Kw h8];exact hP1,hF1⟩
  refine fK 12 ?_ ?_<;>intro h20
  ·refine cA 8 Bv (pP p E ys 2 W hP) ?_;rintro _ w1 ⟨hP1,hF1⟩;refine Gz 2 ?_;refine aC () ?_;exact⟨by rw[xT h8 h20];exact hP1,hF1⟩
  refine Gz 6 ?_;refine aC () ?_;exact⟨by rw[fQ h8 h20];exact hP,VK _ _⟩
 rintro _ w2 ⟨hP2,hF2⟩;obtain⟨ao,c,hobj,hv,hap⟩:=hP2;have hlt:=(RdO.lt hP)
 refine fK 8 ?_ ?_<;>intro h30
 ·refine Gz 11 ?_;have hbad:dJ E ys n≠0:=h30;obtain⟨e1,e2⟩:=Dx hbad;exact⟨_,rfl,none,0,by rw[e1];rfl,by rw[e1];exact VR,VP,by rw[e2];exact⟨ao,c,hobj,hv,hap⟩,hF2⟩
 refine Gz 10 ?_;obtain⟨z0,z1,z2⟩:=nR (show dJ E ys n=0 by omega);have hvc:=hv.le;refine Gz 2 ?_;refine cL (S8 aT rfl rfl (by omega)) ?_;have hvt:=hv.take n.toNat;have htl:(ys.take n.toNat).length=n.toNat:=by rw[WB];omega
 refine SJ JY rfl (by rw[bD,←htl];exact kB ao c (ys.take n.toNat) w2 hvt (by omega)) rfl ?_;rintro _ w3 ⟨ao3,c3,rfl,ho3,hfr3,hf3⟩;refine Gz 9 ?_;refine cL (SM aX rfl (aD (hf3.obj hobj id) rfl)) ?_;refine Gz 1 ?_;refine cL (Tp aT rfl rfl (by omega)) ?_;refine Gz 2 ?_;refine SV aX rfl rfl rfl (hf3.obj hobj id) rfl ?_;intro w4 hg4 hs4 hf4;refine Gz 10 ?_;obtain⟨e1,e2⟩:=dO (show dJ E ys n=0 by omega);have hs2:=hF2.size;have hlt2:p<w2.heap.size:=by omega
 refine⟨_,rfl,ao3,c3,by rw[e1],by rw[e1];exact ho3.Ws hf4 (fun a ha h=>by have:=hfr3 a ha;have h2:a.block=p:=h;omega),hfr3.mono hs2,?_,(hF2.trans (hf3.mono (fun _ h=>h.elim))).trans hf4⟩;rw[e2];refine⟨_,_,by rw[WE];exact hg4,?_,AI hap (by rw[WE];omega)⟩;exact JD (Ds (hv.Wr hf3) z1 z2) hf4 (fun hn a ha h=>((AI (n2:=(ys.drop n.toNat).length) hap (by rw[WE];omega)).2 hn).1 ⟨a,ha,h⟩)
def SD(cs:Int→Value→List Value)(T:TypeId)(D:Nat→Prop)(W:World)(p:Nat)(E:Int)(ys:By)(n:Int):Value→World→Prop:=fun v w'=>
 v=iV (cC (iC (cT E n) ys n))∧RdO cs T D w'.heap p (dJ (cT E n) ys n) (qZ (cT E n) ys n)∧aA (· = p) W w'
theorem CP(E:Int)(ys:By)(n:Int):(iC (cT E n) ys n).length≤4:=by
 have h1:=Kx (cT E n) ys n;by_cases h:dJ (cT E n) ys n=0
 · have h2:=(nR h).1
   unfold cT at h2
   split at h2
   ·omega
   · split at h2
     ·cases h2
     ·omega
 ·rw[(Dx h).1];simp
theorem GX{i:Nat}(h:i<4):2 ^ (8*i)≤16777216:=W9 (Nat.pow_le_pow_right (by decide) (show 8*i≤24 by omega)) (by decide)
theorem GI(c:UInt8){i:Nat}(h:i<4):(c.toNat:Int)*2 ^ (8*(i:Int)).toNat=((c.toNat*2 ^ (8*i):Nat):Int)∧c.toNat*2 ^ (8*i)<4294967296:=by
 refine⟨by rw[show (8*(i:Int)).toNat=8*i by omega];simp,?_⟩;have h1:=c.toNat_lt;have h2:=GX h;have:=Nat.mul_le_mul (show c.toNat≤255 by omega) h2;omega
theorem vF{bs:By}(h:bs.length≤4):cC bs<4294967296:=
 Xk (uA bs) (W9 (Nat.pow_le_pow_right (by decide) h) (by decide))
theorem Cu(p:Nat)(E:Int)(ys:By)(n:Int)(W:World)(hP:RdL D W.heap p E ys)(hb:ys.length≤1099511627776) :
 CA 44 [pT p,iV n] W (SD csL 108 D W p E ys n):=by
 have hbl:=CP E ys n;refine cS 36 [(0,_),(1,_)] Tryz.func44 ?_;refine Gz 5 ?_;refine Tj (β:=Unit) (fun _u=>[(0,pT p),(1,iV n)]) (fun _u w=>RdL D w.heap p (cT E n) ys∧aA (· = p) W w) ?_ ?_
 ·refine fK 3 ?_ ?_<;>intro h9
  ·refine cA 11 Bv (pP p E ys 1 W hP) ?_;rintro _ w1 ⟨hP1,hF1⟩;refine Gz 1 ?_;refine aC () ?_;exact⟨by rw[show cT E n=if E=0 then 1 else E by unfold cT;by_cases hE:E=0;rw[Wt (by omega),Wu (by omega),Wu hE];rw[Wu hE,Wt hE]];exact hP1,hF1⟩
  refine fW 2 ?_ ?_<;>intro h12
  ·refine cA 8 Bv (pP p E ys 1 W hP) ?_;rintro _ w1 ⟨hP1,hF1⟩;refine Gz 1 ?_;refine aC () ?_;exact⟨by rw[show cT E n=if E=0 then 1 else E by unfold cT;by_cases hE:E=0;rw[Wt (by omega),Wu (by omega),Wu hE];rw[Wu hE,Wt hE]];exact hP1,hF1⟩
  refine Gz 5 ?_;refine aC () ?_;exact⟨by rw[show cT E n=E by rw[CO,Wt (by omega)]];exact hP,VK _ _⟩
 rintro _ w2 ⟨hP2,hF2⟩;refine Gz 10 ?_;refine SJ OB rfl (Ba p _ ys n w2 hP2 hb) rfl ?_;rintro _ w3 ⟨ao3,c3,rfl,ho3,hfr3,hP3,hF3⟩;obtain⟨bs3,hbs⟩:∃ l,l=iC (cT E n) ys n:=⟨_,rfl⟩
 rw[←hbs] at ho3 hbl ⊢;refine Gz 5 ?_;refine SO (β:=Nat) (fun k=>[(5,iV (cC (bs3.take k))),(20,.slice ao3 bs3.length c3),(21,iV bs3.length),(22,iV k)]) (fun k w=>k≤bs3.length∧w=w3) (fun k=>bs3.length-k) 0 ⟨rfl,rfl,rfl,rfl,trivial⟩ ⟨WG _,rfl⟩ ?_;rintro k w4 ⟨hk,hw4⟩;subst hw4;refine fK 2 ?_ ?_<;>intro h23
 ·refine Gz 11 ?_;refine cL (SI aT rfl rfl ho3.vw.non (by omega)) ?_;refine cL (SM yS rfl (ho3.vw.gz 0 k rfl (by omega))) ?_;refine Gz 7 ?_;refine cL (S1 (n:=((bs3.getD k 0).toNat:Int)) is5 ty3 rfl (dC (by have:=(bs3.getD k 0).toNat_lt;omega))) ?_;refine Gz 1 ?_;refine cL (TE rfl rfl (by omega)) ?_;obtain⟨s1,s2⟩:=GI (bs3.getD k 0) (i:=k) (by omega);refine cL (SN (u:=iV (((bs3.getD k 0).toNat*2 ^ (8*k):Nat):Int)) (U6 rfl rfl (by omega) (by rw[s1];omega)) (by rw[s1])) ?_;refine cL (VI rfl rfl (by have:=vF (bs:=bs3.take k) (by rw[WB];omega);omega) (by omega)) ?_;refine Gz 8 ?_;refine S9 (k+1) ⟨by rw[GA bs3 k (by omega)];rfl,rfl,rfl,rfl,trivial⟩ ⟨by omega,rfl⟩ (by show bs3.length-(k+1)<bs3.length-k;omega)
 refine Gz 17 ?_;rw[WJ (by omega)];exact⟨_,rfl,by rw[hbs],hP3,hF2.trans hF3⟩
def tE(E:Int)(ys:By):Int:=dJ (cT E 1) ys 1
def tR(E:Int)(ys:By):By:=qZ (cT E 1) ys 1
def tN(E:Int)(ys:By):Int:=cC (iC (cT E 1) ys 1)
def SB(E:Int)(ys:By):Int:=if E≠0 then E else if 0<ys.length then 2 else 0
theorem IR(ao:Option Addr)(c:Nat)(ys:By)(W:World)(hv:Vw b8 W.heap ao c ys)(hb:ys.length≤140737488355328) :
 CA 41 [.slice ao ys.length c] W fun v w'=>∃ p,v=pT p∧W.heap.size≤p∧RdL (fun k=>W.heap.size≤k∧k<w'.heap.size) w'.heap p 0 ys∧aA nob W w':=by
 refine cS 7 [(0,_)] Tryz.func41 ?_;refine cA 8 JY (kB ao c ys W hv hb) ?_;rintro _ w1 ⟨ao1,c1,rfl,ho1,hfr1,hf1⟩;refine cL (TQ (cs:=#[iV 0,.slice ao1 ys.length c1]) NZ OW rfl (by kernel_rfl)) ?_;refine Td rfl rfl ?_;intro w2 hg2 hs2 hf2;refine Gz 5 ?_;have z1:=hf1.size;have z2:=hf2.size;exact⟨_,rfl,_,rfl,hf1.size,⟨ao1,c1,hg2,(ho1.Wr hf2).vw,⟨by omega,by omega⟩,fun _=>⟨fun⟨a,ha,hb⟩=>by have h3:=ho1.lt a ha;have h4:a.block=w1.heap.size:=hb;omega,fun k ⟨a,ha,hb⟩=>by have h3:=ho1.lt a ha;have h4:=hfr1 a ha;omega⟩⟩,hf1.trans hf2⟩
end
def hdN(n:Nat):List Nat:=[n%256,n/256%256,255 ^^^ ((n%256) ^^^ (n/256%256))]
def hdB(n:Nat):By:=(hdN n).map WP
theorem qN(n:Nat):(hdB n).length=3:=rfl
theorem Ou{n x:Nat}(h:x∈hdN n):x<256:=by
 simp only[hdN,W5,Xm,or_false] at h;rcases h with rfl|rfl|rfl
 ·omega
 ·omega
 ·exact pH (by decide) (pH (by omega) (by omega))
def frS(x:By)(mark:Nat):By:=hdB (x.length+mark)++(if x.length=0 then [] else le (fG x:Nat) 4++x)
def bW(b:By):By×Int:=
 if 128<b.length then ([],3) else if b.length=0 then (frS [] 0,0) else if (pkS b).length<b.length then (frS (pkS b) 0,0) else (frS b 32768,0)
def kT(r:By):Option (By×Nat×Bool):=
 if r.length<3 then none else
 if r.take 3≠hdB ((r.getD 0 0).toNat+256*(r.getD 1 0).toNat) then none else
 if 128<((r.getD 0 0).toNat+256*(r.getD 1 0).toNat)%32768∨(((r.getD 0 0).toNat+256*(r.getD 1 0).toNat)%32768=0∧32768≤(r.getD 0 0).toNat+256*(r.getD 1 0).toNat) then none else
 if ((r.getD 0 0).toNat+256*(r.getD 1 0).toNat)%32768=0 then some ([],0,false) else
 if r.length<7+((r.getD 0 0).toNat+256*(r.getD 1 0).toNat)%32768 then none else
 some ((r.drop 7).take (((r.getD 0 0).toNat+256*(r.getD 1 0).toNat)%32768),cC ((r.drop 3).take 4),decide (32768≤(r.getD 0 0).toNat+256*(r.getD 1 0).toNat))
def lZ(im:By)(a:Int):Option (By×Nat×Bool):=if a<0∨(im.length:Int)<a then none else kT (im.drop a.toNat)
def jF(x:By):Nat:=if x.length=0 then 3 else 7+x.length
def dV(c:Option (By×Nat×Bool)):By×Nat×Int:=match c with
|none=>([],0,2)
|some (x,s,st)=>if x.length=0 then ([],3,0) else if fG x≠s then ([],0,2) else if st then (x,jF x,0) else
   if (up 128 x []).2≠0∨(up 128 x []).1.length=0 then ([],0,2) else ((up 128 x []).1,jF x,0)
def cM(im:By)(a:Int):By×Int×Int:=((dV (lZ im a)).1,if (dV (lZ im a)).2.2=0 then a+(dV (lZ im a)).2.1 else 0,(dV (lZ im a)).2.2)
def lQ(im:By)(a:Int):Int×Int:=match lZ im a with
|none=>(0,2)
|some (x,_,_)=>(a+jF x,0)
theorem N0{b:By}(h:0<b.length):0<(pkS b).length:=by
 apply WH;intro hn;have e:pkS b=[]:=WQ (by omega);have:=BU b;rw[e] at this;unfold upS at this;rw[Wt (by omega),rK] at this;simp only[Prod.mk.injEq,and_true] at this;rw[←this] at h;cases h
theorem lL(x:By)(mark:Nat):(frS x mark).length=jF x:=by
 unfold frS jF;rw[Ww,qN]
 split
 ·rfl
 ·rw[Ww,aY];omega
theorem Mp(n:Nat):((hdB n).getD 0 0).toNat=n%256:=by simp[hdB,hdN]
theorem Mo(n:Nat):((hdB n).getD 1 0).toNat=n/256%256:=by simp[hdB,hdN]
theorem sI(x rest:By)(mark:Nat)(hx:x.length≤128)(hm:mark=0∨mark=32768∧0<x.length):kT (frS x mark++rest)=some (x,if x.length=0 then 0 else fG x,decide (mark=32768)):=by
 have hlen:=lL x mark;have e0:((frS x mark++rest).getD 0 0).toNat+256*((frS x mark++rest).getD 1 0).toNat=x.length+mark:=by
  have h0:(frS x mark++rest).getD 0 0=(hdB (x.length+mark)).getD 0 0:=rfl;have h1:(frS x mark++rest).getD 1 0=(hdB (x.length+mark)).getD 1 0:=rfl;rw[h0,h1,Mp,Mo];omega
 have e3:(frS x mark++rest).take 3=hdB (x.length+mark):=rfl;unfold kT;rw[e0,e3,Wt (by rw[Ww,hlen];unfold jF;split<;>omega),Wt (fun h=>h rfl)];have hmod:(x.length+mark)%32768=x.length:=by omega
 rw[hmod];by_cases h0:x.length=0
 · have hx0:x=[]:=WQ h0
   rw[Wt (by omega),Wu h0,Wu h0,hx0];have:¬ mark=32768:=by omega
   rw[Wx this]
 · rw[Wt (by omega),Wt h0,Wt h0,Wt (by rw[Ww,hlen];unfold jF;rw[Wt h0];omega)]
   have hf:frS x mark++rest=hdB (x.length+mark)++(le (fG x:Nat) 4++(x++rest)):=by unfold frS;rw[Wt h0];simp
   have d3:(frS x mark++rest).drop 3=le (fG x:Nat) 4++(x++rest):=by rw[hf,Xs (qN _)]
   have d7:(frS x mark++rest).drop 7=x++rest:=by rw[show 7=3+4 from rfl,←XC,d3,Xs (aY _ _)]
   rw[d3,d7,Xz rfl,Xz (aY _ _)];have hs:=pL x;have hv:=mZ 4 (fG x:Nat) (by omega) (by omega);rw[show cC (le ((fG x:Nat):Int) 4)=fG x by omega];have hd:decide (32768≤x.length+mark)=decide (mark=32768):=by
    by_cases hm2:mark=32768
    ·rw[WA hm2,WA (by omega)]
    ·rw[Wx hm2,Wx (by omega)]
   rw[hd]
theorem DP{b:By}(h:b.length≤128)(rest:By):dV (kT ((bW b).1++rest))=(b,(bW b).1.length,0)∧(bW b).2=0∧(bW b).1.length=jF (match kT ((bW b).1++rest) with|none=>[]|some (x,_,_)=>x):=by
 unfold bW;rw[Wt (by omega)];by_cases h0:b.length=0
 · have hb:b=[]:=WQ h0
   rw[Wu h0];simp only;rw[sI [] rest 0 (by simp) (.inl rfl),hb];exact⟨rfl,trivial,rfl⟩
 · rw[Wt h0]
   by_cases hp:(pkS b).length<b.length
   · rw[Wu hp]
     have hp0:=N0 (b:=b) (by omega);simp only;rw[sI (pkS b) rest 0 (by omega) (.inl rfl),lL];have hu:=(VX b).yes [] [] 128 (by simp;omega);simp only[Xc,XK,rK] at hu;refine⟨?_,trivial,rfl⟩;unfold dV;simp only;rw[Wt (by omega),Wt (show ¬ (pkS b).length=0 by omega),Wt (fun hh=>hh rfl),Wt (by simp),hu,Wt (by rintro(hh|hh);exact hh rfl;exact h0 hh)]
   · rw[Wt hp]
     simp only;rw[sI b rest 32768 h (.inr ⟨rfl,by omega⟩),lL];refine⟨?_,trivial,rfl⟩;unfold dV;simp only;rw[Wt h0,Wt h0,Wt (fun hh=>hh rfl),Wu (by simp)]
theorem gX{b:By}(h:b.length≤128):(bW b).1.length≤b.length+7∧3≤(bW b).1.length:=by
 unfold bW;rw[Wt (by omega)]
 split
 ·simp only[lL,jF];simp
 · split
   ·simp only[lL,jF];split<;>omega
   ·simp only[lL,jF];split<;>omega
theorem MR{b:By}{a o k:Nat}(h:((b.getD (a+k) 0).toNat:Int)=((b.getD (o+k) 0).toNat:Int)):b.getD (a+k) 0=b.getD (o+k) 0:=XV.1 (by omega)
theorem Ma(ao:Option Addr)(cap:Nat)(b:By)(a o:Nat)(W:World)(hv:Vw b8 W.heap ao cap b)(h1:a≤b.length)(h2:o<a)(hb:b.length≤1073741824) :
 CA 217 [.slice ao b.length cap,iV a,iV o] W fun v w'=>v=iV (lik b a o)∧∃ n,w'=W.drewN n:=by
 refine cS 36 [(0,_),(1,_),(2,_)] Tryz.func217 ?_;refine Gz 12 ?_;refine SO (β:=Nat) (fun k=>[(0,.slice ao b.length cap),(1,iV a),(2,iV o),(7,iV k)]) (fun k w=>k≤130∧a+k≤b.length∧(∀ i,i<k→CL b a o i)∧∃ n,w=W.drewN n) (fun k=>131-k) 0 ⟨rfl,rfl,rfl,rfl,trivial⟩ ⟨by omega,by omega,fun i hi=>by omega,0,rfl⟩ ?_;rintro k _ ⟨hk,hk2,hk3,n,rfl⟩;refine Gz 2 ?_;refine Tg 25 [0,1,2,3,4,5,6,7,8,9,10,11,12,13,14,15,16,17,18,19,20,21,22,23,24] aL (by kernel_rfl) ?_;refine xK 1 ?_ ?_<;>intro h9
 ·refine xW 6 ?_ ?_<;>intro h16
  ·refine Gz 6 ?_;refine xV rfl (SI aT rfl rfl hv.non (by omega)) ?_;refine xV rfl (SM yS rfl (hv.gz 0 (a+k) (by omega) (by omega))) ?_;refine Gz 4 ?_;refine xV rfl (SI aT rfl rfl hv.non (by omega)) ?_;refine xV rfl (SM yS rfl (hv.gz 0 (o+k) (by omega) (by omega))) ?_;refine xW 0 ?_ ?_<;>intro h31
   ·refine Gz 13 ?_;refine aG (k+1) ⟨by omega,by omega,fun i hi=>?_,n+1,rfl⟩ (by show 131-(k+1)<131-k;omega);by_cases hik:i=k
    ·subst hik;exact⟨by omega,by omega,MR h31⟩
    ·exact hk3 i (by omega)
   refine Gz 17 ?_;have e:k=lik b a o:=Et hk3 (fun hc=>by
    obtain⟨c1,c2,c3⟩:=hc
    first
    |omega
    |exact h31 (by rw[c3]))
   exact⟨_,rfl,by rw[e],n+1,rfl⟩
  refine Gz 32 ?_;have e:k=lik b a o:=Et hk3 (fun hc=>by
   obtain⟨c1,c2,c3⟩:=hc
   first
   |omega
   |exact h31 (by rw[c3]))
  exact⟨_,rfl,by rw[e],n+1,rfl⟩
 refine Gz 39 ?_;have e:k=lik b a o:=Et hk3 (fun hc=>by
  obtain⟨c1,c2,c3⟩:=hc
  first
  |omega
  |exact h31 (by rw[c3]))
 exact⟨_,rfl,by rw[e],n+1,rfl⟩
def RnP(W:World)(o:Option Addr)(xs:By):Value→World→Prop:=fun v w'=>∃ o' c',v=.slice o' xs.length c'∧Own b8 5 w'.heap o' c' xs∧aA (blk o) W w'∧∀ a,o'=some a→o=some a∨W.heap.size≤a.block
theorem F7{w w':World}{o ao:Option Addr}{c:Nat}{l:By}(hv:Vw b8 w.heap ao c l)(f:aA (blk o) w w')(h:∀ k,blk o k→¬ blk ao k):Vw b8 w'.heap ao c l:=hv.Ws f (fun a ha hb=>h _ hb ⟨a,ha,rfl⟩)
theorem BQ{H:Array Obj}{ao:Option Addr}{c:Nat}{l:By}(hv:Vw b8 H ao c l)(h:0<l.length):∀ k,blk ao k→k<H.size:=fun k ⟨a,ha,hk⟩=>hk ▸ hv.lt (WN.1 h) a ha
theorem L2{n:Nat}(h:0<n):IntKind.u8.wrap (((min n 128:Nat):Int)-1)=((WP (min n 128-1)).toNat:Int):=by
 rw[vD (by omega)];congr 3;omega
theorem FA(o:Option Addr)(co:Nat)(xs:By)(ao:Option Addr)(c:Nat)(l:By)(W:World)(ho:Own b8 5 W.heap o co xs)(hv:Vw b8 W.heap ao c l)(hap:0<l.length→∀ k,blk o k→¬ blk ao k)(hb:xs.length+2*l.length≤1099511627776) :
 CA 187 [.slice o xs.length co,.slice ao l.length c] W (RnP W o (rn xs l)):=by
 refine cS 26 [(0,_),(1,_)] Tryz.func187 ?_;refine Gz 7 ?_;refine SO (β:=(By×Option Addr×Nat)×(By×Option Addr×Nat)) (fun⟨⟨ys,o1,c1⟩,⟨r,a1,c2⟩⟩=>[(0,.slice o1 ys.length c1),(1,.slice a1 r.length c2)]) (fun⟨⟨ys,o1,c1⟩,⟨r,a1,c2⟩⟩ w=>rn ys r=rn xs l∧Own b8 5 w.heap o1 c1 ys∧Vw b8 w.heap a1 c2 r∧(0<l.length→∀ k,blk o1 k→¬ blk ao k)∧r.length≤l.length∧(∀ k,blk a1 k→blk ao k)∧aA (blk o) W w∧(∀ a,o1=some a→o=some a∨W.heap.size≤a.block)∧ys.length+2*r.length≤1099511627776) (fun⟨⟨ys,o1,c1⟩,⟨r,a1,c2⟩⟩=>r.length) ⟨⟨xs,o,co⟩,⟨l,ao,c⟩⟩ ⟨rfl,rfl,trivial⟩ ⟨rfl,ho,hv,hap,WC _,fun _ h=>h,VK _ _,fun a ha=>.inl ha,hb⟩ ?_;rintro⟨⟨ys,o1,c1⟩,⟨r,a1,c2⟩⟩ w1 ⟨hrn,ho1,hv1,hapc,hrl,hsub,hF1,hr1,hb1⟩;have hle:=hv1.le;refine fK 5 ?_ ?_<;>intro h8
 ·have hl0:0<l.length:=by omega
  have hap1:=hapc hl0;have hlt:=BQ hv hl0;refine Gz 10 ?_;refine cL (SN (u:=iV ((min r.length 128:Nat):Int)) (Uo rfl rfl) (by congr 1;split<;>omega)) ?_;refine Gz 4 ?_;refine SZ 11 (fun _=>True) [4,5,9] [0,1,2,3,6,7,8,4,5,9,10] aL (by kernel_rfl) (trivial) ?_;refine Gz 3 ?_;refine xC rfl (S1 (n:=((WP (min r.length 128-1)).toNat:Int)) is3 ty5 rfl (L2 (by omega))) ?_;refine Gz 2 ?_;refine xC rfl (S8 aT rfl rfl (by omega)) ?_;refine SU rfl rfl (TJ (enc:=b8) (u:=WP (min r.length 128-1)) aT rfl rfl rfl ?_);intro w2 ho2 hs2 hf2;refine S5 (by exact trivial) ?_;have hv2:=hv1.Wr hf2.Wp;have ho12:=ho1.Wr hf2.Wp;refine SU rfl rfl (S4 dK aT rfl rfl ho12 ho2.vw (by simp;omega) (by simp;unfold maxLen;omega) rfl ?_);intro a3 c3 w3 ho3 hf3 hr3 hn3;refine S5 (by exact trivial) ?_;have hf2:=hf2.Wp;have hs2:=hf2.size;have hz1:=hF1.size;have hv3:=F7 hv2 hf3 (fun k hk hk2=>hap1 k hk (hsub k hk2));refine SU rfl rfl (S4 dK aT (ys:=r.take (min r.length 128)) rfl (by show some (Value.slice (bG a1 c2 0 1) (min r.length 128) c2)=_;rw[bD,WB,show min (min r.length 128) r.length=min r.length 128 by omega]) ho3 (hv3.take _) (by simp only[Ww,WB,WF];omega) (by simp only[Ww,WB,WF];unfold maxLen;omega) rfl ?_);intro a5 c5 w5 ho5 hf5 hr5a hn5;refine S5 (by exact trivial) ?_;have hz3:=hf3.size;have hb3:∀ k,blk a3 k→¬ blk ao k:=fun k ⟨a,ha,hk⟩ hk2=>by rcases hr3 a ha with h|h;exact hap1 k ⟨a,h,hk⟩ hk2;have:=hlt k hk2;omega
  have hv5:=F7 hv3 hf5 (fun k hk hk2=>hb3 k hk (hsub k hk2));have hnew:∀ k,blk a5 k→¬ blk ao k:=fun k ⟨a,ha,hk⟩ hk2=>by rcases hr5a a ha with h|h;exact hb3 k ⟨a,h,hk⟩ hk2;have:=hlt k hk2;omega
  have hto3:∀ k,blk o1 k→blk o k∨W.heap.size≤k:=fun k ⟨a,ha,hk⟩=>by rcases hr1 a ha with h|h;exact .inl ⟨a,h,hk⟩;exact .inr (by omega)
  have hF3:aA (blk o) W w3:=(hF1.trans hf2.any).Wo hf3 hto3;have hto5:∀ k,blk a3 k→blk o k∨W.heap.size≤k:=fun k ⟨a,ha,hk⟩=>by rcases hr3 a ha with h|h;exact hto3 k ⟨a,h,hk⟩;exact .inr (by omega)
  have hF5:aA (blk o) W w5:=hF3.Wo hf5 hto5;have hr5:∀ a,a5=some a→o=some a∨W.heap.size≤a.block:=fun a ha=>by rcases hr5a a ha with h|h;rcases hr3 a h with h2|h2;exact hr1 a h2;exact .inr (by omega);exact .inr (by omega)
  refine Gz 6 ?_;refine cL (Tp aT rfl rfl (by omega)) ?_;refine Gz 3 ?_;have hm:(r.take (min r.length 128)).length=min r.length 128:=by rw[WB];omega
  have hrs:=A2 (out:=ys) (l:=r) (by omega);refine S9 ⟨⟨ys++[WP (min r.length 128-1)]++r.take (min r.length 128),a5,c5⟩,⟨r.drop (min r.length 128),bG a1 c2 (min r.length 128) 1,c2-min r.length 128⟩⟩ ⟨rfl,?_,trivial⟩ ?_ (by show (r.drop (min r.length 128)).length<r.length;rw[WE];omega)
  · show some (Value.slice (bG a1 c2 (min r.length 128) 1) _ _)=some (Value.slice _ _ _)
    rw[WE];rfl
  · refine⟨?_,ho5,?_,?_,by rw[WE];omega,fun k hk=>hsub k (lO hk),?_,?_,?_⟩
    ·rw[←hrn,hrs];simp
    ·have:=hv5.cut (l:=min r.length 128) (h:=r.length) (m:=c2) (by omega) (WC _) hle (WC _);rwa[WJ (by simp)] at this
    ·intro _ k hk hk2;exact hnew k hk hk2
    ·exact hF5
    ·exact hr5
    ·simp only[Ww,WB,WE,WF];omega
 refine Gz 16 ?_;have hr0:r=[]:=WQ (by omega);subst hr0;rw[D8] at hrn;rw[←hrn];exact⟨_,rfl,o1,c1,rfl,ho1,hF1,hr1⟩
theorem Gu{r:By}(h:0<r.length):r=r.getD 0 0::r.drop 1:=by
 cases r with
|nil=>cases h
|cons t r=>rfl
theorem NI{r:By}(h:1<r.length):r=r.getD 0 0::r.getD 1 0::r.drop 2:=by
 match r,h with
|t::c::r,_=>rfl
theorem H7{most:Int}{r out:By}{t:Nat}(h0:0<r.length)(ht:t=(r.getD 0 0).toNat)(h:t<128) :
 up most r out=if r.length<t+2 then ([],2) else if most-out.length<t+1 then ([],3) else up most (r.drop (t+2)) (out++(r.drop 1).take (t+1)):=by
 conv=>lhs;rw[Gu (r:=r) h0]
 rw[AP (by omega),←ht,WE,XC];congr 1
 ·simp;omega
 ·rw[show 1+(t+1)=t+2 by omega]
theorem H8{most:Int}{r out:By}{t c:Nat}(h0:0<r.length)(ht:t=(r.getD 0 0).toNat)(hc:c=(r.getD 1 0).toNat)(h:¬ t<128) :
 up most r out=if r.length<2 then ([],2) else if out.length<c+1 then ([],2) else if most-out.length<(t:Int)-125 then ([],3) else up most (r.drop 2) (cp out (c+1) (t-125)):=by
 by_cases h2:r.length<2
 · rw[Wu h2]
   have e:=Gu h0;have e2:r.drop 1=[]:=WQ (by rw[WE];omega);rw[e2] at e;rw[e,BT (by omega)]
 · rw[Wt h2]
   conv=>lhs;rw[NI (r:=r) (by omega)]
   rw[AQ (by omega),←ht,←hc]
structure sQ (P:Program)(t k e:TypeId)(z:Value):Prop where
 und:P.underlying t=some (.map k e)
 zero:(P.info? e).map (·.zero)=some (some z)
structure jX (P:Program)(k:TypeId){α:Type}(enc:α→Value):Prop where
 keyed:Go.Maps.Keyed P k
 reads:∀ a,∃ l,keyOf P k (enc a)=some l
 inj:∀ a b,enc a=enc b→a=b
section
variable {α:Type}{enc:α→Value}
def bK(enc:α→Value)(l:List (α×Value)):List MapEntry:=l.mapIdx fun i p=>⟨enc p.1,p.2,i⟩
def cY(enc:α→Value)(H:Array Obj)(g:Nat)(l:List (α×Value)):Prop:=H[g]?=some (.map (bK enc l).toArray l.length)∧(l.map (·.1)).Nodup
theorem Gr{l:List (α×Value)}{j:Nat}{e:MapEntry}(h:(bK enc l)[j]?=some e):∃ p,l[j]?=some p∧e=⟨enc p.1,p.2,j⟩:=by
 unfold bK at h;rw[Yv,WR] at h;obtain⟨p,hp,rfl⟩:=h;exact⟨p,hp,rfl⟩
theorem Dl{l:List (α×Value)}{e:MapEntry}(h:e∈bK enc l):∃ p∈l,e.key=enc p.1∧e.val=p.2:=by
 obtain⟨j,hj⟩:=WO h;obtain⟨p,hp,rfl⟩:=Gr hj;exact⟨p,Wz hp,rfl,rfl⟩
theorem MD{l:List (α×Value)}{p:α×Value}(h:p∈l):∃ e∈bK enc l,e.key=enc p.1∧e.val=p.2:=by
 obtain⟨j,hj⟩:=WO h;have:(bK enc l)[j]?=some ⟨enc p.1,p.2,j⟩:=by unfold bK;rw[Yv,hj];rfl
 exact⟨_,Wz this,rfl,rfl⟩
theorem Ax(l:List (α×Value))(p:α×Value):bK enc (l++[p])=bK enc l++[⟨enc p.1,p.2,l.length⟩]:=by
 simp[bK,List.mapIdx_append]
theorem Dk(l:List (α×Value))(j:Nat)(p:α×Value):bK enc (l.set j p)=(bK enc l).set j ⟨enc p.1,p.2,j⟩:=by
 simp[bK,List.mapIdx_set]
theorem Kh(l:List (α×Value)):(bK enc l).length=l.length:=by simp[bK]
variable [DecidableEq α]
def cG:List (α×Value)→α→Option Value
|[],_=>none
|p::r,a=>if p.1=a then some p.2 else cG r a
theorem Ak{a:α}:∀ {l:List (α×Value)},(∀ p∈l,p.1≠a)→cG l a=none
|[],_=>rfl
|p::r,h=>by
   unfold cG;rw[Wt (h p (by simp))];exact Ak (fun q hq=>h q (by simp[hq]))
theorem Aj{a:α}{v:Value}:∀ {l:List (α×Value)} {j:Nat},(l.map (·.1)).Nodup→l[j]?=some (a,v)→cG l a=some v
|[],j,_,h=>by simp at h
|p::r,0,_,h=>by
   simp at h;subst h;unfold cG;rw[Wu rfl]
|p::r,j+1,hn,h=>by
   rw[Xo,YQ] at hn;have hm:(a,v)∈r:=Wz (by simpa using h);unfold cG;rw[Wt (fun e:p.1=a=>hn.1 (e ▸ WS.2 ⟨_,hm,rfl⟩))];exact Aj hn.2 (by simpa using h)
def cN(l:List (α×Value))(a:α)(v:Value):List (α×Value):=match l with
|[]=>[(a,v)]
|p::r=>if p.1=a then (a,v)::r else p::cN r a v
theorem gL{a:α}(v:Value):∀ {l:List (α×Value)},cG l a=none→cN l a v=l++[(a,v)]
|[],_=>rfl
|p::r,h=>by
   unfold cG at h
   split at h
   ·cases h
   ·rename_i hne;unfold cN;rw[Wt hne,gL v h];rfl
theorem kA{a:α}{v0:Value}(v:Value):∀ {l:List (α×Value)} {j:Nat},(l.map (·.1)).Nodup→l[j]?=some (a,v0)→cN l a v=l.set j (a,v)
|[],j,_,h=>by simp at h
|p::r,0,_,h=>by
   simp at h;subst h;unfold cN;rw[Wu rfl];rfl
|p::r,j+1,hn,h=>by
   rw[Xo,YQ] at hn;have hm:(a,v0)∈r:=Wz (by simpa using h);have hne:p.1≠a:=fun e=>hn.1 (e ▸ WS.2 ⟨_,hm,rfl⟩);unfold cN;rw[Wt hne,kA v hn.2 (j:=j) (by simpa using h)];rfl
theorem iZ(l:List (α×Value))(a:α)(v:Value)(x:α):cG (cN l a v) x=if x=a then some v else cG l x:=by
 induction l with
|nil=>simp[cN,cG,eq_comm]
|cons p r ih=>
   unfold cN;by_cases hp:p.1=a
   · rw[Wu hp]
     simp only[cG];by_cases hx:a=x
     ·rw[Wu hx,Wu hx.symm]
     ·rw[Wt hx,Wt (fun e=>hx e.symm),Wt (by rw[hp];exact hx)]
   · rw[Wt hp]
     simp only[cG];by_cases hx:p.1=x
     ·rw[Wu hx,Wu hx,Wt (fun e=>hp (by rw[hx,e]))]
     ·rw[Wt hx,Wt hx];exact ih
theorem kZ{l:List (α×Value)}(h:(l.map (·.1)).Nodup)(a:α)(v:Value):((cN l a v).map (·.1)).Nodup:=by
 have key:∀ l:List (α×Value),(cN l a v).map (·.1)=if a∈l.map (·.1) then l.map (·.1) else l.map (·.1)++[a]:=by
  intro l
  induction l with
 |nil=>simp[cN]
 |cons p r ih=>
    unfold cN;by_cases hp:p.1=a
    ·rw[Wu hp];simp[hp]
    · rw[Wt hp]
      simp only[Xo,ih];by_cases hm:a∈r.map (·.1)
      ·rw[Wu hm,Wu (List.mem_cons_of_mem _ hm)]
      ·rw[Wt hm,Wt (fun e=>by rcases W5.1 e with e|e;exact hp e.symm;exact hm e)];rfl
 rw[key]
 split
 ·exact h
 · rename_i hm
   exact List.nodup_append.2 ⟨h,by simp,by simp only[List.mem_singleton];rintro x hx y rfl rfl;exact hm hx⟩
theorem nE{w:World}{g:Nat}{o o':Obj}(hg:w.heap[g]?=some o):(ChangeMaps.setBlock w g o').heap[g]?=some o'∧(ChangeMaps.setBlock w g o').heap.size=w.heap.size∧aA (· = g) w (ChangeMaps.setBlock w g o'):=by
 have hlt:=(WD.1 hg).1;refine⟨by simp[ChangeMaps.setBlock,hlt],by simp[ChangeMaps.setBlock],rfl,rfl,rfl,by simp[ChangeMaps.setBlock],fun k hk hn=>?_⟩;show (w.heap.setIfInBounds g o')[k]?=_;rw[Array.getElem?_setIfInBounds_ne (fun e=>hn e.symm)]
end
section
variable {P:Program}{N:Nt}{Q:Exit→Act→World→Prop}{l:SF}{w:World}{ops:Array Oper}{rest:List Oper}
variable {ty:TypeId}{pos:String}{aft:Array Edge}{d:Nat}{CH:Array Obj→Prop}
variable {x y u:Operand}{t k e:TypeId}{z:Value}{gd:Option (Nat×Bool)}{dd:Option Nat}
variable {α:Type}{enc:α→Value}{g:Nat}{m:List (α×Value)}{a:α}
theorem iW(K:jX P k enc)(w:World)(em:Bool)(a:α):(Instr.checkKey em 10000 k (enc a)).run P w=.ok () w:=by
 obtain⟨la,hla⟩:=K.reads a;exact K.keyed.check w em hla
theorem Af(K:jX P k enc)(w:World)(a:α):(Instr.keyThatStays (enc a) (enc a)).run P w=.ok (enc a) w:=by
 obtain⟨la,hla⟩:=K.reads a;exact K.keyed.stays w hla
theorem To{t:TypeId}(hd:Xb d N.n=true)(h:∀ w',cY enc w'.heap w.heap.size []→w'.heap.size=w.heap.size+1→aA nob w w'→Sl P N ops Q rest ((d,.map (some w.heap.size))::l) w') :
 Sl P N ops Q (⟨some d,.makeMap t none,ty,pos,aft,none⟩::rest) l w:=by
 refine Tk (w':=w.alloc (.map #[] 0)) (fun a ha=>?_) hd (h _ ⟨heap_alloc_new w _,by simp⟩ (by simp) (aA.alloc _ _ _));simp[execOp,Instr.makeMap,newObj];rfl
theorem Hy{m:List (α×Value)}{j:Nat}(hj:j<m.length):(bK enc m).findIdx? (fun e=>(e.born:Int) == (j:Int))=some j:=by
 rw[List.findIdx?_eq_some_iff_getElem];refine⟨by simpa[bK] using hj,by simp[bK],fun i hi=>?_⟩;simp[bK];omega
theorem cY.obj{H:Array Obj}(h:cY enc H g m):g<H.size:=(WD.1 h.1).1
theorem cY.Ws{S:Nat→Prop}{w w':World}(h:cY enc w.heap g m)(f:aA S w w')(hs:¬ S g):cY enc w'.heap g m:=⟨f.obj h.1 hs,h.2⟩
variable [DecidableEq α]
theorem vW{T:TypeId}(hz:(P.info? T).map (·.zero)=some (some z))(w:World):(zeroValue T).run P w=.ok z w:=by
 obtain⟨i,hi,h1⟩:=WR.1 hz;simp[zeroValue,typeInfo,hi,h1]
theorem qC(K:jX P k enc)(w:World)(m:List (α×Value))(hn:(m.map (·.1)).Nodup)(a:α) :
 ((Instr.findKey k (enc a) (bK enc m)).run P w=.ok none w∧cG m a=none)∨∃ j v,(Instr.findKey k (enc a) (bK enc m)).run P w=.ok (some (j,v)) w∧m[j]?=some (a,v)∧cG m a=some v:=by
 obtain⟨la,hla⟩:=K.reads a;rcases K.keyed.find w hla (bK enc m) (fun e he=>by obtain⟨p,_,h,_⟩:=Dl he;rw[h];exact K.reads _) with⟨h1,h2⟩|⟨j,e,h1,h2,h3⟩
 · refine .inl ⟨h1,Ak fun p hp hpa=>?_⟩
   obtain⟨e,he,hk,_⟩:=MD (enc:=enc) hp;exact h2 e he (by rw[hk,hpa])
 · obtain⟨p,hp,rfl⟩:=Gr h2
   have hpa:p.1=a:=K.inj _ _ h3;subst hpa;exact .inr ⟨j,p.2,h1,hp,Aj hn hp⟩
theorem TY(ht:sQ P t k e z)(K:jX P k enc)(hx:evL l x=some (.map (some g)))(hy:evL l y=some (enc a))(hm:∀ H,CH H→cY enc H g m) :
 Cm P N CH l ⟨dd,.lookup t x y false,ty,pos,aft,gd⟩ ((cG m a).getD z):=fun b w hb hw=>by
 obtain⟨h1,hn⟩:=hm _ hw;have hg:=MapKept.run_getObj_map (P:=P) h1;simp only[execOp,hb.ev hx,hb.ev hy,Instr.lookup,Sem.run_bind,run_underlying ht.und,hg,Result.andThen_ok,Sem.run_pure,iW K];rcases qC K w m hn a with⟨h2,h3⟩|⟨j,v,h2,h3,h4⟩
 ·simp[h2,h3,vW ht.zero]
 ·simp[h2,h4]
theorem Tr(ht:sQ P t k e z)(K:jX P k enc)(hx:evL l x=some (.map (some g)))(hy:evL l y=some (enc a))(hm:∀ H,CH H→cY enc H g m) :
 Cm P N CH l ⟨dd,.lookup t x y true,ty,pos,aft,gd⟩ (.tuple [(cG m a).getD z,.bool (decide ((cG m a).isSome=true))].toArray):=fun b w hb hw=>by
 obtain⟨h1,hn⟩:=hm _ hw;have hg:=MapKept.run_getObj_map (P:=P) h1;simp only[execOp,hb.ev hx,hb.ev hy,Instr.lookup,Sem.run_bind,run_underlying ht.und,hg,Result.andThen_ok,Sem.run_pure,iW K];rcases qC K w m hn a with⟨h2,h3⟩|⟨j,v,h2,h3,h4⟩
 ·simp[h2,h3,vW ht.zero]
 ·simp[h2,h4]
theorem Ui(ht:sQ P t k e z)(hx:evL l x=some (.map (some g)))(hm:∀ H,CH H→cY enc H g m):Cm P N CH l ⟨dd,.call ⟨.builtin .len,#[x],#[t]⟩,ty,pos,aft,gd⟩ (iV m.length):=fun b w hb hw=>by
 obtain⟨h1,hn⟩:=hm _ hw;have hg:=MapKept.run_getObj_map (P:=P) h1;simp[execOp,hb.ev hx,resolve,invoke,builtin,Builtin.len_,run_underlying ht.und,hg,goInt,Kh]
theorem Th{v:Value}(ht:sQ P t k e z)(K:jX P k enc)(hx:evL l x=some (.map (some g)))(hy:evL l y=some (enc a))(hu:evL l u=some v)(hm:cY enc w.heap g m)
 (h:∀ w',cY enc w'.heap g (cN m a v)→w'.heap.size=w.heap.size→aA (· = g) w w'→Sl P N ops Q rest l w') :
 Sl P N ops Q (⟨none,.mapUpdate t x y u,ty,pos,aft,none⟩::rest) l w:=by
 have hm':=hm;obtain⟨h1,hn⟩:=hm;have hg:=MapKept.run_getObj_map (P:=P) h1;rcases qC K w m hn a with⟨h2,h3⟩|⟨j,v0,h2,h3,h4⟩
 · obtain⟨s1,s2,s3⟩:=nE (o':=.map ((bK enc m).toArray.push ⟨enc a,v,m.length⟩) (m.length+1)) h1
   refine TL (w':=ChangeMaps.setBlock w g (.map ((bK enc m).toArray.push ⟨enc a,v,m.length⟩) (m.length+1))) (fun b hb=>?_) (h _ ⟨?_,kZ hn a v⟩ s2 s3)
   ·simp[execOp,hb.ev hx,hb.ev hy,hb.ev hu,Instr.mapUpdate,run_underlying ht.und,hg,iW K,h2,MapKept.run_setObj_map _ h1,Result.andThen,ChangeMaps.setBlock]
   ·rw[s1,gL v h3,Ax];simp
 · have he:(bK enc m)[j]?=some ⟨enc a,v0,j⟩:=by
    simp[bK,Yv,h3]
   have hmod:(bK enc m).modify j (fun e'=>{ e' with key:=enc a,val:=v })=bK enc (cN m a v):=by
    rw[kA v hn h3,Dk,ChangeMaps.modify_eq_set _ _ _ _ he]
   obtain⟨s1,s2,s3⟩:=nE (o':=.map (bK enc (cN m a v)).toArray m.length) h1;refine TL (w':=ChangeMaps.setBlock w g (.map (bK enc (cN m a v)).toArray m.length)) (fun b hb=>?_) (h _ ⟨?_,kZ hn a v⟩ s2 s3)
   ·simp[execOp,hb.ev hx,hb.ev hy,hb.ev hu,Instr.mapUpdate,run_underlying ht.und,hg,iW K,h2,he,Af K,MapKept.run_setObj_map _ h1,Result.andThen,ChangeMaps.setBlock,hmod]
   ·rw[s1];congr 2;rw[kA v hn h3];simp
def Dj(m:List (α×Value))(a:α)(z:Value):List (α×Value):=if (cG m a).isSome then m else m++[(a,z)]
theorem UA(ht:sQ P t k e z)(K:jX P k enc)(hx:evL l x=some (.map (some g)))(hy:evL l y=some (enc a))(hm:cY enc w.heap g m)(hd:Xb d N.n=true)
 (h:∀ w' j,cY enc w'.heap g (Dj m a z)→(Dj m a z)[j]?=some (a,(cG m a).getD z)→w'.heap.size=w.heap.size→aA (· = g) w w'→Sl P N ops Q rest ((d,.tuple [(cG m a).getD z,iV (j:Nat)].toArray)::l) w') :
 Sl P N ops Q (⟨some d,.mapEntry t x y,ty,pos,aft,none⟩::rest) l w:=by
 obtain⟨h1,hn⟩:=hm;have hg:=MapKept.run_getObj_map (P:=P) h1;rcases qC K w m hn a with⟨h2,h3⟩|⟨j,v0,h2,h3,h4⟩
 · have e1:Dj m a z=m++[(a,z)]:=by unfold Dj;rw[h3];rfl
   have e2:(cG m a).getD z=z:=by rw[h3];rfl
   obtain⟨s1,s2,s3⟩:=nE (o':=.map ((bK enc m).toArray.push ⟨enc a,z,m.length⟩) (m.length+1)) h1;refine Tk (w':=ChangeMaps.setBlock w g (.map ((bK enc m).toArray.push ⟨enc a,z,m.length⟩) (m.length+1))) (fun b hb=>?_) hd (h _ m.length ⟨?_,?_⟩ ?_ s2 s3)
   ·simp[execOp,hb.ev hx,hb.ev hy,Instr.mapEntry,run_underlying ht.und,hg,iW K,h2,MapKept.run_setObj_map _ h1,Result.andThen,ChangeMaps.setBlock,vW ht.zero,e2,goInt]
   ·rw[s1,e1,Ax];simp
   ·rw[e1,←gL z h3];exact kZ hn a z
   ·rw[e1,e2];simp
 · have e1:Dj m a z=m:=by unfold Dj;rw[h4];rfl
   have e2:(cG m a).getD z=v0:=by rw[h4];rfl
   have he:(bK enc m)[j]?=some ⟨enc a,v0,j⟩:=by
    simp[bK,Yv,h3]
   have hmod:(bK enc m).modify j (fun e'=>{ e' with key:=enc a })=bK enc m:=by
    rw[ChangeMaps.modify_eq_set _ _ _ _ he];apply Xy;intro i;rw[XT]
    split
    · rename_i hij;subst hij
      rw[Wu (Wy.1 he).1];exact he.symm
    ·rfl
   obtain⟨s1,s2,s3⟩:=nE (o':=.map (bK enc m).toArray m.length) h1;refine Tk (w':=ChangeMaps.setBlock w g (.map (bK enc m).toArray m.length)) (fun b hb=>?_) hd (h _ j ⟨?_,?_⟩ ?_ s2 s3)
   ·simp[execOp,hb.ev hx,hb.ev hy,Instr.mapEntry,run_underlying ht.und,hg,iW K,h2,he,Af K,MapKept.run_setObj_map _ h1,Result.andThen,ChangeMaps.setBlock,hmod,e2,goInt]
   ·rw[s1,e1]
   ·rw[e1];exact hn
   ·rw[e1,e2];exact h3
theorem Ug{v v0:Value}{j:Nat}(hx:evL l x=some (.map (some g)))(hy:evL l y=some (iV (j:Nat)))(hu:evL l u=some v)(hm:cY enc w.heap g m)(hj:m[j]?=some (a,v0))
 (h:∀ w',cY enc w'.heap g (cN m a v)→w'.heap.size=w.heap.size→aA (· = g) w w'→Sl P N ops Q rest l w') :
 Sl P N ops Q (⟨none,.entryStore t x y u,ty,pos,aft,none⟩::rest) l w:=by
 obtain⟨h1,hn⟩:=hm;have hg:=MapKept.run_getObj_map (P:=P) h1;have hlt:=(Wy.1 hj).1;have he:(bK enc m)[j]?=some ⟨enc a,v0,j⟩:=by simp[bK,Yv,hj]
 have hmod:(bK enc m).modify j (fun e'=>{ e' with val:=v })=bK enc (cN m a v):=by
  rw[kA v hn hj,Dk,ChangeMaps.modify_eq_set _ _ _ _ he]
 obtain⟨s1,s2,s3⟩:=nE (o':=.map (bK enc (cN m a v)).toArray m.length) h1;refine TL (w':=ChangeMaps.setBlock w g (.map (bK enc (cN m a v)).toArray m.length)) (fun b hb=>?_) (h _ ⟨?_,kZ hn a v⟩ s2 s3)
 ·simp[execOp,hb.ev hx,hb.ev hy,hb.ev hu,Instr.entryStore,hg,asInt,asIntOf,Hy hlt,MapKept.run_setObj_map _ h1,Result.andThen,ChangeMaps.setBlock,hmod]
 ·rw[s1];congr 2;rw[kA v hn hj];simp
theorem Kg(m:List (α×Value))(a:α)(z v:Value):cN (Dj m a z) a v=cN m a v:=by
 unfold Dj
 split
 ·rfl
 · rename_i h
   have hn:cG m a=none:=by simpa using h
   rw[gL v hn]
   induction m with
  |nil=>simp[cN]
  |cons p r ih=>
     unfold cG at hn
     split at hn
     ·cases hn
     · rename_i hp
       simp only[Xq,cN,Wt hp];rw[ih (by simpa using hn) hn]
end
def cs3(a:UInt8×UInt8×UInt8):List Value:=[b8 a.1,b8 a.2.1,b8 a.2.2]
def Dq(a:UInt8×UInt8×UInt8):Value:=.agg (cs3 a).toArray
def nV(n:Nat):Value:=iV n
theorem Ob:∀ x,(nV x).oneCell'=true:=fun _=>rfl
theorem DH:WideMaps.ArrKey Tryz.prog 270 5 3:=⟨by kernel_rfl,by kernel_rfl,by kernel_rfl,by kernel_rfl⟩
theorem OY(x:UInt8):(Lit.int .u8 x.toNat).wf=true:=by
 have:=x.toNat_lt;have h1:IntKind.u8.min=0:=rfl;have h2:IntKind.u8.max=255:=rfl;simp only[Lit.wf,h1,h2,WW,decide_eq_true_eq];omega
theorem Ph:jX Tryz.prog 270 Dq:=by
 refine⟨Maps.Keyed.of_law DH.law,fun a=>?_,fun a b h=>?_⟩
 · refine⟨.string (keyBytes [.int .u8 a.1.toNat,.int .u8 a.2.1.toNat,.int .u8 a.2.2.toNat]),?_⟩
   have hsz:∃ m,Tryz.prog.types.size=m+1:=⟨Tryz.prog.types.size-1,by kernel_rfl⟩
   have hkt:=DH.keyType hsz;obtain⟨m,hm⟩:=hsz;unfold keyOf;simp only[DH.hu];rw[Wu (by simp[hkt,Value.formed,DH.hu,DH.size,Dq,cs3]),hm];unfold Program.keyLits;simp only[DH.hu,Value.cells,Dq];rw[Wu (by rw[DH.size];rfl),show Xr 3=[0,1,2] from rfl,YZ,YZ,YZ,List.mapM_nil];simp[DH.one,Program.keyLits,OY,cs3,b8]
 · simp only[Dq,cs3,Value.agg.injEq] at h
   have h2:=congrArg Array.toList h;simp only[b8,Yr.injEq,Value.int.injEq,true_and,and_true] at h2;obtain⟨e1,e2,e3⟩:=h2;have f:∀ x y:UInt8,(x.toNat:Int)=y.toNat→x=y:=fun x y e=>XV.1 (by omega);exact Yl (f _ _ e1) (Yl (f _ _ e2) (f _ _ e3))
theorem mp3:sQ Tryz.prog 236 270 31 sN:=⟨by kernel_rfl,z31⟩
structure ChC (D:Nat→Prop)(H:Array Obj)(g:Nat)(b:By)(lo hi:Nat)(m:List ((UInt8×UInt8×UInt8)×Value))(A:UInt8×UInt8×UInt8→Option Addr)(C:UInt8×UInt8×UInt8→Nat):Prop where
 map:cY Dq H g m
 mine:D g
 val:∀ a,(cG m a).getD sN=.slice (A a) (iL b lo hi a).length (C a)
 own:∀ a,Own nV 3 H (A a) (C a) (iL b lo hi a)
 dom:∀ a k,blk (A a) k→D k∧k≠g
 apart:∀ a a',a≠a'→∀ k,blk (A a) k→¬ blk (A a') k
def ChM(D:Nat→Prop)(H:Array Obj)(g:Nat)(b:By)(lo hi:Nat):Prop:=∃ m A C,ChC D H g b lo hi m A C
theorem ChM.Ws{D S:Nat→Prop}{w w':World}{g:Nat}{b:By}{lo hi:Nat}(h:ChM D w.heap g b lo hi)(f:aA S w w')(hs:∀ k,D k→¬ S k):ChM D w'.heap g b lo hi:=by
 obtain⟨m,A,C,h1,h2,h3,h4,h5,h6⟩:=h;exact⟨m,A,C,h1.Ws f (hs _ h2),h2,h3,fun a=>(h4 a).Ws f (fun x hx=>hs _ (h5 a _ ⟨x,hx,rfl⟩).1),h5,h6⟩
theorem ChM.new{D:Nat→Prop}{H:Array Obj}{g:Nat}(h:cY Dq H g [])(hD:D g)(b:By)(lo:Nat):ChM D H g b lo lo:=by
 have e:∀ a,iL b lo lo a=[]:=fun a=>by unfold iL;simp
 exact⟨[],fun _=>none,fun _=>0,h,hD,fun a=>by rw[e];rfl,fun a=>by rw[e];exact VR,fun a k ⟨x,hx,_⟩=>(by cases hx),fun a a' _ k ⟨x,hx,_⟩=>(by cases hx)⟩
theorem ChM.end{D:Nat→Prop}{H:Array Obj}{g:Nat}{b:By}{lo i j:Nat}(h:ChM D H g b lo i)(hlo:lo≤i)(hl:b.length<i+3)(hij:i≤j):ChM D H g b lo j:=by
 obtain⟨m,A,C,h1,h2,h3,h4,h5,h6⟩:=h;exact⟨m,A,C,h1,h2,fun a=>by rw[CB a hlo hl hij];exact h3 a,fun a=>by rw[CB a hlo hl hij];exact h4 a,h5,h6⟩
theorem ChC.note{D:Nat→Prop}{H H':Array Obj}{g:Nat}{b:By}{lo i:Nat}{m:List ((UInt8×UInt8×UInt8)×Value)}{A:UInt8×UInt8×UInt8→Option Addr}{C:UInt8×UInt8×UInt8→Nat}
 (h:ChC D H g b lo i m A C)(hlo:lo≤i)(hi:i+3≤b.length){ao:Option Addr}{c:Nat}(hm:cY Dq H' g (cN m (st3 b i) (.slice ao (iL b lo i (st3 b i)++[i]).length c)))(ho:Own nV 3 H' ao c (iL b lo i (st3 b i)++[i]))
 (hd:∀ k,blk ao k→D k∧k≠g∧∀ a,a≠st3 b i→¬ blk (A a) k)(hk:∀ a,a≠st3 b i→Own nV 3 H' (A a) (C a) (iL b lo i a)):ChM D H' g b lo (i+1):=by
 obtain⟨h1,h2,h3,h4,h5,h6⟩:=h;refine⟨_,fun a=>if a=st3 b i then ao else A a,fun a=>if a=st3 b i then c else C a,hm,h2,fun a=>?_,fun a=>?_,fun a k hb=>?_,fun a a' hne k hb hb'=>?_⟩
 · rw[iZ,Aa a hlo hi]
   by_cases e:a=st3 b i
   ·rw[Wu e,Wu e,Wu e,Wu e,e];rfl
   ·rw[Wt e,Wt e,Wt e,Wt e];exact h3 a
 · rw[Aa a hlo hi]
   by_cases e:a=st3 b i
   ·rw[Wu e,Wu e,Wu e,e];exact ho
   ·rw[Wt e,Wt e,Wt e];exact hk a e
 · by_cases e:a=st3 b i
   ·rw[Wu e] at hb;exact⟨(hd k hb).1,(hd k hb).2.1⟩
   ·rw[Wt e] at hb;exact h5 a k hb
 · by_cases e:a=st3 b i
   · rw[Wu e] at hb
     rw[Wt (fun e'=>hne (by rw[e,e']))] at hb';exact(hd k hb).2.2 a' (fun e'=>hne (by rw[e,e'])) hb'
   · rw[Wt e] at hb
     by_cases e':a'=st3 b i
     ·rw[Wu e'] at hb';exact(hd k hb').2.2 a e hb
     ·rw[Wt e'] at hb';exact h6 a a' hne k hb hb'
theorem KH{H:Array Obj}{ao:Option Addr}{cap:Nat}{b:By}(hv:Vw b8 H ao cap b){i:Nat}(hi:i+3≤b.length):∀ j v,(cs3 (st3 b i))[j]?=some v→bH H ((adr ao i).add j)=some v:=by
 intro j v hj;have e:∀ q,q<3→bH H ((adr ao i).add q)=some (b8 (b.getD (i+q) 0)):=fun q hq=>by
  have:=hv.gd 0 (i:=i+q) (by omega);unfold adr at this ⊢;rwa[rH]
 match j with
|0=>simp[cs3,st3] at hj;rw[←hj];exact e 0 (by decide)
|1=>simp[cs3,st3] at hj;rw[←hj];exact e 1 (by decide)
|2=>simp[cs3,st3] at hj;rw[←hj];exact e 2 (by decide)
|j+3=>simp[cs3] at hj
theorem FU(D:Nat→Prop)(g:Nat)(ao:Option Addr)(cap:Nat)(b:By)(lo i hi:Nat)(W:World)(hv:Vw b8 W.heap ao cap b)(hap:∀ k,blk ao k→¬ D k)(hc:ChM D W.heap g b lo i)(hD:∀ k,W.heap.size≤k→D k)(hlo:lo≤i)(hih:i≤hi)(hhi:hi≤b.length)(hb:b.length≤1073741824) :
 CA 186 [.map (some g),.slice ao b.length cap,iV i,iV hi] W fun v w'=>ChM D w'.heap g b lo hi∧aA D W w':=by
 refine cS 36 [(0,_),(1,_),(2,_),(3,_)] Tryz.func186 ?_;refine Gz 7 ?_;refine SO (β:=Nat) (fun j=>[(0,.map (some g)),(1,.slice ao b.length cap),(3,iV hi),(8,iV j)]) (fun j w=>i≤j∧j≤hi∧ChM D w.heap g b lo j∧aA D W w) (fun j=>hi-j) i ⟨rfl,rfl,rfl,rfl,trivial⟩ ⟨WC _,hih,hc,VK _ _⟩ ?_;rintro j w1 ⟨hij,hjh,hc1,hF1⟩;have hv1:=hv.Ws hF1 (fun a ha h=>hap _ ⟨a,ha,rfl⟩ h);have hz1:=hF1.size;refine fK 5 ?_ ?_<;>intro h13
 ·refine fW 5 ?_ ?_<;>intro h19
  ·refine Gz 12 ?_;refine cL (Tp aT rfl rfl (by omega)) ?_;refine cL (Uh Tryz.underlying270 rfl (hv1.non (by omega)) (by omega) (by have:=hv1.le;omega)) ?_;refine cL (SX (cs:=cs3 (st3 b j)) BF rfl (KH hv1 (by omega))) ?_;refine SP OQ rfl ?_;intro w2 hg2 hs2 hf2;refine sA rfl BF (by simp[cs3,b8,Value.oneCell']) hg2 ?_;intro w3 hg3 hs3 hf3;have hf13:aA nob w1 w3:=hf2.tw hf3;have hz13:=hf13.size;refine Gz 4 ?_;refine cL (SX (cs:=cs3 (st3 b j)) BF rfl (fun j v hj=>aD hg3 hj)) ?_;refine Gz 1 ?_;refine TJ (enc:=nV) (u:=j) cI rfl rfl rfl ?_;intro w4 ho4 hs4 hf4;have hf14:=hf13.trans hf4;obtain⟨m,A,C,hC⟩:=hc1;have hmap4:=hC.map.Ws hf14 id;have hgl:=hC.map.obj;have hz4:=hf14.size;refine UA mp3 Ph rfl rfl hmap4 rfl ?_;intro w5 j5 hm5 hj5 hs5 hf5;rw[hC.val];refine Gz 1 ?_;refine S4 Ob cI rfl rfl (((hC.own (st3 b j)).Wr hf14).Ws hf5 (fun a ha h=>(hC.dom _ _ ⟨a,ha,rfl⟩).2 h)) ((ho4.Ws hf5 (fun a ha h=>by cases ha;have h:w3.heap.size=g:=h;omega)).vw) (by have:=wH b lo j (st3 b j);simp only[WF];omega) (by have:=wH b lo j (st3 b j);simp only[WF];unfold maxLen;omega) rfl ?_;intro a6 c6 w6 ho6 hf6 hr6 hn6;have hm6:=hm5.Ws hf6 (fun h=>(hC.dom _ _ h).2 rfl);refine Gz 1 ?_;refine Ug rfl rfl rfl hm6 hj5 ?_;intro w7 hm7 hs7 hf7;rw[Kg] at hm7;refine Gz 8 ?_;have hz5:=hf5.size;have hz6:=hf6.size;have hlt:∀ a k,blk (A a) k→k<w1.heap.size:=fun a k ⟨x,hx,hk⟩=>hk ▸ (hC.own a).lt x hx;have hblk:∀ k,blk a6 k→blk (A (st3 b j)) k∨w4.heap.size≤k:=fun k ⟨x,hx,hk⟩=>by rcases hr6 x hx with h|h;exact .inl ⟨x,h,hk⟩;exact .inr (by omega)
   have hfx:∀ a,a≠st3 b j→Own nV 3 w7.heap (A a) (C a) (iL b lo j a):=fun a hne=>((((hC.own a).Wr hf14).Ws hf5 (fun x hx h=>(hC.dom a _ ⟨x,hx,rfl⟩).2 h)).Ws hf6 (fun x hx h=>hC.apart a _ hne _ ⟨x,hx,rfl⟩ h)).Ws hf7 (fun x hx h=>(hC.dom a _ ⟨x,hx,rfl⟩).2 h);have hnew:ChM D w7.heap g b lo (j+1):=hC.note (by omega) (by omega) hm7 (ho6.Ws hf7 (fun x hx h=>by rcases hblk _ ⟨x,hx,rfl⟩ with h2|h2;exact(hC.dom _ _ h2).2 h;have h:x.block=g:=h;omega)) (fun k hk=>by rcases hblk k hk with h2|h2;exact⟨(hC.dom _ _ h2).1,(hC.dom _ _ h2).2,fun a hne h3=>hC.apart a _ hne k h3 h2⟩;exact⟨hD k (by omega),by omega,fun a hne h3=>by have:=hlt a k h3;omega⟩) hfx;have hF7:aA D W w7:=(((hF1.trans hf14.any).trans (hf5.mono (fun k h=>by subst h;exact hC.mine))).trans (hf6.mono (fun k h=>(hC.dom _ _ h).1))).trans (hf7.mono (fun k h=>by subst h;exact hC.mine));exact aG (j+1) ⟨by omega,by omega,hnew,hF7⟩ (by show hi-(j+1)<hi-j;omega)
  refine Gz 8 ?_;refine Tf rfl ?_
  first
  |(have e:j=hi:=by omega
    subst e;exact⟨_,rfl,hc1,hF1⟩)
  |exact⟨_,rfl,hc1.end (by omega) (by omega) hjh,hF1⟩
 refine Gz 14 ?_;refine Tf rfl ?_
 first
 |(have e:j=hi:=by omega
   subst e;exact⟨_,rfl,hc1,hF1⟩)
 |exact⟨_,rfl,hc1.end (by omega) (by omega) hjh,hF1⟩
def xE(b:By)(a:Nat)(L:List Nat):Nat×Nat:=L.reverse.foldl (stp b a) (0,0)
theorem EE(b:By)(a i:Nat)(L:List Nat):xE b a (i::L)=stp b a (xE b a L) i:=by
 unfold xE;rw[List.reverse_cons,XO];rfl
theorem Kn{L:List Nat}{j:Nat}(h:j<L.length):L.drop j=L.getD j 0::L.drop (j+1):=by
 rw[Xv h,WI,Wv h];rfl
theorem sG(W:World)(n k:Nat):(W.drewN n).drewN k=W.drewN (n+k):=by simp[World.drewN,Yq]
theorem nVw{H:Array Obj}{ao:Option Addr}{c:Nat}{L:List Nat}(h:Own nV 3 H ao c L):Vw nV H ao c L:=h.vw
theorem Jo(D:Nat→Prop)(g:Nat)(ao:Option Addr)(cap:Nat)(b:By)(lo a:Nat)(W:World)(hv:Vw b8 W.heap ao cap b)(hc:ChM D W.heap g b lo a)(hlo:lo≤a-256)(ha:a≤b.length)(hb:b.length≤1073741824) :
 CA 185 [.map (some g),.slice ao b.length cap,iV a] W fun v w'=>v=.tuple [iV (mt b a).1,iV (mt b a).2].toArray∧∃ n,w'=W.drewN n:=by
 obtain⟨m,A,C,hC⟩:=hc;refine cS 60 [(0,_),(1,_),(2,_)] Tryz.func185 ?_;refine fK 10 ?_ ?_<;>intro h12
 ·exact absurd h12 (by omega)
 refine fW 5 ?_ ?_<;>intro h18
 ·have e:mt b a=(0,0):=Jk (by omega);refine Gz 13 ?_
  first
  |(rw[e];exact⟨_,rfl,rfl,0,rfl⟩)
  |(have hj1:j=0:=by omega
    subst hj1;rw[Y0] at hall ⊢;have e2:L.filter (fun i=>decide (a-i≤256))=L:=Yh.2 (fun i hi=>by simpa using hall i hi);rw[e2] at hmp;rw[hmp];exact⟨_,rfl,rfl,n,rfl⟩)
  |(have e2:=oL hLs hj.1 (a:=a) (by rw[←hp];omega) (by rw[show j-1+1=j by omega];exact hall)
    rw[show j-1+1=j by omega] at e2;rw[e2] at hmp;rw[hmp,hs];exact⟨_,rfl,rfl,n,rfl⟩)
 have hmp:=Od (b:=b) (lo:=lo) (a:=a) (by omega) hlo;obtain⟨L,hL⟩:∃ L,L=iL b lo a (st3 b a):=⟨_,rfl⟩
 have hLs:L.Pairwise (· < ·):=by rw[hL];exact Cz b lo a _
 have hLm:∀ i∈L,i<a:=fun i hi=>by rw[hL] at hi;exact(IY.1 hi).2.1
 have hLl:L.length≤a-lo:=by rw[hL];exact wH b lo a _
 have hLo:=nVw (hC.own (st3 b a));have hLv:=hC.val (st3 b a);rw[←hL] at hmp hLo hLv;obtain⟨la,hla⟩:∃ x,x=A (st3 b a):=⟨_,rfl⟩
 obtain⟨lc,hlc⟩:∃ x,x=C (st3 b a):=⟨_,rfl⟩
 rw[←hla,←hlc] at hLo hLv;refine Gz 11 ?_;refine cL (Tp aT rfl rfl (by omega)) ?_;refine cL (Uh Tryz.underlying270 rfl (hv.non (by omega)) (by omega) (by have:=hv.le;omega)) ?_;refine cL (SX (cs:=cs3 (st3 b a)) BF rfl (KH hv (by omega))) ?_;refine cL (SN (u:=.slice la L.length lc) (TY mp3 Ph rfl rfl (fun _ e=>by rw[e];exact hC.map)) hLv) ?_;refine Gz 13 ?_;refine SO (β:=Nat) (fun j=>[(1,.slice ao b.length cap),(2,iV a),(6,iV (xE b a (L.drop j)).1),(7,iV (xE b a (L.drop j)).2),(8,.slice la L.length lc),(9,iV ((j:Int)-1))]) (fun j w=>j≤L.length∧(∀ i∈L.drop j,a-i≤256)∧∃ n,w=W.drewN n) (fun j=>j) L.length ⟨rfl,rfl,(by rw[drop_length];rfl),(by rw[drop_length];rfl),rfl,rfl,trivial⟩ ⟨WC _,by rw[drop_length];simp,0,rfl⟩ ?_;rintro j _ ⟨hj0,hall,n,rfl⟩;refine fK 4 ?_ ?_<;>intro h31
 ·have hj:j-1<L.length∧0<j:=by omega
  have hget:L.getD (j-1) 0<a:=hLm _ (by rw[WI,Wv hj.1];exact List.getElem_mem hj.1);have hdr:=Kn hj.1;rw[show j-1+1=j by omega] at hdr;obtain⟨p,hp⟩:∃ p,p=L.getD (j-1) 0:=⟨_,rfl⟩
  rw[←hp] at hget hdr;obtain⟨s,hs⟩:∃ s,s=xE b a (L.drop j):=⟨_,rfl⟩
  have hs2:xE b a (L.drop (j-1))=stp b a s p:=by rw[hdr,EE,hs]
  rw[←hs];refine Gz 13 ?_;refine cL (SI cI rfl rfl hLo.non (by omega)) ?_;refine cL (SN (u:=iV (p:Nat)) (SM aN rfl (hLo.gz 0 (j-1) (by omega) (by omega))) (by rw[←hp];rfl)) ?_;refine fK 1 ?_ ?_<;>intro h40
  ·refine Gz 5 ?_;refine Uf rfl ?_;refine Gz 14 ?_
   first
   |(rw[e];exact⟨_,rfl,rfl,0,rfl⟩)
   |(have hj1:j=0:=by omega
     subst hj1;rw[Y0] at hall ⊢;have e2:L.filter (fun i=>decide (a-i≤256))=L:=Yh.2 (fun i hi=>by simpa using hall i hi);rw[e2] at hmp;rw[hmp];exact⟨_,rfl,rfl,n,rfl⟩)
   |(have e2:=oL hLs hj.1 (a:=a) (by rw[←hp];omega) (by rw[show j-1+1=j by omega];exact hall)
     rw[show j-1+1=j by omega] at e2;rw[e2] at hmp;rw[hmp,hs];exact⟨_,rfl,rfl,n,rfl⟩)
  refine Gz 11 ?_;refine cL (SI cI rfl rfl hLo.non (by omega)) ?_;refine cL (SN (u:=iV (p:Nat)) (SM aN rfl (hLo.gz 0 (j-1) (by omega) (by omega))) (by rw[←hp];rfl)) ?_;refine SJ PB rfl (Ma ao cap b a p _ hv ha hget hb) rfl ?_;rintro _ _ ⟨rfl,n2,rfl⟩;refine fK 7 ?_ ?_<;>intro h50
  ·have hst:stp b a s p=(lik b a p,a-p):=by unfold stp;rw[Wu (by omega)]
   refine Gz 3 ?_;refine Tg 9 [0,1,2,3,4,5,6,7,8] aL (by kernel_rfl) ?_;refine Gz 4 ?_;refine xC rfl (SI cI rfl rfl hLo.non (by omega)) ?_;refine xC rfl (SN (u:=iV (p:Nat)) (SM aN rfl (hLo.gz 0 (j-1) (by omega) (by omega))) (by rw[←hp];rfl)) ?_;refine Gz 11 ?_;refine S9 (j-1) ⟨rfl,rfl,?_,?_,rfl,?_,trivial⟩ ⟨by omega,?_,n+n2+1,by rw[sG,sG,Yq]⟩ (by show j-1<j;omega)
   ·show some (Value.int .i64 _)=some (Value.int .i64 _);rw[hs2,hst]
   ·show some (Value.int .i64 _)=some (Value.int .i64 _);rw[hs2,hst];congr 2;omega
   ·show some (Value.int .i64 _)=some (Value.int .i64 _);congr 2;omega
   ·rw[hdr];intro i hi;rcases W5.1 hi with h|h;rw[h];omega;exact hall i h
  have hst:stp b a s p=s:=by unfold stp;rw[Wt (by omega)]
  refine Gz 11 ?_;refine S9 (j-1) ⟨rfl,rfl,?_,?_,rfl,?_,trivial⟩ ⟨by omega,?_,n+n2,sG _ _ _⟩ (by show j-1<j;omega)
  ·show some (Value.int .i64 _)=some (Value.int .i64 _);rw[hs2,hst]
  ·show some (Value.int .i64 _)=some (Value.int .i64 _);rw[hs2,hst]
  ·show some (Value.int .i64 _)=some (Value.int .i64 _);congr 2;omega
  ·rw[hdr];intro i hi;rcases W5.1 hi with h|h;rw[h];omega;exact hall i h
 refine Gz 18 ?_
 first
 |(rw[e];exact⟨_,rfl,rfl,0,rfl⟩)
 |(have hj1:j=0:=by omega
   subst hj1;rw[Y0] at hall ⊢;have e2:L.filter (fun i=>decide (a-i≤256))=L:=Yh.2 (fun i hi=>by simpa using hall i hi);rw[e2] at hmp;rw[hmp];exact⟨_,rfl,rfl,n,rfl⟩)
 |(have e2:=oL hLs hj.1 (a:=a) (by rw[←hp];omega) (by rw[show j-1+1=j by omega];exact hall)
   rw[show j-1+1=j by omega] at e2;rw[e2] at hmp;rw[hmp,hs];exact⟨_,rfl,rfl,n,rfl⟩)
theorem ChM.mono{D D':Nat→Prop}{H:Array Obj}{g:Nat}{b:By}{lo hi:Nat}(h:ChM D H g b lo hi)(hd:∀ k,D k→D' k):ChM D' H g b lo hi:=by
 obtain⟨m,A,C,h1,h2,h3,h4,h5,h6⟩:=h;exact⟨m,A,C,h1,hd _ h2,h3,h4,fun a k hk=>⟨hd _ (h5 a k hk).1,(h5 a k hk).2⟩,h6⟩
theorem ChM.low{D:Nat→Prop}{H:Array Obj}{g:Nat}{b:By}{lo hi:Nat}(h:ChM D H g b lo hi):ChM (fun k=>D k∧k<H.size) H g b lo hi:=by
 obtain⟨m,A,C,h1,h2,h3,h4,h5,h6⟩:=h;exact⟨m,A,C,h1,⟨h2,h1.obj⟩,h3,h4,fun a k hk=>⟨⟨(h5 a k hk).1,by obtain⟨x,hx,e⟩:=hk;rw[←e];exact(h4 a).lt x hx⟩,(h5 a k hk).2⟩,h6⟩
def pkR(b:By):By×Int:=if 4096<b.length then ([],3) else (pkS b,0)
theorem LN{b:By}(h:b.length≤4096):pkR b=(pkS b,0):=by unfold pkR;rw[Wt (by omega)]
theorem G6{b:By}{a f:Nat}(hf:f≤a)(h:a<b.length):(b.take a).drop f++[b.getD a 0]=(b.take (a+1)).drop f:=by
 rw[WV h,List.drop_append_of_le_length (by rw[WB];omega),WI,Wv h];rfl
theorem I5{b:By}{a f:Nat}(h:a≤b.length):((b.take a).drop f).length=a-f:=by rw[WE,WB];omega
theorem FJ{H:Array Obj}{ao:Option Addr}{cap:Nat}{b:By}(hv:Vw b8 H ao cap b){a f:Nat}(hf:f≤a)(ha:a≤b.length):Vw b8 H (bG ao cap f 1) (cap-f) ((b.take a).drop f):=by
 have h:=hv.cut (l:=f) (h:=a) (m:=cap) hf ha (by have:=hv.le;omega) (WC _);rwa[List.drop_take]
theorem CE{x:Int}{n:Nat}(h:x=n):IntKind.u8.wrap x=((WP n).toNat:Int):=by rw[vD (by omega),h];rfl
theorem LO(ao:Option Addr)(cap:Nat)(b:By)(W:World)(hv:Vw b8 W.heap ao cap b) :
 CA 131 [.slice ao b.length cap] W (EZ W (pkR b)):=by
 have hle:=hv.le;refine cS 65 [(0,_)] Tryz.func131 ?_;refine fK 11 ?_ ?_<;>intro h12
 ·have e:pkR b=([],3):=by unfold pkR;rw[Wu (by omega)]
  refine Gz 12 ?_
  first
  |(rw[e];exact⟨_,rfl,none,0,rfl,VR,VP,VK _ _⟩)
  |(rw[e,←hpk];exact⟨_,rfl,o3,c3,rfl,ho3,nP hfr1 hr3 hz1,hF1.Wo hf3 hfr1.step⟩)
 have e:pkR b=(pkS b,0):=by unfold pkR;rw[Wt (by omega)]
 refine Gz 7 ?_;refine To (enc:=Dq) rfl ?_;intro w0 hm0 hs0 hf0;refine Gz 20 ?_;refine SO (β:=Nat×Nat×By×Option Addr×Nat) (fun⟨a,f,out,o1,c1⟩=>[(0,.slice ao b.length cap),(4,.map (some W.heap.size)),(5,.slice o1 out.length c1),(6,iV f),(7,iV a)]) (fun⟨a,f,out,o1,c1⟩ w=>f≤a∧a≤b.length∧pk b a ((b.take a).drop f) out=pkS b∧ChM (fun k=>W.heap.size≤k∧¬ blk o1 k) w.heap W.heap.size b 0 a∧Own b8 5 w.heap o1 c1 out∧Fr W.heap.size o1∧out.length≤3*f∧aA nob W w) (fun⟨a,f,out,o1,c1⟩=>b.length-a) ⟨0,0,[],none,0⟩ ⟨rfl,rfl,rfl,rfl,rfl,trivial⟩ ⟨WC _,WG _,rfl,ChM.new hm0 ⟨WC _,fun⟨x,hx,_⟩=>by cases hx⟩ b 0,VR,VP,WC _,hf0⟩ ?_;rintro⟨a,f,out,o1,c1⟩ w1 ⟨hf,ha,hpk,hc1,ho1,hfr1,hol,hF1⟩;have hv1:=hv.Wr hF1;have hz1:=hF1.size;refine fK 6 ?_ ?_<;>intro h17
 ·have hltA:=BQ hv (show 0<b.length by omega);refine Gz 11 ?_;refine SJ PI rfl (Jo _ W.heap.size ao cap b 0 a w1 hv1 hc1 (WG _) ha (by omega)) rfl ?_;rintro _ _ ⟨rfl,d1,rfl⟩;obtain⟨n,hn⟩:∃ n,n=(mt b a).1:=⟨_,rfl⟩
  obtain⟨bk,hbk⟩:∃ x,x=(mt b a).2:=⟨_,rfl⟩
  rw[←hn,←hbk];refine fK 11 ?_ ?_<;>intro h26
  ·have hn0:(mt b a).1=0:=by omega
   refine Gz 10 ?_;rw[show ((a:Int)+1)=((a+1:Nat):Int) by omega];refine SJ Nm rfl (FU _ W.heap.size ao cap b 0 a (a+1) _ hv1 (fun k hk h=>by have:=hltA k hk;have:=h.1;omega) hc1 (fun k hk=>⟨W9 hz1 hk,fun⟨x,hx,e⟩=>by have:=ho1.lt x hx;have h:w1.heap.size≤k:=hk;omega⟩) (WG _) (by omega) (by omega) (by omega)) rfl ?_;rintro _ w2 ⟨hc2,hf2⟩;have hf2:=hf2.Wp;refine Gz 12 ?_;have hF2:aA nob W w2:=hF1.Wo hf2 (fun k h=>.inr h.1);exact aG ⟨a+1,f,out,o1,c1⟩ ⟨by omega,by omega,by rw[←hpk,I2 (by omega) hn0,G6 hf (by omega)],hc2,ho1.Ws hf2 (fun x hx h=>h.2 ⟨x,hx,rfl⟩),hfr1,hol,hF2⟩ (by show b.length-(a+1)<b.length-a;omega)
  have hn1:(mt b a).1≠0:=by omega
  obtain⟨m1,m2,m3,m4,m5,m6,m7,m8,m9⟩:=uP hn1;rw[←hn] at m2 m3 m4 m8 m9;rw[←hbk] at m5 m6 m7 m8 m9;have hpl:=I5 (b:=b) (a:=a) (f:=f) ha;refine Gz 11 ?_;refine cL (SN (u:=.slice (bG ao cap f 1) ((b.take a).drop f).length (cap-f)) (UG aT rfl rfl rfl (by omega) (by omega)) (by rw[hpl];rfl)) ?_;refine SJ Nl rfl (FA o1 c1 out (bG ao cap f 1) (cap-f) ((b.take a).drop f) _ ho1 (FJ hv1 hf ha) (fun _ k hk hk2=>by have:=hltA k (lO hk2);obtain⟨x,hx,e⟩:=hk;have:=hfr1 x hx;omega) (by rw[hpl];omega)) rfl ?_;rintro _ w3 ⟨o3,c3,rfl,ho3,hf3,hr3⟩;have hf3:=hf3.Wp;have hz3:=hf3.size;have hrl:=NQ _ ((b.take a).drop f) out rfl;rw[hpl] at hrl;have hfr3:Fr W.heap.size o3:=nP hfr1 hr3 hz1;refine Gz 2 ?_;refine cL (S1 (n:=((WP (n+125)).toNat:Int)) is3 ty5 rfl (CE (by omega))) ?_;refine Gz 2 ?_;refine cL (S1 (n:=((WP (bk-1)).toNat:Int)) is3 ty5 rfl (CE (by omega))) ?_;refine UQ (enc:=b8) (u:=WP (n+125)) (u':=WP (bk-1)) aT dK rfl rfl rfl ?_;intro w4 ho4 hs4 hf4;have hz4:=hf4.size;refine S4 dK aT rfl rfl (ho3.Wr hf4) ho4.vw (by simp only[WT,W2];omega) (by simp only[WT,W2];unfold maxLen;omega) rfl ?_;intro o5 c5 w5 ho5 hf5 hr5 hn5;have hz5:=hf5.size;have hfr5:Fr W.heap.size o5:=nP hfr3 hr5 (by omega);have hto3:∀ k,blk o3 k→blk o1 k∨w1.heap.size≤k:=fun k ⟨x,hx,hk⟩=>by rcases hr3 x hx with h|h;exact .inl ⟨x,h,hk⟩;exact .inr (by have h:w1.heap.size≤x.block:=h;omega)
  have hto5:∀ k,blk o5 k→blk o1 k∨w1.heap.size≤k:=fun k ⟨x,hx,hk⟩=>by rcases hr5 x hx with h|h;exact hto3 k ⟨x,h,hk⟩;exact .inr (by omega)
  have hF15:aA (blk o1) w1 w5:=(hf3.trans hf4.any).Wo hf5 hto3;have hF5:aA nob W w5:=hF1.Wo hF15 hfr1.step;have hc5:ChM (fun k=>W.heap.size≤k∧¬ blk o5 k) w5.heap W.heap.size b 0 a:=(hc1.low.Ws hF15 (fun k hk=>hk.1.2)).mono (fun k hk=>⟨hk.1.1,fun h=>by rcases hto5 k h with h2|h2;exact hk.1.2 h2;have:=hk.2;omega⟩);refine Gz 11 ?_;rw[show ((a:Int)+n)=((a+n:Nat):Int) by omega];refine SJ Nm rfl (FU _ W.heap.size ao cap b 0 a (a+n) w5 (hv.Wr hF5) (fun k hk h=>by have:=hltA k hk;have:=h.1;omega) hc5 (fun k hk=>⟨W9 hF5.size hk,fun⟨x,hx,e⟩=>by have:=ho5.lt x hx;omega⟩) (WG _) (by omega) (by omega) (by omega)) rfl ?_;rintro _ w6 ⟨hc6,hf6⟩;refine Gz 15 ?_;have hF6:aA nob W w6:=hF5.Wo hf6 (fun k h=>.inr h.1);refine aG ⟨a+n,a+n,rn out ((b.take a).drop f)++[WP (n+125),WP (bk-1)],o5,c5⟩ ⟨WC _,by omega,?_,hc6,ho5.Ws hf6 (fun x hx h=>h.2 ⟨x,hx,rfl⟩),hfr5,by rw[Ww,hrl];simp only[WT,W2];omega,hF6⟩ (by show b.length-(a+n)<b.length-a;omega);rw[←hpk,FH hn1,←hn,←hbk,List.drop_of_length_le (by rw[WB];omega)]
 refine Gz 13 ?_;have haf:a=b.length:=by omega
 rw[haf,Xg,I3 (Nat.lt_irrefl _)] at hpk;refine cL (SN (u:=.slice (bG ao cap f 1) (b.drop f).length (cap-f)) (Tp aT rfl rfl (by omega)) (by rw[WE];rfl)) ?_;have hvd:=FJ hv1 (show f≤b.length by omega) (WC _);rw[Xg] at hvd;refine SJ Nl rfl (FA o1 c1 out (bG ao cap f 1) (cap-f) (b.drop f) _ ho1 hvd (fun h k hk hk2=>by have hltA:=BQ hv (show 0<b.length by rw[WE] at h;omega);have:=hltA k (lO hk2);obtain⟨x,hx,e⟩:=hk;have:=hfr1 x hx;omega) (by rw[WE];omega)) rfl ?_;rintro _ w3 ⟨o3,c3,rfl,ho3,hf3,hr3⟩;refine Gz 6 ?_
 first
 |(rw[e];exact⟨_,rfl,none,0,rfl,VR,VP,VK _ _⟩)
 |(rw[e,←hpk];exact⟨_,rfl,o3,c3,rfl,ho3,nP hfr1 hr3 hz1,hF1.Wo hf3 hfr1.step⟩)
def hdV(n:Nat):List Value:=[.int .u8 ((n%256:Nat):Int),.int .u8 ((n/256%256:Nat):Int),.int .u8 ((255 ^^^ ((n%256) ^^^ (n/256%256)):Nat):Int)]
theorem Gb(n:Nat):∀ v∈hdV n,v.oneCell'=true:=by simp[hdV,Value.oneCell']
theorem Ot(n:Nat):hdV n=(hdB n).map b8:=by
 have h:=fun x (hx:x∈hdN n)=>Ou hx;simp only[hdN,W5,Xm,or_false,forall_eq_or_imp,forall_eq] at h;obtain⟨h1,h2,h3⟩:=h;simp only[hdV,hdB,hdN,Xo,map_nil,b8,Xj];rw[Za h1,Za h2,Za h3]
theorem K3:Fb Tryz.prog 201 5 3 1:=⟨by kernel_rfl,by kernel_rfl⟩
theorem Oq(n:Nat):((n:Nat):Int)/2 ^ (8:Int).toNat=((n/256:Nat):Int):=rfl
theorem Mn(n:Nat)(W:World)(hn:n<65536):CA 130 [iV n] W fun v w'=>v=.agg (hdV n).toArray∧aA nob W w':=by
 refine cS 18 [(0,_)] Tryz.func130 ?_;refine Gz 2 ?_;refine SP Fc rfl ?_;intro w1 hg1 hs1 hf1;have hg1:w1.heap[W.heap.size]?=some (.cells [.int .u8 0,.int .u8 0,.int .u8 0].toArray 201 (0,0)):=hg1;refine Gz 5 ?_;refine cL (S1 (n:=((n%256:Nat):Int)) is3 ty5 rfl (DN n)) ?_;refine Gz 1 ?_;refine cL (SN (u:=iV ((n/256:Nat):Int)) (UH rfl rfl (by omega)) (by rw[Oq])) ?_;refine cL (S1 (n:=((n/256%256:Nat):Int)) is3 ty5 rfl (DN _)) ?_;refine cL (Uz (cs:=[.int .u8 ((n%256:Nat):Int),.int .u8 ((n/256%256:Nat):Int),.int .u8 0].toArray) K3 Fc rfl (by kernel_rfl)) ?_;refine SP Fc rfl ?_;intro w2 hg2 hs2 hf2;have hg12:=hf2.obj hg1 id;obtain⟨q,hq⟩:∃ q,q=w1.heap.size:=⟨_,rfl⟩
 rw[←hq] at hg2 ⊢;refine sA rfl yM (by simp[Value.oneCell']) hg2 ?_;intro w3 hg3 hs3 hf3;have hg13:=hf3.obj hg12 (by omega);refine Gz 4 ?_;refine cL (SN (u:=pT q) (TF K3 rfl rfl (by omega)) (by rw[Addr.add_lit];rfl)) ?_;refine cL (SM yS rfl (bN hg3 rfl)) ?_;refine cL (SN (u:=.pointer (some ⟨q,1,none⟩)) (TF K3 rfl rfl (by omega)) (by rw[Addr.add_lit];rfl)) ?_;refine cL (SM yS rfl (bN hg3 rfl)) ?_;refine cL (US rfl rfl (by omega) (by omega)) ?_;refine cL (VC rfl (pH (by omega) (by omega))) ?_;refine cL (SN (u:=.pointer (some ⟨q,2,none⟩)) (TF K3 rfl rfl (by omega)) (by rw[Addr.add_lit];rfl)) ?_;refine SV yS rfl rfl rfl hg3 rfl ?_;intro w4 hg4 hs4 hf4;have hg4:w4.heap[q]?=some (.cells (hdV n).toArray 201 (0,0)):=hg4;have hg14:=hf4.obj hg13 (by omega);refine Gz 4 ?_;refine cL (SX (cs:=hdV n) yM rfl (fun j v hj=>aD hg4 hj)) ?_;refine sA rfl yM (by exact Gb n) hg14 ?_;intro w5 hg5 hs5 hf5;refine Gz 3 ?_;refine Ud (cs:=hdV n) rfl yM rfl (fun j v hj=>aD hg5 hj) ?_;exact⟨_,rfl,rfl,((((hf1.trans hf2).tw hf3).tw hf4)).tw hf5⟩
theorem Pj{H:Array Obj}{q n:Nat}{T:TypeId}(h:H[q]?=some (.cells (hdV n).toArray T (0,0))):Vw b8 H (some ⟨q,0,none⟩) 3 (hdB n):=by
 refine⟨WC _,by unfold maxLen;decide,fun _=>by simp,fun i x hx=>?_⟩;have e1:adr (some (⟨q,0,none⟩:Addr)) i=⟨q,i,none⟩:=by
  show (⟨q,0,none⟩:Addr).add _=_;rw[Addr.add_lit,Xp]
 rw[e1];refine bN h ?_;rw[Ot,W7,hx];rfl
theorem Jd{x:Nat}(h:x<4294967296):¬ gD x 4:=by
 unfold gD;have h2:((x:Int)/2 ^ (8*(4:Int)).toNat)=0:=by
  show (x:Int)/4294967296=0;omega
 omega
theorem GW{E:Int}(xs:By){x:Nat}(h:x<4294967296)(hE:E=0):fH E x 4=0∧oA E xs x 4=xs++le x 4:=by
 have h1:fH E x 4=0:=by rw[bT (Jd h),hE]
 exact⟨h1,iT h1⟩
theorem IV(xs ys:By):Ej 0 xs ys=xs++ys:=by unfold Ej;rw[Wu rfl]
theorem MG(xs:By):jS 0 xs=xs:=by unfold jS;rw[Wt (by decide)]
theorem oO(D:Nat→Prop)(pw tb p:Nat)(xo:Option Addr)(xc:Nat)(x:By)(mark:Nat)(W:World)(hP:WrL D W.heap pw 0 [])(hD:∀ k,W.heap.size≤k→D k)(hb:W.heap[tb]?=some (.cells [pT p].toArray 47 (0,0)))(ht:TbV W.heap p)
 (hv:Vw b8 W.heap xo xc x)(hDb:¬ D tb)(hDp:¬ D p)(hDx:∀ k,blk xo k→¬ D k)(hx:x.length≤128)(hm:mark≤32768) :
 CA 129 [.slice xo x.length xc,iV mark,pT pw,pT tb] W fun v w'=>∃ ao c,v=.tuple #[.slice ao (frS x mark).length c,iV 0]∧Own b8 5 w'.heap ao c (frS x mark)∧Fr W.heap.size ao∧aA D W w':=by
 have hs:=pL x;refine cS 29 [(0,_),(1,_),(2,_),(3,_)] Tryz.func129 ?_;refine Gz 12 ?_;rw[show ((x.length:Int)+mark)=((x.length+mark:Nat):Int) by omega];refine SJ Qa rfl (Mn (x.length+mark) W (by omega)) rfl ?_;rintro _ w1 ⟨rfl,hf1⟩;refine SP Fc rfl ?_;intro w2 hg2 hs2 hf2;refine sA rfl yM (by exact Gb _) hg2 ?_;intro w3 hg3 hs3 hf3;have hF3:aA nob W w3:=(hf1.trans hf2).Wo hf3 (fun k hk=>.inr (by have h:k=w1.heap.size:=hk;have:=hf1.size;omega));have hz3:=hF3.size;have hz1:=hf1.size;have hP3:=hP.shrink hF3;have hvh:=Pj hg3;obtain⟨D3,hD3⟩:∃ D3:Nat→Prop,D3=fun k=>D k∧(k<W.heap.size∨w3.heap.size≤k):=⟨_,rfl⟩
 have hD3a:∀ k,w3.heap.size≤k→D3 k:=fun k hk=>by rw[hD3];exact⟨hD k (by omega),.inr hk⟩
 have hD3b:∀ k,D3 k→D k:=fun k hk=>by rw[hD3] at hk;exact hk.1
 have hD3c:¬ D3 w1.heap.size:=fun h=>by rw[hD3] at h;have:=h.2;omega
 rw[←hD3] at hP3;refine Gz 4 ?_;refine cL (Uy K3 rfl) ?_;refine SJ JX rfl (mY D3 pw 0 [] (some ⟨w1.heap.size,0,none⟩) 3 (hdB (x.length+mark)) w3 hP3 hD3a hvh (by simp) (by simp[qN])) rfl ?_;rintro _ w4 ⟨hP4,hf4⟩;rw[IV,Xc] at hP4;have hF4:aA D W w4:=hF3.any.trans (hf4.mono hD3b);have hv4:=hv.Ws hF4 (fun a ha h=>hDx _ ⟨a,ha,rfl⟩ h);have ht4:TbV w4.heap p:=hF4.obj ht hDp;have hb4:=hF4.obj hb hDb;have hz4:=hf4.size;refine Gz 2 ?_;refine Tj (β:=Unit) (fun _u=>[(2,pT pw)]) (fun _u w=>WrL D3 w.heap pw 0 (frS x mark)∧aA D W w) ?_ ?_
 ·refine fK 4 ?_ ?_<;>intro h18
  ·refine Gz 5 ?_;refine cL (SM M9 rfl (bN hb4 rfl)) ?_;refine cA 1 Oz (DR p xo xc x w4 ht4 hv4) ?_;rintro _ wq ⟨rfl,hwq⟩;subst wq;refine cL (S1 (n:=((fG x:Nat):Int)) Oi ty3 rfl (dC (by omega))) ?_;refine SJ xG rfl (oR D3 pw 0 (hdB (x.length+mark)) (fG x:Nat) 4 w4 hP4 (fun k hk=>hD3a k (by omega)) (by rw[qN];decide)) rfl ?_;rintro _ w5 ⟨hP5,hf5⟩;obtain⟨s1,s2⟩:=GW (E:=0) (hdB (x.length+mark)) hs rfl;rw[s1,s2] at hP5;have hz5:=hf5.size;have hF5:aA D W w5:=hF4.trans (hf5.mono hD3b);have hv5:=hv.Ws hF5 (fun a ha h=>hDx _ ⟨a,ha,rfl⟩ h);refine Gz 4 ?_;refine SJ JX rfl (mY D3 pw 0 _ xo xc x w5 hP5 (fun k hk=>hD3a k (by omega)) hv5 (by simp only[Ww,qN,aY];omega) (by omega)) rfl ?_;rintro _ w6 ⟨hP6,hf6⟩;rw[IV] at hP6;have hF6:aA D W w6:=hF5.trans (hf6.mono hD3b);refine Gz 1 ?_;exact aC () ⟨by unfold frS;rw[Wt (by omega),←WL];exact hP6,hF6⟩
  refine Gz 4 ?_;exact aC () ⟨by unfold frS;rw[Wu (by omega),XK];exact hP4,hF4⟩
 rintro _ w7 ⟨hP7,hF7⟩;refine Gz 2 ?_;refine SJ Bw rfl (fY D3 pw 0 (frS x mark) w7 hP7 (by rw[lL];unfold jF;split<;>omega)) rfl ?_;rintro _ w8 ⟨ao8,c8,rfl,ho8,hfr8,hf8⟩;rw[MG] at ho8 ⊢;refine Gz 1 ?_;refine SJ Dc rfl (pD D3 pw 0 _ w8 (hP7.Wr hf8)) rfl ?_;rintro _ wq ⟨rfl,hwq⟩;subst wq;refine Gz 6 ?_;exact⟨_,rfl,ao8,c8,rfl,ho8,hfr8.mono hF7.size,hF7.trans hf8.any⟩
theorem uR(p:Nat)(ao:Option Addr)(c:Nat)(b:By)(W:World)(ht:TbV W.heap p)(hv:Vw b8 W.heap ao c b) :
 CA 78 [pT p,.slice ao b.length c] W (EZ W (bW b)):=by
 refine cS 45 [(0,_),(1,_)] Tryz.func78 ?_;refine Gz 2 ?_;refine Td rfl rfl ?_;intro w1 hg1 hs1 hf1;have hg1:w1.heap[W.heap.size]?=some (.cells [pT p].toArray 47 (0,0)):=hg1;refine fK 9 ?_ ?_<;>intro h12
 ·have e:bW b=([],3):=by unfold bW;rw[Wu (by omega)]
  refine Gz 12 ?_
  first
  |(rw[e];exact⟨_,rfl,none,0,rfl,VR,VP,hf1⟩)
  |(rw[e];exact⟨_,rfl,ao9,c9,rfl,ho9,hfr9.mono hF2.size,hF2.Wo hf9 (fun k hk=>.inr (by omega))⟩)
  |(rw[e];exact⟨_,rfl,ao9,c9,rfl,ho9,hfr9.mono hF3.size,hF3.Wo hf9 (fun k hk=>.inr (by have:=hk.1;omega))⟩)
 refine Gz 7 ?_;refine SP zA rfl ?_;intro w2 hg2 hs2 hf2;have hF2:=hf1.trans hf2;have hP2:WrL (fun k=>k=w1.heap.size∨w2.heap.size≤k) w2.heap w1.heap.size 0 []:=VY hg2 (.inl rfl);have hb2:=hf2.obj hg1 id;have ht2:TbV w2.heap p:=hF2.obj ht id;have hplt:=(WD.1 ht).1;refine Gz 4 ?_;refine cL (TO rfl) ?_;refine fK 8 ?_ ?_<;>intro h16
 ·have e:bW b=(frS [] 0,0):=by unfold bW;rw[Wt (by omega),Wu (by omega)]
  refine Gz 6 ?_;refine Tu J2 rfl rfl (oO (fun k=>k=w1.heap.size∨w2.heap.size≤k) w1.heap.size W.heap.size p none 0 [] 0 w2 hP2 (fun k hk=>.inr hk) hb2 ht2 (VQ 0 (WG _)) (by omega) (by omega) (fun k ⟨a,ha,_⟩=>by cases ha) (by simp) (by decide)) rfl ?_;intro v9 w9 hR9;obtain⟨ao9,c9,rfl,ho9,hfr9,hf9⟩:=hR9;refine Gz 9 ?_
  first
  |(rw[e];exact⟨_,rfl,none,0,rfl,VR,VP,hf1⟩)
  |(rw[e];exact⟨_,rfl,ao9,c9,rfl,ho9,hfr9.mono hF2.size,hF2.Wo hf9 (fun k hk=>.inr (by omega))⟩)
  |(rw[e];exact⟨_,rfl,ao9,c9,rfl,ho9,hfr9.mono hF3.size,hF3.Wo hf9 (fun k hk=>.inr (by have:=hk.1;omega))⟩)
 have hltA:=BQ hv (show 0<b.length by omega);refine cA 9 P9 (LO ao c b w2 (hv.Wr hF2)) ?_;rw[LN (by omega)];intro _ w3 hP;have hP:SE _ (pkS b) 0 _ w3:=hP;obtain⟨o3,c3,rfl,ho3,hfr3,hf3⟩:=hP;have hP3:=hP2.shrink hf3;have hb3:=hf3.obj hb2 id;have ht3:TbV w3.heap p:=hf3.obj ht2 id;have hF3:=hF2.trans hf3;have hz3:=hf3.size;refine Gz 10 ?_;refine cL (TD (Ty rfl rfl) rfl) ?_;refine fW 5 ?_ ?_<;>intro h33
 ·have e:bW b=(frS (pkS b) 0,0):=by unfold bW;rw[Wt (by omega),Wt (by omega),Wu (by omega)]
  refine Gz 8 ?_;refine Tu J2 rfl rfl (oO _ w1.heap.size W.heap.size p o3 c3 (pkS b) 0 w3 hP3 (fun k hk=>⟨.inr (by omega),.inr hk⟩) hb3 ht3 ho3.vw (by omega) (by omega) (fun k ⟨a,ha,hk⟩ h=>by have:=hfr3 a ha;have:=ho3.lt a ha;omega) (by omega) (by decide)) rfl ?_;intro v9 w9 hR9;obtain⟨ao9,c9,rfl,ho9,hfr9,hf9⟩:=hR9;refine Gz 9 ?_
  first
  |(rw[e];exact⟨_,rfl,none,0,rfl,VR,VP,hf1⟩)
  |(rw[e];exact⟨_,rfl,ao9,c9,rfl,ho9,hfr9.mono hF2.size,hF2.Wo hf9 (fun k hk=>.inr (by omega))⟩)
  |(rw[e];exact⟨_,rfl,ao9,c9,rfl,ho9,hfr9.mono hF3.size,hF3.Wo hf9 (fun k hk=>.inr (by have:=hk.1;omega))⟩)
 have e:bW b=(frS b 32768,0):=by unfold bW;rw[Wt (by omega),Wt (by omega),Wt (by omega)]
 refine Gz 10 ?_;refine Tu J2 rfl rfl (oO _ w1.heap.size W.heap.size p ao c b 32768 w3 hP3 (fun k hk=>⟨.inr (by omega),.inr hk⟩) hb3 ht3 (hv.Wr hF3) (by omega) (by omega) (fun k hk h=>by have:=hltA k hk;omega) (by omega) (by decide)) rfl ?_;intro v9 w9 hR9;obtain⟨ao9,c9,rfl,ho9,hfr9,hf9⟩:=hR9;refine Gz 8 ?_
 first
 |(rw[e];exact⟨_,rfl,none,0,rfl,VR,VP,hf1⟩)
 |(rw[e];exact⟨_,rfl,ao9,c9,rfl,ho9,hfr9.mono hF2.size,hF2.Wo hf9 (fun k hk=>.inr (by omega))⟩)
 |(rw[e];exact⟨_,rfl,ao9,c9,rfl,ho9,hfr9.mono hF3.size,hF3.Wo hf9 (fun k hk=>.inr (by have:=hk.1;omega))⟩)
section
variable {im:List UInt8}{a:Int}{x:List UInt8}{s:Nat}{st:Bool}(h:lZ im a=some (x,s,st))
include h
end
theorem Kv{r x:By}{s:Nat}{st:Bool}(h:kT r=some (x,s,st)):x.length≤128∧s<4294967296:=by
 unfold kT at h
 split at h
 ·cases h
 · split at h
   ·cases h
   · split at h
     ·cases h
     · split at h
       ·cases h;simp
       · split at h
         ·cases h
         · cases h
           exact⟨by rw[WB];omega,vF (by rw[WB];omega)⟩
theorem Ku{im:By}{a:Int}{x:By}{s:Nat}{st:Bool}(h:lZ im a=some (x,s,st)):x.length≤128∧s<4294967296:=by
 unfold lZ at h
 split at h
 ·cases h
 ·exact Kv h
theorem rL{b:By}(h:b.length≤128)(pre rest:By):cM (pre++((bW b).1++rest)) pre.length=(b,(pre.length:Int)+(bW b).1.length,0)∧lQ (pre++((bW b).1++rest)) pre.length=((pre.length:Int)+(bW b).1.length,0):=by
 obtain⟨h1,_,h3⟩:=DP h rest;have hc:lZ (pre++((bW b).1++rest)) (pre.length:Int)=kT ((bW b).1++rest):=by
  unfold lZ;rw[Wt (by rw[Ww];omega),show ((pre.length:Nat):Int).toNat=pre.length from rfl,Xs rfl]
 refine⟨?_,?_⟩
 · unfold cM
   rw[hc,h1];rfl
 · unfold lQ
   rw[hc]
   split at h3
   · rename_i hn
     rw[hn] at h1;unfold dV at h1;simp only[Prod.mk.injEq] at h1;omega
   · rename_i x s st hn
     simp only[h3]
theorem NH(most:Int):∀ (k:Nat) (b out:By),b.length=k→(out.length:Int)≤most→((up most b out).1.length:Int)≤most:=by
 intro k
 induction k using Yn with
|ind k ih=>
   intro b out hk ho;by_cases h0:0<b.length
   · have hm:(0:Int)≤most:=by omega
     obtain⟨t,ht⟩:∃ t,t=(b.getD 0 0).toNat:=⟨_,rfl⟩
     have ht2:=(b.getD 0 0).toNat_lt;by_cases h:t<128
     · rw[H7 h0 ht h]
       split
       ·simpa using hm
       · split
         ·simpa using hm
         · refine ih _ ?_ (b.drop (t+2)) _ rfl ?_
           ·rw[WE];omega
           ·rw[Ww,WB,WE];omega
     · rw[H8 h0 ht rfl h]
       split
       ·simpa using hm
       · split
         ·simpa using hm
         · split
           ·simpa using hm
           · refine ih _ ?_ (b.drop 2) _ rfl ?_
             ·rw[WE];omega
             ·rw[ER];omega
   · have:b=[]:=WQ (by omega)
     subst this;rw[rK];exact ho
theorem GD(im:By)(a:Int):(cM im a).1.length≤128:=by
 unfold cM dV;simp only
 split
 ·simp
 · rename_i x s st h
   have h1:=(Ku h).1;have h2:=NH 128 _ x [] rfl (by simp)
   split
   ·simp
   · split
     ·simp
     · split
       ·exact h1
       · split
         ·simp
         ·simp only;omega
end Go.Proofs.YthmmmagklhiiiaaGreatDoor
