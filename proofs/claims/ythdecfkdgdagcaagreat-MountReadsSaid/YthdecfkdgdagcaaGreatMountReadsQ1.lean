/- lamella: what the law needs. No condition beyond the bounds that each states. -/
import Derived.WalkKit
import Derived.WalkSpells
import Derived.WalkLawsBesides
import Derived.Deep.Quiet
import Derived.Deep.LoopGhost
import Derived.Orders
import Derived.Test.YthdecfkdgdagcaaGreatRows
import Derived.IntWalk
import Derived.Laws.BytesArg
import Derived.StillTail
import Derived.KernelRfl
import Derived.Lib.Bytealg
import Derived.Lib.ConvBytes
import Derived.Laws.Small
import Derived.Laws.StructEq
import Derived.Laws.Rows
import Derived.ProofKit
import Derived.OpenShut
import Derived.ShutString
import Derived.ChangeOld
import Derived.Below
import Derived.Deep.Slices
import Derived.Deep.SlicePairs
import Derived.Deep.Fields
import Derived.ChangeKeysEq
import Derived.Maps.Keyed
import Derived.WideKeyArr2
namespace Go.Proofs.YthdecfkdgdagcaaGreat
open Go Go.RowKit
set_option linter.unusedVariables false
set_option linter.unusedSectionVars false
set_option maxHeartbeats 64000000
open List (map_map range'_succ)
open List renaming getElem?_eq_getElem → ZQ, length_append → ZR, getElem?_eq_some_iff → ZS, length_take → ZT, length_singleton → ZU, mem_of_getElem? → ZW, length_drop → ZX, getD → Z2, take_of_length_le → Z4, append_assoc → Z6, length_nil → Z7, eq_nil_of_length_eq_zero → Z9, length_map → aa, getElem?_of_mem → ab, length_cons → al, take_succ_eq_append_getElem → am, nil_append → aq, getElem?_take → ar, getElem?_append_left → au, mem_map → av, mem_cons → aw, getElem?_map → ax, replicate → bg, append_nil → bp, getElem?_eq_none → bq, mem_range → bt, range → bu, not_mem_nil → bv, length_pos_iff → bw, drop_eq_getElem_cons → bz, drop_drop → ca, ext_getElem? → cd, flatMap_cons → cq, drop_left' → ct, take_append_of_le_length → cu, foldl_append → cy, take_left' → cz, getElem?_append_right → da, map_cons → db, getElem?_drop → dc, cons_append → df, take_zero → dm, size_toArray → fe, flatMap_append → fk, take_append → fq, range_succ → gg, mem_cons_of_mem → gk, map_congr_left → gq, getElem?_mapIdx → ib, nodup_cons → ie, map_nil → ip, map_toArray → jf
open Classical renaming byContradiction → ZY
open _root_.Nat renaming zero_le → ZZ, le_refl → Z0, le_trans → aj, blt → ba, lt_of_lt_of_le → cl, zero_add → cx, blt_eq → dg, mul_le_mul_right → di, strongRecOn → dw, add_mul → dy, eq_zero_or_pos → ef, lt_trichotomy → fb, pow_le_pow_right → gj, add_zero → gp, add_assoc → gu, ble_eq → gv, mod_eq_of_lt → gx, lt_or_ge → ij, ble → ik, sub_add_cancel → iq, lt_of_le_of_lt → ir, beq → ja
open _root_.Array renaming getElem?_eq_some_iff → Z1, replicate → fa
open Go.Op renaming bytesLess → Z8, equalIn → gi, stringOp → iy, eqFields → iz
open _root_.Option renaming map_eq_some_iff → ae, map_some → dp, some → dx, isSome_iff_exists → fj, ne_none_iff_exists' → gh
open UInt8 renaming ofNat → af, toNat_ofNat' → ck, toNat_inj → dn, lt_iff_toNat_lt → du
open _root_.Bool renaming and_eq_true → ag, or_eq_true → ew
theorem ZO.{u}{c:Prop}{h:Decidable c}(n:¬c){α:Sort u}{t e:α}:ite c t e=e:=if_neg n
theorem ZP.{u}{c:Prop}{h:Decidable c}(n:c){α:Sort u}{t e:α}:ite c t e=t:=if_pos n
theorem ZV{p:Prop}[i:Decidable p](h:¬p):decide p=false:=decide_eq_false h
theorem Z3{p:Prop}[i:Decidable p](h:p):decide p=true:=decide_eq_true h
abbrev SF:=List (Nat×Value)
def lk:SF→Nat→Option Value
|[],_=>none
|(s,v)::r,t=>bif ja s t then some v else lk r t
theorem sX{d:Nat}{v:Value}{l:SF}:lk ((d,v)::l) d=some v:=by simp[lk]
theorem pD{d t:Nat}{v:Value}{l:SF}(h:d≠t):lk ((d,v)::l) t=lk l t:=by
 have:ja d t=false:=by rw[←Bool.not_eq_true,Nat.beq_eq];exact h
 simp[lk,this]
def evL(l:SF):Operand→Option Value
|.tmp t=>lk l t
|.const v=>some v
|.global g=>some (.pointer (some ⟨g,0,none⟩))
|.func f=>some (.func (.func f) #[] #[])
structure Nt where
 n:Nat
 ds:List Deferred
structure dN (N:Nt)(l:SF)(a:Act):Prop where
 dfr:a.defers=N.ds
 siz:a.tmps.size=N.n
 has:∀ t v,lk l t=some v→a.tmps[t]?=some v
theorem dN.ev{N:Nt}{l:SF}{a:Act}(h:dN N l a){x:Operand}{v:Value}(hx:evL l x=some v):a.eval x=v:=by
 cases x with
|tmp t=>have:=h.has t v hx;simp[Act.eval,this]
|const u=>simpa[evL,Act.eval] using hx
|global g=>simpa[evL,Act.eval] using hx
|func f=>simpa[evL,Act.eval] using hx
theorem dN.put{N:Nt}{l:SF}{a:Act}(h:dN N l a){d:Nat}(hd:ba d N.n=true)(v:Value):dN N ((d,v)::l) (a.put (some d) v):=by
 have hd':d<N.n:=by simpa[dg] using hd
 refine⟨h.dfr,by simp[Act.put,h.siz],fun t u ht=>?_⟩;by_cases e:d=t
 · subst e
   rw[sX] at ht;cases ht;simp[Act.put,h.siz,hd']
 · rw[pD e] at ht
   have:=h.has t u ht;simp only[Act.put];rw[Array.getElem?_setIfInBounds_ne e];exact this
def Sub:SF→SF→Prop
|[],_=>True
|(t,v)::r,l=>lk l t=some v∧Sub r l
theorem Sub.lk:∀ {l' l:SF},Sub l' l→∀ t v,Go.Proofs.YthdecfkdgdagcaaGreat.lk l' t=some v→Go.Proofs.YthdecfkdgdagcaaGreat.lk l t=some v
|[],_,_,t,v,h=>by simp[Go.Proofs.YthdecfkdgdagcaaGreat.lk] at h
|(s,u)::r,l,hs,t,v,h=>by
   by_cases e:s=t
   ·subst e;rw[sX] at h;cases h;exact hs.1
   ·rw[pD e] at h;exact Sub.lk hs.2 t v h
theorem dN.sub{N:Nt}{l l':SF}{a:Act}(h:dN N l a)(hs:Sub l' l):dN N l' a:=⟨h.dfr,h.siz,fun t v ht=>h.has t v (hs.lk t v ht)⟩
section
variable {P:Program}{N:Nt}{Q:Exit→Act→World→Prop}{l:SF}{w:World}
def Sc(P:Program)(N:Nt)(c:Code)(Q:Exit→Act→World→Prop)(l:SF)(w:World):Prop:=∀ a,dN N l a→c.wp P Q a w
def Sl(P:Program)(N:Nt)(ops:Array Oper)(Q:Exit→Act→World→Prop)(rest:List Oper)(l:SF)(w:World):Prop:=∀ a,dN N l a→wpList P ops Q rest a w
theorem Zg{x y:Code}(h:Sc P N x (Exit.then (y.wp P Q) Q) l w):Sc P N (.seq x y) Q l w:=fun a ha=>wp_seq (h a ha)
theorem YI{id:Nat}{c:Code}(h:Sc P N c (Exit.inBlock id Q) l w):Sc P N (.block id c) Q l w:=fun a ha=>wp_block (h a ha)
theorem Yv{id:Nat}{ops:List Oper}(h:Sl P N ops.toArray Q ops l w):Sc P N (.region id ops.toArray false) Q l w:=fun a ha=>wp_region_lit (h a ha)
theorem Yw{c:Operand}{x y:Code}(hc:evL l c=some (.bool true))(h:Sc P N x Q l w):Sc P N (.cond c x y) Q l w:=fun a ha=>wp_cond (ha.ev hc) (h a ha)
theorem Yx{c:Operand}{x y:Code}(hc:evL l c=some (.bool false))(h:Sc P N y Q l w):Sc P N (.cond c x y) Q l w:=fun a ha=>wp_cond (ha.ev hc) (h a ha)
def At(N:Nt)(e:Exit)(Q:Exit→Act→World→Prop)(l:SF)(w:World):Prop:=∀ a,dN N l a→Q e a w
theorem YW(h:At N .normal Q l w):Sc P N .skip Q l w:=fun a ha=>wp_skip (h a ha)
theorem Zh(h:At N .ret Q l w):Sc P N .ret Q l w:=fun a ha=>wp_ret (h a ha)
theorem YX{id:Nat}(h:At N (.exit id) Q l w):Sc P N (.exit id) Q l w:=fun a ha=>wp_exit (h a ha)
theorem Zi{ops:Array Oper}(h:At N .normal Q l w):Sl P N ops Q [] l w:=fun a ha=>wpList_nil (h a ha)
theorem Zm{y:Code}(h:Sc P N y Q l w):At N .normal (Exit.then (y.wp P Q) Q) l w:=fun a ha=>h a ha
theorem X6{K:Act→World→Prop}(h:At N .ret Q l w):At N .ret (Exit.then K Q) l w:=fun a ha=>h a ha
theorem XZ{K:Act→World→Prop}{id:Nat}(h:At N (.exit id) Q l w):At N (.exit id) (Exit.then K Q) l w:=fun a ha=>h a ha
theorem X0{i:Nat}(h:At N .ret Q l w):At N .ret (Exit.inBlock i Q) l w:=fun a ha=>h a ha
theorem XM{i:Nat}(h:At N .normal Q l w):At N .normal (Exit.inBlock i Q) l w:=fun a ha=>h a ha
theorem X1{i:Nat}(h:At N .normal Q l w):At N (.exit i) (Exit.inBlock i Q) l w:=fun a ha=>by
 show (if i=i then Q .normal a w else Q (.exit i) a w);rw[ZP rfl];exact h a ha
theorem YY{e:Exit}(l':SF)(hs:Sub l' l)(h:At N e Q l' w):At N e Q l w:=fun a ha=>h a (ha.sub hs)
def NR(N:Nt){β:Type}(L:β→SF)(J:β→World→Prop)(μ:β→Nat)(b:β)(a':Act)(w':World):Prop:=∃ b',dN N (L b') a'∧J b' w'∧μ b'<μ b
theorem Wp{β:Type}(L:β→SF)(J:β→World→Prop)(μ:β→Nat){c:Code}(b0:β)(hl:Sub (L b0) l)(h0:J b0 w)
 (round:∀ b w,J b w→Sc P N c (Exit.then (NR N L J μ b) Q) (L b) w):Sc P N (.loop c) Q l w:=by
 intro a ha;refine wp_loop_ghost (fun n a w=>∃ b,μ b=n∧dN N (L b) a∧J b w) (μ b0) ⟨b0,rfl,ha.sub hl,h0⟩ ?_;rintro n a w ⟨b,rfl,hL,hJ⟩;refine wp_mono (round b w hJ a hL) ?_;intro e a' w' hq;cases e with
|normal=>obtain⟨b',h1,h2,h3⟩:=hq;exact⟨μ b',h3,b',rfl,h1,h2⟩
|exit id=>exact hq
|goto l=>exact hq
|ret=>exact hq
|panic ch=>exact hq
|outgrown=>exact hq
theorem Wz{β:Type}{L:β→SF}{J:β→World→Prop}{μ:β→Nat}{b:β}(b':β)(hl:Sub (L b') l)(hJ:J b' w)(hm:μ b'<μ b) :
 At N .normal (Exit.then (NR N L J μ b) Q) l w:=fun _ ha=>⟨b',ha.sub hl,hJ,hm⟩
theorem WL{x y:Code}{β:Type}(L:β→SF)(J:β→World→Prop)(h1:Sc P N x (Exit.then (fun a w=>∃ b,dN N (L b) a∧J b w) Q) l w)
 (h2:∀ b w,J b w→Sc P N y Q (L b) w):Sc P N (.seq x y) Q l w:=fun a ha=>
 wp_seq (wp_mono (h1 a ha) fun e a' w' hq=>by
  cases e with
 |normal=>obtain⟨b,h3,h4⟩:=hq;exact h2 b w' h4 a' h3
 |exit id=>exact hq
 |goto l=>exact hq
 |ret=>exact hq
 |panic ch=>exact hq
 |outgrown=>exact hq)
theorem WY{β:Type}{L:β→SF}{J:β→World→Prop}(b:β)(hl:Sub (L b) l)(hJ:J b w) :
 At N .normal (Exit.then (fun a w=>∃ b,dN N (L b) a∧J b w) Q) l w:=fun _ ha=>⟨b,ha.sub hl,hJ⟩
theorem F1{P:Program}{f:FuncId}{fn:Func}{c:Code}{args:List Value}{w:World}{R:Ending→World→Prop}(N:Nat)(l:SF)
 (hf:P.funcs[f]?=some fn)(hb:fn.body=some c)(hN:fn.ntmps=N)(hle:ik args.length N=true)
 (hl:∀ t v,lk l t=some v→args[t]?=some v)
 (h:Sc P ⟨N,[]⟩ c (bodyPost P fn R) l w):Calls P f args.toArray w R:=by
 refine calls_of_wp hf hb (h _ ⟨rfl,?_,?_⟩)
 · have:args.length≤N:=by simpa[gv] using hle
   simp[hN];omega
 · intro t v ht
   have:=hl t v ht;have hlt:t<args.length:=(ZS.1 this).1;rw[ZQ hlt] at this;simpa[Array.getElem?_append,hlt] using this
theorem xR{args:List Value}{l:SF}(h:Sub l ((bu args.length).zip args)):∀ t v,lk l t=some v→args[t]?=some v:=by
 have key:∀ (vs:List Value) (k:Nat) t v,lk ((List.range' k vs.length).zip vs) t=some v→vs[t-k]?=some v:=by
  intro vs
  induction vs with
 |nil=>intro k t v h;simp[lk] at h
 |cons x xs ih=>
    intro k t v h;simp only[al,range'_succ,List.zip_cons_cons] at h;by_cases e:k=t
    ·subst e;rw[sX] at h;cases h;simp
    · rw[pD e] at h
      have h2:=ih (k+1) t v h;by_cases hlt:k<t
      ·rw[show t-k=(t-(k+1))+1 by omega];simpa using h2
      · have hnone:lk ((List.range' (k+1) xs.length).zip xs) t=none:=by
         have:∀ (ys:List Value) (m:Nat),t<m→lk ((List.range' m ys.length).zip ys) t=none:=by
          intro ys
          induction ys with
         |nil=>intro m _;simp[lk]
         |cons y ys ihy=>intro m hm;simp only[al,range'_succ,List.zip_cons_cons];rw[pD (by omega)];exact ihy (m+1) (by omega)
         exact this xs (k+1) (by omega)
        rw[hnone] at h;cases h
 intro t v ht;have h1:=h.lk t v ht;rw[List.range_eq_range'] at h1;simpa using key args 0 t v h1
theorem YZ{P:Program}{N:Nat}{fn:Func}{R:Ending→World→Prop}{l:SF}{w:World}{t:Nat}{v:Value}(hr:fn.results=#[.tmp t])(hv:lk l t=some v)(h:R (.returned v) w) :
 At ⟨N,[]⟩ .ret (bodyPost P fn R) l w:=fun a ha=>⟨ha.dfr,v,by rw[results_tmp hr];simp[ha.has t v hv],h⟩
theorem Y0{P:Program}{N:Nat}{fn:Func}{R:Ending→World→Prop}{l:SF}{w:World}{t u:Nat}{v x:Value}(hr:fn.results=#[.tmp t,.tmp u])(hv:lk l t=some v)(hx:lk l u=some x)
 (h:R (.returned (.tuple #[v,x])) w) :
 At ⟨N,[]⟩ .ret (bodyPost P fn R) l w:=fun a ha=>⟨ha.dfr,_,by rw[results_tmp2 hr],by simpa[ha.has t v hv,ha.has u x hx] using h⟩
theorem Y1{P:Program}{N:Nat}{fn:Func}{R:Ending→World→Prop}{l:SF}{w:World}{t u s:Nat}{v x y:Value}(hr:fn.results=#[.tmp t,.tmp u,.tmp s])(hv:lk l t=some v)(hx:lk l u=some x)(hy:lk l s=some y)
 (h:R (.returned (.tuple #[v,x,y])) w) :
 At ⟨N,[]⟩ .ret (bodyPost P fn R) l w:=fun a ha=>⟨ha.dfr,_,by rw[results_tmp3 hr],by simpa[ha.has t v hv,ha.has u x hx,ha.has s y hy] using h⟩
theorem Xi{P:Program}{N:Nat}{fn:Func}{R:Ending→World→Prop}{l:SF}{w:World}(hr:fn.results=#[])(h:R (.returned (.tuple #[])) w) :
 At ⟨N,[]⟩ .normal (bodyPost P fn R) l w:=fun a ha=>⟨ha.dfr,_,by rw[results_none hr],h⟩
theorem Y2{P:Program}{N:Nat}{fn:Func}{R:Ending→World→Prop}{l:SF}{w:World}(hr:fn.results=#[])(h:R (.returned (.tuple #[])) w) :
 At ⟨N,[]⟩ .ret (bodyPost P fn R) l w:=fun a ha=>⟨ha.dfr,_,by rw[results_none hr],h⟩
end
def bK(H:Array Obj)(a:Addr):Option Value:=
 match H[a.block]? with
|some (.cells c _ _)=>if a.spot.isSome then none else c[a.off]?
|_=>none
theorem cell?_eq(w:World)(a:Addr):w.cell? a=bK w.heap a:=rfl
def Cm(P:Program)(N:Nt)(CH:Array Obj→Prop)(l:SF)(o:Oper)(v:Value):Prop:=
 ∀ a w,dN N l a→CH w.heap→(execOp a.eval o).run P w=.ok (.value v) w
def BM:Value→Bool→Bool
|.bool c,b=>c != b
|.tuple _,_=>true
|_,_=>false
section
variable {P:Program}{N:Nt}{Q:Exit→Act→World→Prop}{l:SF}{w:World}{ops:Array Oper}{rest:List Oper}
variable {op:Op}{ty:TypeId}{pos:String}{aft:Array Edge}{d:Nat}{v:Value}{CH:Array Obj→Prop}
theorem XG(hv:Cm P N (· = w.heap) l ⟨some d,op,ty,pos,aft,none⟩ v)(hd:ba d N.n=true)(h:Sl P N ops Q rest ((d,v)::l) w) :
 Sl P N ops Q (⟨some d,op,ty,pos,aft,none⟩::rest) l w:=fun a ha=>by
 unfold wpList;rw[ZP (by simp[Region.wanted])];refine .inl ?_;unfold Oper.wp;rw[hv a w ha rfl];exact h _ (ha.put hd v)
theorem kA{a:Act}(ha:dN N l a){j s:Nat}{u:Value}(hj:(ops[j]?).bind (·.dst)=some s)(hs:lk l s=some u) :
 yielded ops a.tmps j=(match u with|.bool b=>some b|_=>none):=by
 unfold yielded;rw[hj];simp only[Option.bind_some,ha.has s u hs];cases u<;>rfl
theorem XN{j s:Nat}{b:Bool}(hj:(ops[j]?).bind (·.dst)=some s)(hs:lk l s=some (.bool b))
 (hv:Cm P N (· = w.heap) l ⟨some d,op,ty,pos,aft,some (j,b)⟩ v)(hd:ba d N.n=true)(h:Sl P N ops Q rest ((d,v)::l) w) :
 Sl P N ops Q (⟨some d,op,ty,pos,aft,some (j,b)⟩::rest) l w:=fun a ha=>by
 unfold wpList;rw[ZP (by simp[Region.wanted,kA ha hj hs])];refine .inl ?_;unfold Oper.wp;rw[hv a w ha rfl];exact h _ (ha.put hd v)
theorem WF{p:Prop}[Decidable p](hv:Cm P N (· = w.heap) l ⟨some d,op,ty,pos,aft,none⟩ (.bool (decide p)))(hd:ba d N.n=true)
 (h1:p→Sl P N ops Q rest ((d,.bool true)::l) w)(h2:¬ p→Sl P N ops Q rest ((d,.bool false)::l) w) :
 Sl P N ops Q (⟨some d,op,ty,pos,aft,none⟩::rest) l w:=by
 by_cases h:p
 ·rw[Z3 h] at hv;exact XG hv hd (h1 h)
 ·rw[ZV h] at hv;exact XG hv hd (h2 h)
theorem WV{p:Prop}[Decidable p]{j s:Nat}{b:Bool}(hj:(ops[j]?).bind (·.dst)=some s)(hs:lk l s=some (.bool b))
 (hv:Cm P N (· = w.heap) l ⟨some d,op,ty,pos,aft,some (j,b)⟩ (.bool (decide p)))(hd:ba d N.n=true)
 (h1:p→Sl P N ops Q rest ((d,.bool true)::l) w)(h2:¬ p→Sl P N ops Q rest ((d,.bool false)::l) w) :
 Sl P N ops Q (⟨some d,op,ty,pos,aft,some (j,b)⟩::rest) l w:=by
 by_cases h:p
 ·rw[Z3 h] at hv;exact XN hj hs hv hd (h1 h)
 ·rw[ZV h] at hv;exact XN hj hs hv hd (h2 h)
theorem Xb{j s:Nat}{b:Bool}{u:Value}(hj:(ops[j]?).bind (·.dst)=some s)(hs:lk l s=some u)(hb:BM u b=true)(hd:ba d N.n=true)
 (h:Sl P N ops Q rest ((d,undef)::l) w) :
 Sl P N ops Q (⟨some d,op,ty,pos,aft,some (j,b)⟩::rest) l w:=fun a ha=>by
 unfold wpList;rw[ZO (by
  simp only[Region.wanted,kA ha hj hs];cases u<;>simp_all [BM])]
 exact h _ (ha.put hd undef)
section
variable {x y:Operand}{t t':TypeId}{g:Option (Nat×Bool)}{dd:Option Nat}
variable {k k':IntKind}{m n:Int}
theorem WU(hx:evL l x=some v):Cm P N CH l ⟨dd,.move x,ty,pos,aft,g⟩ v:=fun a w ha _=>by simp[execOp,ha.ev hx]
theorem W3(hx:evL l x=some v):Cm P N CH l ⟨dd,.assign x,ty,pos,aft,g⟩ v:=fun a w ha _=>by simp[execOp,ha.ev hx]
theorem Xq{c:Operand}(hc:evL l c=some (.bool true))(hx:evL l x=some v):Cm P N CH l ⟨dd,.pick c x y,ty,pos,aft,g⟩ v:=fun a w ha _=>by
 simp[execOp,ha.ev hc,ha.ev hx,asBool]
theorem Xt{c:Operand}(hc:evL l c=some (.bool false))(hy:evL l y=some v):Cm P N CH l ⟨dd,.pick c x y,ty,pos,aft,g⟩ v:=fun a w ha _=>by
 simp[execOp,ha.ev hc,ha.ev hy,asBool]
theorem Yr(hx:evL l x=some (.int k m))(hy:evL l y=some (.int k n)):Cm P N CH l ⟨dd,.binOp .add t x y t',ty,pos,aft,g⟩ (.int k (k.wrap (m+n))):=fun a w ha _=>by
 simp[execOp,ha.ev hx,ha.ev hy,eqGuard,binOp,Op.intArith]
theorem Ys(hx:evL l x=some (.int k m))(hy:evL l y=some (.int k n)):Cm P N CH l ⟨dd,.binOp .sub t x y t',ty,pos,aft,g⟩ (.int k (k.wrap (m-n))):=fun a w ha _=>by
 simp[execOp,ha.ev hx,ha.ev hy,eqGuard,binOp,Op.intArith]
theorem Yt(hx:evL l x=some (.int k m))(hy:evL l y=some (.int k n)):Cm P N CH l ⟨dd,.binOp .mul t x y t',ty,pos,aft,g⟩ (.int k (k.wrap (m*n))):=fun a w ha _=>by
 simp[execOp,ha.ev hx,ha.ev hy,eqGuard,binOp,Op.intArith]
theorem aU{z:Int}(h : -9223372036854775808≤z∧z≤9223372036854775807):IntKind.i64.wrap z=z:=IntWalk.i64_in z (by omega)
theorem W5(hx:evL l x=some (.int .i64 m))(hy:evL l y=some (.int .i64 n))(hb : -9223372036854775808≤m+n∧m+n≤9223372036854775807) :
 Cm P N CH l ⟨dd,.binOp .add t x y t',ty,pos,aft,g⟩ (.int .i64 (m+n)):=by
 have:=@Yr P N l ty pos aft CH x y t t' g dd .i64 m n hx hy;rwa[aU hb] at this
theorem XH(hx:evL l x=some (.int .i64 m))(hy:evL l y=some (.int .i64 n))(hb : -9223372036854775808≤m-n∧m-n≤9223372036854775807) :
 Cm P N CH l ⟨dd,.binOp .sub t x y t',ty,pos,aft,g⟩ (.int .i64 (m-n)):=by
 have:=@Ys P N l ty pos aft CH x y t t' g dd .i64 m n hx hy;rwa[aU hb] at this
theorem WN(hx:evL l x=some (.int .i64 m))(hy:evL l y=some (.int .i64 n))(hb : -9223372036854775808≤m*n∧m*n≤9223372036854775807) :
 Cm P N CH l ⟨dd,.binOp .mul t x y t',ty,pos,aft,g⟩ (.int .i64 (m*n)):=by
 have:=@Yt P N l ty pos aft CH x y t t' g dd .i64 m n hx hy;rwa[aU hb] at this
theorem X2(hx:evL l x=some (.int k m))(hy:evL l y=some (.int k n))(hn:n≠0):Cm P N CH l ⟨dd,.binOp .quo t x y t',ty,pos,aft,g⟩ (.int k (k.wrap (m.tdiv n))):=fun a w ha _=>by
 simp[execOp,ha.ev hx,ha.ev hy,eqGuard,binOp,Op.intDiv,hn]
theorem W6(hx:evL l x=some (.int .i64 m))(hy:evL l y=some (.int .i64 n))(hm:0≤m∧m≤9223372036854775807)(hn:1≤n):Cm P N CH l ⟨dd,.binOp .quo t x y t',ty,pos,aft,g⟩ (.int .i64 (m/n)):=by
 have:=@X2 P N l ty pos aft CH x y t t' g dd .i64 m n hx hy (by omega);rw[Int.tdiv_eq_ediv_of_nonneg hm.1,aU ⟨by have:=Int.ediv_nonneg hm.1 (show 0≤n by omega);omega,Int.le_trans (Int.ediv_le_self n hm.1) hm.2⟩] at this;exact this
theorem Yu(hx:evL l x=some (.int k m))(hy:evL l y=some (.int k n))(hn:n≠0):Cm P N CH l ⟨dd,.binOp .rem t x y t',ty,pos,aft,g⟩ (.int k (m.tmod n)):=fun a w ha _=>by
 simp[execOp,ha.ev hx,ha.ev hy,eqGuard,binOp,Op.intDiv,hn]
theorem W7(hx:evL l x=some (.int k m))(hy:evL l y=some (.int k n))(hm:0≤m)(hn:n≠0):Cm P N CH l ⟨dd,.binOp .rem t x y t',ty,pos,aft,g⟩ (.int k (m%n)):=by
 have:=@Yu P N l ty pos aft CH x y t t' g dd k m n hx hy hn;rw[Int.tmod_eq_emod_of_nonneg hm] at this;exact this
theorem Xr(hx:evL l x=some (.int k m))(hy:evL l y=some (.int k n)):Cm P N CH l ⟨dd,.binOp .lss t x y t',ty,pos,aft,g⟩ (.bool (decide (m<n))):=fun a w ha _=>by
 simp[execOp,ha.ev hx,ha.ev hy,eqGuard,binOp,Op.intCmp]
theorem XL(hx:evL l x=some (.int k m))(hy:evL l y=some (.int k n)):Cm P N CH l ⟨dd,.binOp .leq t x y t',ty,pos,aft,g⟩ (.bool (decide (m≤n))):=fun a w ha _=>by
 simp[execOp,ha.ev hx,ha.ev hy,eqGuard,binOp,Op.intCmp]
theorem XA(hx:evL l x=some (.int k m))(hy:evL l y=some (.int k n)):Cm P N CH l ⟨dd,.binOp .gtr t x y t',ty,pos,aft,g⟩ (.bool (decide (n<m))):=fun a w ha _=>by
 simp[execOp,ha.ev hx,ha.ev hy,eqGuard,binOp,Op.intCmp]
theorem XB(hx:evL l x=some (.int k m))(hy:evL l y=some (.int k n)):Cm P N CH l ⟨dd,.binOp .geq t x y t',ty,pos,aft,g⟩ (.bool (decide (n≤m))):=fun a w ha _=>by
 simp[execOp,ha.ev hx,ha.ev hy,eqGuard,binOp,Op.intCmp]
theorem Xn(hx:evL l x=some (.int k m))(hy:evL l y=some (.int k n)):Cm P N CH l ⟨dd,.binOp .eql t x y t',ty,pos,aft,g⟩ (.bool (decide (m=n))):=fun a w ha _=>by
 simp[execOp,ha.ev hx,ha.ev hy,eqGuard,binOp,Op.intCmp];rfl
theorem W4(hx:evL l x=some (.int k m))(hy:evL l y=some (.int k n)):Cm P N CH l ⟨dd,.binOp .neq t x y t',ty,pos,aft,g⟩ (.bool (decide (m≠n))):=fun a w ha _=>by
 simp[execOp,ha.ev hx,ha.ev hy,eqGuard,binOp,Op.intCmp];by_cases h:m=n<;>simp[h]
theorem Xo{o:Oper}{p:Prop}[Decidable p](h:Cm P N CH l o (.bool (decide p)))(hp:p):Cm P N CH l o (.bool true):=by rwa[Z3 hp] at h
theorem W8{o:Oper}{p:Prop}[Decidable p](h:Cm P N CH l o (.bool (decide p)))(hp:¬ p):Cm P N CH l o (.bool false):=by rwa[ZV hp] at h
theorem Wm{o:Oper}{u:Value}(h:Cm P N CH l o v)(e:v=u):Cm P N CH l o u:=e ▸ h
theorem WQ{b:Bool}(hx:evL l x=some (.bool b)):Cm P N CH l ⟨dd,.unOp .not t x,ty,pos,aft,g⟩ (.bool (!b)):=fun a w ha _=>by
 simp[execOp,ha.ev hx,Op.unary]
theorem Y3(hx:evL l x=some (.int k m)):Cm P N CH l ⟨dd,.unOp .neg t x,ty,pos,aft,g⟩ (.int k (k.wrap (0-m))):=fun a w ha _=>by
 simp[execOp,ha.ev hx,Op.unary,Op.intArith]
theorem YJ(hx:evL l x=some (.int .i64 m))(hb : -9223372036854775807≤m∧m≤9223372036854775807):Cm P N CH l ⟨dd,.unOp .neg t x,ty,pos,aft,g⟩ (.int .i64 (-m)):=by
 have:=@Y3 P N l ty pos aft CH x t g dd .i64 m hx;rw[aU (by omega),Int.zero_sub] at this;exact this
theorem YK(hs:(P.underlying t).isSome=true)(hd:P.underlying t'=some (.int k'))(hx:evL l x=some (.int k m)):Cm P N CH l ⟨dd,.convert t t' x,ty,pos,aft,g⟩ (.int k' (k'.wrap m)):=fun a w ha _=>by
 obtain⟨u,hu⟩:=fj.1 hs;simp only[execOp,ha.ev hx,convert,Sem.run_bind,run_underlying hu,run_underlying hd,Result.andThen_ok];cases u<;>simp[Conv.intToInt]
theorem Wr(hs:(P.underlying t).isSome=true)(hd:P.underlying t'=some (.int k'))(hx:evL l x=some (.int k m))(hw:k'.wrap m=n):Cm P N CH l ⟨dd,.convert t t' x,ty,pos,aft,g⟩ (.int k' n):=by
 have:=@YK P N l ty pos aft CH x t t' g dd k k' m hs hd hx;rwa[hw] at this
theorem Xw{vs:List Value}{i:Nat}(hx:evL l x=some (.tuple vs.toArray))(hi:vs[i]?=some v):Cm P N CH l ⟨dd,.extract x i,ty,pos,aft,g⟩ v:=fun a w ha _=>by
 simp[execOp,ha.ev hx,Instr.extract,hi]
theorem X7{ad:Addr}(hx:evL l x=some (.pointer (some ad))):Cm P N CH l ⟨dd,.nilCheck x,ty,pos,aft,g⟩ (.pointer (some ad)):=fun a w ha _=>by
 simp[execOp,ha.ev hx]
structure aZ (P:Program)(t e:TypeId)(size bytes:Nat):Prop where
 und:P.underlying t=some (.slice e)
 inf:(P.info? e).map (fun i=>(i.zero.map (·.cells.size),i.size,i.bytes))=some (some size,size,bytes)
theorem aZ.parts{e:TypeId}{size bytes:Nat}(h:aZ P t e size bytes):∃ i z,P.info? e=some i∧i.zero=some z∧z.cells.size=size∧i.size=size∧i.bytes=bytes:=by
 obtain⟨i,hi,h1⟩:=ae.1 h.inf;simp only[Prod.mk.injEq] at h1;obtain⟨z,hz,h2⟩:=ae.1 h1.1;exact⟨i,z,hi,hz,h2,h1.2.1,h1.2.2⟩
theorem aZ.size{e:TypeId}{size bytes:Nat}(h:aZ P t e size bytes)(w:World):(sizeOf e).run P w=.ok size w:=by
 obtain⟨i,z,hi,h1,hz,h2,h3⟩:=h.parts;simp[sizeOf,typeInfo,hi,h2]
theorem Ym{e:TypeId}{size bytes:Nat}(ht:aZ P t e size bytes){ao:Option Addr}{c n:Nat}(hx:evL l x=some (.slice ao n c)) :
 Cm P N CH l ⟨dd,.call ⟨.builtin .len,#[x],#[t]⟩,ty,pos,aft,g⟩ (.int .i64 n):=fun a w ha _=>by
 simp[execOp,ha.ev hx,resolve,invoke,builtin,Builtin.len_,run_underlying ht.und,goInt]
theorem Y4(ht:P.underlying t=some .string){s:ByteArray}(hx:evL l x=some (.string s)) :
 Cm P N CH l ⟨dd,.call ⟨.builtin .len,#[x],#[t]⟩,ty,pos,aft,g⟩ (.int .i64 s.size):=fun a w ha _=>by
 simp[execOp,ha.ev hx,resolve,invoke,builtin,Builtin.len_,run_underlying ht,goInt]
theorem Xh{ts:Array TypeId}(hx:evL l x=some (.int k m))(hy:evL l y=some (.int k n)) :
 Cm P N CH l ⟨dd,.call ⟨.builtin .min,#[x,y],ts⟩,ty,pos,aft,g⟩ (.int k (if n<m then n else m)):=fun a w ha _=>by
 simp[execOp,ha.ev hx,ha.ev hy,resolve,invoke,builtin,Builtin.min_,Builtin.min2]
theorem XI{ts:Array TypeId}(hx:evL l x=some (.int k m))(hy:evL l y=some (.int k n)) :
 Cm P N CH l ⟨dd,.call ⟨.builtin .max,#[x,y],ts⟩,ty,pos,aft,g⟩ (.int k (if m<n then n else m)):=fun a w ha _=>by
 simp[execOp,ha.ev hx,ha.ev hy,resolve,invoke,builtin,Builtin.max_,Builtin.max2]
def adr(ao:Option Addr)(i:Nat):Addr:=(ao.getD ⟨0,0,none⟩).add i
theorem Wj{e:TypeId}{size bytes:Nat}(ht:aZ P t e size bytes){ao:Option Addr}{c len:Nat}(hx:evL l x=some (.slice ao len c))(hy:evL l y=some (.int k n))
 (hao:len≠0→ao≠none)(hn:0≤n∧n<len) :
 Cm P N CH l ⟨dd,.indexAddr t x y,ty,pos,aft,g⟩ (.pointer (some (adr ao (n.toNat*size)))):=fun a w ha _=>by
 have:ao≠none:=hao (by omega);cases ao with
|none=>exact absurd rfl this
|some ad=>simp[execOp,ha.ev hx,ha.ev hy,Instr.indexAt,asIntOf,run_underlying ht.und,ht.size w,hn,adr]
theorem Wi{e:TypeId}{bytes:Nat}(ht:aZ P t e 1 bytes){ao:Option Addr}{c len:Nat}(hx:evL l x=some (.slice ao len c))(hy:evL l y=some (.int k n))
 (hao:len≠0→ao≠none)(hn:0≤n∧n<len) :
 Cm P N CH l ⟨dd,.indexAddr t x y,ty,pos,aft,g⟩ (.pointer (some (adr ao n.toNat))):=by
 have:=@Wj P N l ty pos aft CH x y t g dd k n e 1 bytes ht ao c len hx hy hao hn;rwa[Nat.mul_one] at this
end
end
structure aA (S:Nat→Prop)(w w':World):Prop where
 os:w'.os=w.os
 tape:w'.tape=w.tape
 output:w'.output=w.output
 size:w.heap.size≤w'.heap.size
 same:∀ k,k<w.heap.size→¬ S k→w'.heap[k]?=w.heap[k]?
def nob:Nat→Prop:=fun _=>False
theorem Zn(S:Nat→Prop)(w:World):aA S w w:=⟨rfl,rfl,rfl,Z0 _,fun _ _ _=>rfl⟩
theorem aA.trans{S:Nat→Prop}{a b c:World}(h:aA S a b)(k:aA S b c):aA S a c:=
 ⟨k.os.trans h.os,k.tape.trans h.tape,k.output.trans h.output,aj h.size k.size,
  fun i hi hs=>(k.same i (cl hi h.size) hs).trans (h.same i hi hs)⟩
theorem aA.step{S S':Nat→Prop}{a b c:World}(h:aA S a b)(k:aA S' b c)(hs:∀ i,S' i→S i∨a.heap.size≤i):aA S a c:=
 ⟨k.os.trans h.os,k.tape.trans h.tape,k.output.trans h.output,aj h.size k.size,
  fun i hi hn=>(k.same i (cl hi h.size) (fun h'=>by rcases hs i h' with h1|h1;exact hn h1;omega)).trans (h.same i hi hn)⟩
theorem aA.ZJ{S S':Nat→Prop}{a b c:World}(h:aA S a b)(k:aA S' b c)(hs:∀ i,S' i→S i∨a.heap.size≤i):aA S a c:=h.step k hs
theorem aA.mono{S S':Nat→Prop}{a b:World}(h:aA S a b)(hs:∀ i,S i→S' i):aA S' a b:=
 ⟨h.os,h.tape,h.output,h.size,fun i hi hn=>h.same i hi (fun h'=>hn (hs i h'))⟩
theorem aA.draws{S:Nat→Prop}{a b:World}(h:aA S a b)(n:Nat):aA S a (b.drewN n):=⟨h.os,h.tape,h.output,h.size,h.same⟩
theorem aA.ZK{S:Nat→Prop}{w w':World}{n:Nat}(h:aA S (w.drewN n) w'):aA S w w':=⟨h.os,h.tape,h.output,h.size,h.same⟩
theorem Zo{S:Nat→Prop}{w:World}(n:Nat):aA S w (w.drewN n):=(Zn S w).draws n
theorem aA.alloc(S:Nat→Prop)(w:World)(o:Obj):aA S w (w.alloc o):=⟨rfl,rfl,rfl,by simp,fun _ hk _=>Below.heap_alloc w o _ hk⟩
theorem Zp(S:Nat→Prop)(w:World)(o:Obj):aA S w (w.drew.alloc o):=⟨rfl,rfl,rfl,by simp,fun _ hk _=>Below.heap_alloc w.drew o _ hk⟩
theorem aA.below{w w':World}(h:aA nob w w'):Below w.heap.size w w':=⟨h.os,h.tape,h.output,h.size,fun k hk=>h.same k hk id⟩
theorem aA.obj{S:Nat→Prop}{w w':World}(h:aA S w w'){g:Nat}{o:Obj}(hg:w.heap[g]?=some o)(hs:¬ S g):w'.heap[g]?=some o:=
 (h.same g (Z1.1 hg).1 hs).trans hg
def blk(ao:Option Addr):Nat→Prop:=fun k=>∃ a,ao=some a∧a.block=k
def Fr(B:Nat)(ao:Option Addr):Prop:=∀ a,ao=some a→B≤a.block
def Lt(B:Nat)(ao:Option Addr):Prop:=∀ a,ao=some a→a.block<B
def Ap(ao bo:Option Addr):Prop:=∀ a b,ao=some a→bo=some b→a.block≠b.block
theorem Zq{b:Option Addr}:Ap none b:=fun _ _ h=>by cases h
theorem Zr{b:Option Addr}:Ap b none:=fun _ _ _ h=>by cases h
theorem Zs{B:Nat}:Fr B none:=fun _ h=>by cases h
theorem Fr.mono{B B':Nat}{a:Option Addr}(h:Fr B a)(hB:B'≤B):Fr B' a:=fun x hx=>aj hB (h x hx)
theorem Fr.step{B:Nat}{a:Option Addr}(h:Fr B a){S:Nat→Prop}:∀ i,blk a i→S i∨B≤i:=fun i ⟨x,hx,e⟩=>.inr (by have:=h x hx;omega)
theorem oS(a:Addr)(n:Nat):(a.add n).block=a.block:=by unfold Addr.add;split<;>rfl
theorem lT(a:Addr)(n:Nat):(adr (some a) n).block=a.block:=oS a n
structure Vw {α:Type}(enc:α→Value)(H:Array Obj)(ao:Option Addr)(cap:Nat)(xs:List α):Prop where
 le:xs.length≤cap
 max:cap≤maxLen
 non:xs.length≠0→ao≠none
 get:∀ i x,xs[i]?=some x→bK H (adr ao i)=some (enc x)
def b8(x:UInt8):Value:=.int .u8 x.toNat
def i64(x:Int):Value:=.int .i64 x
section
variable {α:Type}{enc:α→Value}{H:Array Obj}{ao:Option Addr}{cap:Nat}{xs:List α}
theorem Vw.at(h:Vw enc H ao cap xs){i:Nat}(hi:i<xs.length):bK H (adr ao i)=some (enc xs[i]):=h.get i _ (ZQ hi)
theorem Vw.gd(h:Vw enc H ao cap xs)(dflt:α){i:Nat}(hi:i<xs.length):bK H (adr ao i)=some (enc (xs.getD i dflt)):=by
 rw[h.at hi];simp[Z2,hi]
theorem Vw.gz(h:Vw enc H ao cap xs)(dflt:α)(i:Nat){z:Int}(hz:z=i)(hi:i<xs.length):bK H (adr ao z.toNat)=some (enc (xs.getD i dflt)):=by
 subst hz;exact h.gd dflt hi
theorem Vw.ZL(h:Vw enc H ao cap xs):(xs.length:Int)≤9223372036854775807:=by have:=h.le;have:=h.max;unfold maxLen at this;omega
theorem Zt(c:Nat)(hc:c≤maxLen):Vw enc H ao c []:=⟨by simp,hc,by simp,by simp⟩
theorem Vw.lt(h:Vw enc H ao cap xs)(hne:xs≠[]):Lt H.size ao:=fun a ha=>by
 have hl:0<xs.length:=bw.2 hne;have:=h.at hl;subst ha;unfold bK at this
 split at this
 ·rename_i hb;rw[lT] at hb;exact(Z1.1 hb).1
 ·cases this
theorem Vw.ZN{w w':World}{S:Nat→Prop}(h:Vw enc w.heap ao cap xs)(f:aA S w w')(hs:∀ a,ao=some a→¬ S a.block):Vw enc w'.heap ao cap xs:=by
 refine⟨h.le,h.max,h.non,fun i x hx=>?_⟩;have h1:=h.get i x hx;have hne:xs.length≠0:=by intro e;have:xs=[]:=Z9 e;subst this;simp at hx
 cases hao:ao with
|none=>exact absurd hao (h.non hne)
|some a=>
   rw[hao] at h1;rw[←h1];unfold bK;rw[lT,f.same a.block (h.lt (fun e=>hne (by simp[e])) a hao) (hs a hao)]
theorem Vw.ZM{w w':World}(h:Vw enc w.heap ao cap xs)(f:aA nob w w'):Vw enc w'.heap ao cap xs:=h.ZN f (fun _ _=>id)
theorem Vw.take(h:Vw enc H ao cap xs)(n:Nat):Vw enc H ao cap (xs.take n):=
 ⟨by have:=h.le;simp;omega,h.max,fun hn=>h.non (fun e=>hn (by have:xs=[]:=Z9 e;simp[this])),fun i x hx=>h.get i x (by
  rw[ar] at hx
  split at hx
  ·exact hx
  ·cases hx)⟩
end
theorem rZ(a:Addr)(i j:Nat):(a.add i).add j=a.add (i+j):=by
 unfold Addr.add;by_cases hi:i=0
 ·simp[hi]
 · by_cases hj:j=0
   ·simp[hj]
   ·simp[hi,hj,gu]
def aO(ao:Option Addr)(m l size:Nat):Option Addr:=if m=l then ao else ao.map (·.add (l*size))
section
variable {α:Type}{enc:α→Value}{H:Array Obj}{ao:Option Addr}{cap:Nat}{xs:List α}
theorem Vw.cut(v:Vw enc H ao cap xs){l h m:Nat}(hl:l≤h)(hh:h≤xs.length)(hm:h≤m)(hmc:m≤cap) :
 Vw enc H (aO ao m l 1) (m-l) ((xs.drop l).take (h-l)):=by
 refine⟨by simp;omega,by have:=v.max;omega,fun hne=>?_,fun i x hx=>?_⟩
 · have h0:xs.length≠0:=by simp at hne;omega
   have:=v.non h0;unfold aO
   split
   ·exact this
   ·cases ao<;>simp_all
 · have hi:i<h-l:=by
    have:=(ZS.1 hx).1;simp at this;omega
   have hx':xs[l+i]?=some x:=by
    rw[ar,ZP hi,dc] at hx;exact hx
   have h1:=v.get (l+i) x hx';rw[←h1];unfold aO;rw[ZO (by omega)];cases ao with
  |none=>exact absurd rfl (v.non (by have:=(ZS.1 hx').1;omega))
  |some a=>simp[adr,rZ]
theorem bF(ao:Option Addr)(m s:Nat):aO ao m 0 s=ao:=by
 unfold aO;split
 ·rfl
 · cases ao with
  |none=>rfl
  |some a=>simp[Addr.add]
theorem yX{m l s k:Nat}(h:blk (aO ao m l s) k):blk ao k:=by
 obtain⟨a,ha,rfl⟩:=h;unfold aO at ha
 split at ha
 ·exact⟨a,ha,rfl⟩
 · cases ao with
  |none=>simp at ha
  |some b=>simp at ha;subst ha;exact⟨b,rfl,(oS _ _).symm⟩
end
def Own{α:Type}(enc:α→Value)(e:TypeId)(H:Array Obj)(ao:Option Addr)(cap:Nat)(xs:List α):Prop:=
 (ao=none∧cap=0∧xs=[]) ∨
 ∃ g cur,ao=some ⟨g,0,none⟩∧H[g]?=some (.cells cur e (0,0))∧xs.length≤cap∧cap≤maxLen∧cur.size=cap∧cur.toList.take xs.length=xs.map enc
section
variable {α:Type}{enc:α→Value}{e:TypeId}{H:Array Obj}{ao:Option Addr}{cap:Nat}{xs:List α}
theorem Zu:Own enc e H none 0 ([]:List α):=.inl ⟨rfl,rfl,rfl⟩
theorem Own.vw(h:Own enc e H ao cap xs):Vw enc H ao cap xs:=by
 rcases h with⟨rfl,rfl,rfl⟩|⟨g,cur,rfl,hg,h1,h2,h3,h4⟩
 ·exact Zt 0 (ZZ _)
 · refine⟨h1,h2,fun _=>by simp,fun i x hx=>?_⟩
   have hi:i<xs.length:=(ZS.1 hx).1;have hadd:(adr (some ⟨g,0,none⟩) i)=⟨g,i,none⟩:=by
    show (⟨g,0,none⟩:Addr).add i=_;rw[Addr.add_lit,cx]
   rw[hadd];simp only[bK,hg];have h5:(cur.toList.take xs.length)[i]?=some (enc x):=by rw[h4,ax,hx];rfl
   rw[ar,ZP hi] at h5;simpa using h5
theorem Own.lt(h:Own enc e H ao cap xs):Lt H.size ao:=by
 intro a ha;rcases h with⟨rfl,_⟩|⟨g,cur,rfl,hg,_⟩
 ·cases ha
 ·cases ha;exact(Z1.1 hg).1
theorem Own.ZN{w w':World}{S:Nat→Prop}(h:Own enc e w.heap ao cap xs)(f:aA S w w')(hs:∀ a,ao=some a→¬ S a.block):Own enc e w'.heap ao cap xs:=by
 rcases h with h|⟨g,cur,rfl,hg,r⟩
 ·exact .inl h
 ·exact .inr ⟨g,cur,rfl,f.obj hg (hs _ rfl),r⟩
theorem Own.ZM{w w':World}(h:Own enc e w.heap ao cap xs)(f:aA nob w w'):Own enc e w'.heap ao cap xs:=h.ZN f (fun _ _=>id)
end
theorem lZ{P:Program}{w:World}{t ty e:TypeId}{i:TypeInfo}(ht:P.underlying t=some (.slice e))(hi:P.info? e=some i)
 {ao:Option Addr}{n cap:Nat}(hn:n≤cap){bo:Option Addr}{bcap:Nat} :
 (Builtin.append_ #[t,t] ty #[.slice ao n cap,.slice bo 0 bcap]).run P w=.ok (.slice ao n cap) w:=by
 cases ao<;>cases bo<;>simp[Builtin.append_,run_underlying ht,sizeOf,typeInfo,hi,Builtin.lenOf,Builtin.firstCells,hn,storeCells,loadCells,loadCellsFrom]
theorem xX{α:Type}{enc:α→Value}(henc:∀ x,(enc x).oneCell'=true){P:Program}{w:World}{t ty e:TypeId}{bytes:Nat}(ht:aZ P t e 1 bytes)
 {ao:Option Addr}{cap:Nat}{xs:List α}(ho:Own enc e w.heap ao cap xs){bo:Option Addr}{bcap:Nat}{ys:List α}(hy:Vw enc w.heap bo bcap ys)
 (hb:(xs.length+ys.length)*bytes≤140737488355328)(hm:xs.length+ys.length≤maxLen) :
 ∃ ao' cap' w',(Builtin.append_ #[t,t] ty #[.slice ao xs.length cap,.slice bo ys.length bcap]).run P w=.ok (.slice ao' (xs.length+ys.length) cap') w' ∧
  Own enc e w'.heap ao' cap' (xs++ys)∧aA (blk ao) w w'∧(∀ a,ao'=some a→ao=some a∨w.heap.size≤a.block)∧(ao'=none→ao=none∧ys=[]):=by
 obtain⟨i,z,hi,h1,hz,h2,h3⟩:=ht.parts;have hnews1:∀ u∈ys.map enc,u.oneCell'=true:=by intro u hu;obtain⟨x,_,rfl⟩:=av.1 hu;exact henc x
 have hsmall:xs.length+ys.length≤9223372036854775807:=by unfold maxLen at hm;omega
 by_cases hys:ys=[]
 · subst hys
   refine⟨ao,cap,w,?_,by simpa using ho,Zn _ _,fun a ha=>.inl ha,fun h=>⟨h,rfl⟩⟩;exact lZ ht.und hi ho.vw.le
 · have hne:ys.length≠0:=fun e=>hys (Z9 e)
   obtain⟨b,rfl⟩:∃ b,bo=some b:=gh.1 (hy.non hne);have hnews:∀ j u,(ys.map enc)[j]?=some u→w.cell? (b.add j)=some u:=by
    intro j u hu;rw[ax] at hu;obtain⟨x,hx,rfl⟩:=ae.1 hu;exact hy.get j x hx
   have hl:(ys.map enc).length=ys.length*i.size:=by simp[h2]
   have big:∀ (old:Nat),old<xs.length+ys.length→Own enc e (w.drew.alloc (.cells ((xs.map enc).toArray++(ys.map enc).toArray++Builtin.zeroCells z.cells (grownCap w (xs.length+ys.length) old e-(xs.length+ys.length))) e)).heap
    (some ⟨w.heap.size,0,none⟩) (grownCap w (xs.length+ys.length) old e) (xs++ys):=by
    intro old _;have hge:=grownCap_ge w (xs.length+ys.length) old e;refine .inr ⟨w.heap.size,_,rfl,heap_alloc_new w.drew _,by simpa using hge,grownCap_le_maxLen w _ old e hm,?_,?_⟩
    ·simp only[Array.size_append,fe,aa,size_zeroCells,hz];omega
    · simp[fq]
      exact Z4 (by simp)
   have hfoot:∀ (old:Nat),aA (blk ao) w (w.drew.alloc (.cells ((xs.map enc).toArray++(ys.map enc).toArray++Builtin.zeroCells z.cells (grownCap w (xs.length+ys.length) old e-(xs.length+ys.length))) e)):=fun old=>Zp _ _ _;rcases ho with⟨rfl,rfl,rfl⟩|⟨g,cur,rfl,hg,g1,g2,g3,g4⟩
   · have hr:=run_append_nil (P:=P) w t ty e i z ht.und hi h1 b ys.length bcap (ys.map enc) hl hnews (by omega) (by simp at hsmall;omega) (by simp at hb;rw[h3];omega)
     have hB:=big 0 (by simp;omega);have hF:=hfoot 0;simp only[Z7,cx,ip,aq,Array.empty_append] at hB hF ⊢;exact⟨_,_,_,hr,hB,hF,fun a ha=>.inr (by cases ha;exact Z0 _),fun h=>by cases h⟩
   · have holds:∀ j v,(xs.map enc)[j]?=some v→w.cell? ((⟨g,0,none⟩:Addr).add j)=some v:=by
      intro j v hv;rw[ax] at hv;obtain⟨x,hx,rfl⟩:=ae.1 hv;exact(Own.vw (.inr ⟨g,cur,rfl,hg,g1,g2,g3,g4⟩:Own enc e w.heap (some ⟨g,0,none⟩) cap xs)).get j x hx
     by_cases hroom:xs.length+ys.length≤cap
     · have hr:=run_append_room (P:=P) w t ty e i ht.und hi g xs.length cap cur hg b ys.length bcap (ys.map enc) hl hnews hnews1 hroom (by simp[h2,g3];omega)
       refine⟨_,_,_,hr,.inr ⟨g,_,rfl,setRow_heap w g cur _ e _ hg,by simpa using hroom,g2,?_,?_⟩,?_,fun a ha=>.inl ha,fun h=>by cases h⟩
       ·simp[h2,g3];omega
       · rw[h2,Nat.mul_one,g4];simp[fq]
         exact Z4 (by simp)
       ·exact⟨rfl,rfl,rfl,by simp[World.setRow],fun k hk hn=>setRow_other w g k _ (fun e=>hn ⟨_,rfl,e.symm⟩)⟩
     · have hr:=run_append_grow (P:=P) w t ty e i z ht.und hi h1 ⟨g,0,none⟩ xs.length cap (xs.map enc) (by simp[h2]) holds b ys.length bcap (ys.map enc) hl hnews (by omega) (by omega)
        (by rw[h3];exact growslice_fits (by omega) hb)
       exact⟨_,_,_,hr,big cap (by omega),hfoot cap,fun a ha=>.inr (by cases ha;exact Z0 _),fun h=>by cases h⟩
def bs(xs:List UInt8):ByteArray:=⟨xs.toArray⟩
theorem jD(xs:List UInt8):(bs xs).toList=xs:=by rw[ByteArray.toList_eq];simp[bs]
theorem NC{a b:List UInt8}(h:bs a=bs b):a=b:=by rw[←jD a,h,jD]
theorem pI(xs:List UInt8):(bs xs).size=xs.length:=by simp[bs,ByteArray.size]
def Ret(R:Value→World→Prop)(e:Ending)(w:World):Prop:=∃ v,e=.returned v∧R v w
def yA(l:SF):List Operand→Option (List Value)
|[]=>some []
|x::r=>match evL l x,yA l r with
  |some v,some vs=>some (v::vs)
  |_,_=>none
theorem dN.evs{N:Nt}{l:SF}{a:Act}(h:dN N l a):∀ {xs:List Operand} {vs:List Value},yA l xs=some vs→xs.map a.eval=vs
|[],vs,e=>by simp[yA] at e;simp[e]
|x::r,vs,e=>by
   unfold yA at e
   split at e
   · rename_i v us h1 h2
     cases e;simp[h.ev h1,h.evs h2]
   ·cases e
def gZ(P:Program)(t:TypeId):Bool:=
 (match P.underlying t with|some (.struct _)|some (.array _ _)|none=>false|_=>true) && ((P.info? t).map (·.size) == some 1)
theorem Od{P:Program}{t:TypeId}(h:gZ P t=true)(w:World):(isAgg t).run P w=.ok false w:=by
 simp only[gZ,ag] at h;unfold isAgg;cases hu:P.underlying t with
|none=>simp[hu] at h
|some d=>rw[Sem.run_bind,run_underlying hu w];cases d<;>simp_all
theorem Lf{P:Program}{t:TypeId}(h:gZ P t=true)(w:World):(sizeOf t).run P w=.ok 1 w:=by
 simp only[gZ,ag,beq_iff_eq] at h;obtain⟨i,hi,h1⟩:=ae.1 h.2;simp[sizeOf,typeInfo,hi,h1]
def Rf(P:Program)(s f off:Nat):Bool:=
 match P.underlying s with
|some (.struct fs)=>match fs[f]? with
  |some fd=>fd.offset == off && (match (P.info? fd.type).map (·.size) with|some n=>n != 0|none=>false)
  |none=>false
|_=>false
def fnB (P:Program) (f:FuncId):Bool:=
 match P.funcs[f]? with
 | some fn => !(fn.name == "runtime.NumGoroutine") && fn.body.isSome
 | none=>false
theorem kC{P:Program}{f:FuncId}(h:fnB P f=true)(args:Array Value)(w:World):(callFunc f args).run P w=.ok (.enter f args) w:=by
 unfold fnB at h
 split at h
 · rename_i fn hf
   simp only[ag,Bool.not_eq_true'] at h;have hb:fn.body.isNone=false:=by cases hb:fn.body<;>simp_all
   unfold callFunc;rw[Sem.run_bind,run_program,Result.andThen_ok,hf];simp only[h.1,hb];rfl
 ·cases h
section
variable {P:Program}{N:Nt}{Q:Exit→Act→World→Prop}{l:SF}{w:World}{ops:Array Oper}{rest:List Oper}
variable {op:Op}{ty:TypeId}{pos:String}{aft:Array Edge}{d:Nat}{v:Value}{CH:Array Obj→Prop}
variable {x y:Operand}{t t':TypeId}{g:Option (Nat×Bool)}{dd:Option Nat}
theorem W2{w':World}(hr:∀ a,dN N l a→(execOp a.eval ⟨some d,op,ty,pos,aft,none⟩).run P w=.ok (.value v) w')(hd:ba d N.n=true)(h:Sl P N ops Q rest ((d,v)::l) w') :
 Sl P N ops Q (⟨some d,op,ty,pos,aft,none⟩::rest) l w:=fun a ha=>by
 unfold wpList;rw[ZP (by simp[Region.wanted])];refine .inl ?_;unfold Oper.wp;rw[hr a ha];exact h _ (ha.put hd v)
theorem Xx{w':World}(hr:∀ a,dN N l a→(execOp a.eval ⟨none,op,ty,pos,aft,none⟩).run P w=.ok .skip w')(h:Sl P N ops Q rest l w') :
 Sl P N ops Q (⟨none,op,ty,pos,aft,none⟩::rest) l w:=fun a ha=>by
 unfold wpList;rw[ZP (by simp[Region.wanted])];refine .inl ?_;unfold Oper.wp;rw[hr a ha];exact h _ ha
theorem Er{f:FuncId}{xs:List Operand}{vs:List Value}{ts:Array TypeId}{a:Act}(hf:fnB P f=true)(ha:dN N l a)(hx:yA l xs=some vs) :
 (execOp a.eval ⟨dd,.call ⟨.value (.func f),xs.toArray,ts⟩,ty,pos,aft,g⟩).run P w=.ok (.enter f vs.toArray) w:=by
 simp[execOp,resolve,Act.eval,Deferred.ofValue,invoke,kC hf];rw[←ha.evs hx]
theorem Wh{f:FuncId}{xs:List Operand}{vs:List Value}{ts:Array TypeId}(hf:fnB P f=true)(hx:yA l xs=some vs){R:Value→World→Prop}(hc:Calls P f vs.toArray w (Ret R))(hd:ba d N.n=true)
 (h:∀ v w',R v w'→Sl P N ops Q rest ((d,v)::l) w') :
 Sl P N ops Q (⟨some d,.call ⟨.value (.func f),xs.toArray,ts⟩,ty,pos,aft,none⟩::rest) l w:=fun a ha=>by
 unfold wpList;rw[ZP (by simp[Region.wanted])];refine .inl ?_;unfold Oper.wp;rw[Er hf ha hx];refine hc.mono ?_;rintro e w' ⟨v,rfl,hR⟩;exact h v w' hR _ (ha.put hd v)
theorem Wy{f:FuncId}{xs:List Operand}{vs:List Value}{ts:Array TypeId}{j s:Nat}{b:Bool}(hj:(ops[j]?).bind (·.dst)=some s)(hs:lk l s=some (.bool b))(hf:fnB P f=true)(hx:yA l xs=some vs){R:Value→World→Prop}(hc:Calls P f vs.toArray w (Ret R))(hd:ba d N.n=true)
 (h:∀ v w',R v w'→Sl P N ops Q rest ((d,v)::l) w') :
 Sl P N ops Q (⟨some d,.call ⟨.value (.func f),xs.toArray,ts⟩,ty,pos,aft,some (j,b)⟩::rest) l w:=fun a ha=>by
 unfold wpList;rw[ZP (by simp[Region.wanted,kA ha hj hs])];refine .inl ?_;unfold Oper.wp;rw[Er hf ha hx];refine hc.mono ?_;rintro e w' ⟨v,rfl,hR⟩;exact h v w' hR _ (ha.put hd v)
theorem Wt{ad:Addr}(ht:gZ P t=true)(hx:evL l x=some (.pointer (some ad)))(hc:∀ H,CH H→bK H ad=some v):Cm P N CH l ⟨dd,.load t x,ty,pos,aft,g⟩ v:=fun a w ha hw=>by
 have:=hc _ hw;simp[execOp,ha.ev hx,Instr.loadAt,Instr.sureAddr,loadVar,Od ht,cell?_eq,this]
theorem Wk{H:Array Obj}{ad:Addr}(ht:gZ P t=true)(hx:evL l x=some (.pointer (some ad)))(hc:bK H ad=some v):Cm P N (· = H) l ⟨dd,.load t x,ty,pos,aft,g⟩ v:=
 Wt ht hx (fun _ e=>by rw[e];exact hc)
theorem YL{ad:Addr}{s f off:Nat}(hs:Rf P s f off=true)(hx:evL l x=some (.pointer (some ad))):Cm P N CH l ⟨dd,.fieldAddr s x f,ty,pos,aft,g⟩ (.pointer (some (ad.add off))):=fun a w ha _=>by
 unfold Rf at hs
 split at hs
 · rename_i fs hu
   split at hs
   · rename_i fd hf
     simp only[ag,beq_iff_eq] at hs;obtain⟨h1,h2⟩:=hs
     split at h2
     · rename_i n hn
       obtain⟨i,hi,h3⟩:=ae.1 hn;have h4:i.size≠0:=by rw[h3];simpa using h2
       simp[execOp,ha.ev hx,Instr.fieldAt,run_underlying hu,hf,Instr.sureAddr,fieldPlace,sizeOf,typeInfo,hi,h4,h1]
     ·cases h2
   ·cases hs
 ·cases hs
theorem cR(k:IntKind){i:Int}{y:Nat}{code:BoundsCode}(w:World)(h:0≤i∧i≤y):(Instr.sliceBound (.int k i) y code).run P w=.ok i.toNat w:=by
 simp[Instr.sliceBound,asIntOf,h]
theorem WR{e:TypeId}{size bytes:Nat}(ht:aZ P t e size bytes){ao:Option Addr}{len cap:Nat}{kl:IntKind}{n:Int}{lo:Operand}(hx:evL l x=some (.slice ao len cap))(hl:evL l lo=some (.int kl n))
 (hn:0≤n∧n≤len):Cm P N CH l ⟨dd,.slice t x (some lo) none none,ty,pos,aft,g⟩ (.slice (aO ao cap n.toNat size) (len-n.toNat) (cap-n.toNat)):=fun a w ha _=>by
 simp[execOp,ha.ev hx,ha.ev hl,Instr.sliceAt,Instr.slice,run_underlying ht.und,Instr.sliceBounds,cR _ _ hn,ht.size,aO]
theorem WE{e:TypeId}{size bytes:Nat}(ht:aZ P t e size bytes){ao:Option Addr}{len cap:Nat}{kh:IntKind}{n:Int}{hi:Operand}(hx:evL l x=some (.slice ao len cap))(hh:evL l hi=some (.int kh n))
 (hn:0≤n∧n≤cap):Cm P N CH l ⟨dd,.slice t x none (some hi) none,ty,pos,aft,g⟩ (.slice (aO ao cap 0 size) n.toNat cap):=fun a w ha _=>by
 simp[execOp,ha.ev hx,ha.ev hh,Instr.sliceAt,Instr.slice,run_underlying ht.und,Instr.sliceBounds,cR _ _ hn,ht.size,aO]
theorem Xe{e:TypeId}{size bytes:Nat}(ht:aZ P t e size bytes){ao:Option Addr}{len cap:Nat}{kl kh:IntKind}{m n:Int}{lo hi:Operand}(hx:evL l x=some (.slice ao len cap))(hl:evL l lo=some (.int kl m))(hh:evL l hi=some (.int kh n))
 (hm:0≤m∧m≤n)(hn:n≤cap):Cm P N CH l ⟨dd,.slice t x (some lo) (some hi) none,ty,pos,aft,g⟩ (.slice (aO ao cap m.toNat size) (n.toNat-m.toNat) (cap-m.toNat)):=fun a w ha _=>by
 have h1:0≤n∧n≤(cap:Int):=⟨by omega,hn⟩
 have h2:0≤m∧m≤(n.toNat:Int):=⟨hm.1,by omega⟩
 simp only[execOp,ha.ev hx,ha.ev hl,ha.ev hh,Instr.sliceAt,Instr.slice,run_underlying ht.und,Instr.sliceBounds,dp,Option.map_none,Sem.run_bind,Result.andThen_ok,Sem.run_pure,
  cR _ _ h1,cR _ _ h2,ht.size,aO]
theorem X8{e:TypeId}{size bytes:Nat}(ht:aZ P t e size bytes){ao:Option Addr}{len cap:Nat}{kl kh km:IntKind}{m n q:Int}{lo hi mx:Operand}(hx:evL l x=some (.slice ao len cap))(hl:evL l lo=some (.int kl m))(hh:evL l hi=some (.int kh n))(hq:evL l mx=some (.int km q))
 (hm:0≤m∧m≤n)(hn:n≤q)(hqc:q≤cap):Cm P N CH l ⟨dd,.slice t x (some lo) (some hi) (some mx),ty,pos,aft,g⟩ (.slice (aO ao q.toNat m.toNat size) (n.toNat-m.toNat) (q.toNat-m.toNat)):=fun a w ha _=>by
 have h0:0≤q∧q≤(cap:Int):=⟨by omega,hqc⟩
 have h1:0≤n∧n≤(q.toNat:Int):=⟨by omega,by omega⟩
 have h2:0≤m∧m≤(n.toNat:Int):=⟨hm.1,by omega⟩
 simp only[execOp,ha.ev hx,ha.ev hl,ha.ev hh,ha.ev hq,Instr.sliceAt,Instr.slice,run_underlying ht.und,Instr.sliceBounds,dp,Sem.run_bind,Result.andThen_ok,Sem.run_pure,
  cR _ _ h0,cR _ _ h1,cR _ _ h2,ht.size,aO]
theorem XS{e:TypeId}{size bytes:Nat}(ht:aZ P t e size bytes)(he:P.underlying e=some (.int .u8))(hd:P.underlying t'=some .string){ao:Option Addr}{cap:Nat}{xs:List UInt8}(hx:evL l x=some (.slice ao xs.length cap))(hv:∀ H,CH H→Vw b8 H ao cap xs) :
 Cm P N CH l ⟨dd,.convert t t' x,ty,pos,aft,g⟩ (.string (bs xs)):=fun a w ha hw=>by
 have hv:=hv _ hw;simp only[execOp,ha.ev hx,Sem.run_bind];cases hao:ao with
|none=>
   have hn:xs=[]:=by
    rcases ef xs.length with h0|h0
    ·exact Z9 h0
    ·exact absurd hao (hv.non (by omega))
   subst hn;rw[run_convert_bytes_nil w t e ht.und he _ _ t' hd];rfl
|some b=>
   have hl:(loadCells b xs.length).run P w=.ok ((xs.map fun u=>((u.toNat:Int))).map (Value.int .u8)).toArray w:=by
    have:=run_loadCells_list (P:=P) w b (xs.map b8) (fun j u hj=>by
     rw[ax] at hj;obtain⟨q,hq,rfl⟩:=ae.1 hj;have:=hv.get j q hq;rw[hao] at this;exact this)
    rw[aa] at this;rw[this,map_map];rfl
   rw[run_convert_bytes_string w t t' e _ xs.length cap ht.und he hd,run_bytesToString w b xs.length cap _ hl,foldl_push_bytes];simp[bs,ByteArray.empty,ByteArray.emptyWithCapacity,Function.comp_def];rfl
theorem WG{H:Array Obj}{e:TypeId}{size bytes:Nat}(ht:aZ P t e size bytes)(he:P.underlying e=some (.int .u8))(hd:P.underlying t'=some .string){ao:Option Addr}{cap:Nat}{xs:List UInt8}(hx:evL l x=some (.slice ao xs.length cap))(hv:Vw b8 H ao cap xs) :
 Cm P N (· = H) l ⟨dd,.convert t t' x,ty,pos,aft,g⟩ (.string (bs xs)):=XS ht he hd hx (fun _ e=>by rw[e];exact hv)
theorem Y5{a b:ByteArray}(hx:evL l x=some (.string a))(hy:evL l y=some (.string b)):Cm P N CH l ⟨dd,.binOp .eql t x y t',ty,pos,aft,g⟩ (.bool (decide (a.toList=b.toList))):=fun c w ha _=>by
 simp[execOp,ha.ev hx,ha.ev hy,eqGuard,binOp,iy];by_cases h:a.toList=b.toList<;>simp[h]
theorem Y6{a b:ByteArray}(hx:evL l x=some (.string a))(hy:evL l y=some (.string b)):Cm P N CH l ⟨dd,.binOp .neq t x y t',ty,pos,aft,g⟩ (.bool (decide (a.toList≠b.toList))):=fun c w ha _=>by
 simp[execOp,ha.ev hx,ha.ev hy,eqGuard,binOp,iy];by_cases h:a.toList=b.toList<;>simp[h]
theorem XC{a b:List UInt8}(hx:evL l x=some (.string (bs a)))(hy:evL l y=some (.string (bs b))):Cm P N CH l ⟨dd,.binOp .eql t x y t',ty,pos,aft,g⟩ (.bool (decide (a=b))):=by
 have:=@Y5 P N l ty pos aft CH x y t t' g dd (bs a) (bs b) hx hy;simpa only[jD] using this
theorem Xj{a b:List UInt8}(hx:evL l x=some (.string (bs a)))(hy:evL l y=some (.string (bs b))):Cm P N CH l ⟨dd,.binOp .neq t x y t',ty,pos,aft,g⟩ (.bool (decide (a≠b))):=by
 have:=@Y6 P N l ty pos aft CH x y t t' g dd (bs a) (bs b) hx hy;simpa only[jD] using this
def JG(P:Program)(t:TypeId):Bool:=match P.underlying t with|some (.pointer _)=>true|_=>false
theorem Oy{P:Program}{t:TypeId}(h:JG P t=true):P.underlying t=some (.pointer (P.pointee t)):=by
 unfold JG at h
 split at h
 ·rename_i e hu;simp[Program.pointee,hu]
 ·cases h
theorem WZ{p:Option Addr}(ht:JG P t=true)(hx:evL l x=some (.pointer p))(hy:evL l y=some (.pointer none)):Cm P N CH l ⟨dd,.binOp .eql t x y t',ty,pos,aft,g⟩ (.bool p.isNone):=fun c w ha _=>by
 have:=run_eql_pointer_nil (P:=P) w t p (Oy ht);simp only[execOp,ha.ev hx,ha.ev hy];cases p<;>simp[eqGuard,this]
theorem Wq{α:Type}{enc:α→Value}(henc:∀ x,(enc x).oneCell'=true){e:TypeId}{bytes:Nat}(ht:aZ P t e 1 bytes)
 {ao bo:Option Addr}{cap bcap:Nat}{xs ys:List α}(hx:evL l x=some (.slice ao xs.length cap))(hy:evL l y=some (.slice bo ys.length bcap))
 (ho:Own enc e w.heap ao cap xs)(hv:Vw enc w.heap bo bcap ys)
 (hb:(xs.length+ys.length)*bytes≤140737488355328)(hm:xs.length+ys.length≤maxLen)(hd:ba d N.n=true)
 (h:∀ ao' cap' w',Own enc e w'.heap ao' cap' (xs++ys)→aA (blk ao) w w'→(∀ a,ao'=some a→ao=some a∨w.heap.size≤a.block)→(ao'=none→ao=none∧ys=[]) →
   Sl P N ops Q rest ((d,.slice ao' (xs++ys).length cap')::l) w') :
 Sl P N ops Q (⟨some d,.call ⟨.builtin .append,#[x,y],#[t,t]⟩,ty,pos,aft,none⟩::rest) l w:=by
 obtain⟨ao',cap',w',hr,h1,h2,h3,h4⟩:=xX henc (ty:=ty) ht ho hv hb hm;refine W2 (w':=w') (v:=.slice ao' (xs++ys).length cap') (fun a ha=>?_) hd (h ao' cap' w' h1 h2 h3 h4);simp[execOp,ha.ev hx,ha.ev hy,resolve,invoke,builtin,hr]
theorem WO{T:TypeId}(hx:evL l x=some v)(hd:ba d N.n=true)
 (h:∀ w',w'.heap[w.heap.size]?=some (.cells v.cells T (0,0))→w'.heap.size=w.heap.size+1→aA nob w w'→Sl P N ops Q rest ((d,.pointer (some ⟨w.heap.size,0,none⟩))::l) w') :
 Sl P N ops Q (⟨some d,.box T x,ty,pos,aft,none⟩::rest) l w:=by
 refine W2 (w':=w.alloc (.cells v.cells T)) (fun a ha=>?_) hd (h _ (heap_alloc_new w _) (by simp) (aA.alloc _ _ _));simp[execOp,ha.ev hx,Instr.box,newVar,newRow]
theorem kJ{α:Type}{enc:α→Value}{e:TypeId}{H:Array Obj}{g:Nat}{xs:List α}(hg:H[g]?=some (.cells (xs.map enc).toArray e (0,0)))(hm:xs.length≤maxLen):Own enc e H (some ⟨g,0,none⟩) xs.length xs:=
 .inr ⟨g,_,rfl,hg,Z0 _,hm,by simp,by simp;exact Z4 (by simp)⟩
theorem Ag{f:Nat→Value}:(Array.range 0).map f=#[]:=by apply Array.ext';simp
theorem GM{f:Nat→Value}{u:Value}:((Array.range 1).map f).setIfInBounds 0 u=#[u]:=by apply Array.ext';simp[gg]
theorem GL{f:Nat→Value}{u u':Value}:(((Array.range 2).map f).setIfInBounds 0 u).setIfInBounds 1 u'=#[u,u']:=by apply Array.ext';simp[gg]
theorem WC{α:Type}(enc:α→Value){e:TypeId}{bytes:Nat}(ht:aZ P t e 1 bytes)(hd:ba d N.n=true)
 (h:∀ w',Own enc e w'.heap (some ⟨w.heap.size,0,none⟩) 0 ([]:List α)→w'.heap.size=w.heap.size+1→aA nob w w'→Sl P N ops Q rest ((d,.slice (some ⟨w.heap.size,0,none⟩) 0 0)::l) w') :
 Sl P N ops Q (⟨some d,.buildSlice t 0 #[],ty,pos,aft,none⟩::rest) l w:=by
 refine W2 (w':=w.alloc (.cells #[] e)) (fun a ha=>?_) hd (h _ (kJ (xs:=[]) (heap_alloc_new w _) (ZZ _)) (by simp) (aA.alloc _ _ _));simp[execOp,Instr.buildSlice,run_underlying ht.und,ht.size,Instr.fill,newRow];rw[Ag]
theorem WS{α:Type}{enc:α→Value}{e:TypeId}{bytes:Nat}(ht:aZ P t e 1 bytes){u:α}(hu:(enc u).oneCell'=true)(hx:evL l x=some (enc u))(hd:ba d N.n=true)
 (h:∀ w',Own enc e w'.heap (some ⟨w.heap.size,0,none⟩) 1 [u]→w'.heap.size=w.heap.size+1→aA nob w w'→Sl P N ops Q rest ((d,.slice (some ⟨w.heap.size,0,none⟩) 1 1)::l) w') :
 Sl P N ops Q (⟨some d,.buildSlice t 1 #[(0,x)],ty,pos,aft,none⟩::rest) l w:=by
 obtain⟨i,z,hi,h1,hz,h2,h3⟩:=ht.parts;have hc:(enc u).cells=#[enc u]:=by cases he:enc u<;>simp_all [Value.cells,Value.oneCell']
 refine W2 (w':=w.alloc (.cells #[enc u] e)) (fun a ha=>?_) hd (h _ (kJ (xs:=[u]) (heap_alloc_new w _) (by simp[maxLen])) (by simp) (aA.alloc _ _ _));simp[execOp,Instr.buildSlice,run_underlying ht.und,ht.size,zeroValue,typeInfo,hi,h1,Instr.fill,ha.ev hx,hc,newRow];rw[GM]
theorem Y7{α:Type}{enc:α→Value}{e:TypeId}{bytes:Nat}(ht:aZ P t e 1 bytes){u u':α}(hu:∀ x,(enc x).oneCell'=true)(hx:evL l x=some (enc u))(hy:evL l y=some (enc u'))(hd:ba d N.n=true)
 (h:∀ w',Own enc e w'.heap (some ⟨w.heap.size,0,none⟩) 2 [u,u']→w'.heap.size=w.heap.size+1→aA nob w w'→Sl P N ops Q rest ((d,.slice (some ⟨w.heap.size,0,none⟩) 2 2)::l) w') :
 Sl P N ops Q (⟨some d,.buildSlice t 2 #[(0,x),(1,y)],ty,pos,aft,none⟩::rest) l w:=by
 obtain⟨i,z,hi,h1,hz,h2,h3⟩:=ht.parts;have hc:∀ u,(enc u).cells=#[enc u]:=fun u=>by have:=hu u;cases he:enc u<;>simp_all [Value.cells,Value.oneCell']
 refine W2 (w':=w.alloc (.cells #[enc u,enc u'] e)) (fun a ha=>?_) hd (h _ (kJ (xs:=[u,u']) (heap_alloc_new w _) (by simp[maxLen])) (by simp) (aA.alloc _ _ _));simp[execOp,Instr.buildSlice,run_underlying ht.und,ht.size,zeroValue,typeInfo,hi,h1,Instr.fill,ha.ev hx,ha.ev hy,hc,newRow];rw[GL]
theorem Wl{b o:Nat}{cur:List Value}{T:TypeId}(ht:gZ P t=true)(hx:evL l x=some (.pointer (some ⟨b,o,none⟩)))(hy:evL l y=some v)(h1:v.oneCell'=true)
 (hg:w.heap[b]?=some (.cells cur.toArray T (0,0)))(ho:ba o cur.length=true)
 (h:∀ w',w'.heap[b]?=some (.cells (cur.set o v).toArray T (0,0))→w'.heap.size=w.heap.size→aA (· = b) w w'→Sl P N ops Q rest l w') :
 Sl P N ops Q (⟨none,.store t x y,ty,pos,aft,none⟩::rest) l w:=by
 have ho':o<cur.length:=by simpa[dg] using ho
 have hc:v.cells=#[v]:=by cases v<;>simp_all [Value.cells,Value.oneCell']
 have hcell:w.cell? ((⟨b,o,none⟩:Addr).add 0)=some cur[o]:=by simp[Addr.add,World.cell?,hg,ho']
 have hfro:w.frozen? ((⟨b,o,none⟩:Addr).add 0)=false:=by simp[Addr.add,World.frozen?,hg]
 refine Xx (w':=w.setCell ⟨b,o,none⟩ v) (fun a ha=>?_) (h _ ?_ ?_ ?_)
 · simp[execOp,ha.ev hx,ha.ev hy,Instr.storeAt,Instr.sureAddr,storeVar,Lf ht,hc,storeCells,run_store P w _ v _ h1,hcell,hfro]
   simp[Addr.add]
 ·simp[World.setCell,Array.getElem?_modify,hg]
 ·simp[World.setCell]
 ·exact⟨rfl,rfl,rfl,by simp[World.setCell],fun k hk hn=>Below.heap_setCell _ _ _ _ hn⟩
end
section
variable {P:Program}{ops:Array Oper}{md:Region.Mode}{CH:Array Obj→Prop}
def YC(P:Program)(ops:Array Oper)(CH:Array Obj→Prop)(o:Oper)(v:Value)(a:Act):Prop:=
 (Region.wanted o (yielded ops a.tmps)=true∧∀ w,CH w.heap→(execOp a.eval o).run P w=.ok (.value v) w) ∨
 (Region.wanted o (yielded ops a.tmps)=false∧v=undef)
theorem YC.of_same{o:Oper}{v:Value}{a a':Act}(hy:YC P ops CH o v a)(he:execOp a'.eval o=execOp a.eval o)
 (hw:Region.wanted o (yielded ops a'.tmps)=Region.wanted o (yielded ops a.tmps)):YC P ops CH o v a':=by
 unfold YC at *;rw[he,hw];exact hy
def nN(K:Act→World→Prop):Exit→Act→World→Prop
|.normal,a,w=>K a w
|_,_,_=>False
theorem YC.wpOp{i:Nat}{o:Oper}{v:Value}{a:Act}{Q:Exit→Act→World→Prop}(hi:ops[i]?=some o)(hy:YC P ops CH o v a)
 {K:Act→World→Prop}{w:World}(hc:CH w.heap)(h:K (a.put o.dst v) w):wpOp P ops Q i K a w:=by
 unfold Go.wpOp;simp only[hi];rcases hy with⟨hw,hv⟩|⟨hw,rfl⟩
 ·simp only[hw,if_true,Oper.wp,hv w hc,Oper.upon];exact .inl h
 ·simp only[hw,Bool.false_eq_true,if_false];exact h
theorem IT{K0:Act→World→Prop}{j:Nat}{oi oj:Oper}{v:Value}(hj:ops[j]?=some oj)(hap:oi.apart ops oj=true)
 (hsi:∀ cs b,oi.op≠.select cs b)(hsj:∀ cs b,oj.op≠.select cs b){K:Act→World→Prop}{a:Act}{w:World}
 (hy:YC P ops CH oi v a)(h:wpOp P ops (nN K0) j K (a.put oi.dst v) w) :
 wpOp P ops (nN K0) j (fun a' w'=>YC P ops CH oi v a'∧K (a'.put oi.dst v) w') a w:=by
 obtain⟨h1,h2,h3⟩:=Oper.apart_spec hap;have keep:∀ (a:Act),YC P ops CH oi v a→∀ u,YC P ops CH oi v (a.put oj.dst u):=fun a hy u=>
  hy.of_same (execOp_put oi hsi a oj.dst u h3) (wanted_put oi a oj.dst u h3)
 have keepD:∀ d,YC P ops CH oi v { a with defers:=d::a.defers }:=fun d=>hy.of_same rfl rfl;unfold wpOp at *;simp only[hj] at *;rw[wanted_put oj a oi.dst v h1] at h
 split
 · rename_i hw
   simp only[hw,if_true] at h;rcases h with h|⟨hasks,hlets⟩
   case inr=>exact .inr ⟨by unfold Oper.asks at *;rw[execOp_put oj hsj a oi.dst v h1] at hasks;exact hasks,hlets⟩
   refine .inl ?_;unfold Oper.wp at *;rw[execOp_put oj hsj a oi.dst v h1] at h;generalize (execOp a.eval oj).run P w=r at *;cases r with
  |ok n w'=>
     cases n<;>simp only[Oper.upon] at h ⊢
     case value u=>exact⟨keep a hy u,by rw[←Act.put_comm a v u h2];exact h⟩
     case skip=>exact⟨keep a hy _,by rw[←Act.put_comm a v undef h2];exact h⟩
     case defer d=>
      refine⟨keep _ (keepD d) _,?_⟩;rw[←Act.put_comm _ v undef h2,←Act.put_defers];exact h
     case enter f args=>
      refine Calls.mono h fun e w'' he=>?_;cases e with
     |returned u=>exact⟨keep a hy u,by rw[←Act.put_comm a v u h2];exact he⟩
     |panicked c=>exact he
     |outgrown=>exact he
     case row row args=>exact Rows.mono h fun u w'' he=>⟨keep a hy u,by rw[←Act.put_comm a v u h2];exact he⟩
  |halt x w'=>
     cases x<;>simp only[Oper.upon] at h ⊢
     case panic u=>exact h
 · rename_i hw
   simp only[hw] at h;exact⟨keep a hy _,by rw[←Act.put_comm a v undef h2];exact h⟩
def cZ(P:Program)(md:Region.Mode)(ops:Array Oper)(n:Nat)(CH:Array Obj→Prop)(K0:Act→World→Prop):Nat→Array Bool→Act→World→Prop
|0,listed,a,w=>(listed.getD n false=false→CH w.heap)∧Region.ready md ops listed=[]∧K0 a w
|fuel+1,listed,a,w=>(listed.getD n false=false→CH w.heap) ∧
   (Region.ready md ops listed=[]→K0 a w) ∧
   ∀ i∈Region.ready md ops listed,wpOp P ops (nN K0) i (cZ P md ops n CH K0 fuel (listed.setIfInBounds i true)) a w
theorem cZ.ch{n:Nat}{K0:Act→World→Prop}:∀ {fuel:Nat} {listed:Array Bool} {a:Act} {w:World},cZ P md ops n CH K0 fuel listed a w→listed.getD n false=false→CH w.heap
|0,_,_,_,h=>h.1
|_+1,_,_,_,h=>h.1
theorem cZ.any{n:Nat}{K0:Act→World→Prop}:∀ {fuel:Nat} {listed:Array Bool} {a:Act} {w:World},cZ P md ops n CH K0 fuel listed a w→wpAny P md ops (nN K0) fuel listed a w
|0,_,_,_,h=>h.2
|_+1,_,_,_,h=>⟨h.2.1,fun i hi=>wpOp_mono (fun _ _ h'=>cZ.any h') (h.2.2 i hi)⟩
def vB(ops:Array Oper)(n:Nat):Bool:=ik ops.size n || (Region.sinkB .any ops n && Region.chainB .any ops n)
theorem Kh{n:Nat}{listed:Array Bool}(hf:vB ops n=true)(inv:HeadInv .any ops n listed){i j:Nat}(hi:i<n)(hun:listed.getD i true=false)(hj:j∈Region.ready .any ops listed):j<n:=by
 have hjs:j<ops.size:=by
  obtain⟨_,o,ho,_⟩:=mem_ready.1 hj;exact(Z1.1 ho).1
 simp only[vB,ew,ag,gv] at hf;rcases ij n ops.size with hn|hn
 · rcases hf with hf|hf
   ·omega
   · rcases ij j n with h|h
     ·exact h
     ·exact absurd hj (tail_waits hf.1 hf.2 hn inv _ i rfl hi hun j h)
 ·omega
theorem Bs{n:Nat}{listed:Array Bool}(hf:vB ops n=true)(inv:HeadInv .any ops n listed){j:Nat}(hj:j∈Region.ready .any ops listed)(h:n<j):False:=by
 obtain⟨_,o,ho,hall⟩:=mem_ready.1 hj;have hjs:j<ops.size:=(Z1.1 ho).1;simp only[vB,ew,ag,gv] at hf;rcases hf with hf|hf
 ·omega
 · have h1:=List.all_eq_true.1 hf.2 j (bt.2 hjs)
   simp only[ew,decide_eq_true_eq] at h1;rcases h1 with h1|h1
   ·omega
   · obtain⟨o',ho',e,he,hb,hon⟩:=Region.waitsFor_spec h1
     have:o'=o:=dx.inj (ho'.symm.trans ho);subst this;have h2:=hall e he hb;rw[hon,getD_both (inv.tail (j-1) (by omega) (by omega))] at h2;cases h2
theorem Br{n:Nat}{listed:Array Bool}(inv:HeadInv .any ops n listed):listed.getD n false=false:=by
 rcases ij n ops.size with h|h
 ·exact getD_both (inv.tail n (Z0 _) h)
 · have:listed.size≤n:=by rw[inv.size];exact h
   simp[Array.getElem?_eq_none this]
theorem oU{n:Nat}{K0:Act→World→Prop}{i:Nat}{oi:Oper}{v:Value}(hi:ops[i]?=some oi)(hsel:∀ (j:Nat) (o:Oper) cs b,ops[j]?=some o→o.op≠.select cs b)(hf:vB ops n=true)(hin:i<n) :
 ∀ (fuel:Nat) (listed:Array Bool) (a:Act) (w:World),HeadInv .any ops n listed→CH w.heap →
  (∀ j oj,ops[j]?=some oj→j≠i→listed.getD j true=false→(∀ e∈oj.after,Region.binds .any e=true→e.on≠i)→oi.apart ops oj=true) →
  i∈Region.ready .any ops listed→YC P ops CH oi v a →
  cZ P .any ops n CH K0 fuel (listed.setIfInBounds i true) (a.put oi.dst v) w→cZ P .any ops n CH K0 (fuel+1) listed a w:=by
 intro fuel
 induction fuel with
|zero=>
   intro listed a w _ hc _ hr hy H;refine⟨fun _=>hc,fun h=>(by rw[h] at hr;cases hr),fun j hj=>?_⟩;by_cases hji:j=i
   ·subst hji;exact hy.wpOp hi hc H
   · have:=ready_mono hj hji
     rw[H.2.1] at this;cases this
|succ fuel ih=>
   intro listed a w inv hc hfree hr hy H;refine⟨fun _=>hc,fun h=>(by rw[h] at hr;cases hr),fun j hj=>?_⟩;by_cases hji:j=i
   ·subst hji;exact hy.wpOp hi hc H
   · have h1:=H.2.2 j (ready_mono hj hji)
     obtain⟨hjun,oj,hoj,hall⟩:=mem_ready.1 hj;have hjn:j<n:=Kh hf inv hin (mem_ready.1 hr).1 hj;have inv':=inv.set hj hjn;have hnot:∀ e∈oj.after,Region.binds .any e=true→e.on≠i:=fun e he hb heq=>by
      have h1:=hall e he hb;have h0:=(mem_ready.1 hr).1;rw[heq] at h1;rcases ij i listed.size with h'|h'
      ·simp[h'] at h0 h1;rw[h0] at h1;cases h1
      ·simp[Array.getElem?_eq_none h'] at h1
     have h2:=IT hoj (hfree j oj hoj hji hjun hnot) (fun cs b=>hsel i oi cs b hi) (fun cs b=>hsel j oj cs b hoj) hy h1;have hfree':∀ k ok,ops[k]?=some ok→k≠i→(listed.setIfInBounds j true).getD k true=false →
      (∀ e∈ok.after,Region.binds .any e=true→e.on≠i)→oi.apart ops ok=true:=fun k ok hk hki hun hno=>by
      refine hfree k ok hk hki ?_ hno;by_cases hjk:j=k
      ·subst hjk;exact hjun
      ·rw[getD_set_ne true hjk] at hun;exact hun
     have hstill:((listed.setIfInBounds i true).setIfInBounds j true).getD n false=false:=by
      rw[getD_set_ne false (by omega),getD_set_ne false (by omega)];exact Br inv
     refine wpOp_mono (fun a' w' h3=>ih (listed.setIfInBounds j true) a' w' inv' (h3.2.ch hstill) hfree' (ready_mono hr (Ne.symm hji)) h3.1 ?_) h2;rw[Array.setIfInBounds_comm _ _ hji];exact h3.2
def sJ(ops:Array Oper)(n:Nat)(effs:List Nat):List Nat→Array Bool→Bool
|[],listed=>(Region.ready .any ops listed).isEmpty
|i::r,listed=>
   (bif effs.contains i then (match Region.ready .any ops listed with|[j]=>ja j i|_=>false) && (ba i n || r.isEmpty) else ((Region.ready .any ops listed).contains i && Region.free .any ops listed i && ba i n)) &&
   sJ ops n effs r (listed.setIfInBounds i true)
def Sx(P:Program)(N:Nt)(ops:Array Oper)(n:Nat):(Array Obj→Prop)→List Nat→(Act→World→Prop)→List Nat→SF→World→Prop
|_,_,K0,[],l,w=>∀ a,dN N l a→K0 a w
|CH,effs,K0,i::r,l,w=>∃ o,ops[i]?=some o ∧
   (bif effs.contains i then Sl P N ops (nN fun a w=>∃ l',dN N l' a∧∃ CH':Array Obj→Prop,(∀ H,CH' H→CH H)∧(ba i n=true→CH' w.heap)∧Sx P N ops n CH' effs K0 r l' w) [o] l w
    else ∃ v,(∀ a,dN N l a→YC P ops CH o v a)∧∃ l',(∀ a,dN N l a→dN N l' (a.put o.dst v))∧Sx P N ops n CH effs K0 r l' w)
theorem cZ.mono{n:Nat}{K0:Act→World→Prop}{CH CH':Array Obj→Prop}(hs:∀ H,CH' H→CH H):∀ {fuel:Nat} {listed:Array Bool} {a:Act} {w:World},cZ P md ops n CH' K0 fuel listed a w→cZ P md ops n CH K0 fuel listed a w
|0,_,_,_,h=>⟨fun h0=>hs _ (h.1 h0),h.2⟩
|_+1,_,_,_,h=>⟨fun h0=>hs _ (h.1 h0),h.2.1,fun i hi=>wpOp_mono (fun _ _ h'=>cZ.mono hs h') (h.2.2 i hi)⟩
theorem Zv{o:Oper}{a:Act}{w:World}{K K':Act→World→Prop}{M M':Act→World→Prop}(h:∀ a w,K a w→K' a w)(hh:o.wp P a w K (nN M)):o.wp P a w K' (nN M'):=by
 unfold Oper.wp at *;generalize (execOp a.eval o).run P w=r at *;cases r with
|ok n w'=>
   cases n<;>simp only[Oper.upon] at hh ⊢ <;>
    first
    |exact h _ _ hh
    |exact Calls.mono hh (fun e w'' he=>by cases e<;>first|exact h _ _ he|exact he.elim|(obtain⟨_,_,hf⟩:=he;exact hf.elim))
    |exact Rows.mono hh (fun _ _ he=>h _ _ he)
|halt x w'=>cases x<;>simp only[Oper.upon] at hh ⊢;exact hh.elim
theorem qD{N:Nt}{n:Nat}{effs:List Nat}{K0:Act→World→Prop}(hsel:Region.noSelect ops=true)(hfin:vB ops n=true):∀ (ord:List Nat) (CH:Array Obj→Prop) (fuel:Nat) (listed:Array Bool) (l:SF) (a:Act) (w:World),ord.length≤fuel→sJ ops n effs ord listed=true →
 dN N l a→(HeadInv .any ops n listed∧CH w.heap)∨(ord=[]∧listed.getD n false=true)→Sx P N ops n CH effs K0 ord l w→cZ P .any ops n CH K0 fuel listed a w
|[],CH,fuel,listed,l,a,w,_,hm,ha,hc,h=>by
   have hr:Region.ready .any ops listed=[]:=by simpa[sJ] using hm
   have hch:listed.getD n false=false→CH w.heap:=fun h0=>by
    rcases hc with hc|hc
    ·exact hc.2
    ·rw[hc.2] at h0;cases h0
   cases fuel with
  |zero=>exact⟨hch,hr,h a ha⟩
  |succ f=>exact⟨hch,fun _=>h a ha,by rw[hr];simp⟩
|i::r,CH,0,listed,l,a,w,hf,hm,ha,hc,h=>by simp at hf
|i::r,CH,f+1,listed,l,a,w,hf,hm,ha,hc,h=>by
   obtain⟨inv,hc⟩:=hc.resolve_right (fun hc=>by cases hc.1);obtain⟨o,ho,h⟩:=h;simp only[sJ,ag] at hm;obtain⟨hm1,hm2⟩:=hm;cases he:effs.contains i with
  |true=>
     rw[he] at h hm1;simp only[cond_true,ag] at h hm1;obtain⟨hm1,hm3⟩:=hm1;have hr:Region.ready .any ops listed=[i]:=by
      split at hm1
      ·rename_i j hj;rw[hj,Nat.eq_of_beq_eq_true hm1]
      ·cases hm1
     refine⟨fun _=>hc,fun h0=>(by rw[hr] at h0;cases h0),fun j hj=>?_⟩;have hjr:=hj;rw[hr] at hj;obtain rfl:j=i:=by simpa using hj
     have h1:=h a ha;unfold wpList at h1;unfold wpOp;simp only[ho]
     have key:∀ a' w',wpList P ops (nN fun a w=>∃ l',dN N l' a∧∃ CH':Array Obj→Prop,(∀ H,CH' H→CH H)∧(ba j n=true→CH' w.heap)∧Sx P N ops n CH' effs K0 r l' w) [] a' w'→cZ P .any ops n CH K0 f (listed.setIfInBounds j true) a' w':=by
      intro a' w' h2;obtain⟨l',h3,CH',hsub,h4,h5⟩:=h2;refine cZ.mono hsub (qD hsel hfin r CH' f _ l' a' w' (by simp at hf;omega) hm2 h3 ?_ h5);rcases ij j n with hjn|hjn
      ·exact .inl ⟨inv.set hjr hjn,h4 (by simpa[dg] using hjn)⟩
      · have hjs:j<ops.size:=(Z1.1 ho).1
        have hb:ba j n=false:=by rw[←Bool.not_eq_true,dg];omega
        simp only[hb,Bool.false_or,List.isEmpty_iff] at hm3;have hr0:r=[]:=hm3
        · have hjn':j=n:=by
           rcases ij n j with h6|h6
           ·have h7:=Bs hfin inv hjr h6;exact h7.elim
           ·omega
          subst hjn';exact .inr ⟨hr0,by simp[inv.size,hjs]⟩
     split
     · rename_i hw
       rw[ZP hw] at h1;rcases h1 with h1|⟨_,_,_,h1⟩
       ·exact .inl (Zv key h1)
       ·exact h1.elim
     · rename_i hw
       rw[ZO hw] at h1;exact key _ _ h1
  |false=>
     rw[he] at h hm1;simp only[cond_false,ag] at h hm1;obtain⟨v,hy,l',hl',hs⟩:=h;have hin:i<n:=by simpa[dg] using hm1.2
     have hir:i∈Region.ready .any ops listed:=by simpa using hm1.1.1
     exact oU ho (Region.noSelect_spec hsel) hfin hin f listed a w inv hc (Region.free_spec ho hm1.1.2) hir (hy a ha) (qD hsel hfin r CH f _ l' _ w (by simp at hf;omega) hm2 (hl' a ha) (.inl ⟨inv.set hir hin,hc⟩) hs)
variable {N:Nt}{Q:Exit→Act→World→Prop}{l:SF}{w:World}
theorem uY{n:Nat}:HeadInv .any ops n (fa ops.size false):=
 ⟨by simp,(fun j oj hj hl=>by rw[getD_replicate_false] at hl;cases hl),(fun t _ ht=>by simp[ht])⟩
theorem Wv{id:Nat}{lops:List Oper}(n:Nat)(CH:Array Obj→Prop)(effs ord:List Nat)(hm:P.follows .mixedOrders=true)(hs:(Region.noSelect lops.toArray && vB lops.toArray n &&
 sJ lops.toArray n effs ord (fa lops.length false) && ik ord.length lops.length)=true)(hc:CH w.heap)
 (h:Sx P N lops.toArray n CH effs (fun a w=>Q .normal a w) ord l (w.drewN 1)):Sc P N (.region id lops.toArray true) Q l w:=fun a ha=>by
 simp only[ag] at hs;obtain⟨⟨⟨hs,hfin⟩,hok⟩,hlen⟩:=hs;have h1:=qD (P:=P) (N:=N) (K0:=fun a w=>Q .normal a w) hs hfin ord CH lops.length _ l a (w.drewN 1) (by simpa[gv] using hlen) hok ha
  (.inl ⟨by have:=uY (ops:=lops.toArray) (n:=n);simpa using this,hc⟩) h
 have h2:=wp_region_any (P:=P) (id:=id) (ops:=lops.toArray) (Q:=nN fun a w=>Q .normal a w) (a:=a) (w:=w) hm (by
  have:=h1.any;simpa[World.drewN] using this)
 refine wp_mono h2 ?_;intro e a' w' hq;cases e<;>first|exact hq|exact hq.elim
variable {n:Nat}{effs:List Nat}{K0:Act→World→Prop}{r:List Nat}{i:Nat}{op:Op}{ty:TypeId}{pos:String}{aft:Array Edge}{d:Nat}{v:Value}
theorem XO(hi:ops[i]?=some ⟨some d,op,ty,pos,aft,none⟩)(he:effs.contains i=false)(hv:Cm P N CH l ⟨some d,op,ty,pos,aft,none⟩ v)(hd:ba d N.n=true)
 (h:Sx P N ops n CH effs K0 r ((d,v)::l) w):Sx P N ops n CH effs K0 (i::r) l w:=
 ⟨_,hi,by rw[he];exact⟨v,fun a ha=>.inl ⟨by simp[Region.wanted],fun w hw=>hv a w ha hw⟩,_,fun a ha=>ha.put hd v,h⟩⟩
theorem XP{j s:Nat}{b:Bool}(hi:ops[i]?=some ⟨some d,op,ty,pos,aft,some (j,b)⟩)(he:effs.contains i=false)(hj:(ops[j]?).bind (·.dst)=some s)(hs:lk l s=some (.bool b))
 (hv:Cm P N CH l ⟨some d,op,ty,pos,aft,some (j,b)⟩ v)(hd:ba d N.n=true)
 (h:Sx P N ops n CH effs K0 r ((d,v)::l) w):Sx P N ops n CH effs K0 (i::r) l w:=
 ⟨_,hi,by rw[he];exact⟨v,fun a ha=>.inl ⟨by simp[Region.wanted,kA ha hj hs],fun w hw=>hv a w ha hw⟩,_,fun a ha=>ha.put hd v,h⟩⟩
theorem X3{p:Prop}[Decidable p](hi:ops[i]?=some ⟨some d,op,ty,pos,aft,none⟩)(he:effs.contains i=false)(hv:Cm P N CH l ⟨some d,op,ty,pos,aft,none⟩ (.bool (decide p)))(hd:ba d N.n=true)
 (h1:p→Sx P N ops n CH effs K0 r ((d,.bool true)::l) w)(h2:¬ p→Sx P N ops n CH effs K0 r ((d,.bool false)::l) w):Sx P N ops n CH effs K0 (i::r) l w:=by
 by_cases h:p
 ·rw[Z3 h] at hv;exact XO hi he hv hd (h1 h)
 ·rw[ZV h] at hv;exact XO hi he hv hd (h2 h)
theorem Xk{p:Prop}[Decidable p]{j s:Nat}{b:Bool}(hi:ops[i]?=some ⟨some d,op,ty,pos,aft,some (j,b)⟩)(he:effs.contains i=false)(hj:(ops[j]?).bind (·.dst)=some s)(hs:lk l s=some (.bool b))
 (hv:Cm P N CH l ⟨some d,op,ty,pos,aft,some (j,b)⟩ (.bool (decide p)))(hd:ba d N.n=true)
 (h1:p→Sx P N ops n CH effs K0 r ((d,.bool true)::l) w)(h2:¬ p→Sx P N ops n CH effs K0 r ((d,.bool false)::l) w):Sx P N ops n CH effs K0 (i::r) l w:=by
 by_cases h:p
 ·rw[Z3 h] at hv;exact XP hi he hj hs hv hd (h1 h)
 ·rw[ZV h] at hv;exact XP hi he hj hs hv hd (h2 h)
theorem Y8{j s:Nat}{b:Bool}{u:Value}(hi:ops[i]?=some ⟨some d,op,ty,pos,aft,some (j,b)⟩)(he:effs.contains i=false)(hj:(ops[j]?).bind (·.dst)=some s)(hs:lk l s=some u)(hb:BM u b=true)(hd:ba d N.n=true)
 (h:Sx P N ops n CH effs K0 r ((d,undef)::l) w):Sx P N ops n CH effs K0 (i::r) l w:=
 ⟨_,hi,by rw[he];exact⟨undef,fun a ha=>.inr ⟨by
  simp only[Region.wanted,kA ha hj hs];cases u<;>simp_all [BM],rfl⟩,_,fun a ha=>ha.put hd undef,h⟩⟩
def KX(P:Program)(N:Nt)(ops:Array Oper)(n:Nat)(CH:Array Obj→Prop)(effs:List Nat)(K0:Act→World→Prop)(i:Nat)(r:List Nat):Exit→Act→World→Prop:=
 nN fun a w=>∃ l',dN N l' a∧∃ CH':Array Obj→Prop,(∀ H,CH' H→CH H)∧(ba i n=true→CH' w.heap)∧Sx P N ops n CH' effs K0 r l' w
theorem Wo{o:Oper}(hi:ops[i]?=some o)(he:effs.contains i=true)(h:Sl P N ops (KX P N ops n CH effs K0 i r) [o] l w):Sx P N ops n CH effs K0 (i::r) l w:=
 ⟨_,hi,by rw[he];exact h⟩
theorem Wu(hc:CH w.heap)(h:Sx P N ops n CH effs K0 r l w):Sl P N ops (KX P N ops n CH effs K0 i r) [] l w:=fun _ ha=>⟨l,ha,CH,fun _ h=>h,fun _=>hc,h⟩
theorem Zj(E:Array Obj→Prop)(hc:CH w.heap)(he:E w.heap)(h:Sx P N ops n (fun H=>CH H∧E H) effs K0 r l w):Sl P N ops (KX P N ops n CH effs K0 i r) [] l w:=fun _ ha=>⟨l,ha,_,fun _ h=>h.1,fun _=>⟨hc,he⟩,h⟩
theorem WW(hb:ba i n=false)(h:Sx P N ops n CH effs K0 r l w):Sl P N ops (KX P N ops n CH effs K0 i r) [] l w:=fun _ ha=>⟨l,ha,CH,fun _ h=>h,(fun h0=>by rw[hb] at h0;cases h0),h⟩
theorem Zk(h:At N .normal Q l w):Sx P N ops n CH effs (fun a w=>Q .normal a w) [] l w:=fun a ha=>h a ha
theorem Ww{id:Nat}{lops:List Oper}(n:Nat)(ord:List Nat)(hm:P.follows .mixedOrders=true)(hs:(Region.noSelect lops.toArray && vB lops.toArray n &&
 sJ lops.toArray n [] ord (fa lops.length false) && ik ord.length lops.length)=true)
 (h:Sx P N lops.toArray n (· = w.heap) [] (fun a w=>Q .normal a w) ord l (w.drewN 1)):Sc P N (.region id lops.toArray true) Q l w:=
 Wv n (· = w.heap) [] ord hm hs rfl h
end
inductive GoR:Nat→Prop→Prop→Prop
 |z {p:Prop}:GoR 0 p p
 |s {n:Nat} {p q r:Prop} (h:r→p) (k:GoR n r q):GoR (n+1) p q
theorem GoR.run{n:Nat}{p q:Prop}(h:GoR n p q):q→p:=by
  induction h with
 |z=>exact id
 |s f _ ih=>exact fun h=>f (ih h)
section
variable {P:Program}{N:Nt}{Q:Exit→Act→World→Prop}{l:SF}{w:World}{ops:Array Oper}{rest:List Oper}{k d:Nat}{z:Prop}{ty:TypeId}{pos:String}{aft:Array Edge}{v:Value}
theorem gA1{y:Code}(h:GoR k (Sc P N y Q l w) z):GoR (k+1) (At N .normal (Exit.then (y.wp P Q) Q) l w) z:=.s Zm h
theorem gA2{K:Act→World→Prop}(h:GoR k (At N .ret Q l w) z):GoR (k+1) (At N .ret (Exit.then K Q) l w) z:=.s X6 h
theorem gA3{K:Act→World→Prop}{id:Nat}(h:GoR k (At N (.exit id) Q l w) z):GoR (k+1) (At N (.exit id) (Exit.then K Q) l w) z:=.s XZ h
theorem gA4{i:Nat}(h:GoR k (At N .ret Q l w) z):GoR (k+1) (At N .ret (Exit.inBlock i Q) l w) z:=.s X0 h
theorem gA5{i:Nat}(h:GoR k (At N .normal Q l w) z):GoR (k+1) (At N .normal (Exit.inBlock i Q) l w) z:=.s XM h
theorem gA6{i:Nat}(h:GoR k (At N .normal Q l w) z):GoR (k+1) (At N (.exit i) (Exit.inBlock i Q) l w) z:=.s X1 h
theorem gC1{x y:Code}(h:GoR k (Sc P N x (Exit.then (y.wp P Q) Q) l w) z):GoR (k+1) (Sc P N (.seq x y) Q l w) z:=.s Zg h
theorem gC2{id:Nat}{os:List Oper}(h:GoR k (Sl P N os.toArray Q os l w) z):GoR (k+1) (Sc P N (.region id os.toArray false) Q l w) z:=.s Yv h
theorem gC3{c:Operand}{x y:Code}(hc:evL l c=some (.bool true))(h:GoR k (Sc P N x Q l w) z):GoR (k+1) (Sc P N (.cond c x y) Q l w) z:=.s (Yw hc) h
theorem gC4{c:Operand}{x y:Code}(hc:evL l c=some (.bool false))(h:GoR k (Sc P N y Q l w) z):GoR (k+1) (Sc P N (.cond c x y) Q l w) z:=.s (Yx hc) h
theorem gC5(h:GoR k (At N .normal Q l w) z):GoR (k+1) (Sc P N .skip Q l w) z:=.s YW h
theorem gC6{id:Nat}{c:Code}(h:GoR k (Sc P N c (Exit.inBlock id Q) l w) z):GoR (k+1) (Sc P N (.block id c) Q l w) z:=.s YI h
theorem gC7{id:Nat}(h:GoR k (At N (.exit id) Q l w) z):GoR (k+1) (Sc P N (.exit id) Q l w) z:=.s YX h
theorem gC8(h:GoR k (At N .ret Q l w) z):GoR (k+1) (Sc P N .ret Q l w) z:=.s Zh h
theorem gL0(h:GoR k (At N .normal Q l w) z):GoR (k+1) (Sl P N ops Q [] l w) z:=.s Zi h
theorem gL3{op:Op}{j s:Nat}{b:Bool}{u:Value}(hj:(ops[j]?).bind (·.dst)=some s)(hs:lk l s=some u)(hb:BM u b=true)(hd:Nat.blt d N.n=true)(h:GoR k (Sl P N ops Q rest ((d,undef)::l) w) z):GoR (k+1) (Sl P N ops Q (⟨some d,op,ty,pos,aft,some (j,b)⟩::rest) l w) z:=.s (Xb hj hs hb hd) h
end
section
variable {P:Program}{N:Nt}{Q:Exit→Act→World→Prop}{l:SF}{w:World}{ops:Array Oper}{k i d n:Nat}{z:Prop}{ty:TypeId}{pos:String}{aft:Array Edge}{v:Value}{CH:Array Obj→Prop}{effs r:List Nat}{K0:Act→World→Prop}
theorem gX0(h:GoR k (At N .normal Q l w) z):GoR (k+1) (Sx P N ops n CH effs (fun a w=>Q .normal a w) [] l w) z:=.s Zk h
theorem gX3{op:Op}{j s:Nat}{b:Bool}{u:Value}(hi:ops[i]?=some ⟨some d,op,ty,pos,aft,some (j,b)⟩)(he:effs.contains i=false)(hj:(ops[j]?).bind (·.dst)=some s)(hs:lk l s=some u)(hb:BM u b=true)(hd:Nat.blt d N.n=true)(h:GoR k (Sx P N ops n CH effs K0 r ((d,undef)::l) w) z):GoR (k+1) (Sx P N ops n CH effs K0 (i::r) l w) z:=.s (Y8 hi he hj hs hb hd) h
end
class Fld (P:Program)(s f:Nat)(off:outParam Nat):Prop where h:Rf P s f off=true
class Sca (P:Program)(t:Nat):Prop where h:gZ P t=true
class Slt (P:Program)(t:Nat):Prop where h:∃ e size bytes,aZ P t e size bytes
theorem vN{H:Array Obj}{p:Nat}{cs:List Value}{T:TypeId}{fr:Nat×Nat}(h:H[p]?=some (.cells cs.toArray T fr)){i:Nat}{v:Value}(hi:cs[i]?=some v):bK H ((⟨p,0,none⟩:Addr).add i)=some v:=by
  rw[Addr.add_lit,Nat.zero_add];simp[bK,h,hi]
section
variable {P:Program}{N:Nt}{l:SF}{ty:TypeId}{pos:String}{aft:Array Edge}{v:Value}{CH:Array Obj→Prop}{x y:Operand}{t t':TypeId}{g:Option (Nat×Bool)}{dd:Option Nat}
theorem Yy{ad:Addr}{s f off:Nat}[hs:Fld P s f off](hx:evL l x=some (.pointer (some ad))):Cm P N CH l ⟨dd,.fieldAddr s x f,ty,pos,aft,g⟩ (.pointer (some (ad.add off))):=YL hs.h hx
theorem Y9[ht:Slt P t]{ao:Option Addr}{c n:Nat}(hx:evL l x=some (.slice ao n c)):Cm P N CH l ⟨dd,.call ⟨.builtin .len,#[x],#[t]⟩,ty,pos,aft,g⟩ (.int .i64 n):=by
  obtain⟨_,_,_,h⟩:=ht.h;exact Ym h hx
theorem Zl{H:Array Obj}{ad:Addr}[ht:Sca P t](hx:evL l x=some (.pointer (some ad)))(hc:bK H ad=some v):Cm P N (· = H) l ⟨dd,.load t x,ty,pos,aft,g⟩ v:=Wk ht.h hx hc
theorem Xs{ad:Addr}[ht:Sca P t](hx:evL l x=some (.pointer (some ad)))(hc:∀ H,CH H→bK H ad=some v):Cm P N CH l ⟨dd,.load t x,ty,pos,aft,g⟩ v:=Wt ht.h hx hc
end
section
variable {P:Program}{N:Nt}{Q:Exit→Act→World→Prop}{l:SF}{w:World}{ops:Array Oper}{rest:List Oper}{k d i n:Nat}{ty:TypeId}{pos:String}{aft:Array Edge}{v:Value}{op:Op}{z:Prop}{CH:Array Obj→Prop}{effs r:List Nat}{K0:Act→World→Prop}
theorem gV1(hv:Cm P N (· = w.heap) l ⟨some d,op,ty,pos,aft,none⟩ v)(hd:Nat.blt d N.n=true)(h:GoR k (Sl P N ops Q rest ((d,v)::l) w) z):GoR (k+1) (Sl P N ops Q (⟨some d,op,ty,pos,aft,none⟩::rest) l w) z:=.s (XG hv hd) h
theorem gV2{j s:Nat}{b:Bool}(hj:(ops[j]?).bind (·.dst)=some s)(hs:lk l s=some (.bool b))(hv:Cm P N (· = w.heap) l ⟨some d,op,ty,pos,aft,some (j,b)⟩ v)(hd:Nat.blt d N.n=true)(h:GoR k (Sl P N ops Q rest ((d,v)::l) w) z):GoR (k+1) (Sl P N ops Q (⟨some d,op,ty,pos,aft,some (j,b)⟩::rest) l w) z:=.s (XN hj hs hv hd) h
theorem gV3(hi:ops[i]?=some ⟨some d,op,ty,pos,aft,none⟩)(he:effs.contains i=false)(hv:Cm P N CH l ⟨some d,op,ty,pos,aft,none⟩ v)(hd:Nat.blt d N.n=true)(h:GoR k (Sx P N ops n CH effs K0 r ((d,v)::l) w) z):GoR (k+1) (Sx P N ops n CH effs K0 (i::r) l w) z:=.s (XO hi he hv hd) h
theorem gV4{j s:Nat}{b:Bool}(hi:ops[i]?=some ⟨some d,op,ty,pos,aft,some (j,b)⟩)(he:effs.contains i=false)(hj:(ops[j]?).bind (·.dst)=some s)(hs:lk l s=some (.bool b))(hv:Cm P N CH l ⟨some d,op,ty,pos,aft,some (j,b)⟩ v)(hd:Nat.blt d N.n=true)(h:GoR k (Sx P N ops n CH effs K0 r ((d,v)::l) w) z):GoR (k+1) (Sx P N ops n CH effs K0 (i::r) l w) z:=.s (XP hi he hj hs hv hd) h
end
section
variable {P:Program}{N k:Nat}{fn:Func}{R:Ending→World→Prop}{l:SF}{w:World}{z:Prop}{t u s:Nat}{v x y:Value}
theorem gR1(hr:fn.results=#[.tmp t])(hv:lk l t=some v)(h:GoR k (R (.returned v) w) z):GoR (k+1) (At ⟨N,[]⟩ .ret (bodyPost P fn R) l w) z:=.s (YZ hr hv) h
theorem gR2(hr:fn.results=#[.tmp t,.tmp u])(hv:lk l t=some v)(hx:lk l u=some x)(h:GoR k (R (.returned (.tuple #[v,x])) w) z):GoR (k+1) (At ⟨N,[]⟩ .ret (bodyPost P fn R) l w) z:=.s (Y0 hr hv hx) h
theorem gR3(hr:fn.results=#[.tmp t,.tmp u,.tmp s])(hv:lk l t=some v)(hx:lk l u=some x)(hy:lk l s=some y)(h:GoR k (R (.returned (.tuple #[v,x,y])) w) z):GoR (k+1) (At ⟨N,[]⟩ .ret (bodyPost P fn R) l w) z:=.s (Y1 hr hv hx hy) h
theorem gR0(hr:fn.results=#[])(h:GoR k (R (.returned (.tuple #[])) w) z):GoR (k+1) (At ⟨N,[]⟩ .ret (bodyPost P fn R) l w) z:=.s (Y2 hr) h
end
theorem Gp (n : Nat) {p q : Prop} (h : GoR n p q := by
  repeat first
    | exact .z
    | with_reducible apply gA1
    | with_reducible apply gC1
    | with_reducible apply gC2
    | with_reducible apply gL0
    | ((with_reducible apply gL3); exact rfl; exact rfl; exact rfl; exact rfl)
    | ((with_reducible apply gC3); exact rfl)
    | ((with_reducible apply gC4); exact rfl)
    | with_reducible apply gC5
    | with_reducible apply gC6
    | with_reducible apply gC7
    | with_reducible apply gC8
    | with_reducible apply gA2
    | with_reducible apply gA3
    | with_reducible apply gA4
    | with_reducible apply gA5
    | with_reducible apply gA6
    | with_reducible apply gX0
    | ((with_reducible apply gX3); exact rfl; exact rfl; exact rfl; exact rfl; exact rfl; exact rfl)
    | ((first
        | with_reducible apply gV1
        | ((with_reducible apply gV2); exact rfl; exact rfl)
        | ((with_reducible apply gV3); exact rfl; exact rfl)
        | ((with_reducible apply gV4); exact rfl; exact rfl; exact rfl; exact rfl))
       (first
        | exact WU rfl
        | exact W3 rfl
        | exact Xw rfl rfl
        | exact Xq rfl rfl
        | exact Xt rfl rfl
        | exact X7 rfl
        | exact Yy rfl
        | exact Y9 rfl
        | exact W5 rfl rfl (by omega)
        | exact XH rfl rfl (by omega)
        | (apply Zl; exact rfl; apply vN; assumption; exact rfl)
        | exact Xs rfl (fun H hH => vN hH rfl)
        | exact Xs rfl (fun H hH => vN hH.1 rfl)
        | exact Xs rfl (fun H hH => vN hH.2 rfl)
        | exact Xs rfl (fun H hH => vN hH.1.1 rfl)
        | exact Xs rfl (fun H hH => vN hH.2.1 rfl)
        | exact Xs rfl (fun H hH => vN hH.2.2 rfl)
        | exact Xs rfl (fun H hH => vN hH.2.2.1 rfl))
       exact rfl)
    | ((with_reducible apply gR1); exact rfl; exact rfl)
    | ((with_reducible apply gR2); exact rfl; exact rfl; exact rfl)
    | ((with_reducible apply gR3); exact rfl; exact rfl; exact rfl; exact rfl)
    | ((with_reducible apply gR0); exact rfl)) : GoR n p q := h
theorem Gz(n:Nat){p q:Prop}(k:q)(h:GoR n p q:=by exact Gp _):p:=h.run k
section
variable {P:Program}{N:Nt}{Q:Exit→Act→World→Prop}{l:SF}{w:World}{ops:Array Oper}{rest:List Oper}{d i n:Nat}{ty:TypeId}{pos:String}{aft:Array Edge}{op:Op}{CH:Array Obj→Prop}{effs r:List Nat}{K0:Act→World→Prop}{p:Prop}[Decidable p]
theorem fK(m:Nat){z:Prop}(h1:p→Sl P N ops Q rest ((d,.bool true)::l) w)(h2:¬ p→Sl P N ops Q rest ((d,.bool false)::l) w)(hg:GoR m z (Sl P N ops Q (⟨some d,op,ty,pos,aft,none⟩::rest) l w):=by exact Gp _)(hv:Cm P N (· = w.heap) l ⟨some d,op,ty,pos,aft,none⟩ (.bool (decide p)):=by first|exact Xr rfl rfl|exact W4 rfl rfl|exact Xn rfl rfl|exact XA rfl rfl|exact XL rfl rfl|exact XB rfl rfl|exact XC rfl rfl|exact Xj rfl rfl)(hd:Nat.blt d N.n=true:=by rfl):z:=hg.run (WF hv hd h1 h2)
theorem fW(m:Nat){z:Prop}{j s:Nat}{b:Bool}(h1:p→Sl P N ops Q rest ((d,.bool true)::l) w)(h2:¬ p→Sl P N ops Q rest ((d,.bool false)::l) w)(hg:GoR m z (Sl P N ops Q (⟨some d,op,ty,pos,aft,some (j,b)⟩::rest) l w):=by exact Gp _)(hj:(ops[j]?).bind (·.dst)=some s:=by rfl)(hs:lk l s=some (.bool b):=by rfl)(hv:Cm P N (· = w.heap) l ⟨some d,op,ty,pos,aft,some (j,b)⟩ (.bool (decide p)):=by first|exact Xr rfl rfl|exact W4 rfl rfl|exact Xn rfl rfl|exact XA rfl rfl|exact XL rfl rfl|exact XB rfl rfl|exact XC rfl rfl|exact Xj rfl rfl)(hd:Nat.blt d N.n=true:=by rfl):z:=hg.run (WV hj hs hv hd h1 h2)
theorem xK(m:Nat){z:Prop}(h1:p→Sx P N ops n CH effs K0 r ((d,.bool true)::l) w)(h2:¬ p→Sx P N ops n CH effs K0 r ((d,.bool false)::l) w)(hg:GoR m z (Sx P N ops n CH effs K0 (i::r) l w):=by exact Gp _)(hi:ops[i]?=some ⟨some d,op,ty,pos,aft,none⟩:=by rfl)(he:effs.contains i=false:=by rfl)(hv:Cm P N CH l ⟨some d,op,ty,pos,aft,none⟩ (.bool (decide p)):=by first|exact Xr rfl rfl|exact W4 rfl rfl|exact Xn rfl rfl|exact XA rfl rfl|exact XL rfl rfl|exact XB rfl rfl|exact XC rfl rfl|exact Xj rfl rfl)(hd:Nat.blt d N.n=true:=by rfl):z:=hg.run (X3 hi he hv hd h1 h2)
theorem xW(m:Nat){z:Prop}{j s:Nat}{b:Bool}(h1:p→Sx P N ops n CH effs K0 r ((d,.bool true)::l) w)(h2:¬ p→Sx P N ops n CH effs K0 r ((d,.bool false)::l) w)(hg:GoR m z (Sx P N ops n CH effs K0 (i::r) l w):=by exact Gp _)(hi:ops[i]?=some ⟨some d,op,ty,pos,aft,some (j,b)⟩:=by rfl)(he:effs.contains i=false:=by rfl)(hj:(ops[j]?).bind (·.dst)=some s:=by rfl)(hs:lk l s=some (.bool b):=by rfl)(hv:Cm P N CH l ⟨some d,op,ty,pos,aft,some (j,b)⟩ (.bool (decide p)):=by first|exact Xr rfl rfl|exact W4 rfl rfl|exact Xn rfl rfl|exact XA rfl rfl|exact XL rfl rfl|exact XB rfl rfl|exact XC rfl rfl|exact Xj rfl rfl)(hd:Nat.blt d N.n=true:=by rfl):z:=hg.run (Xk hi he hj hs hv hd h1 h2)
end
theorem cS{P:Program}{f:FuncId}{fn:Func}{c:Code}{args:List Value}{w:World}{R:Ending→World→Prop}(N:Nat)(l:SF)(hf:P.funcs[f]?=some fn)(h:Sc P ⟨N,[]⟩ c (bodyPost P fn R) l w)(hb:fn.body=some c:=by rfl)(hN:fn.ntmps=N:=by rfl)(hle:Nat.ble args.length N=true:=by rfl)(hl:Sub l ((List.range args.length).zip args):=by repeat first|exact trivial|refine⟨rfl,?_⟩):Calls P f args.toArray w R:=F1 N l hf hb hN hle (xR hl) h
section
variable {P:Program}{N:Nt}{Q:Exit→Act→World→Prop}{l:SF}{w:World}{ops:Array Oper}{rest:List Oper}{d i n:Nat}{ty:TypeId}{pos:String}{aft:Array Edge}{op:Op}{v:Value}{CH:Array Obj→Prop}{effs r:List Nat}{K0:Act→World→Prop}
theorem cA(m:Nat){z:Prop}{f:FuncId}{xs:List Operand}{vs:List Value}{ts:Array TypeId}(hf:fnB P f=true){R:Value→World→Prop}(hc:Calls P f vs.toArray w (Ret R))(h:∀ v w',R v w'→Sl P N ops Q rest ((d,v)::l) w')(hg:GoR m z (Sl P N ops Q (⟨some d,.call ⟨.value (.func f),xs.toArray,ts⟩,ty,pos,aft,none⟩::rest) l w):=by exact Gp _)(hx:yA l xs=some vs:=by rfl)(hd:Nat.blt d N.n=true:=by rfl):z:=hg.run (Wh hf hx hc hd h)
theorem cL(hv:Cm P N (· = w.heap) l ⟨some d,op,ty,pos,aft,none⟩ v)(h:Sl P N ops Q rest ((d,v)::l) w)(hd:Nat.blt d N.n=true:=by rfl):Sl P N ops Q (⟨some d,op,ty,pos,aft,none⟩::rest) l w:=XG hv hd h
theorem cW{j s:Nat}{b:Bool}(hv:Cm P N (· = w.heap) l ⟨some d,op,ty,pos,aft,some (j,b)⟩ v)(h:Sl P N ops Q rest ((d,v)::l) w)(hj:(ops[j]?).bind (·.dst)=some s:=by rfl)(hs:lk l s=some (.bool b):=by rfl)(hd:Nat.blt d N.n=true:=by rfl):Sl P N ops Q (⟨some d,op,ty,pos,aft,some (j,b)⟩::rest) l w:=XN hj hs hv hd h
theorem xC(hi:ops[i]?=some ⟨some d,op,ty,pos,aft,none⟩)(hv:Cm P N CH l ⟨some d,op,ty,pos,aft,none⟩ v)(h:Sx P N ops n CH effs K0 r ((d,v)::l) w)(he:effs.contains i=false:=by rfl)(hd:Nat.blt d N.n=true:=by rfl):Sx P N ops n CH effs K0 (i::r) l w:=XO hi he hv hd h
theorem xV{j s:Nat}{b:Bool}(hi:ops[i]?=some ⟨some d,op,ty,pos,aft,some (j,b)⟩)(hv:Cm P N CH l ⟨some d,op,ty,pos,aft,some (j,b)⟩ v)(h:Sx P N ops n CH effs K0 r ((d,v)::l) w)(he:effs.contains i=false:=by rfl)(hj:(ops[j]?).bind (·.dst)=some s:=by rfl)(hs:lk l s=some (.bool b):=by rfl)(hd:Nat.blt d N.n=true:=by rfl):Sx P N ops n CH effs K0 (i::r) l w:=XP hi he hj hs hv hd h
theorem aW{e:Exit}(l':SF)(h:At N e Q l' w)(hs:Sub l' l:=by repeat first|exact trivial|refine⟨rfl,?_⟩):At N e Q l w:=YY l' hs h
end
theorem aA.tw{S:Nat→Prop}{w w1 w2:World}{y:Nat}(h:aA S w w1)(g:aA (· = y) w1 w2)(hy:w.heap.size≤y:=by first|omega|(dsimp only;omega)):aA S w w2:=h.ZJ g (fun k hk=>.inr (by have e:k=y:=hk;omega))
abbrev iV(x:Int):Value:=.int .i64 x
section
variable {N:Nt}{l:SF}{w:World}{Q:Exit→Act→World→Prop}{β:Type}{L:β→SF}{J:β→World→Prop}{μ:β→Nat}{b:β}
theorem aG(b':β)(hJ:J b' w)(hm:μ b'<μ b)(hl:Sub (L b') l:=by repeat first|exact trivial|refine⟨rfl,?_⟩):At N .normal (Exit.then (NR N L J μ b) Q) l w:=Wz b' hl hJ hm
theorem aC(b:β)(hJ:J b w)(hl:Sub (L b) l:=by repeat first|exact trivial|refine⟨rfl,?_⟩):At N .normal (Exit.then (fun a w=>∃ b,dN N (L b) a∧J b w) Q) l w:=WY b hl hJ
end
abbrev By:=List UInt8
abbrev pT(p:Nat):Value:=.pointer (some ⟨p,0,none⟩)
abbrev sN:Value:=.slice none 0 0
def places(P:Program)(t:TypeId):Option (List (Nat×Nat)):=
 match P.underlying t with
|some (.struct fs)=>fs.toList.mapM fun f=>(P.info? f.type).map fun i=>(f.offset,i.size)
|_=>none
theorem pN{P:Program}{w:World}:∀ (fs:List Field) (pl:List (Nat×Nat)),(fs.mapM fun f=>(P.info? f.type).map fun i=>(f.offset,i.size))=some pl →
 (fs.mapM fun(f:Field)=>(do pure (f.offset,←sizeOf f.type):Sem (Nat×Nat))).run P w=.ok pl w
|[],pl,h=>by simp at h;subst h;simp
|f::r,pl,h=>by
   simp only[List.mapM_cons,Option.bind_eq_bind,Option.bind_eq_some_iff,ae,Option.pure_def,dx.injEq] at h;obtain⟨p,⟨i,hi,rfl⟩,ps,hps,rfl⟩:=h;have ih:=pN (w:=w) r ps hps;simp[List.mapM_cons,sizeOf,typeInfo,hi];simp[sizeOf,typeInfo] at ih;rw[ih];rfl
def evPs(l:SF):List (Nat×Operand)→Option (List (Nat×Value))
|[]=>some []
|(i,x)::r=>match evL l x,evPs l r with
  |some v,some vs=>some ((i,v)::vs)
  |_,_=>none
theorem dN.evPs{N:Nt}{l:SF}{a:Act}(h:dN N l a):∀ {xs:List (Nat×Operand)} {vs:List (Nat×Value)},Go.Proofs.YthdecfkdgdagcaaGreat.evPs l xs=some vs→xs.map (fun p=>(p.1,a.eval p.2))=vs
|[],vs,e=>by simp[Go.Proofs.YthdecfkdgdagcaaGreat.evPs] at e;simp[e]
|(i,x)::r,vs,e=>by
   unfold Go.Proofs.YthdecfkdgdagcaaGreat.evPs at e
   split at e
   · rename_i v us h1 h2
     cases e;simp[h.ev h1,h.evPs h2]
   ·cases e
section
variable {P:Program}{N:Nt}{Q:Exit→Act→World→Prop}{l:SF}{w:World}{ops:Array Oper}{rest:List Oper}
variable {op:Op}{ty:TypeId}{pos:String}{aft:Array Edge}{d:Nat}{v:Value}{CH:Array Obj→Prop}
variable {x y:Operand}{t t':TypeId}{g:Option (Nat×Bool)}{dd:Option Nat}
theorem WA{parts:List (Nat×Operand)}{vs:List (Nat×Value)}{pl:List (Nat×Nat)}{zc cs:Array Value}(hp:places P t=some pl)(hz:(P.info? t).map (fun i=>i.zero.map (·.cells))=some (some zc))
 (hx:evPs l parts=some vs)(hf:Instr.fill (fun i=>pl.toArray[i]?) zc vs=some cs):Cm P N CH l ⟨dd,.build t parts.toArray,ty,pos,aft,g⟩ (.agg cs):=fun a w ha _=>by
 unfold places at hp
 split at hp
 · rename_i fs hu
   obtain⟨i,hi,h1⟩:=ae.1 hz;obtain⟨z,hz',rfl⟩:=ae.1 h1;have hm:=pN (P:=P) (w:=w) fs.toList pl hp;have hm':(fs.mapM fun(f:Field)=>(do pure (f.offset,←sizeOf f.type):Sem (Nat×Nat))).run P w=.ok pl.toArray w:=by
    rw[←Array.toArray_toList (xs:=fs),List.mapM_toArray];simp only[Sem.run_map,hm,Result.andThen_ok]
   have hv:=ha.evPs hx;simp only[execOp,Instr.build,Sem.run_bind,zeroValue,typeInfo,run_program,Result.andThen_ok,hi,hz',run_underlying hu,Sem.run_pure,hm',jf,hv];rw[hf];simp
 ·cases hp
theorem bU {parts:List (Nat×Operand)} {vs:List (Nat×Value)} {pl:List (Nat×Nat)} {zc:Array Value} (cs:List Value) (hp:places P t=some pl) (hz:(P.info? t).map (fun i=>i.zero.map (·.cells))=some (some zc)) (hx:evPs l parts=some vs:=by rfl) (hf:Instr.fill (fun i=>pl.toArray[i]?) zc vs=some cs.toArray:=by kernel_rfl):Cm P N CH l ⟨dd,.build t parts.toArray,ty,pos,aft,g⟩ (.agg cs.toArray):=WA hp hz hx hf
theorem Xg{e:TypeId}{size bytes:Nat}(ht:aZ P t e size bytes){ao:Option Addr}{n c:Nat}(hx:evL l x=some (.slice ao n c))(hy:evL l y=some sN):Cm P N CH l ⟨dd,.binOp .eql t x y t',ty,pos,aft,g⟩ (.bool ao.isNone):=fun b w ha _=>by
 simp only[execOp,ha.ev hx,ha.ev hy];have:=Lib.run_eql_slice_nil w t e ao n c 0 0 ht.und;cases ao<;>simp[eqGuard] at this ⊢<;>simp[this]
theorem Xp{α:Type}(enc:α→Value){e:TypeId}(z0:α){bytes:Nat}(ht:aZ P t e 1 bytes)(hz:(P.info? e).map (·.zero)=some (some (enc z0)))(h1:(enc z0).oneCell'=true){k k':IntKind}{n m:Int}
 (hx:evL l x=some (.int k n))(hy:evL l y=some (.int k' m))(h0:0≤n)(hnm:n≤m)(hn:(bytes:Int)*m≤281474976710656)(hm:m≤9223372036854775807)(hd:ba d N.n=true)
 (h:∀ w',Own enc e w'.heap (some ⟨w.heap.size,0,none⟩) m.toNat (bg n.toNat z0)→w'.heap.size=w.heap.size+1→aA nob w w'→Sl P N ops Q rest ((d,.slice (some ⟨w.heap.size,0,none⟩) n.toNat m.toNat)::l) w') :
 Sl P N ops Q (⟨some d,.makeSlice t x y,ty,pos,aft,none⟩::rest) l w:=by
 obtain⟨i,z,hi,hz1,hzc,h2,h3⟩:=ht.parts;have hzz:z=enc z0:=by rw[hi] at hz;simp[hz1] at hz;exact hz
 subst hzz;have hc:(enc z0).cells=#[enc z0]:=by cases he:enc z0<;>simp_all [Value.cells,Value.oneCell']
 have hr:=run_make (P:=P) w t e i (enc z0) ht.und hi hz1 k k' n m h0 hnm (by rw[h3];exact hn) hm;have hmc:madeCells (enc z0).cells (m.toNat*i.size)=(bg m.toNat (enc z0)).toArray:=by
  rw[hc,h2,Nat.mul_one];apply Array.ext';rw[toList_madeCells_one]
 rw[hmc] at hr;refine W2 (w':=w.alloc (.cells (bg m.toNat (enc z0)).toArray e)) (fun a ha=>?_) hd (h _ ?_ (by simp) (aA.alloc _ _ _))
 ·simp only[execOp,ha.ev hx,ha.ev hy,Sem.run_bind,hr,Result.andThen_ok,Sem.run_pure]
 · refine .inr ⟨w.heap.size,_,rfl,heap_alloc_new w _,by simp;omega,by unfold maxLen;omega,by simp,?_⟩
   simp;omega
theorem Own.set{α:Type}{enc:α→Value}{e:TypeId}{H H':Array Obj}{ao:Option Addr}{cap:Nat}{xs:List α}(h:Own enc e H ao cap xs){a:Addr}(ha:ao=some a){i:Nat}{u:α}{cur:Array Value}(hg:H[a.block]?=some (.cells cur e (0,0)))
 (hg':H'[a.block]?=some (.cells (cur.setIfInBounds i (enc u)) e (0,0))):Own enc e H' ao cap (xs.set i u):=by
 rcases h with⟨rfl,_⟩|⟨g,cur',rfl,hg2,h1,h2,h3,h4⟩
 ·cases ha
 · cases ha
   rw[hg] at hg2;cases hg2;refine .inr ⟨g,_,rfl,hg',by simpa using h1,h2,by simpa using h3,?_⟩;simp only[List.length_set,Array.toList_setIfInBounds,List.map_set];rw[List.take_set,h4]
theorem W0{α:Type}{enc:α→Value}(henc:∀ x,(enc x).oneCell'=true)(ht:gZ P t=true){e:TypeId}{ao:Option Addr}{cap:Nat}{xs:List α}{z:Int}{u:α}(hx:evL l x=some (.pointer (some (adr ao z.toNat))))(hy:evL l y=some (enc u))
 (ho:Own enc e w.heap ao cap xs)(hz:0≤z∧z<xs.length)
 (h:∀ w',Own enc e w'.heap ao cap (xs.set z.toNat u)→w'.heap.size=w.heap.size→aA (blk ao) w w'→Sl P N ops Q rest l w') :
 Sl P N ops Q (⟨none,.store t x y,ty,pos,aft,none⟩::rest) l w:=by
 have ho2:=ho;rcases ho with⟨rfl,_,rfl⟩|⟨g,cur,rfl,hg,h1,h2,h3,h4⟩
 ·simp at hz;omega
 · have hi:z.toNat<cur.toList.length:=by simp[h3];omega
   have e1:adr (some (⟨g,0,none⟩:Addr)) z.toNat=⟨g,z.toNat,none⟩:=by
    show (⟨g,0,none⟩:Addr).add _=_;rw[Addr.add_lit,cx]
   rw[e1] at hx;refine Wl (cur:=cur.toList) (T:=e) ht hx hy (henc u) (by simpa using hg) (by simpa[dg] using hi) ?_;intro w' hw hs hf;refine h w' (Own.set ho2 (i:=z.toNat) rfl hg ?_) hs (hf.mono (fun k hk=>⟨_,rfl,hk.symm⟩));rw[hw];congr 2;apply Array.ext';simp
end
section
variable {P:Program}{N:Nt}{Q:Exit→Act→World→Prop}{l:SF}{w:World}{ops:Array Oper}{rest:List Oper}
variable {op:Op}{ty:TypeId}{pos:String}{aft:Array Edge}{d:Nat}{v:Value}{CH:Array Obj→Prop}
variable {x y:Operand}{t t':TypeId}{g:Option (Nat×Bool)}{dd:Option Nat}{k k':IntKind}{m n:Int}
theorem X4(hx:evL l x=some (iV m))(hy:evL l y=some (.int k' n))(hn:0≤n∧n≤64):Cm P N CH l ⟨dd,.binOp .shr t x y t',ty,pos,aft,g⟩ (iV (m/2 ^ n.toNat)):=fun a w ha _=>by
 simp only[execOp,ha.ev hx,ha.ev hy,eqGuard,binOp,Sem.run_bind];simp
theorem Za(hx:evL l x=some (iV m))(hy:evL l y=some (.int k' n))(hn:0≤n∧n≤64):Cm P N CH l ⟨dd,.binOp .shl t x y t',ty,pos,aft,g⟩ (iV (IntKind.i64.wrap (m*2 ^ n.toNat))):=fun a w ha _=>by
 simp only[execOp,ha.ev hx,ha.ev hy,eqGuard,binOp,Sem.run_bind];simp
theorem X9(hx:evL l x=some (iV m))(hy:evL l y=some (.int k' n))(hn:0≤n∧n≤64)(hb : -9223372036854775808≤m*2 ^ n.toNat∧m*2 ^ n.toNat≤9223372036854775807) :
 Cm P N CH l ⟨dd,.binOp .shl t x y t',ty,pos,aft,g⟩ (iV (m*2 ^ n.toNat)):=by
 have:=@Za P N l ty pos aft CH x y t t' g dd k' m n hx hy hn;rwa[aU hb] at this
theorem rI{a:Nat}(h:a<2 ^ 63):(BitVec.ofInt 64 (a:Int)).toNat=a:=by
 simp;omega
theorem YM{a b:Nat}(hx:evL l x=some (iV a))(hy:evL l y=some (iV b))(ha:a<2 ^ 63)(hb:b<2 ^ 63):Cm P N CH l ⟨dd,.binOp .or t x y t',ty,pos,aft,g⟩ (iV ((a ||| b:Nat):Int)):=fun c w hc _=>by
 have h1:(a ||| b)<2 ^ 63:=Nat.or_lt_two_pow ha hb;have h2:(BitVec.ofInt 64 (a:Int) ||| BitVec.ofInt 64 (b:Int)).toNat=a ||| b:=by
  rw[BitVec.toNat_or,rI ha,rI hb]
 have h3:(Op.intBits .or .i64 (a:Int) (b:Int)).run P w=.ok (iV ((a ||| b:Nat):Int)) w:=by
  show (pure (Value.int .i64 (IntKind.i64.wrap ((BitVec.ofInt 64 (a:Int) ||| BitVec.ofInt 64 (b:Int)).toNat:Int))):Sem Value).run P w=_;rw[h2,aU (by omega)];rfl
 simp[execOp,hc.ev hx,hc.ev hy,binOp,eqGuard];rw[h3];rfl
theorem Zb{a b:Nat}(hx:evL l x=some (iV a))(hy:evL l y=some (iV b))(ha:a<2 ^ 63)(hb:b<2 ^ 63):Cm P N CH l ⟨dd,.binOp .and t x y t',ty,pos,aft,g⟩ (iV ((a &&& b:Nat):Int)):=fun c w hc _=>by
 have h1:(a &&& b)<2 ^ 63:=ir Nat.and_le_left ha;have h2:(BitVec.ofInt 64 (a:Int) &&& BitVec.ofInt 64 (b:Int)).toNat=a &&& b:=by
  rw[BitVec.toNat_and,rI ha,rI hb]
 have h3:(Op.intBits .and .i64 (a:Int) (b:Int)).run P w=.ok (iV ((a &&& b:Nat):Int)) w:=by
  show (pure (Value.int .i64 (IntKind.i64.wrap ((BitVec.ofInt 64 (a:Int) &&& BitVec.ofInt 64 (b:Int)).toNat:Int))):Sem Value).run P w=_;rw[h2,aU (by omega)];rfl
 simp[execOp,hc.ev hx,hc.ev hy,binOp,eqGuard];rw[h3];rfl
theorem Ya{a b:By}(hx:evL l x=some (.string (bs a)))(hy:evL l y=some (.string (bs b))):Cm P N CH l ⟨dd,.binOp .lss t x y t',ty,pos,aft,g⟩ (.bool (Z8 a b)):=fun c w ha _=>by
 simp[execOp,ha.ev hx,ha.ev hy,eqGuard,binOp,iy,jD]
theorem YN{a b:By}(hx:evL l x=some (.string (bs a)))(hy:evL l y=some (.string (bs b))):Cm P N CH l ⟨dd,.binOp .leq t x y t',ty,pos,aft,g⟩ (.bool (Z8 a b || a == b)):=fun c w ha _=>by
 simp[execOp,ha.ev hx,ha.ev hy,eqGuard,binOp,iy,jD]
theorem XT{a b:By}(hx:evL l x=some (.string (bs a)))(hy:evL l y=some (.string (bs b))):Cm P N CH l ⟨dd,.binOp .gtr t x y t',ty,pos,aft,g⟩ (.bool (!(Z8 a b || a == b))):=fun c w ha _=>by
 simp[execOp,ha.ev hx,ha.ev hy,eqGuard,binOp,iy,jD]
theorem Yb{a b:By}(hx:evL l x=some (.string (bs a)))(hy:evL l y=some (.string (bs b))):Cm P N CH l ⟨dd,.binOp .geq t x y t',ty,pos,aft,g⟩ (.bool (!Z8 a b)):=fun c w ha _=>by
 simp[execOp,ha.ev hx,ha.ev hy,eqGuard,binOp,iy,jD]
theorem WM(ht:P.underlying t=some .string){s:By}(hx:evL l x=some (.string (bs s))) :
 Cm P N CH l ⟨dd,.call ⟨.builtin .len,#[x],#[t]⟩,ty,pos,aft,g⟩ (iV s.length):=by
 have:=@Y4 P N l ty pos aft CH x t g dd ht (bs s) hx;rwa[pI] at this
theorem XQ(ht:P.underlying t=some .string){s:By}(hx:evL l x=some (.string (bs s)))(hy:evL l y=some (.int k n))(hn:0≤n∧n<s.length) :
 Cm P N CH l ⟨dd,.index t x y,ty,pos,aft,g⟩ (b8 (s.getD n.toNat 0)):=fun c w ha _=>by
 have h1:n.toNat<s.length:=by omega
 have h2:n.toNat<(bs s).size:=by rw[pI];exact h1
 have h3:(bs s)[n.toNat]?=some (s.getD n.toNat 0):=by
  rw[getElem?_pos (bs s) n.toNat h2];have:(bs s)[n.toNat]=s[n.toNat]:=rfl;rw[this,Z2,ZQ h1];rfl
 simp[execOp,ha.ev hx,ha.ev hy,Instr.index,asIntOf,run_underlying ht,hn.1,h3,b8]
structure IbT (P:Program) (f:FuncId):Prop where
 fn : ∃ fn, P.funcs[f]? = some fn ∧ (fn.name == "runtime.NumGoroutine") = false ∧ fn.body.isNone = true ∧ Extern.findNext fn = none ∧ Extern.find fn = some Extern.BytealgIndexByte.indexByte
theorem Zw {P : Program} {f : FuncId} {fn : Func} (h0 : P.funcs[f]? = some fn) (h1 : (fn.name == "runtime.NumGoroutine") = false) (h2 : fn.body.isNone = true) (h3 : Extern.findNext fn = none) (h4 : Extern.find fn = some Extern.BytealgIndexByte.indexByte) : IbT P f := ⟨fn, h0, h1, h2, h3, h4⟩
theorem X5{f:FuncId}{ts:Array TypeId}(hf:IbT P f){s:By}{c:Int}(hx:evL l x=some (.string (bs s)))(hy:evL l y=some (.int .u8 c)) :
 Cm P N CH l ⟨dd,.call ⟨.value (.func f),#[x,y],ts⟩,ty,pos,aft,g⟩ (iV (Lib.indexByte s c.toNat.toUInt8)):=fun a w ha _=>by
 obtain⟨fn,h0,h1,h2,h3,h4⟩:=hf;have hr:=run_callFunc_extern h0 h1 h2 h3 h4 #[.string (bs s),.int .u8 c] w;rw[Lib.run_indexByteString] at hr;simp only[Result.andThen_ok] at hr;rw[←ha.ev hx,←ha.ev hy] at hr;simp[execOp,resolve,Act.eval,Deferred.ofValue,invoke] at hr ⊢;rw[hr];rfl
theorem sK(s:By)(c:UInt8):Lib.indexByte s c<0↔c∉s:=by
 induction s with
|nil=>simp[Lib.indexByte]
|cons b r ih=>
   have hge:=Lib.indexByte_ge r c;unfold Lib.indexByte;by_cases h:b=c
   ·simp[h]
   · simp only[beq_iff_eq,h,if_false,aw,not_or]
     split
     · rename_i h1
       rw[h1] at ih;have:=ih.1 (by decide);exact⟨fun _=>⟨fun e=>h e.symm,this⟩,fun _=>by decide⟩
     · rename_i h1
       constructor
       ·intro h2;omega
       · intro h2
         have:=ih.2 h2.2;omega
theorem Xy(ht:P.underlying t=some .bool){a b:Bool}(hx:evL l x=some (.bool a))(hy:evL l y=some (.bool b)):Cm P N CH l ⟨dd,.binOp .eql t x y t',ty,pos,aft,g⟩ (.bool (a == b)):=fun c w ha _=>by
 simp[execOp,ha.ev hx,ha.ev hy,eqGuard,binOp,run_equal_bool w t a b ht]
theorem Xf(ht:P.underlying t=some .bool){a b:Bool}(hx:evL l x=some (.bool a))(hy:evL l y=some (.bool b)):Cm P N CH l ⟨dd,.binOp .neq t x y t',ty,pos,aft,g⟩ (.bool (a != b)):=fun c w ha _=>by
 simp[execOp,ha.ev hx,ha.ev hy,eqGuard,binOp,run_equal_bool w t a b ht,bne]
theorem XU{e:TypeId}{size bytes:Nat}(hs:P.underlying t=some .string)(ht:aZ P t' e size bytes)(he:P.underlying e=some (.int .u8)){s:By}(hx:evL l x=some (.string (bs s)))(hl:s.length≤maxLen)(hd:ba d N.n=true)
 (h:∀ w' cap,Vw b8 w'.heap (some ⟨w.heap.size,0,none⟩) cap s→w'.heap.size=w.heap.size+1→aA nob w w'→Sl P N ops Q rest ((d,.slice (some ⟨w.heap.size,0,none⟩) s.length cap)::l) w') :
 Sl P N ops Q (⟨some d,.convert t t' x,ty,pos,aft,none⟩::rest) l w:=by
 have hr:=Lib.run_convert_string_bytes (P:=P) w t t' e (bs s) hs ht.und he;rw[pI] at hr;refine W2 (w':=Lib.bytesWorld w e (bs s)) (fun a ha=>?_) hd (h _ (grownCap w s.length 0 e) ⟨grownCap_ge w _ _ _,grownCap_le_maxLen w _ _ e hl,fun _=>by simp,fun i u hu=>?_⟩ (Lib.bytesWorld_size _ _ _) ?_)
 ·simp[execOp,ha.ev hx,hr]
 · have hi:i<s.length:=(ZS.1 hu).1
   have e1:adr (some (⟨w.heap.size,0,none⟩:Addr)) i=⟨w.heap.size,i,none⟩:=by
    show (⟨w.heap.size,0,none⟩:Addr).add _=_;rw[Addr.add_lit,cx]
   rw[e1,←cell?_eq,Lib.bytesWorld_cell w e (bs s) i (by rw[pI];exact hi)];simp[bs,hu,b8]
 ·refine⟨rfl,rfl,rfl,by rw[Lib.bytesWorld_size];omega,fun k hk _=>Lib.bytesWorld_at_old w e _ k hk⟩
theorem YO{e:TypeId}{size bytes:Nat}(ht:aZ P t e size bytes)(he:P.underlying e=some (.int .u8)){a:Nat}{cap:Nat}{xs:By}{cur:Array Value}(hx:evL l x=some (.slice (some ⟨a,0,none⟩) xs.length cap))
 (hg:w.heap[a]?=some (.cells cur e (0,0)))(hv:Vw b8 w.heap (some ⟨a,0,none⟩) cap xs)(hd:ba d N.n=true)
 (h:∀ w',Vw b8 w'.heap (some ⟨a,0,none⟩) cap xs→w'.heap.size=w.heap.size→aA (· = a) w w'→Sl P N ops Q rest ((d,.slice (some ⟨a,0,none⟩) xs.length cap)::l) w') :
 Sl P N ops Q (⟨some d,.convert t t x,ty,pos,aft,none⟩::rest) l w:=by
 have hsh:w.shape? a=some (e,cur.size):=by simp[World.shape?,hg]
 have hlt:=(Z1.1 hg)
 obtain⟨hal,hge⟩:=hlt;refine W2 (w':=w.freeze ⟨a,cur.size,none⟩ 1) (fun c hc=>?_) hd (h _ ⟨hv.le,hv.max,hv.non,fun i u hu=>?_⟩ ?_ ?_)
 ·simp[execOp,hc.ev hx,convert,run_underlying ht.und,run_underlying he,markStringish,hsh]
 · have h1:=hv.get i u hu
   have e1:adr (some (⟨a,0,none⟩:Addr)) i=⟨a,i,none⟩:=by
    show (⟨a,0,none⟩:Addr).add _=_;rw[Addr.add_lit,cx]
   rw[e1] at h1 ⊢;have h2:(w.freeze ⟨a,cur.size,none⟩ 1).heap[a]?=some (.cells cur e (cur.size,cur.size+1)):=by
    simp[World.freeze,Array.getElem?_modify,hg]
   unfold bK at h1 ⊢;rw[hg] at h1;rw[h2];exact h1
 ·simp[World.freeze]
 · exact⟨rfl,rfl,rfl,by simp[World.freeze],fun k hk hn=>by
    simp[World.freeze,Array.getElem?_modify,Ne.symm hn]⟩
end
theorem FZ{H:Array Obj}{a:Addr}{v:Value}(h:bK H a=some v):a.block<H.size:=by
 unfold bK at h
 split at h
 ·rename_i hb;exact(Z1.1 hb).1
 ·cases h
theorem dR{w w':World}{S:Nat→Prop}{a:Addr}{v:Value}(h:bK w.heap a=some v)(f:aA S w w')(hs:¬ S a.block):bK w'.heap a=some v:=by
 have hl:=FZ h;unfold bK at h ⊢;rw[f.same _ hl hs];exact h
structure VwM {α:Type}(k:Nat)(enc:α→List Value)(H:Array Obj)(ao:Option Addr)(cap:Nat)(xs:List α):Prop where
 le:xs.length≤cap
 max:cap≤maxLen
 non:xs.length≠0→ao≠none
 get:∀ i x,xs[i]?=some x→∀ j v,(enc x)[j]?=some v→bK H (adr ao (i*k+j))=some v
section
variable {α:Type}{k:Nat}{enc:α→List Value}{H:Array Obj}{ao:Option Addr}{cap:Nat}{xs:List α}
theorem Zx(c:Nat)(hc:c≤maxLen):VwM k enc H ao c []:=⟨by simp,hc,by simp,by simp⟩
theorem VwM.ZL(h:VwM k enc H ao cap xs):(xs.length:Int)≤9223372036854775807:=by have:=h.le;have:=h.max;unfold maxLen at this;omega
theorem VwM.ZN{w w':World}{S:Nat→Prop}(h:VwM k enc w.heap ao cap xs)(f:aA S w w')(hs:∀ a,ao=some a→¬ S a.block):VwM k enc w'.heap ao cap xs:=by
 refine⟨h.le,h.max,h.non,fun i x hx j v hv=>dR (h.get i x hx j v hv) f ?_⟩;have hne:xs.length≠0:=by have:=(ZS.1 hx).1;omega
 cases hao:ao with
|none=>exact absurd hao (h.non hne)
|some a=>rw[lT];exact hs a hao
theorem VwM.ZM{w w':World}(h:VwM k enc w.heap ao cap xs)(f:aA nob w w'):VwM k enc w'.heap ao cap xs:=h.ZN f (fun _ _=>id)
theorem VwM.take(h:VwM k enc H ao cap xs)(n:Nat):VwM k enc H ao cap (xs.take n):=
 ⟨by have:=h.le;simp;omega,h.max,fun hn=>h.non (fun e=>hn (by have:xs=[]:=Z9 e;simp[this])),fun i x hx=>h.get i x (by
  rw[ar] at hx
  split at hx
  ·exact hx
  ·cases hx)⟩
theorem VwM.row(h:VwM k enc H ao cap xs){i:Nat}{x:α}(hx:xs[i]?=some x):∀ j v,(enc x)[j]?=some v→bK H ((adr ao (i*k)).add j)=some v:=fun j v hv=>by
 have h1:=h.get i x hx j v hv;rwa[adr,←rZ] at h1
theorem VwM.rowZ(h:VwM k enc H ao cap xs){z:Int}(i:Nat)(hz:z=i){x:α}(hx:xs[i]?=some x):∀ j v,(enc x)[j]?=some v→bK H ((adr ao (z.toNat*k)).add j)=some v:=by
 subst hz;exact h.row hx
theorem VwM.lt(h:VwM k enc H ao cap xs)(hne:xs≠[])(henc:∀ x,enc x≠[]):Lt H.size ao:=fun a ha=>by
 have hl:0<xs.length:=bw.2 hne;have hq:(enc xs[0])[0]?=some ((enc xs[0])[0]'(bw.2 (henc _))):=ZQ _;have h1:=FZ (h.get 0 xs[0] (ZQ hl) 0 _ hq);subst ha;rwa[lT] at h1
theorem VwM.cut(v:VwM k enc H ao cap xs){l h m:Nat}(hl:l≤h)(hh:h≤xs.length)(hm:h≤m)(hmc:m≤cap) :
 VwM k enc H (aO ao m l k) (m-l) ((xs.drop l).take (h-l)):=by
 refine⟨by simp;omega,by have:=v.max;omega,fun hne=>?_,fun i x hx j u hu=>?_⟩
 · have h0:xs.length≠0:=by simp at hne;omega
   have:=v.non h0;unfold aO
   split
   ·exact this
   ·cases ao<;>simp_all
 · have hi:i<h-l:=by
    have:=(ZS.1 hx).1;simp at this;omega
   have hx':xs[l+i]?=some x:=by
    rw[ar,ZP hi,dc] at hx;exact hx
   have h1:=v.get (l+i) x hx' j u hu;rw[←h1];unfold aO;rw[ZO (by omega)];cases ao with
  |none=>exact absurd rfl (v.non (by have:=(ZS.1 hx').1;omega))
  |some a=>simp[adr,rZ,dy,gu]
end
def bJ{α:Type}(k:Nat)(enc:α→List Value)(e:TypeId)(H:Array Obj)(ao:Option Addr)(cap:Nat)(xs:List α):Prop:=
 (ao=none∧cap=0∧xs=[]) ∨
 ∃ g cur,ao=some ⟨g,0,none⟩∧H[g]?=some (.cells cur e (0,0))∧xs.length≤cap∧cap≤maxLen∧cur.size=cap*k∧cur.toList.take (xs.length*k)=xs.flatMap enc
def iT{α:Type}(k:Nat)(enc:α→List Value):Prop:=∀ x,(enc x).length=k∧∀ v∈enc x,v.oneCell'=true
theorem dM{α:Type}{k:Nat}{enc:α→List Value}(hk:∀ x,(enc x).length=k):∀ xs:List α,(xs.flatMap enc).length=xs.length*k
|[]=>by simp
|x::r=>by simp[dM hk r,hk x,dy];omega
theorem tC{α:Type}{k:Nat}{enc:α→List Value}(hk:∀ x,(enc x).length=k):∀ (xs:List α) (i:Nat) (x:α),xs[i]?=some x→∀ j v,(enc x)[j]?=some v→(xs.flatMap enc)[i*k+j]?=some v
|[],i,x,h,j,v,hv=>by simp at h
|y::r,0,x,h,j,v,hv=>by
   simp at h;subst h;have:j<(enc y).length:=(ZS.1 hv).1;simp[au this,hv]
|y::r,i+1,x,h,j,v,hv=>by
   have:=tC hk r i x (by simpa using h) j v hv;rw[cq,da (by rw[hk y];rw[dy];omega),hk y];rw[←this];congr 1;rw[dy];omega
theorem tB{α:Type}{k:Nat}{enc:α→List Value}(hk:∀ x,(enc x).length=k)(hk0:0<k):∀ (xs:List α) (q:Nat) (v:Value),(xs.flatMap enc)[q]?=some v→∃ x,xs[q/k]?=some x∧(enc x)[q%k]?=some v
|[],q,v,h=>by simp at h
|y::r,q,v,h=>by
   rw[cq] at h;by_cases hq:q<k
   · rw[au (by rw[hk y];exact hq)] at h
     exact⟨y,by simp[Nat.div_eq_of_lt hq],by rwa[gx hq]⟩
   · rw[da (by rw[hk y];omega),hk y] at h
     obtain⟨x,h1,h2⟩:=tB hk hk0 r (q-k) v h;refine⟨x,?_,?_⟩
     ·rw[show q/k=(q-k)/k+1 from by rw[←Nat.add_div_right _ hk0,iq (by omega)]];simpa using h1
     ·rwa[show q%k=(q-k)%k from by rw[←Nat.add_mod_right (q-k),iq (by omega)]]
section
variable {α:Type}{k:Nat}{enc:α→List Value}{e:TypeId}{H:Array Obj}{ao:Option Addr}{cap:Nat}{xs:List α}
theorem Zy:bJ k enc e H none 0 ([]:List α):=.inl ⟨rfl,rfl,rfl⟩
theorem bJ.lt(h:bJ k enc e H ao cap xs):Lt H.size ao:=by
 intro a ha;rcases h with⟨rfl,_⟩|⟨g,cur,rfl,hg,_⟩
 ·cases ha
 ·cases ha;exact(Z1.1 hg).1
theorem bJ.ZN{w w':World}{S:Nat→Prop}(h:bJ k enc e w.heap ao cap xs)(f:aA S w w')(hs:∀ a,ao=some a→¬ S a.block):bJ k enc e w'.heap ao cap xs:=by
 rcases h with h|⟨g,cur,rfl,hg,r⟩
 ·exact .inl h
 ·exact .inr ⟨g,cur,rfl,f.obj hg (hs _ rfl),r⟩
theorem bJ.ZM{w w':World}(h:bJ k enc e w.heap ao cap xs)(f:aA nob w w'):bJ k enc e w'.heap ao cap xs:=h.ZN f (fun _ _=>id)
theorem bJ.vw(hk:iT k enc)(h:bJ k enc e H ao cap xs):VwM k enc H ao cap xs:=by
 rcases h with⟨rfl,rfl,rfl⟩|⟨g,cur,rfl,hg,h1,h2,h3,h4⟩
 ·exact Zx 0 (ZZ _)
 · refine⟨h1,h2,fun _=>by simp,fun i x hx j v hv=>?_⟩
   have hi:i<xs.length:=(ZS.1 hx).1;have hj:j<k:=by have:=(ZS.1 hv).1;rwa[(hk x).1] at this
   have hadd:(adr (some ⟨g,0,none⟩) (i*k+j))=⟨g,i*k+j,none⟩:=by
    show (⟨g,0,none⟩:Addr).add _=_;rw[Addr.add_lit,cx]
   rw[hadd];simp only[bK,hg];have h5:=tC (fun x=>(hk x).1) xs i x hx j v hv;have hlt:i*k+j<xs.length*k:=by
    have:=di k (show i+1≤xs.length from hi);rw[dy] at this;omega
   rw[←h4,ar,ZP hlt] at h5;simpa using h5
end
theorem xU{α:Type}{k:Nat}{enc:α→List Value}(henc:iT k enc)(hk0:0<k){P:Program}{w:World}{t ty e:TypeId}{bytes:Nat}(ht:aZ P t e k bytes)
 {ao:Option Addr}{cap:Nat}{xs:List α}(ho:bJ k enc e w.heap ao cap xs){bo:Option Addr}{bcap:Nat}{ys:List α}(hy:VwM k enc w.heap bo bcap ys)
 (hb:(xs.length+ys.length)*bytes≤140737488355328)(hm:xs.length+ys.length≤maxLen) :
 ∃ ao' cap' w',(Builtin.append_ #[t,t] ty #[.slice ao xs.length cap,.slice bo ys.length bcap]).run P w=.ok (.slice ao' (xs.length+ys.length) cap') w' ∧
  bJ k enc e w'.heap ao' cap' (xs++ys)∧aA (blk ao) w w'∧(∀ a,ao'=some a→ao=some a∨w.heap.size≤a.block)∧(ao'=none→ao=none∧ys=[]):=by
 obtain⟨i,z,hi,h1,hz,h2,h3⟩:=ht.parts;have hkl:∀ x,(enc x).length=k:=fun x=>(henc x).1;have hnews1:∀ u∈ys.flatMap enc,u.oneCell'=true:=by intro u hu;obtain⟨x,_,hx⟩:=List.mem_flatMap.1 hu;exact(henc x).2 u hx
 have hsmall:xs.length+ys.length≤9223372036854775807:=by unfold maxLen at hm;omega
 by_cases hys:ys=[]
 · subst hys
   refine⟨ao,cap,w,?_,by simpa using ho,Zn _ _,fun a ha=>.inl ha,fun h=>⟨h,rfl⟩⟩;exact lZ ht.und hi (ho.vw henc).le
 · have hne:ys.length≠0:=fun e=>hys (Z9 e)
   obtain⟨b,rfl⟩:∃ b,bo=some b:=gh.1 (hy.non hne);have hnews:∀ j u,(ys.flatMap enc)[j]?=some u→w.cell? (b.add j)=some u:=by
    intro j u hu;obtain⟨x,hx1,hx2⟩:=tB hkl hk0 ys j u hu;have:=hy.get _ x hx1 _ u hx2;rwa[Nat.mul_comm,Nat.div_add_mod] at this
   have hl:(ys.flatMap enc).length=ys.length*i.size:=by rw[dM hkl,h2]
   have big:∀ (old:Nat),old<xs.length+ys.length→bJ k enc e (w.drew.alloc (.cells ((xs.flatMap enc).toArray++(ys.flatMap enc).toArray++Builtin.zeroCells z.cells (grownCap w (xs.length+ys.length) old e-(xs.length+ys.length))) e)).heap
    (some ⟨w.heap.size,0,none⟩) (grownCap w (xs.length+ys.length) old e) (xs++ys):=by
    intro old _;have hge:=grownCap_ge w (xs.length+ys.length) old e;refine .inr ⟨w.heap.size,_,rfl,heap_alloc_new w.drew _,by simpa using hge,grownCap_le_maxLen w _ old e hm,?_,?_⟩
    ·simp only[Array.size_append,fe,dM hkl,size_zeroCells,hz];rw[←dy,←dy];congr 1;omega
    · have h6:((xs++ys).flatMap enc).length=(xs++ys).length*k:=dM hkl _
      rw[fk] at h6 ⊢;simp only[Array.toList_append];rw[cu (by rw[h6];exact Z0 _)];exact Z4 (by rw[h6];exact Z0 _)
   have hfoot:∀ (old:Nat),aA (blk ao) w (w.drew.alloc (.cells ((xs.flatMap enc).toArray++(ys.flatMap enc).toArray++Builtin.zeroCells z.cells (grownCap w (xs.length+ys.length) old e-(xs.length+ys.length))) e)):=fun old=>Zp _ _ _;rcases ho with⟨rfl,rfl,rfl⟩|⟨g,cur,rfl,hg,g1,g2,g3,g4⟩
   · have hr:=run_append_nil (P:=P) w t ty e i z ht.und hi h1 b ys.length bcap (ys.flatMap enc) hl hnews (by omega) (by simp at hsmall;omega) (by simp at hb;rw[h3];omega)
     have hB:=big 0 (by simp;omega);have hF:=hfoot 0;simp only[Z7,cx,List.flatMap_nil,aq,Array.empty_append] at hB hF ⊢;exact⟨_,_,_,hr,hB,hF,fun a ha=>.inr (by cases ha;exact Z0 _),fun h=>by cases h⟩
   · have holds:∀ j v,(xs.flatMap enc)[j]?=some v→w.cell? ((⟨g,0,none⟩:Addr).add j)=some v:=by
      intro j v hv;obtain⟨x,hx1,hx2⟩:=tB hkl hk0 xs j v hv;have:=(bJ.vw henc (.inr ⟨g,cur,rfl,hg,g1,g2,g3,g4⟩:bJ k enc e w.heap (some ⟨g,0,none⟩) cap xs)).get _ x hx1 _ v hx2;rwa[Nat.mul_comm,Nat.div_add_mod] at this
     by_cases hroom:xs.length+ys.length≤cap
     · have hmul:(xs.length+ys.length)*k≤cap*k:=di k hroom
       have hmul2:=hmul;rw[dy] at hmul2;have hr:=run_append_room (P:=P) w t ty e i ht.und hi g xs.length cap cur hg b ys.length bcap (ys.flatMap enc) hl hnews hnews1 hroom (by rw[dM hkl,h2,g3];exact hmul2);have hcl:cur.toList.length=cap*k:=by simp[g3]
       have hle1:xs.length*k≤cap*k:=di k (by omega);have hlen1:(cur.toList.take (xs.length*k)).length=xs.length*k:=by rw[ZT,hcl,Nat.min_eq_left hle1]
       refine⟨_,_,_,hr,.inr ⟨g,_,rfl,setRow_heap w g cur _ e _ hg,by simpa using hroom,g2,?_,?_⟩,?_,fun a ha=>.inl ha,fun h=>by cases h⟩
       ·rw[h2];simp only[fe,ZR,hlen1,dM hkl,ZX,Array.length_toList,g3];omega
       · have h6:((xs++ys).flatMap enc).length=(xs++ys).length*k:=dM hkl _
         rw[h2,g4,fk] at *;rw[cu (by rw[h6];exact Z0 _)];exact Z4 (by rw[h6];exact Z0 _)
       ·exact⟨rfl,rfl,rfl,by simp[World.setRow],fun k hk hn=>setRow_other w g k _ (fun e=>hn ⟨_,rfl,e.symm⟩)⟩
     · have hr:=run_append_grow (P:=P) w t ty e i z ht.und hi h1 ⟨g,0,none⟩ xs.length cap (xs.flatMap enc) (by rw[dM hkl,h2]) holds b ys.length bcap (ys.flatMap enc) hl hnews (by omega) (by omega)
        (by rw[h3];exact growslice_fits (by omega) hb)
       exact⟨_,_,_,hr,big cap (by omega),hfoot cap,fun a ha=>.inr (by cases ha;exact Z0 _),fun h=>by cases h⟩
def gP(P:Program)(t:TypeId)(k:Nat):Bool:=
 (match P.underlying t with|some (.struct _)|some (.array _ _)=>true|_=>false) && ((P.info? t).map (·.size) == some k)
theorem Bb{P:Program}{t:TypeId}{k:Nat}(h:gP P t k=true)(w:World):(Go.isAgg t).run P w=.ok true w:=by
 simp only[gP,ag] at h;unfold Go.isAgg;cases hu:P.underlying t with
|none=>simp[hu] at h
|some d=>rw[Sem.run_bind,run_underlying hu w];cases d<;>simp_all
theorem wY{P:Program}{t:TypeId}{k:Nat}(h:gP P t k=true)(w:World):(sizeOf t).run P w=.ok k w:=by
 simp only[gP,ag,beq_iff_eq] at h;obtain⟨i,hi,h1⟩:=ae.1 h.2;simp[sizeOf,typeInfo,hi,h1]
section
variable {P:Program}{N:Nt}{Q:Exit→Act→World→Prop}{l:SF}{w:World}{ops:Array Oper}{rest:List Oper}
variable {op:Op}{ty:TypeId}{pos:String}{aft:Array Edge}{d:Nat}{v:Value}{CH:Array Obj→Prop}
variable {x y:Operand}{t t':TypeId}{g:Option (Nat×Bool)}{dd:Option Nat}
theorem W9{ad:Addr}{cs:List Value}(ht:gP P t cs.length=true)(hx:evL l x=some (.pointer (some ad)))(hc:∀ H,CH H→∀ j v,cs[j]?=some v→bK H (ad.add j)=some v) :
 Cm P N CH l ⟨dd,.load t x,ty,pos,aft,g⟩ (.agg cs.toArray):=fun a w ha hw=>by
 have h1:=hc _ hw;have hl:=run_loadCells_list (P:=P) w ad cs h1;simp only[execOp,ha.ev hx,Instr.loadAt,Instr.sureAddr,Sem.run_bind,loadVar,Bb ht w,wY ht w,Result.andThen_ok,Sem.run_pure,if_true,hl]
theorem Ws{H:Array Obj}{ad:Addr}{cs:List Value}(ht:gP P t cs.length=true)(hx:evL l x=some (.pointer (some ad)))(hc:∀ j v,cs[j]?=some v→bK H (ad.add j)=some v) :
 Cm P N (· = H) l ⟨dd,.load t x,ty,pos,aft,g⟩ (.agg cs.toArray):=W9 ht hx (fun _ e=>by rw[e];exact hc)
theorem XW{b o:Nat}{cur vs:List Value}{T:TypeId}(ht:gP P t vs.length=true)(hx:evL l x=some (.pointer (some ⟨b,o,none⟩)))(hy:evL l y=some (.agg vs.toArray))(h1:∀ v∈vs,v.oneCell'=true)
 (hg:w.heap[b]?=some (.cells cur.toArray T (0,0)))(ho:o+vs.length≤cur.length)
 (h:∀ w',w'.heap[b]?=some (.cells (cur.take o++vs++cur.drop (o+vs.length)).toArray T (0,0))→w'.heap.size=w.heap.size→aA (· = b) w w'→Sl P N ops Q rest l w') :
 Sl P N ops Q (⟨none,.store t x y,ty,pos,aft,none⟩::rest) l w:=by
 have hst:=run_storeCells_at P b o T vs 0 cur.toArray w hg (by simpa using ho) h1;simp only[gp] at hst;refine Xx (w':=_) (fun a ha=>?_) (h (w.setRow b (cur.take o++vs++cur.drop (o+vs.length)).toArray) ?_ ?_ ?_)
 ·simp only[execOp,ha.ev hx,ha.ev hy,Instr.storeAt,Instr.sureAddr,Sem.run_bind,storeVar,wY ht w,Result.andThen_ok,Sem.run_pure,Value.cells,fe,ne_eq,not_true,if_false,hst]
 ·exact setRow_heap w b cur.toArray _ T _ hg
 ·simp[World.setRow]
 ·exact⟨rfl,rfl,rfl,by simp[World.setRow],fun k hk hn=>setRow_other w b k _ (fun e=>hn e)⟩
theorem WP{b:Nat}{cur vs:List Value}{T:TypeId}(ht:gP P t vs.length=true)(hx:evL l x=some (pT b))(hy:evL l y=some (.agg vs.toArray))(h1:∀ v∈vs,v.oneCell'=true)
 (hg:w.heap[b]?=some (.cells cur.toArray T (0,0)))(ho:vs.length=cur.length)
 (h:∀ w',w'.heap[b]?=some (.cells vs.toArray T (0,0))→w'.heap.size=w.heap.size→aA (· = b) w w'→Sl P N ops Q rest l w') :
 Sl P N ops Q (⟨none,.store t x y,ty,pos,aft,none⟩::rest) l w:=by
 refine XW ht hx hy h1 hg (by omega) (fun w' h2 h3 h4=>h w' ?_ h3 h4);rw[h2];simp[ho]
theorem sA {b:Nat} {cur vs:List Value} {T:TypeId} (hy:evL l y=some (.agg vs.toArray)) (ht:gP P t vs.length=true) (h1:∀ v∈vs,v.oneCell'=true) (hg:w.heap[b]?=some (.cells cur.toArray T (0,0))) (h:∀ w',w'.heap[b]?=some (.cells vs.toArray T (0,0))→w'.heap.size=w.heap.size→aA (· = b) w w'→Sl P N ops Q rest l w') (hx:evL l x=some (pT b):=by rfl) (ho:vs.length=cur.length:=by rfl):Sl P N ops Q (⟨none,.store t x y,ty,pos,aft,none⟩::rest) l w:=WP ht hx hy h1 hg ho h
theorem Wx{α:Type}{k:Nat}{enc:α→List Value}(henc:iT k enc)(hk0:ba 0 k=true){e:TypeId}{bytes:Nat}(ht:aZ P t e k bytes)
 {ao bo:Option Addr}{cap bcap:Nat}{xs ys:List α}(hx:evL l x=some (.slice ao xs.length cap))(hy:evL l y=some (.slice bo ys.length bcap))
 (ho:bJ k enc e w.heap ao cap xs)(hv:VwM k enc w.heap bo bcap ys)
 (hb:(xs.length+ys.length)*bytes≤140737488355328)(hm:xs.length+ys.length≤maxLen)(hd:ba d N.n=true)
 (h:∀ ao' cap' w',bJ k enc e w'.heap ao' cap' (xs++ys)→aA (blk ao) w w'→(∀ a,ao'=some a→ao=some a∨w.heap.size≤a.block)→(ao'=none→ao=none∧ys=[]) →
   Sl P N ops Q rest ((d,.slice ao' (xs++ys).length cap')::l) w') :
 Sl P N ops Q (⟨some d,.call ⟨.builtin .append,#[x,y],#[t,t]⟩,ty,pos,aft,none⟩::rest) l w:=by
 obtain⟨ao',cap',w',hr,h1,h2,h3,h4⟩:=xU henc (by simpa[dg] using hk0) (ty:=ty) ht ho hv hb hm;refine W2 (w':=w') (v:=.slice ao' (xs++ys).length cap') (fun a ha=>?_) hd (h ao' cap' w' h1 h2 h3 h4);simp[execOp,ha.ev hx,ha.ev hy,resolve,invoke,builtin,hr]
theorem WD{e:TypeId}{size bytes:Nat}(ht:aZ P t e size bytes){n:Nat}{parts:List (Nat×Operand)}{vs:List (Nat×Value)}{zc cs:Array Value}
 (hz:(P.info? e).map (fun i=>i.zero.map (·.cells))=some (some zc))(hn:ik (n*size) 16777216=true)(hn0:ba 0 (n*size)=true)(hx:evPs l parts=some vs)
 (hf:Instr.fill (fun i=>some (i*size,size)) ((Array.range (n*size)).map (zc[· % zc.size]!)) vs=some cs)(hd:ba d N.n=true)
 (h:∀ w',w'.heap[w.heap.size]?=some (.cells cs e (0,0))→w'.heap.size=w.heap.size+1→aA nob w w'→Sl P N ops Q rest ((d,.slice (some ⟨w.heap.size,0,none⟩) n n)::l) w') :
 Sl P N ops Q (⟨some d,.buildSlice t n parts.toArray,ty,pos,aft,none⟩::rest) l w:=by
 obtain⟨i,hi,h1⟩:=ae.1 hz;obtain⟨z,hz',rfl⟩:=ae.1 h1
 have hn' : ¬ (n * size > 2 ^ 24) := by have : n * size ≤ 16777216 := by simpa[gv] using hn
                                        show ¬ (_ > 16777216);omega
 have hn0' : ¬ (n * size = 0) := by have : 0 < n * size := by simpa[dg] using hn0
                                    omega
 refine W2 (w':=w.alloc (.cells cs e)) (fun a ha=>?_) hd (h _ (heap_alloc_new w _) (by simp) (aA.alloc _ _ _));have hv:=ha.evPs hx;simp only[execOp,Instr.buildSlice,Sem.run_bind,run_underlying ht.und,ht.size,Result.andThen_ok,ZO hn',ZO hn0',Sem.run_pure,zeroValue,typeInfo,run_program,hi,hz',jf,hv];rw[hf];simp[newRow]
theorem bS{α:Type}{k:Nat}{enc:α→List Value}(hk:iT k enc){e:TypeId}{H:Array Obj}{g:Nat}{xs:List α}(hg:H[g]?=some (.cells (xs.flatMap enc).toArray e (0,0)))(hm:xs.length≤maxLen):bJ k enc e H (some ⟨g,0,none⟩) xs.length xs:=
 .inr ⟨g,_,rfl,hg,Z0 _,hm,by simp[dM (fun x=>(hk x).1)],by simp;exact Z4 (by rw[dM (fun x=>(hk x).1)];exact Z0 _)⟩
theorem Je{f:FuncId}{xs:List Operand}{vs:List Value}{ts:Array TypeId}{a:Act}(hf:fnB P f=true)(ha:dN N l a)(hc:evL l x=some (.func (.func f) #[] #[]))(hx:yA l xs=some vs) :
 (execOp a.eval ⟨dd,.call ⟨.value x,xs.toArray,ts⟩,ty,pos,aft,g⟩).run P w=.ok (.enter f vs.toArray) w:=by
 have h1:=ha.ev hc;simp[execOp,resolve,h1,Deferred.ofValue,invoke,kC hf];rw[←ha.evs hx]
theorem Xu{f:FuncId}{xs:List Operand}{vs:List Value}{ts:Array TypeId}(hf:fnB P f=true)(hc0:evL l x=some (.func (.func f) #[] #[]))(hx:yA l xs=some vs){R:Value→World→Prop}(hc:Calls P f vs.toArray w (Ret R))(hd:ba d N.n=true)
 (h:∀ v w',R v w'→Sl P N ops Q rest ((d,v)::l) w') :
 Sl P N ops Q (⟨some d,.call ⟨.value x,xs.toArray,ts⟩,ty,pos,aft,none⟩::rest) l w:=fun a ha=>by
 unfold wpList;rw[ZP (by simp[Region.wanted])];refine .inl ?_;unfold Oper.wp;rw[Je hf ha hc0 hx];refine hc.mono ?_;rintro e w' ⟨v,rfl,hR⟩;exact h v w' hR _ (ha.put hd v)
def okV(P:Program)(t:TypeId)(v:Value):Prop:=
 match P.underlying t,v with
|some (.int k),.int k' _=>k'=k
|some .string,.string _=>True
|some .bool,.bool _=>True
|_,_=>False
theorem rB {P : Program} (w : World) {d d1 : Nat} (hd1 : d1 = d + 1) {xs ys : Array Value} : ∀ (fs : List Field), (∀ f ∈ fs, f.name ≠ "_" ∧ ∃ a b, xs[f.offset]? = some a ∧ ys[f.offset]? = some b ∧ okV P f.type a ∧ okV P f.type b) →
 ∃ r,(iz d1 xs ys fs).run P w=.ok r w∧(r=true↔∀ f∈fs,xs[f.offset]?=ys[f.offset]?)
 | [],_=>⟨true,by simp [iz],by simp⟩
 | f::fs,h=>by
   subst hd1;obtain ⟨h1,a,b,h2,h3,h4,h5⟩:=h f (by simp);obtain ⟨r,hr,hr2⟩:=rB (d:=d) w rfl fs (fun g hg=>h g (by simp [hg]));have hag:(isAgg f.type).run P w=.ok false w:=by
    unfold isAgg okV at *;cases hu:P.underlying f.type with
    | none=>simp [hu] at h4
    | some u=>rw [Sem.run_bind,run_underlying hu w];cases u <;> simp_all
   have hpa:(part f.type xs f.offset).run P w=.ok a w:=by
    unfold part;rw [Sem.run_bind,hag];simp [h2]
   have hpb:(part f.type ys f.offset).run P w=.ok b w:=by
    unfold part;rw [Sem.run_bind,hag];simp [h3]
   have he:∃ q,(gi (d+1) f.type a b).run P w=.ok q w∧(q=true↔a=b):=by
    unfold okV at h4 h5;cases hu:P.underlying f.type with
    | none=>simp [hu] at h4
    | some u=>
      cases u <;> simp [hu] at h4 h5 <;> cases a <;> simp at h4 <;> cases b <;> simp at h5
      case int.int.int k k1 m k2 n=>subst h4;subst h5;exact ⟨m == n,run_equalIn_int w d _ _ _ m n hu,by simp⟩
      case string.string.string m n=>exact ⟨_,run_equalIn_string w d _ m n hu,by rw [beq_iff_eq,ByteArray.toList_eq,ByteArray.toList_eq];simp [ByteArray.ext_iff]⟩
      case bool.bool.bool m n=>exact ⟨_,run_equalIn_bool w d _ m n hu,by simp⟩
   obtain ⟨q,hq,hq2⟩:=he;refine ⟨q && r,?_,?_⟩
   · unfold iz
     rw [ZP h1];simp only [Sem.run_bind,hpa,hpb,hq,Result.andThen_ok];cases q <;> simp [hr]
   · rw [ag,hq2,hr2]
     simp [h2,h3]
theorem Wn{T:TypeId}{zc:Array Value}(hz:(P.info? T).map (fun i=>i.zero.map (·.cells))=some (some zc))(hd:ba d N.n=true)
 (h:∀ w',w'.heap[w.heap.size]?=some (.cells zc T (0,0))→w'.heap.size=w.heap.size+1→aA nob w w'→Sl P N ops Q rest ((d,pT w.heap.size)::l) w') :
 Sl P N ops Q (⟨some d,.alloc T,ty,pos,aft,none⟩::rest) l w:=by
 obtain⟨i,hi,h1⟩:=ae.1 hz;obtain⟨z,hz',rfl⟩:=ae.1 h1;refine W2 (w':=w.alloc (.cells z.cells T)) (fun a ha=>?_) hd (h _ (heap_alloc_new w _) (by simp) (aA.alloc _ _ _));simp[execOp,Instr.alloc,zeroValue,typeInfo,hi,hz',newVar,newRow]
theorem WX{b:Bool}(hx:evL l x=some (.bool b)):Cm P N CH l ⟨dd,.unOp .not t x,ty,pos,aft,g⟩ (.bool (decide (b=false))):=by
 have h:=@WQ P N l ty pos aft CH x t g dd b hx;cases b<;>exact h
theorem WK{o:Oper}{b:Bool}(h:Cm P N CH l o (.bool b)):Cm P N CH l o (.bool (decide (b=true))):=by
 have:decide (b=true)=b:=by cases b<;>rfl
 rwa[this]
end
abbrev CA(f:Nat)(xs:List Value)(W:World)(R:Value→World→Prop):Prop:=Calls Tryz.prog f xs.toArray W (Ret R)
theorem ty3:Tryz.prog.underlying 3=some (.int .i64):=by kernel_rfl
theorem is3:(Tryz.prog.underlying 3).isSome=true:=by kernel_rfl
theorem aF:gZ Tryz.prog 3=true:=by kernel_rfl
instance:Sca Tryz.prog 3:=⟨aF⟩
theorem zc3:(Tryz.prog.info? 3).map (fun i=>i.zero.map (·.cells))=some (some #[iV 0]):=by kernel_rfl
theorem z3:(Tryz.prog.info? 3).map (·.zero)=some (some (iV 0)):=by kernel_rfl
theorem Jc:gZ Tryz.prog 4=true:=by kernel_rfl
instance:Sca Tryz.prog 4:=⟨Jc⟩
theorem ty4:Tryz.prog.underlying 4=some .bool:=by kernel_rfl
theorem ty5:Tryz.prog.underlying 5=some (.int .u8):=by kernel_rfl
theorem is5:(Tryz.prog.underlying 5).isSome=true:=by kernel_rfl
theorem eC:gZ Tryz.prog 5=true:=by kernel_rfl
instance:Sca Tryz.prog 5:=⟨eC⟩
theorem zc5:(Tryz.prog.info? 5).map (fun i=>i.zero.map (·.cells))=some (some #[.int .u8 0]):=by kernel_rfl
theorem z5:(Tryz.prog.info? 5).map (·.zero)=some (some (.int .u8 0)):=by kernel_rfl
theorem ty9:Tryz.prog.underlying 9=some .string:=by kernel_rfl
theorem gH:gZ Tryz.prog 9=true:=by kernel_rfl
instance:Sca Tryz.prog 9:=⟨gH⟩
theorem PJ:gZ Tryz.prog 22=true:=by kernel_rfl
instance:Sca Tryz.prog 22:=⟨PJ⟩
theorem bR:aZ Tryz.prog 22 68 10 136:=⟨by kernel_rfl,by kernel_rfl⟩
instance:Slt Tryz.prog 22:=⟨_,_,_,bR⟩
theorem lY:gZ Tryz.prog 23=true:=by kernel_rfl
instance:Sca Tryz.prog 23:=⟨lY⟩
theorem vX:aZ Tryz.prog 23 9 1 16:=⟨by kernel_rfl,by kernel_rfl⟩
instance:Slt Tryz.prog 23:=⟨_,_,_,vX⟩
theorem aX:gZ Tryz.prog 25=true:=by kernel_rfl
instance:Sca Tryz.prog 25:=⟨aX⟩
theorem aH:aZ Tryz.prog 25 5 1 1:=⟨by kernel_rfl,by kernel_rfl⟩
instance:Slt Tryz.prog 25:=⟨_,_,_,aH⟩
theorem sH:gZ Tryz.prog 26=true:=by kernel_rfl
instance:Sca Tryz.prog 26:=⟨sH⟩
theorem LO:JG Tryz.prog 30=true:=by kernel_rfl
theorem mU:gZ Tryz.prog 34=true:=by kernel_rfl
instance:Sca Tryz.prog 34:=⟨mU⟩
theorem bP:aZ Tryz.prog 34 3 1 8:=⟨by kernel_rfl,by kernel_rfl⟩
instance:Slt Tryz.prog 34:=⟨_,_,_,bP⟩
theorem HP:gZ Tryz.prog 35=true:=by kernel_rfl
instance:Sca Tryz.prog 35:=⟨HP⟩
theorem lW:aZ Tryz.prog 35 39 3 32:=⟨by kernel_rfl,by kernel_rfl⟩
instance:Slt Tryz.prog 35:=⟨_,_,_,lW⟩
theorem pR:(Tryz.prog.info? 39).map (fun i=>i.zero.map (·.cells))=some (some #[.string ByteArray.empty,iV 0,iV 0]):=by kernel_rfl
theorem eA:gP Tryz.prog 39 3=true:=by kernel_rfl
theorem Ah:places Tryz.prog 39=some [(0,1),(1,1),(2,1)]:=by kernel_rfl
instance Ve:Fld Tryz.prog 39 0 0:=⟨by kernel_rfl⟩
instance Vd:Fld Tryz.prog 39 1 1:=⟨by kernel_rfl⟩
instance Vc:Fld Tryz.prog 39 2 2:=⟨by kernel_rfl⟩
theorem Qm:(Tryz.prog.info? 43).map (fun i=>i.zero.map (·.cells))=some (some #[iV 0,iV 0,iV 0]):=by kernel_rfl
theorem IN:gP Tryz.prog 43 3=true:=by kernel_rfl
theorem PM:places Tryz.prog 43=some [(0,1),(1,1),(2,1)]:=by kernel_rfl
instance Vb:Fld Tryz.prog 43 0 0:=⟨by kernel_rfl⟩
instance Va:Fld Tryz.prog 43 1 1:=⟨by kernel_rfl⟩
instance U9:Fld Tryz.prog 43 2 2:=⟨by kernel_rfl⟩
theorem Bi:(Tryz.prog.info? 45).map (fun i=>i.zero.map (·.cells))=some (some #[iV 0,iV 0,iV 0,iV 0,iV 0,iV 0]):=by kernel_rfl
theorem eM:gP Tryz.prog 45 6=true:=by kernel_rfl
theorem H1:places Tryz.prog 45=some [(0,1),(1,3),(4,1),(5,1)]:=by kernel_rfl
instance U8:Fld Tryz.prog 45 3 5:=⟨by kernel_rfl⟩
theorem Qw:aZ Tryz.prog 55 57 2 16:=⟨by kernel_rfl,by kernel_rfl⟩
instance:Slt Tryz.prog 55:=⟨_,_,_,Qw⟩
instance U7:Fld Tryz.prog 57 0 0:=⟨by kernel_rfl⟩
instance U6:Fld Tryz.prog 57 1 1:=⟨by kernel_rfl⟩
theorem Gl:aZ Tryz.prog 60 64 3 32:=⟨by kernel_rfl,by kernel_rfl⟩
instance:Slt Tryz.prog 60:=⟨_,_,_,Gl⟩
instance U5:Fld Tryz.prog 64 0 0:=⟨by kernel_rfl⟩
instance U4:Fld Tryz.prog 64 1 1:=⟨by kernel_rfl⟩
instance U3:Fld Tryz.prog 64 2 2:=⟨by kernel_rfl⟩
theorem eK:gZ Tryz.prog 66=true:=by kernel_rfl
instance:Sca Tryz.prog 66:=⟨eK⟩
theorem iC:aZ Tryz.prog 66 183 2 40:=⟨by kernel_rfl,by kernel_rfl⟩
instance:Slt Tryz.prog 66:=⟨_,_,_,iC⟩
theorem Vf:(Tryz.prog.info? 66).map (fun i=>i.zero.map (·.cells))=some (some #[sN]):=by kernel_rfl
theorem oT:(Tryz.prog.info? 68).map (fun i=>i.zero.map (·.cells))=some (some #[sN,iV 0,iV 0,iV 0,iV 0,iV 0,sN,.string ByteArray.empty,sN,.bool false]):=by kernel_rfl
theorem gQ:gP Tryz.prog 68 10=true:=by kernel_rfl
theorem RH:places Tryz.prog 68=some [(0,1),(1,1),(2,1),(3,3),(6,1),(7,1),(8,1),(9,1)]:=by kernel_rfl
instance U2:Fld Tryz.prog 68 0 0:=⟨by kernel_rfl⟩
instance U1:Fld Tryz.prog 68 1 1:=⟨by kernel_rfl⟩
instance U0:Fld Tryz.prog 68 2 2:=⟨by kernel_rfl⟩
instance UZ:Fld Tryz.prog 68 3 3:=⟨by kernel_rfl⟩
instance UY:Fld Tryz.prog 68 4 6:=⟨by kernel_rfl⟩
instance UX:Fld Tryz.prog 68 5 7:=⟨by kernel_rfl⟩
instance UW:Fld Tryz.prog 68 6 8:=⟨by kernel_rfl⟩
instance UV:Fld Tryz.prog 68 7 9:=⟨by kernel_rfl⟩
theorem PI:gZ Tryz.prog 71=true:=by kernel_rfl
instance:Sca Tryz.prog 71:=⟨PI⟩
theorem C3:aZ Tryz.prog 71 84 11 96:=⟨by kernel_rfl,by kernel_rfl⟩
instance:Slt Tryz.prog 71:=⟨_,_,_,C3⟩
theorem NS:(Tryz.prog.info? 73).map (fun i=>i.zero.map (·.cells))=some (some #[sN,sN]):=by kernel_rfl
theorem Qi:gP Tryz.prog 73 2=true:=by kernel_rfl
theorem PL:places Tryz.prog 73=some [(0,1),(1,1)]:=by kernel_rfl
instance UU:Fld Tryz.prog 73 0 0:=⟨by kernel_rfl⟩
instance UT:Fld Tryz.prog 73 1 1:=⟨by kernel_rfl⟩
theorem Eo:gZ Tryz.prog 74=true:=by kernel_rfl
instance:Sca Tryz.prog 74:=⟨Eo⟩
theorem Ob:aZ Tryz.prog 74 66 1 24:=⟨by kernel_rfl,by kernel_rfl⟩
instance:Slt Tryz.prog 74:=⟨_,_,_,Ob⟩
theorem Ca:places Tryz.prog 76=some [(0,1),(1,1),(2,2),(4,2),(6,2),(8,1),(9,1),(10,1),(11,1),(12,1)]:=by kernel_rfl
instance US:Fld Tryz.prog 76 0 0:=⟨by kernel_rfl⟩
instance UR:Fld Tryz.prog 76 1 1:=⟨by kernel_rfl⟩
instance UQ:Fld Tryz.prog 76 2 2:=⟨by kernel_rfl⟩
instance UP:Fld Tryz.prog 76 3 4:=⟨by kernel_rfl⟩
instance UO:Fld Tryz.prog 76 4 6:=⟨by kernel_rfl⟩
instance UN:Fld Tryz.prog 76 5 8:=⟨by kernel_rfl⟩
instance UM:Fld Tryz.prog 76 6 9:=⟨by kernel_rfl⟩
instance UL:Fld Tryz.prog 76 7 10:=⟨by kernel_rfl⟩
instance UK:Fld Tryz.prog 76 8 11:=⟨by kernel_rfl⟩
instance UJ:Fld Tryz.prog 76 9 12:=⟨by kernel_rfl⟩
theorem PH:gZ Tryz.prog 77=true:=by kernel_rfl
instance:Sca Tryz.prog 77:=⟨PH⟩
theorem Le:aZ Tryz.prog 77 143 2 32:=⟨by kernel_rfl,by kernel_rfl⟩
instance:Slt Tryz.prog 77:=⟨_,_,_,Le⟩
theorem Rr:(Tryz.prog.info? 79).map (fun i=>i.zero.map (·.cells))=some (some #[iV 0,sN,sN]):=by kernel_rfl
theorem Uh:gP Tryz.prog 79 3=true:=by kernel_rfl
theorem RG:places Tryz.prog 79=some [(0,1),(1,1),(2,1)]:=by kernel_rfl
instance UI:Fld Tryz.prog 79 0 0:=⟨by kernel_rfl⟩
instance UH:Fld Tryz.prog 79 1 1:=⟨by kernel_rfl⟩
instance UG:Fld Tryz.prog 79 2 2:=⟨by kernel_rfl⟩
theorem BN:gZ Tryz.prog 80=true:=by kernel_rfl
instance:Sca Tryz.prog 80:=⟨BN⟩
theorem sC:aZ Tryz.prog 80 25 1 24:=⟨by kernel_rfl,by kernel_rfl⟩
instance:Slt Tryz.prog 80:=⟨_,_,_,sC⟩
theorem Rq:(Tryz.prog.info? 82).map (fun i=>i.zero.map (·.cells))=some (some #[sN]):=by kernel_rfl
theorem Ug:gP Tryz.prog 82 1=true:=by kernel_rfl
theorem RF:places Tryz.prog 82=some [(0,1)]:=by kernel_rfl
instance UF:Fld Tryz.prog 82 0 0:=⟨by kernel_rfl⟩
theorem mO:(Tryz.prog.info? 84).map (fun i=>i.zero.map (·.cells))=some (some #[iV 0,iV 0,iV 0,iV 0,iV 0,iV 0,iV 0,iV 0,iV 0,iV 0,.string ByteArray.empty]):=by kernel_rfl
theorem bM:gP Tryz.prog 84 11=true:=by kernel_rfl
theorem qT:places Tryz.prog 84=some [(0,1),(1,1),(2,1),(3,1),(4,1),(5,1),(6,1),(7,1),(8,1),(9,1),(10,1)]:=by kernel_rfl
instance UE:Fld Tryz.prog 84 0 0:=⟨by kernel_rfl⟩
instance UD:Fld Tryz.prog 84 1 1:=⟨by kernel_rfl⟩
instance UC:Fld Tryz.prog 84 2 2:=⟨by kernel_rfl⟩
instance UB:Fld Tryz.prog 84 3 3:=⟨by kernel_rfl⟩
instance UA:Fld Tryz.prog 84 4 4:=⟨by kernel_rfl⟩
instance Uz:Fld Tryz.prog 84 5 5:=⟨by kernel_rfl⟩
instance Uy:Fld Tryz.prog 84 6 6:=⟨by kernel_rfl⟩
instance Ux:Fld Tryz.prog 84 7 7:=⟨by kernel_rfl⟩
instance Uw:Fld Tryz.prog 84 8 8:=⟨by kernel_rfl⟩
instance Uv:Fld Tryz.prog 84 9 9:=⟨by kernel_rfl⟩
instance Td:Fld Tryz.prog 84 10 10:=⟨by kernel_rfl⟩
theorem nD:(Tryz.prog.info? 93).map (fun i=>i.zero.map (·.cells))=some (some #[iV 0,iV 0,iV 0,iV 0,iV 0,iV 0,iV 0,iV 0,iV 0,iV 0]):=by kernel_rfl
theorem cH:gP Tryz.prog 93 10=true:=by kernel_rfl
theorem oD:places Tryz.prog 93=some [(0,1),(1,1),(2,1),(3,1),(4,1),(5,1),(6,1),(7,1),(8,1),(9,1)]:=by kernel_rfl
instance Uu:Fld Tryz.prog 93 0 0:=⟨by kernel_rfl⟩
instance Ut:Fld Tryz.prog 93 1 1:=⟨by kernel_rfl⟩
instance Us:Fld Tryz.prog 93 2 2:=⟨by kernel_rfl⟩
instance Ur:Fld Tryz.prog 93 3 3:=⟨by kernel_rfl⟩
instance Uq:Fld Tryz.prog 93 4 4:=⟨by kernel_rfl⟩
instance Up:Fld Tryz.prog 93 5 5:=⟨by kernel_rfl⟩
instance Uo:Fld Tryz.prog 93 6 6:=⟨by kernel_rfl⟩
instance Un:Fld Tryz.prog 93 7 7:=⟨by kernel_rfl⟩
instance Um:Fld Tryz.prog 93 8 8:=⟨by kernel_rfl⟩
instance Ul:Fld Tryz.prog 93 9 9:=⟨by kernel_rfl⟩
theorem IX:Tryz.prog.underlying 96=some (.int .u32):=by kernel_rfl
theorem MB:(Tryz.prog.underlying 96).isSome=true:=by kernel_rfl
theorem Em:gZ Tryz.prog 96=true:=by kernel_rfl
instance:Sca Tryz.prog 96:=⟨Em⟩
theorem Uf:gP Tryz.prog 98 256=true:=by kernel_rfl
theorem Qy:gZ Tryz.prog 102=true:=by kernel_rfl
instance:Sca Tryz.prog 102:=⟨Qy⟩
theorem Lh:gZ Tryz.prog 104=true:=by kernel_rfl
instance:Sca Tryz.prog 104:=⟨Lh⟩
theorem C4:gZ Tryz.prog 105=true:=by kernel_rfl
instance:Sca Tryz.prog 105:=⟨C4⟩
theorem LT:places Tryz.prog 107=some [(0,1),(1,1),(2,10),(12,1),(13,1),(14,1),(15,1),(16,1),(17,1),(18,1)]:=by kernel_rfl
instance T7:Fld Tryz.prog 107 0 0:=⟨by kernel_rfl⟩
instance T6:Fld Tryz.prog 107 1 1:=⟨by kernel_rfl⟩
instance T5:Fld Tryz.prog 107 2 2:=⟨by kernel_rfl⟩
instance T4:Fld Tryz.prog 107 3 12:=⟨by kernel_rfl⟩
instance T3:Fld Tryz.prog 107 4 13:=⟨by kernel_rfl⟩
instance T2:Fld Tryz.prog 107 5 14:=⟨by kernel_rfl⟩
instance T1:Fld Tryz.prog 107 6 15:=⟨by kernel_rfl⟩
instance T0:Fld Tryz.prog 107 7 16:=⟨by kernel_rfl⟩
instance TZ:Fld Tryz.prog 107 8 17:=⟨by kernel_rfl⟩
instance TY:Fld Tryz.prog 107 9 18:=⟨by kernel_rfl⟩
theorem QE:JG Tryz.prog 110=true:=by kernel_rfl
theorem Vg:(Tryz.prog.info? 110).map (·.zero)=some (some (.pointer none)):=by kernel_rfl
theorem QK:places Tryz.prog 112=some [(0,11),(11,1),(12,1),(13,1)]:=by kernel_rfl
instance TX:Fld Tryz.prog 112 0 0:=⟨by kernel_rfl⟩
instance TW:Fld Tryz.prog 112 1 11:=⟨by kernel_rfl⟩
instance TV:Fld Tryz.prog 112 2 12:=⟨by kernel_rfl⟩
instance TU:Fld Tryz.prog 112 3 13:=⟨by kernel_rfl⟩
theorem Db:JG Tryz.prog 127=true:=by kernel_rfl
theorem DL:(Tryz.prog.info? 131).map (fun i=>i.zero.map (·.cells))=some (some #[sN,iV 0,iV 0]):=by kernel_rfl
theorem Aj:places Tryz.prog 131=some [(0,1),(1,1),(2,1)]:=by kernel_rfl
instance TT:Fld Tryz.prog 131 0 0:=⟨by kernel_rfl⟩
instance TS:Fld Tryz.prog 131 1 1:=⟨by kernel_rfl⟩
instance TR:Fld Tryz.prog 131 2 2:=⟨by kernel_rfl⟩
theorem oZ:gZ Tryz.prog 132=true:=by kernel_rfl
instance:Sca Tryz.prog 132:=⟨oZ⟩
theorem qF:aZ Tryz.prog 132 137 15 160:=⟨by kernel_rfl,by kernel_rfl⟩
instance:Slt Tryz.prog 132:=⟨_,_,_,qF⟩
theorem QJ:places Tryz.prog 134=some [(0,1),(1,10),(11,1),(12,1),(13,3),(16,3),(19,3),(22,1),(23,1)]:=by kernel_rfl
instance TQ:Fld Tryz.prog 134 0 0:=⟨by kernel_rfl⟩
instance TP:Fld Tryz.prog 134 1 1:=⟨by kernel_rfl⟩
instance TO:Fld Tryz.prog 134 2 11:=⟨by kernel_rfl⟩
instance TN:Fld Tryz.prog 134 3 12:=⟨by kernel_rfl⟩
instance TM:Fld Tryz.prog 134 4 13:=⟨by kernel_rfl⟩
instance TL:Fld Tryz.prog 134 5 16:=⟨by kernel_rfl⟩
instance TK:Fld Tryz.prog 134 6 19:=⟨by kernel_rfl⟩
instance TJ:Fld Tryz.prog 134 7 22:=⟨by kernel_rfl⟩
instance TI:Fld Tryz.prog 134 8 23:=⟨by kernel_rfl⟩
theorem aM:gP Tryz.prog 137 15=true:=by kernel_rfl
theorem LS:places Tryz.prog 137=some [(0,1),(1,1),(2,11),(13,1),(14,1)]:=by kernel_rfl
instance TH:Fld Tryz.prog 137 0 0:=⟨by kernel_rfl⟩
instance TG:Fld Tryz.prog 137 1 1:=⟨by kernel_rfl⟩
instance TF:Fld Tryz.prog 137 2 2:=⟨by kernel_rfl⟩
instance TE:Fld Tryz.prog 137 3 13:=⟨by kernel_rfl⟩
instance TD:Fld Tryz.prog 137 4 14:=⟨by kernel_rfl⟩
theorem PE:(Tryz.prog.info? 143).map (fun i=>i.zero.map (·.cells))=some (some #[sN,iV 0]):=by kernel_rfl
theorem QI:places Tryz.prog 143=some [(0,1),(1,1)]:=by kernel_rfl
instance TC:Fld Tryz.prog 143 0 0:=⟨by kernel_rfl⟩
instance TB:Fld Tryz.prog 143 1 1:=⟨by kernel_rfl⟩
theorem mQ:(Tryz.prog.info? 152).map (fun i=>i.zero.map (·.cells))=some (some #[sN,iV 0]):=by kernel_rfl
theorem tJ:gP Tryz.prog 152 2=true:=by kernel_rfl
theorem sR:places Tryz.prog 152=some [(0,1),(1,1)]:=by kernel_rfl
instance TA:Fld Tryz.prog 152 0 0:=⟨by kernel_rfl⟩
instance Tz:Fld Tryz.prog 152 1 1:=⟨by kernel_rfl⟩
theorem Ry:Tryz.prog.underlying 158=some (.int .u64):=by kernel_rfl
theorem RQ:(Tryz.prog.underlying 158).isSome=true:=by kernel_rfl
theorem Eh:aZ Tryz.prog 162 165 1 8:=⟨by kernel_rfl,by kernel_rfl⟩
instance:Slt Tryz.prog 162:=⟨_,_,_,Eh⟩
theorem Gn:gZ Tryz.prog 165=true:=by kernel_rfl
instance:Sca Tryz.prog 165:=⟨Gn⟩
theorem PD:(Tryz.prog.info? 165).map (fun i=>i.zero.map (·.cells))=some (some #[.pointer none]):=by kernel_rfl
instance Ty:Fld Tryz.prog 169 0 0:=⟨by kernel_rfl⟩
theorem Rt:(Tryz.prog.info? 171).map (fun i=>i.zero.map (·.cells))=some (some #[iV 0,sN]):=by kernel_rfl
theorem QH:places Tryz.prog 171=some [(0,1),(1,1)]:=by kernel_rfl
instance Tx:Fld Tryz.prog 171 0 0:=⟨by kernel_rfl⟩
instance Tw:Fld Tryz.prog 171 1 1:=⟨by kernel_rfl⟩
theorem Bz:(Tryz.prog.info? 183).map (fun i=>i.zero.map (·.cells))=some (some #[.string ByteArray.empty,sN]):=by kernel_rfl
theorem DK:gP Tryz.prog 183 2=true:=by kernel_rfl
theorem LR:places Tryz.prog 183=some [(0,1),(1,1)]:=by kernel_rfl
instance Tv:Fld Tryz.prog 183 0 0:=⟨by kernel_rfl⟩
instance Tu:Fld Tryz.prog 183 1 1:=⟨by kernel_rfl⟩
theorem KJ:(Tryz.prog.info? 205).map (fun i=>i.zero.map (·.cells))=some (some #[iV 0,iV 0,iV 0,iV 0,iV 0,iV 0,iV 0,iV 0]):=by kernel_rfl
theorem Hq:gP Tryz.prog 205 8=true:=by kernel_rfl
theorem Lg:gZ Tryz.prog 208=true:=by kernel_rfl
instance:Sca Tryz.prog 208:=⟨Lg⟩
theorem Rs:(Tryz.prog.info? 210).map (fun i=>i.zero.map (·.cells))=some (some #[.pointer none,sN,iV 0,iV 0,.map none]):=by kernel_rfl
theorem QG:places Tryz.prog 210=some [(0,1),(1,1),(2,1),(3,1),(4,1)]:=by kernel_rfl
instance Tt:Fld Tryz.prog 210 0 0:=⟨by kernel_rfl⟩
instance Ts:Fld Tryz.prog 210 1 1:=⟨by kernel_rfl⟩
instance Tr:Fld Tryz.prog 210 2 2:=⟨by kernel_rfl⟩
instance Tq:Fld Tryz.prog 210 3 3:=⟨by kernel_rfl⟩
instance Tp:Fld Tryz.prog 210 4 4:=⟨by kernel_rfl⟩
theorem pK:(Tryz.prog.info? 224).map (fun i=>i.zero.map (·.cells))=some (some #[sN,iV 0]):=by kernel_rfl
theorem xA:gP Tryz.prog 224 2=true:=by kernel_rfl
theorem wJ:places Tryz.prog 224=some [(0,1),(1,1)]:=by kernel_rfl
instance To:Fld Tryz.prog 224 0 0:=⟨by kernel_rfl⟩
instance Tn:Fld Tryz.prog 224 1 1:=⟨by kernel_rfl⟩
theorem sF:(Tryz.prog.info? 235).map (fun i=>i.zero.map (·.cells))=some (some #[sN,iV 0]):=by kernel_rfl
theorem fO:gP Tryz.prog 235 2=true:=by kernel_rfl
theorem Ai:places Tryz.prog 235=some [(0,1),(1,1)]:=by kernel_rfl
instance Tm:Fld Tryz.prog 235 0 0:=⟨by kernel_rfl⟩
instance Tl:Fld Tryz.prog 235 1 1:=⟨by kernel_rfl⟩
theorem tX:aZ Tryz.prog 238 242 3 24:=⟨by kernel_rfl,by kernel_rfl⟩
instance:Slt Tryz.prog 238:=⟨_,_,_,tX⟩
theorem Qx:gZ Tryz.prog 240=true:=by kernel_rfl
instance:Sca Tryz.prog 240:=⟨Qx⟩
theorem kL:(Tryz.prog.info? 242).map (fun i=>i.zero.map (·.cells))=some (some #[.nilFunc,iV 0,iV 0]):=by kernel_rfl
theorem wZ:gP Tryz.prog 242 3=true:=by kernel_rfl
theorem mC:places Tryz.prog 242=some [(0,1),(1,1),(2,1)]:=by kernel_rfl
instance Tk:Fld Tryz.prog 242 0 0:=⟨by kernel_rfl⟩
instance Tj:Fld Tryz.prog 242 1 1:=⟨by kernel_rfl⟩
instance Ti:Fld Tryz.prog 242 2 2:=⟨by kernel_rfl⟩
theorem nO:(Tryz.prog.info? 253).map (fun i=>i.zero.map (·.cells))=some (some #[sN,.int .u32 0,.bool false,iV 0]):=by kernel_rfl
theorem cI:gP Tryz.prog 253 4=true:=by kernel_rfl
theorem pC:places Tryz.prog 253=some [(0,1),(1,1),(2,1),(3,1)]:=by kernel_rfl
instance Th:Fld Tryz.prog 253 0 0:=⟨by kernel_rfl⟩
instance Tg:Fld Tryz.prog 253 1 1:=⟨by kernel_rfl⟩
instance Tf:Fld Tryz.prog 253 2 2:=⟨by kernel_rfl⟩
instance Te:Fld Tryz.prog 253 3 3:=⟨by kernel_rfl⟩
theorem KI:(Tryz.prog.info? 268).map (fun i=>i.zero.map (·.cells))=some (some #[.int .u8 0,.int .u8 0,.int .u8 0]):=by kernel_rfl
theorem Bc:gP Tryz.prog 268 3=true:=by kernel_rfl
theorem fn8:fnB Tryz.prog 8=true:=by kernel_rfl
theorem fn9:fnB Tryz.prog 9=true:=by kernel_rfl
theorem V8:fnB Tryz.prog 10=true:=by kernel_rfl
theorem Pe:fnB Tryz.prog 11=true:=by kernel_rfl
theorem Re:fnB Tryz.prog 12=true:=by kernel_rfl
theorem Rb:fnB Tryz.prog 13=true:=by kernel_rfl
theorem V7:fnB Tryz.prog 14=true:=by kernel_rfl
theorem V6:fnB Tryz.prog 15=true:=by kernel_rfl
theorem V5:fnB Tryz.prog 17=true:=by kernel_rfl
theorem V4:fnB Tryz.prog 19=true:=by kernel_rfl
theorem V3:fnB Tryz.prog 20=true:=by kernel_rfl
theorem V2:fnB Tryz.prog 21=true:=by kernel_rfl
theorem Sg:fnB Tryz.prog 22=true:=by kernel_rfl
theorem M0:fnB Tryz.prog 23=true:=by kernel_rfl
theorem VZ:fnB Tryz.prog 24=true:=by kernel_rfl
theorem VY:fnB Tryz.prog 25=true:=by kernel_rfl
theorem VX:fnB Tryz.prog 26=true:=by kernel_rfl
theorem Sf:fnB Tryz.prog 27=true:=by kernel_rfl
theorem Se:fnB Tryz.prog 28=true:=by kernel_rfl
theorem MZ:fnB Tryz.prog 29=true:=by kernel_rfl
theorem MY:fnB Tryz.prog 30=true:=by kernel_rfl
theorem Sd:fnB Tryz.prog 31=true:=by kernel_rfl
theorem VW:fnB Tryz.prog 32=true:=by kernel_rfl
theorem VV:fnB Tryz.prog 33=true:=by kernel_rfl
theorem G9:fnB Tryz.prog 34=true:=by kernel_rfl
theorem MX:fnB Tryz.prog 35=true:=by kernel_rfl
theorem VU:fnB Tryz.prog 36=true:=by kernel_rfl
theorem Sb:fnB Tryz.prog 37=true:=by kernel_rfl
theorem MW:fnB Tryz.prog 38=true:=by kernel_rfl
theorem VT:fnB Tryz.prog 39=true:=by kernel_rfl
theorem VS:fnB Tryz.prog 40=true:=by kernel_rfl
theorem Sa:fnB Tryz.prog 41=true:=by kernel_rfl
theorem VR:fnB Tryz.prog 42=true:=by kernel_rfl
theorem VQ:fnB Tryz.prog 43=true:=by kernel_rfl
theorem VP:fnB Tryz.prog 44=true:=by kernel_rfl
theorem R9:fnB Tryz.prog 45=true:=by kernel_rfl
theorem VO:fnB Tryz.prog 46=true:=by kernel_rfl
theorem VN:fnB Tryz.prog 47=true:=by kernel_rfl
theorem VM:fnB Tryz.prog 48=true:=by kernel_rfl
theorem VL:fnB Tryz.prog 49=true:=by kernel_rfl
theorem R8:fnB Tryz.prog 50=true:=by kernel_rfl
theorem R7:fnB Tryz.prog 51=true:=by kernel_rfl
theorem VK:fnB Tryz.prog 52=true:=by kernel_rfl
theorem VJ:fnB Tryz.prog 53=true:=by kernel_rfl
theorem Ke:fnB Tryz.prog 54=true:=by kernel_rfl
theorem VI:fnB Tryz.prog 55=true:=by kernel_rfl
theorem Ra:fnB Tryz.prog 56=true:=by kernel_rfl
theorem R6:fnB Tryz.prog 57=true:=by kernel_rfl
theorem VH:fnB Tryz.prog 58=true:=by kernel_rfl
theorem VG:fnB Tryz.prog 59=true:=by kernel_rfl
theorem R5:fnB Tryz.prog 60=true:=by kernel_rfl
theorem iJ:fnB Tryz.prog 61=true:=by kernel_rfl
theorem Dx:fnB Tryz.prog 62=true:=by kernel_rfl
theorem VF:fnB Tryz.prog 63=true:=by kernel_rfl
theorem MV:fnB Tryz.prog 64=true:=by kernel_rfl
theorem Q9:fnB Tryz.prog 65=true:=by kernel_rfl
theorem MU:fnB Tryz.prog 66=true:=by kernel_rfl
theorem G8:fnB Tryz.prog 67=true:=by kernel_rfl
theorem VE:fnB Tryz.prog 68=true:=by kernel_rfl
theorem AO:fnB Tryz.prog 69=true:=by kernel_rfl
theorem VD:fnB Tryz.prog 70=true:=by kernel_rfl
theorem Q8:fnB Tryz.prog 71=true:=by kernel_rfl
theorem G7:fnB Tryz.prog 72=true:=by kernel_rfl
theorem R4:fnB Tryz.prog 73=true:=by kernel_rfl
theorem VC:fnB Tryz.prog 74=true:=by kernel_rfl
theorem VB:fnB Tryz.prog 75=true:=by kernel_rfl
theorem VA:fnB Tryz.prog 76=true:=by kernel_rfl
theorem Vz:fnB Tryz.prog 77=true:=by kernel_rfl
theorem R3:fnB Tryz.prog 78=true:=by kernel_rfl
theorem R0:fnB Tryz.prog 79=true:=by kernel_rfl
theorem Vy:fnB Tryz.prog 80=true:=by kernel_rfl
theorem Vx:fnB Tryz.prog 81=true:=by kernel_rfl
theorem Vv:fnB Tryz.prog 82=true:=by kernel_rfl
theorem Vu:fnB Tryz.prog 83=true:=by kernel_rfl
theorem Vt:fnB Tryz.prog 84=true:=by kernel_rfl
theorem Vs:fnB Tryz.prog 85=true:=by kernel_rfl
theorem Vr:fnB Tryz.prog 86=true:=by kernel_rfl
theorem RZ:fnB Tryz.prog 87=true:=by kernel_rfl
theorem RY:fnB Tryz.prog 88=true:=by kernel_rfl
theorem Pd:fnB Tryz.prog 89=true:=by kernel_rfl
theorem Vq:fnB Tryz.prog 90=true:=by kernel_rfl
theorem RX:fnB Tryz.prog 91=true:=by kernel_rfl
theorem RW:fnB Tryz.prog 92=true:=by kernel_rfl
theorem Vp:fnB Tryz.prog 93=true:=by kernel_rfl
theorem RV:fnB Tryz.prog 94=true:=by kernel_rfl
theorem Vo:fnB Tryz.prog 95=true:=by kernel_rfl
theorem Vn:fnB Tryz.prog 96=true:=by kernel_rfl
theorem Vm:fnB Tryz.prog 97=true:=by kernel_rfl
theorem RU:fnB Tryz.prog 98=true:=by kernel_rfl
theorem Vl:fnB Tryz.prog 99=true:=by kernel_rfl
theorem Tc:fnB Tryz.prog 100=true:=by kernel_rfl
theorem IB:fnB Tryz.prog 101=true:=by kernel_rfl
theorem Tb:fnB Tryz.prog 102=true:=by kernel_rfl
theorem Qg:fnB Tryz.prog 103=true:=by kernel_rfl
theorem Qf:fnB Tryz.prog 104=true:=by kernel_rfl
theorem FG:fnB Tryz.prog 105=true:=by kernel_rfl
theorem Ta:fnB Tryz.prog 106=true:=by kernel_rfl
theorem S9:fnB Tryz.prog 107=true:=by kernel_rfl
theorem S8:fnB Tryz.prog 108=true:=by kernel_rfl
theorem S7:fnB Tryz.prog 109=true:=by kernel_rfl
theorem FF:fnB Tryz.prog 110=true:=by kernel_rfl
theorem S6:fnB Tryz.prog 111=true:=by kernel_rfl
theorem S5:fnB Tryz.prog 112=true:=by kernel_rfl
theorem IA:fnB Tryz.prog 113=true:=by kernel_rfl
theorem S4:fnB Tryz.prog 114=true:=by kernel_rfl
theorem S3:fnB Tryz.prog 115=true:=by kernel_rfl
theorem sL:fnB Tryz.prog 116=true:=by kernel_rfl
theorem S2:fnB Tryz.prog 117=true:=by kernel_rfl
theorem S1:fnB Tryz.prog 118=true:=by kernel_rfl
theorem S0:fnB Tryz.prog 119=true:=by kernel_rfl
theorem SZ:fnB Tryz.prog 120=true:=by kernel_rfl
theorem SY:fnB Tryz.prog 121=true:=by kernel_rfl
theorem Qe:fnB Tryz.prog 122=true:=by kernel_rfl
theorem M2:fnB Tryz.prog 123=true:=by kernel_rfl
theorem Qd:fnB Tryz.prog 124=true:=by kernel_rfl
theorem eD:fnB Tryz.prog 125=true:=by kernel_rfl
theorem oM:fnB Tryz.prog 126=true:=by kernel_rfl
theorem Qc:fnB Tryz.prog 127=true:=by kernel_rfl
theorem SX:fnB Tryz.prog 128=true:=by kernel_rfl
theorem FE:fnB Tryz.prog 129=true:=by kernel_rfl
theorem SW:fnB Tryz.prog 130=true:=by kernel_rfl
theorem SV:fnB Tryz.prog 131=true:=by kernel_rfl
theorem SU:fnB Tryz.prog 132=true:=by kernel_rfl
theorem ST:fnB Tryz.prog 133=true:=by kernel_rfl
theorem Qb:fnB Tryz.prog 134=true:=by kernel_rfl
theorem SS:fnB Tryz.prog 135=true:=by kernel_rfl
theorem SR:fnB Tryz.prog 136=true:=by kernel_rfl
theorem SQ:fnB Tryz.prog 137=true:=by kernel_rfl
theorem M1:fnB Tryz.prog 138=true:=by kernel_rfl
theorem SP:fnB Tryz.prog 139=true:=by kernel_rfl
theorem SO:fnB Tryz.prog 140=true:=by kernel_rfl
theorem SN:fnB Tryz.prog 141=true:=by kernel_rfl
theorem SM:fnB Tryz.prog 142=true:=by kernel_rfl
theorem Qa:fnB Tryz.prog 143=true:=by kernel_rfl
theorem SL:fnB Tryz.prog 144=true:=by kernel_rfl
theorem P9:fnB Tryz.prog 145=true:=by kernel_rfl
theorem SJ:fnB Tryz.prog 146=true:=by kernel_rfl
theorem Iz:fnB Tryz.prog 147=true:=by kernel_rfl
theorem FD:fnB Tryz.prog 148=true:=by kernel_rfl
theorem P8:fnB Tryz.prog 149=true:=by kernel_rfl
theorem P7:fnB Tryz.prog 150=true:=by kernel_rfl
theorem SI:fnB Tryz.prog 151=true:=by kernel_rfl
theorem SH:fnB Tryz.prog 152=true:=by kernel_rfl
theorem SG:fnB Tryz.prog 153=true:=by kernel_rfl
theorem P6:fnB Tryz.prog 154=true:=by kernel_rfl
theorem P5:fnB Tryz.prog 155=true:=by kernel_rfl
theorem Iy:fnB Tryz.prog 156=true:=by kernel_rfl
theorem SE:fnB Tryz.prog 157=true:=by kernel_rfl
theorem SD:fnB Tryz.prog 158=true:=by kernel_rfl
theorem SC:fnB Tryz.prog 159=true:=by kernel_rfl
theorem SB:fnB Tryz.prog 160=true:=by kernel_rfl
theorem SA:fnB Tryz.prog 161=true:=by kernel_rfl
theorem P4:fnB Tryz.prog 162=true:=by kernel_rfl
theorem Sz:fnB Tryz.prog 163=true:=by kernel_rfl
theorem Sw:fnB Tryz.prog 164=true:=by kernel_rfl
theorem Sv:fnB Tryz.prog 165=true:=by kernel_rfl
theorem P3:fnB Tryz.prog 166=true:=by kernel_rfl
theorem Su:fnB Tryz.prog 167=true:=by kernel_rfl
theorem St:fnB Tryz.prog 168=true:=by kernel_rfl
theorem Ss:fnB Tryz.prog 169=true:=by kernel_rfl
theorem Sr:fnB Tryz.prog 170=true:=by kernel_rfl
theorem P2:fnB Tryz.prog 171=true:=by kernel_rfl
theorem PZ:fnB Tryz.prog 172=true:=by kernel_rfl
theorem PY:fnB Tryz.prog 173=true:=by kernel_rfl
theorem Sq:fnB Tryz.prog 174=true:=by kernel_rfl
theorem So:fnB Tryz.prog 175=true:=by kernel_rfl
theorem Sn:fnB Tryz.prog 176=true:=by kernel_rfl
theorem Sm:fnB Tryz.prog 177=true:=by kernel_rfl
theorem Sk:fnB Tryz.prog 178=true:=by kernel_rfl
theorem Sj:fnB Tryz.prog 179=true:=by kernel_rfl
theorem Sh:fnB Tryz.prog 180=true:=by kernel_rfl
theorem RR:IbT Tryz.prog 181:=Zw Tryz.func181 (by kernel_rfl) (by kernel_rfl) (by kernel_rfl) (by kernel_rfl)
theorem aK:Tryz.prog.follows .mixedOrders=true:=by kernel_rfl
def inN(n:Nat):Value:=iV n
theorem aP(x:UInt8):(b8 x).oneCell'=true:=rfl
theorem Qq{k k':IntKind}{a b c d:Int}(h1:a=c)(h2:b=d):Value.tuple #[.int k a,.int k' b]=Value.tuple #[.int k c,.int k' d]:=by rw[h1,h2]
theorem aB{H:Array Obj}{p:Nat}{cs:List Value}{T:TypeId}{fr:Nat×Nat}(h:H[p]?=some (.cells cs.toArray T fr)){i:Nat}{v:Value}(hi:cs[i]?=some v):bK H ((⟨p,0,none⟩:Addr).add i)=some v:=by
 rw[Addr.add_lit,cx];simp[bK,h,hi]
theorem cN{H:Array Obj}{p:Nat}{cs:List Value}{T:TypeId}{fr:Nat×Nat}(h:H[p]?=some (.cells cs.toArray T fr)){i:Nat}{v:Value}(hi:cs[i]?=some v):bK H (⟨p,i,none⟩:Addr)=some v:=by
 simp[bK,h,hi]
structure Hd where
 a:Option Addr
 n:Nat
 c:Nat
def hd(h:Hd):Value:=.slice h.a h.n h.c
theorem AI(h:Hd):(hd h).oneCell'=true:=rfl
def gG(D:Nat→Prop)(H:Array Obj)(hs:List Hd)(L:List By):Prop:=
 hs.length=L.length∧∀ (i:Nat) (h:Hd) (xs:By),hs[i]?=some h→L[i]?=some xs→h.n=xs.length∧Vw b8 H h.a h.c xs∧(xs≠[]→∀ k,blk h.a k→D k)
theorem Vw.keep'{α:Type}{enc:α→Value}{ao:Option Addr}{cap:Nat}{xs:List α}{w w':World}{S:Nat→Prop}(h:Vw enc w.heap ao cap xs)(f:aA S w w')(hs:xs≠[]→∀ a,ao=some a→¬ S a.block):Vw enc w'.heap ao cap xs:=by
 by_cases he:xs=[]
 ·subst he;exact Zt cap h.max
 ·exact h.ZN f (hs he)
theorem gG.ZN{D S:Nat→Prop}{w w':World}{hs:List Hd}{L:List By}(h:gG D w.heap hs L)(f:aA S w w')(hS:∀ k,D k→¬ S k):gG D w'.heap hs L:=
 ⟨h.1,fun i x xs hx hxs=>by
  obtain⟨h1,h2,h3⟩:=h.2 i x xs hx hxs;exact⟨h1,h2.keep' f (fun hne a ha=>hS _ (h3 hne _ ⟨a,ha,rfl⟩)),h3⟩⟩
theorem Zz{D:Nat→Prop}{H:Array Obj}:gG D H [] []:=⟨rfl,fun i h xs hh=>by simp at hh⟩
theorem gG.mono{D D':Nat→Prop}{H:Array Obj}{hs:List Hd}{L:List By}(h:gG D H hs L)(hd:∀ k,D k→D' k):gG D' H hs L:=
 ⟨h.1,fun i x xs hx hxs=>by obtain⟨h1,h2,h3⟩:=h.2 i x xs hx hxs;exact⟨h1,h2,fun hne k hk=>hd k (h3 hne k hk)⟩⟩
theorem gG.snoc{D:Nat→Prop}{H:Array Obj}{hs:List Hd}{L:List By}(h:gG D H hs L){x:Hd}{xs:By}(h1:x.n=xs.length)(h2:Vw b8 H x.a x.c xs)(h3:xs≠[]→∀ k,blk x.a k→D k):gG D H (hs++[x]) (L++[xs]):=by
 refine⟨by simp[h.1],fun i y ys hy hys=>?_⟩;by_cases hi:i<hs.length
 · rw[au hi] at hy
   rw[au (by rw[←h.1];exact hi)] at hys;exact h.2 i y ys hy hys
 · have hi':i=hs.length:=by
    have:=(ZS.1 hy).1;simp at this;omega
   subst hi';simp at hy;rw[h.1] at hys;simp at hys;subst hy;subst hys;exact⟨h1,h2,h3⟩
theorem gG.at{D:Nat→Prop}{H:Array Obj}{hs:List Hd}{L:List By}(h:gG D H hs L){i:Nat}(hi:i<L.length) :
 ∃ x:Hd,hs[i]?=some x∧x.n=(L.getD i []).length∧Vw b8 H x.a x.c (L.getD i [])∧(L.getD i []≠[]→∀ k,blk x.a k→D k):=by
 have hi2:i<hs.length:=by rw[h.1];exact hi
 refine⟨hs[i],ZQ hi2,?_⟩;have:=h.2 i hs[i] L[i] (ZQ hi2) (ZQ hi);simpa[Z2,hi] using this
theorem cX(n:Nat):Fr n (some (⟨n,0,none⟩:Addr)):=fun a ha=>by cases ha;exact Z0 _
theorem aS{B n:Nat}{ao bo:Option Addr}(h:Fr B ao)(hr:∀ a,bo=some a→ao=some a∨n≤a.block)(hn:B≤n):Fr B bo:=fun a ha=>by
 rcases hr a ha with h1|h1
 ·exact h a h1
 ·omega
theorem aA.fresh{S:Nat→Prop}{w w':World}(h:aA S w w')(hs:∀ k,S k→w.heap.size≤k):aA nob w w':=
 ⟨h.os,h.tape,h.output,h.size,fun k hk _=>h.same k hk (fun h'=>by have:=hs k h';omega)⟩
theorem aA.any{S:Nat→Prop}{w w':World}(h:aA nob w w'):aA S w w':=h.mono (fun _ h=>h.elim)
theorem dV{D:Nat→Prop}{S:Nat→Prop}{w w':World}(h:aA S w w')(hD:∀ k,w.heap.size≤k→D k):∀ k,w'.heap.size≤k→D k:=fun k hk=>hD k (aj h.size hk)
theorem Ld(s:By)(c:Int)(W:World):CA 180 [.string (bs s),.int .u8 c] W fun v w'=>v=iV (Lib.indexByte s c.toNat.toUInt8)∧w'=W:=by
 refine cS 8 [(0,_),(1,_)] Tryz.func180 ?_;refine Gz 9 ?_;refine cL (X5 RR rfl rfl) ?_;refine Gz 5 ?_;exact⟨_,rfl,rfl,rfl⟩
theorem MA(s:By)(c:Int)(W:World):CA 166 [.string (bs s),.int .u8 c] W fun v w'=>v=iV (Lib.indexByte s c.toNat.toUInt8)∧w'=W:=by
 refine cS 8 [(0,_),(1,_)] Tryz.func166 ?_;refine cA 9 Sh (Ld s c W) ?_;rintro _ w1 ⟨rfl,hw1⟩;subst w1;refine Gz 5 ?_;exact⟨_,rfl,rfl,rfl⟩
theorem H5{s:By}(h:Lib.indexByte s (0:Int).toNat.toUInt8<0):(0:UInt8)∉s:=(sK s 0).1 h
theorem H4{s:By}(h:0≤Lib.indexByte s (0:Int).toNat.toUInt8):(0:UInt8)∈s:=by
 apply ZY;intro hn;have:=(sK s 0).2 hn;have h2:Lib.indexByte s (0:Int).toNat.toUInt8=Lib.indexByte s 0:=rfl;omega
theorem iI:∀ a b:By,(Z8 a b || a == b) = !Z8 b a
|[],[]=>rfl
|[],_::_=>rfl
|_::_,[]=>rfl
|x::a,y::b=>by
   have ih:=iI a b;unfold Z8;rcases fb x.toNat y.toNat with h|h|h
   · have h1:x<y:=du.2 h
     have h2:¬ y<x:=by rw[du];omega
     have h3:x≠y:=by intro e;subst e;omega
     simp[h1,h2,Ne.symm h3]
   · have h1:x=y:=dn.1 h
     subst h1;have h2:¬ x<x:=by rw[du];omega
     simpa[h2] using ih
   · have h1:y<x:=du.2 h
     have h2:¬ x<y:=by rw[du];omega
     have h3:x≠y:=by intro e;subst e;omega
     simp[h1,h2,h3]
theorem Ax(a:By):Z8 [] a=true↔a≠[]:=by cases a<;>simp[Z8]
theorem OZ{a b:By}(h:Z8 a b=true):b≠[]:=by intro e;subst e;cases a<;>simp[Z8] at h
abbrev Xa:=By×By
def x0:Xa:=([],[])
def pY(x:By×Hd):List Value:=[.string (bs x.1),hd x.2]
theorem cE:iT 2 pY:=fun x=>⟨rfl,by simp[pY,Value.oneCell',hd]⟩
def XaV(H:Array Obj)(ao:Option Addr)(cap:Nat)(X:List Xa):Prop:=
 ∃ xs:List (By×Hd),VwM 2 pY H ao cap xs∧xs.length=X.length∧∀ (i:Nat) (x:By×Hd) (y:Xa),xs[i]?=some x→X[i]?=some y→x.1=y.1∧x.2.n=y.2.length∧Vw b8 H x.2.a x.2.c y.2∧y.1.length≤maxLen
theorem XaV.ZM{w w':World}{ao:Option Addr}{cap:Nat}{X:List Xa}(h:XaV w.heap ao cap X)(f:aA nob w w'):XaV w'.heap ao cap X:=by
 obtain⟨xs,h1,h2,h3⟩:=h;exact⟨xs,h1.ZM f,h2,fun i x y hx hy=>⟨(h3 i x y hx hy).1,(h3 i x y hx hy).2.1,(h3 i x y hx hy).2.2.1.ZM f,(h3 i x y hx hy).2.2.2⟩⟩
theorem XaV.non{H:Array Obj}{ao:Option Addr}{cap:Nat}{X:List Xa}(h:XaV H ao cap X):X.length≠0→ao≠none:=by
 obtain⟨xs,h1,h2,h3⟩:=h;rw[←h2];exact h1.non
theorem XaV.ZL{H:Array Obj}{ao:Option Addr}{cap:Nat}{X:List Xa}(h:XaV H ao cap X):(X.length:Int)≤9223372036854775807:=by
 obtain⟨xs,h1,h2,h3⟩:=h;rw[←h2];exact h1.ZL
theorem XaV.at{H:Array Obj}{ao:Option Addr}{cap:Nat}{X:List Xa}(h:XaV H ao cap X){i:Nat}{z:Int}(hz:z=i)(hi:i<X.length) :
 ∃ xa xc,(∀ j v,[Value.string (bs (X.getD i x0).1),.slice xa (X.getD i x0).2.length xc][j]?=some v→bK H ((adr ao (z.toNat*2)).add j)=some v)∧Vw b8 H xa xc (X.getD i x0).2∧(X.getD i x0).1.length≤maxLen:=by
 obtain⟨xs,h1,h2,h3⟩:=h;have hi2:i<xs.length:=by omega
 have e:X.getD i x0=X[i]:=by simp[Z2,hi]
 rw[e];obtain⟨e1,e2,e3,e4⟩:=h3 i xs[i] X[i] (ZQ hi2) (ZQ hi);have hrow:=h1.rowZ i hz (ZQ hi2);refine⟨xs[i].2.a,xs[i].2.c,fun j v hv=>hrow j v ?_,e3,e4⟩;rw[←hv,←e1,←e2];rfl
def HZ(X:List Xa):Nat→By
|0=>[]
|i+1=>(X.getD i x0).1
def Fv(X:List Xa)(i:Nat):Prop:=Z8 (HZ X i) (X.getD i x0).1=true∧(X.getD i x0).1.length≤40∧(0:UInt8)∉(X.getD i x0).1∧(X.getD i x0).2.length≤200
instance (X:List Xa)(i:Nat):Decidable (Fv X i):=by unfold Fv;exact inferInstance
def fB(X:List Xa):Prop:=(∀ i,i<X.length→Fv X i)∧X.length≤8
instance (X:List Xa):Decidable (fB X):=by unfold fB;exact inferInstance
structure Nd where
 names:List By
 ino:Int
 kind:Int
 md:Int
 ud:Int
 gd:Int
 data:By
 tgt:By
 xs:List Xa
 opq:Bool
structure NdH where
 names:Hd
 data:Hd
 xs:Hd
def hd0:Hd:=⟨none,0,0⟩
def nd0:Nd:=⟨[],0,0,0,0,0,[],[],[],false⟩
def Dk:NdH:=⟨hd0,hd0,hd0⟩
def aV(p:NdH×Nd):List Value:=[hd p.1.names,iV p.2.ino,iV p.2.kind,iV p.2.md,iV p.2.ud,iV p.2.gd,hd p.1.data,.string (bs p.2.tgt),hd p.1.xs,.bool p.2.opq]
theorem aE:iT 10 aV:=fun p=>⟨rfl,by
 intro v hv;simp only[aV,aw,bv,or_false] at hv;rcases hv with rfl|rfl|rfl|rfl|rfl|rfl|rfl|rfl|rfl|rfl<;>rfl⟩
def xT(s:By):Value:=.string (bs s)
section
variable {D D':Nat→Prop}{H:Array Obj}
def NmV(D:Nat→Prop)(H:Array Obj)(h:Hd)(l:List By):Prop:=h.n=l.length∧Vw xT H h.a h.c l∧(l≠[]→∀ k,blk h.a k→D k)
def ByV(D:Nat→Prop)(H:Array Obj)(h:Hd)(l:By):Prop:=h.n=l.length∧Vw b8 H h.a h.c l∧(l≠[]→∀ k,blk h.a k→D k)
def XsV(D:Nat→Prop)(H:Array Obj)(h:Hd)(X:List Xa):Prop:=
 h.n=X.length∧∃ ys:List (By×Hd),VwM 2 pY H h.a h.c ys∧ys.length=X.length∧(ys≠[]→∀ k,blk h.a k→D k)∧∀ (i:Nat) (x:By×Hd) (y:Xa),ys[i]?=some x→X[i]?=some y→x.1=y.1∧ByV D H x.2 y.2
def NdV(D:Nat→Prop)(H:Array Obj)(p:NdH×Nd):Prop:=NmV D H p.1.names p.2.names∧ByV D H p.1.data p.2.data∧XsV D H p.1.xs p.2.xs
def dG(D:Nat→Prop)(H:Array Obj)(ao:Option Addr)(cap:Nat)(ps:List (NdH×Nd)):Prop:=VwM 10 aV H ao cap ps∧∀ p∈ps,NdV D H p
theorem VwM.keep'{α:Type}{k:Nat}{enc:α→List Value}{ao:Option Addr}{cap:Nat}{xs:List α}{w w':World}{S:Nat→Prop}(h:VwM k enc w.heap ao cap xs)(f:aA S w w')(hs:xs≠[]→∀ a,ao=some a→¬ S a.block):VwM k enc w'.heap ao cap xs:=by
 by_cases hx:xs=[]
 ·subst hx;exact⟨h.le,h.max,h.non,fun i x hx=>by simp at hx⟩
 ·exact h.ZN f (hs hx)
theorem NmV.ZN{S:Nat→Prop}{w w':World}{h:Hd}{l:List By}(v:NmV D w.heap h l)(f:aA S w w')(hS:∀ k,D k→¬ S k):NmV D w'.heap h l:=
 ⟨v.1,v.2.1.keep' f (fun hne a ha=>hS _ (v.2.2 hne _ ⟨a,ha,rfl⟩)),v.2.2⟩
theorem ByV.ZN{S:Nat→Prop}{w w':World}{h:Hd}{l:By}(v:ByV D w.heap h l)(f:aA S w w')(hS:∀ k,D k→¬ S k):ByV D w'.heap h l:=
 ⟨v.1,v.2.1.keep' f (fun hne a ha=>hS _ (v.2.2 hne _ ⟨a,ha,rfl⟩)),v.2.2⟩
theorem XsV.ZN{S:Nat→Prop}{w w':World}{h:Hd}{X:List Xa}(v:XsV D w.heap h X)(f:aA S w w')(hS:∀ k,D k→¬ S k):XsV D w'.heap h X:=by
 obtain⟨h1,ys,h2,h3,h4,h5⟩:=v;exact⟨h1,ys,h2.keep' f (fun hne a ha=>hS _ (h4 hne _ ⟨a,ha,rfl⟩)),h3,h4,fun i x y hx hy=>⟨(h5 i x y hx hy).1,(h5 i x y hx hy).2.ZN f hS⟩⟩
theorem NdV.ZN{S:Nat→Prop}{w w':World}{p:NdH×Nd}(v:NdV D w.heap p)(f:aA S w w')(hS:∀ k,D k→¬ S k):NdV D w'.heap p:=⟨v.1.ZN f hS,v.2.1.ZN f hS,v.2.2.ZN f hS⟩
theorem NdV.ZM{w w':World}{p:NdH×Nd}(v:NdV D w.heap p)(f:aA nob w w'):NdV D w'.heap p:=v.ZN f (fun _ _=>id)
theorem NmV.mono{h:Hd}{l:List By}(v:NmV D H h l)(hd:∀ k,D k→D' k):NmV D' H h l:=⟨v.1,v.2.1,fun hne k hk=>hd k (v.2.2 hne k hk)⟩
theorem ByV.mono{h:Hd}{l:By}(v:ByV D H h l)(hd:∀ k,D k→D' k):ByV D' H h l:=⟨v.1,v.2.1,fun hne k hk=>hd k (v.2.2 hne k hk)⟩
theorem XsV.mono{h:Hd}{X:List Xa}(v:XsV D H h X)(hd:∀ k,D k→D' k):XsV D' H h X:=by
 obtain⟨h1,ys,h2,h3,h4,h5⟩:=v;exact⟨h1,ys,h2,h3,fun hne k hk=>hd k (h4 hne k hk),fun i x y hx hy=>⟨(h5 i x y hx hy).1,(h5 i x y hx hy).2.mono hd⟩⟩
theorem NdV.mono{p:NdH×Nd}(v:NdV D H p)(hd:∀ k,D k→D' k):NdV D' H p:=⟨v.1.mono hd,v.2.1.mono hd,v.2.2.mono hd⟩
theorem dG.ZN{S:Nat→Prop}{w w':World}{ao:Option Addr}{cap:Nat}{ps:List (NdH×Nd)}(v:dG D w.heap ao cap ps)(f:aA S w w')(hS:∀ k,D k→¬ S k)(ha:ps≠[]→∀ a,ao=some a→¬ S a.block):dG D w'.heap ao cap ps:=
 ⟨v.1.keep' f ha,fun p hp=>(v.2 p hp).ZN f hS⟩
theorem dG.ZM{w w':World}{ao:Option Addr}{cap:Nat}{ps:List (NdH×Nd)}(v:dG D w.heap ao cap ps)(f:aA nob w w'):dG D w'.heap ao cap ps:=v.ZN f (fun _ _=>id) (fun _ _ _=>id)
theorem XsV.xav{h:Hd}{X:List Xa}(v:XsV D H h X)(hl:∀ x∈X,x.1.length≤maxLen):XaV H h.a h.c X:=by
 obtain⟨h1,ys,h2,h3,h4,h5⟩:=v;exact⟨ys,h2,h3,fun i x y hx hy=>⟨(h5 i x y hx hy).1,(h5 i x y hx hy).2.1,(h5 i x y hx hy).2.2.1,hl y (ZW hy)⟩⟩
def okN(n:Nd):Prop:=∀ z∈[n.ino,n.kind,n.md,n.ud,n.gd],-9223372036854775808≤z∧z≤9223372036854775807
def smN(n:Nd):Prop:=n.tgt.length≤maxLen∧(∀ s∈n.names,s.length≤maxLen)∧∀ x∈n.xs,x.1.length≤maxLen
end
section
open Go Go.RowKit Go.ChangeShapes Go.WideShapes Go.ChangeAt Go.Deep
theorem Ud{n:Int}(h:(Lit.int .u8 n).wf=true):Value.int .u8 n=b8 (af n.toNat):=by
 have hb:0≤n∧n≤255:=by simpa[Lit.wf,IntKind.min,IntKind.max,IntKind.signed,IntKind.bits] using h
 have:((af n.toNat).toNat:Int)=n:=by
  rw[ck];omega
 rw[b8,this]
section
variable {H:Type}{enc:TypeId×Value→H}{P:Program}{w:World}{t e:TypeId}{d:DataW H}{p:List MemPlace}
theorem pO(ht:P.underlying t=some (.slice e))(he:P.underlying e=some (.int .u8))(hc:P.cellsOf e=1){fuel:Nat}{v:Value}{x:DataW H×List MemPlace}(h:DataW.trod enc P w 0 (fun _=>true) true fuel t [v]=some x) :
 ∃ (a:Option Addr) (cap:Nat) (xs:By),v=.slice a xs.length cap∧Vw b8 w.heap a cap xs:=by
 rcases open_ints ht he hc h with⟨hcs,_⟩|⟨x,l,c,zs,hcs,_,hl,hm,hz,_,hcell,hwz⟩
 ·refine⟨none,0,[],by simpa using hcs,Zt 0 (ZZ _)⟩
 · have hz':zs.length=c:=by simpa using hz
   refine⟨some x,c,(zs.take l).map (fun n=>af n.toNat),?_,by simp;omega,hm,fun _=>by simp,fun i u hu=>?_⟩
   · have:v=.slice (some x) l c:=by simpa using hcs
     rw[this];congr 1;simp;omega
   · rw[ax] at hu
     obtain⟨n,hn,rfl⟩:=ae.1 hu;rw[ar] at hn
     split at hn
     · have hi:i<zs.length:=(ZS.1 hn).1
       have:=hcell i hi;rw[show zs.getD i 0=n from by simp[Z2,hn]] at this;rw[←Ud (hwz n (ZW hn))];exact this
     ·cases hn
end
theorem LB{W w':World}{e:Ending}(h:Ret (fun v w'=>v=.bool true∧aA nob W w') e w'):e=.returned (.bool true)∧Below W.heap.size W w':=by
 obtain⟨v,rfl,rfl,hf⟩:=h;exact⟨rfl,hf.below⟩
end
section
open Go Go.RowKit Go.ChangeShapes Go.WideShapes Go.ChangeAt Go.Deep
section
variable {H:Type}{enc:TypeId×Value→H}{P:Program}{w:World}{t e:TypeId}{d:DataW H}{p:List MemPlace}
theorem EU{q:TypeId}{f0 f1:Field}(ht:P.underlying t=some (.slice e))(he:P.underlying e=some (.struct #[f0,f1]))(ce:P.cellsOf e=2)(o0:f0.offset=0)(o1:f1.offset=1)(c0:P.cellsOf f0.type=1)(c1:P.cellsOf f1.type=1)
 (hs:P.underlying f0.type=some .string)(hq:P.underlying f1.type=some (.slice q))(hb:P.underlying q=some (.int .u8))(hcq:P.cellsOf q=1){fuel:Nat}{v:Value}{x:DataW H×List MemPlace}(h:DataW.trod enc P w 0 (fun _=>true) true fuel t [v]=some x) :
 ∃ (a:Option Addr) (cap:Nat) (X:List Xa),v=.slice a X.length cap∧XaV w.heap a cap X:=by
 rcases open_slice_pairs ht he ce o0 o1 c0 c1 h with⟨hcs,_⟩|⟨a,len,cap,m,n,V0,V1,D0,D1,P0,P1,hcs,_,hl,hm,hmm,_,hx⟩
 ·refine⟨none,0,[],by simpa using hcs,[],Zx 0 (ZZ _),rfl,fun i x y hx=>by simp at hx⟩
 · simp only[if_true] at hmm
   have:Inhabited ((By×Hd)×Xa):=⟨(([],⟨none,0,0⟩),x0)⟩
   obtain⟨Y,hY⟩:=choose_lt (α:=(By×Hd)×Xa) (p:=fun i y=>V0 i=.string (bs y.1.1)∧V1 i=hd y.1.2∧y.1.1=y.2.1∧y.1.2.n=y.2.2.length∧Vw b8 w.heap y.1.2.a y.1.2.c y.2.2∧y.2.1.length≤maxLen) (n:=m) (fun i hi=>by
    obtain⟨_,_,h3,h4⟩:=hx i hi;obtain⟨s,hs1,_,hs2⟩:=DataW.trod_string hs h3;obtain⟨b,c,ys,h5,h6⟩:=pO hq hb hcq h4;have hs1:V0 i=.string s:=by simpa using hs1
    exact⟨((s.data.toList,⟨b,ys.length,c⟩),(s.data.toList,ys)),by rw[hs1];rfl,h5,rfl,rfl,h6,hs2⟩)
   refine⟨some a,cap,(bu len).map (fun i=>(Y i).2),by simpa using hcs,(bu len).map (fun i=>(Y i).1),⟨by simp;omega,hm,fun _=>by simp,fun i x hxi j v hv=>?_⟩,by simp,fun i x y hxi hyi=>?_⟩
   · rw[ax] at hxi
     obtain⟨k,hk,rfl⟩:=ae.1 hxi;have hki:k=i∧i<len:=by
      have:=ZS.1 hk;obtain⟨h1,h2⟩:=this;simp at h1 h2;omega
     obtain⟨rfl,hil⟩:=hki;obtain⟨h1,h2,_,_⟩:=hx k (by omega);obtain⟨g1,g2,_⟩:=hY k (by omega)
     match j,hv with
    |0,hv=>
       have:v=.string (bs (Y k).1.1):=by simpa[pY] using hv.symm
       rw[this,←g1];exact h1
    |1,hv=>
       have:v=hd (Y k).1.2:=by simpa[pY] using hv.symm
       rw[this,←g2];exact h2
    |j+2,hv=>simp[pY] at hv
   · rw[ax] at hxi hyi
     obtain⟨k,hk,rfl⟩:=ae.1 hxi;rw[hk] at hyi;simp at hyi;subst hyi;have hkl:k<len:=by have:=ZW hk;simpa using this
     obtain⟨_,_,h3⟩:=hY k (by omega);exact h3
end
end
section
open Go Go.RowKit Go.ChangeShapes Go.WideShapes Go.ChangeAt Go.Deep
section
variable {H:Type}{enc:TypeId×Value→H}{P:Program}{w:World}{t e:TypeId}{d:DataW H}{p:List MemPlace}
theorem Vw.blocks{α:Type}{en:α→Value}{Hp:Array Obj}{a:Option Addr}{c:Nat}{xs:List α}(h:Vw en Hp a c xs)(hne:xs≠[]):∀ k,blk a k→k<Hp.size:=fun k ⟨b,hb,e⟩=>by have:=h.lt hne b hb;omega
theorem JL{q:TypeId}(ht:P.underlying t=some (.slice q))(hq:P.underlying q=some .string)(hc:P.cellsOf q=1){fuel:Nat}{v:Value}{x:DataW H×List MemPlace}(h:DataW.trod enc P w 0 (fun _=>true) true fuel t [v]=some x) :
 ∃ (z:Hd) (l:List By),v=hd z∧NmV (fun k=>k<w.heap.size) w.heap z l∧∀ s∈l,s.length≤maxLen:=by
 rcases open_slice1 ht hc h with⟨hcs,_⟩|⟨x,l,c',m,n',V,Dd,Pl,hcs,_,hl,hm,hmm,_,hx⟩
 ·exact⟨hd0,[],show v=sN by simpa using hcs,⟨rfl,Zt 0 (ZZ _),fun h=>absurd rfl h⟩,by simp⟩
 · simp only[if_true] at hmm
   obtain⟨Y,hY⟩:=choose_lt (α:=By) (p:=fun i y=>V i=xT y∧y.length≤maxLen) (n:=m) (fun i hi=>by
    obtain⟨s,hs,_,hsz⟩:=DataW.trod_string hq (hx i hi).2;have hs:V i=.string s:=by simpa using hs
    exact⟨s.data.toList,hs,hsz⟩)
   have hv:Vw xT w.heap (some x) c' ((bu l).map Y):=⟨by simp;omega,hm,fun _=>by simp,fun i u hu=>by
    rw[ax] at hu;by_cases hi:i<l
    · simp[hi] at hu
      subst hu;have:=(hx i (by omega)).1;rw[(hY i (by omega)).1] at this;exact this
    ·simp[hi] at hu⟩
   refine⟨⟨some x,l,c'⟩,(bu l).map Y,show v=.slice (some x) l c' by simpa using hcs,⟨by simp,hv,fun hne k hk=>hv.blocks hne k hk⟩,fun s hs=>?_⟩;obtain⟨i,hi,rfl⟩:=av.1 hs;exact(hY i (by have:=bt.1 hi;omega)).2
theorem LY{q:TypeId}(ht:P.underlying t=some (.slice q))(hq:P.underlying q=some (.int .u8))(hc:P.cellsOf q=1){fuel:Nat}{v:Value}{x:DataW H×List MemPlace}(h:DataW.trod enc P w 0 (fun _=>true) true fuel t [v]=some x) :
 ∃ (z:Hd) (l:By),v=hd z∧ByV (fun k=>k<w.heap.size) w.heap z l:=by
 obtain⟨a,c,xs,h1,h2⟩:=pO ht hq hc h;exact⟨⟨a,xs.length,c⟩,xs,h1,rfl,h2,fun hne k hk=>h2.blocks hne k hk⟩
theorem LX{q:TypeId}{f0 f1:Field}(ht:P.underlying t=some (.slice e))(he:P.underlying e=some (.struct #[f0,f1]))(ce:P.cellsOf e=2)(o0:f0.offset=0)(o1:f1.offset=1)(c0:P.cellsOf f0.type=1)(c1:P.cellsOf f1.type=1)
 (hs:P.underlying f0.type=some .string)(hq:P.underlying f1.type=some (.slice q))(hb:P.underlying q=some (.int .u8))(hcq:P.cellsOf q=1){fuel:Nat}{v:Value}{x:DataW H×List MemPlace}(h:DataW.trod enc P w 0 (fun _=>true) true fuel t [v]=some x) :
 ∃ (z:Hd) (X:List Xa),v=hd z∧XsV (fun k=>k<w.heap.size) w.heap z X∧∀ x∈X,x.1.length≤maxLen:=by
 obtain⟨a,c,X,h1,xs,h2,h3,h4⟩:=EU ht he ce o0 o1 c0 c1 hs hq hb hcq h;refine⟨⟨a,X.length,c⟩,X,h1,⟨rfl,xs,h2,h3,fun hne k ⟨b,hb,e⟩=>?_,fun i x y hx hy=>?_⟩,fun x hx=>?_⟩
 ·have:=h2.lt hne (fun x=>by simp[pY]) b hb;omega
 · obtain⟨g1,g2,g3,_⟩:=h4 i x y hx hy
   exact⟨g1,g2,g3,fun hne k hk=>g3.blocks hne k hk⟩
 · obtain⟨i,hi⟩:=ab hx
   have hil:=(ZS.1 hi).1;exact(h4 i _ x (ZQ (by omega)) hi).2.2.2
theorem F4{z:Int}(h:(Lit.int .i64 z).wf=true) : -9223372036854775808≤z∧z≤9223372036854775807:=by simpa[Lit.wf,IntKind.min,IntKind.max,IntKind.signed,IntKind.bits] using h
structure Qk (P:Program)(e:TypeId)(f0 f1 f2 f3 f4 f5 f6 f7 g0 g1 g2 x0 x1:Field)(q0 q4 q6 q7:TypeId):Prop where
 und:P.underlying e=some (.struct #[f0,f1,f2,f3,f4,f5,f6,f7])
 cells:P.cellsOf e=10
 offs:[f0,f1,f2,f3,f4,f5,f6,f7].map (·.offset)=[0,1,2,3,6,7,8,9]
 cell:[f0,f1,f2,f3,f4,f5,f6,f7].map (fun f=>P.cellsOf f.type)=[1,1,1,3,1,1,1,1]
 u0:P.underlying f0.type=some (.slice q0)
 uq0:P.underlying q0=some .string
 cq0:P.cellsOf q0=1
 u1:P.underlying f1.type=some (.int .i64)
 u2:P.underlying f2.type=some (.int .i64)
 u3:P.underlying f3.type=some (.struct #[g0,g1,g2])
 goffs:[g0,g1,g2].map (·.offset)=[0,1,2]
 gcell:[g0,g1,g2].map (fun f=>P.cellsOf f.type)=[1,1,1]
 v0:P.underlying g0.type=some (.int .i64)
 v1:P.underlying g1.type=some (.int .i64)
 v2:P.underlying g2.type=some (.int .i64)
 u4:P.underlying f4.type=some (.slice q4)
 uq4:P.underlying q4=some (.int .u8)
 cq4:P.cellsOf q4=1
 u5:P.underlying f5.type=some .string
 u6:P.underlying f6.type=some (.slice q6)
 uq6:P.underlying q6=some (.struct #[x0,x1])
 cq6:P.cellsOf q6=2
 xoffs:x0.offset=0∧x1.offset=1
 xcell:P.cellsOf x0.type=1∧P.cellsOf x1.type=1
 w0:P.underlying x0.type=some .string
 w1:P.underlying x1.type=some (.slice q7)
 uq7:P.underlying q7=some (.int .u8)
 cq7:P.cellsOf q7=1
 u7:P.underlying f7.type=some .bool
theorem iB{cs:List Value}{i:Nat}(h:i<cs.length):(cs.drop i).take 1=[cs.getD i undef]:=by
 have h2:(cs.drop i).take 1=[cs[i]]:=by rw[bz h];rfl
 rw[h2];simp[Z2,h]
theorem JM{f0 f1 f2 f3 f4 f5 f6 f7 g0 g1 g2 x0 x1:Field}{q0 q4 q6 q7:TypeId}(T:Qk P e f0 f1 f2 f3 f4 f5 f6 f7 g0 g1 g2 x0 x1 q0 q4 q6 q7){fuel:Nat}{cs:List Value}{x:DataW H×List MemPlace}
 (h:DataW.trod enc P w 0 (fun _=>true) true fuel e cs=some x):∃ p:NdH×Nd,cs=aV p∧NdV (fun k=>k<w.heap.size) w.heap p∧okN p.2∧smN p.2:=by
 obtain⟨xs,n,_,_,hl,hxl,hf⟩:=DataW.trod_struct T.und h;rw[T.cells] at hl;have ho:=T.offs;have hc:=T.cell;simp only[db,ip,List.cons.injEq,and_true] at ho hc;obtain⟨o0,o1,o2,o3,o4,o5,o6,o7⟩:=ho;obtain⟨c0,c1,c2,c3,c4,c5,c6,c7⟩:=hc;have k0:=hf 0 f0 rfl;rw[ZQ (show 0<xs.length by rw[hxl];show _<8;decide)] at k0;have k1:=hf 1 f1 rfl;rw[ZQ (show 1<xs.length by rw[hxl];show _<8;decide)] at k1;have k2:=hf 2 f2 rfl;rw[ZQ (show 2<xs.length by rw[hxl];show _<8;decide)] at k2;have k3:=hf 3 f3 rfl;rw[ZQ (show 3<xs.length by rw[hxl];show _<8;decide)] at k3;have k4:=hf 4 f4 rfl;rw[ZQ (show 4<xs.length by rw[hxl];show _<8;decide)] at k4;have k5:=hf 5 f5 rfl;rw[ZQ (show 5<xs.length by rw[hxl];show _<8;decide)] at k5;have k6:=hf 6 f6 rfl;rw[ZQ (show 6<xs.length by rw[hxl];show _<8;decide)] at k6;have k7:=hf 7 f7 rfl;rw[ZQ (show 7<xs.length by rw[hxl];show _<8;decide)] at k7;rw[o0,c0,iB (by omega)] at k0;rw[o1,c1,iB (by omega)] at k1;rw[o2,c2,iB (by omega)] at k2;rw[o3,c3] at k3;rw[o4,c4,iB (by omega)] at k4;rw[o5,c5,iB (by omega)] at k5;rw[o6,c6,iB (by omega)] at k6;rw[o7,c7,iB (by omega)] at k7;obtain⟨z0,l0,e0,n0,s0⟩:=JL T.u0 T.uq0 T.cq0 k0;obtain⟨m1,e1,_,w1⟩:=DataW.trod_int T.u1 k1;obtain⟨m2,e2,_,w2⟩:=DataW.trod_int T.u2 k2;obtain⟨ys,n',_,_,gl,gxl,gf⟩:=DataW.trod_struct T.u3 k3;have go:=T.goffs;have gc:=T.gcell;simp only[db,ip,List.cons.injEq,and_true] at go gc;have j0:=gf 0 g0 rfl;rw[ZQ (show 0<ys.length by rw[gxl];show _<3;decide)] at j0;have j1:=gf 1 g1 rfl;rw[ZQ (show 1<ys.length by rw[gxl];show _<3;decide)] at j1;have j2:=gf 2 g2 rfl;rw[ZQ (show 2<ys.length by rw[gxl];show _<3;decide)] at j2;rw[go.1,gc.1,iB (by omega)] at j0;rw[go.2.1,gc.2.1,iB (by omega)] at j1;rw[go.2.2,gc.2.2,iB (by omega)] at j2;obtain⟨a0,d0,_,b0⟩:=DataW.trod_int T.v0 j0;obtain⟨a1,d1,_,b1⟩:=DataW.trod_int T.v1 j1;obtain⟨a2,d2,_,b2⟩:=DataW.trod_int T.v2 j2;obtain⟨z4,l4,e4,n4⟩:=LY T.u4 T.uq4 T.cq4 k4;obtain⟨s5,e5,_,w5⟩:=DataW.trod_string T.u5 k5;obtain⟨z6,l6,e6,n6,s6⟩:=LX T.u6 T.uq6 T.cq6 T.xoffs.1 T.xoffs.2 T.xcell.1 T.xcell.2 T.w0 T.w1 T.uq7 T.cq7 k6;obtain⟨b7,e7,_⟩:=DataW.trod_bool T.u7 k7;have e1:cs.getD 1 undef=iV m1:=by simpa using e1
 have e2:cs.getD 2 undef=iV m2:=by simpa using e2
 have g3:∀ i,i<3→((cs.drop 3).take 3).getD i undef=cs.getD (3+i) undef:=fun i hi=>by simp[Z2,hi,dc]
 have d0:cs.getD 3 undef=iV a0:=by rw[←g3 0 (by decide)];simpa using d0
 have d1:cs.getD 4 undef=iV a1:=by rw[←g3 1 (by decide)];simpa using d1
 have d2:cs.getD 5 undef=iV a2:=by rw[←g3 2 (by decide)];simpa using d2
 have e5:cs.getD 7 undef=.string s5:=by simpa using e5
 have e7:cs.getD 9 undef=.bool b7:=by simpa using e7
 refine⟨(⟨z0,z4,z6⟩,⟨l0,m1,m2,a0,a1,a2,l4,s5.data.toList,l6,b7⟩),?_,⟨n0,n4,n6⟩,?_,⟨w5,s0,s6⟩⟩
 · have key:∀ i v,i<10→cs.getD i undef=v→cs[i]?=some v:=fun i v hi hv=>by
    rw[ZQ (by omega)];rw[←hv];simp[Z2,show i<cs.length by omega]
   apply cd;intro i
   match i with
  |0=>exact key 0 _ (by decide) e0
  |1=>exact key 1 _ (by decide) e1
  |2=>exact key 2 _ (by decide) e2
  |3=>exact key 3 _ (by decide) d0
  |4=>exact key 4 _ (by decide) d1
  |5=>exact key 5 _ (by decide) d2
  |6=>exact key 6 _ (by decide) e4
  |7=>exact key 7 _ (by decide) e5
  |8=>exact key 8 _ (by decide) e6
  |9=>exact key 9 _ (by decide) e7
  |i+10=>rw[bq (by omega),bq (by simp[aV])]
 · intro z hz
   simp only[aw,bv,or_false] at hz;rcases hz with rfl|rfl|rfl|rfl|rfl
   ·exact F4 w1
   ·exact F4 w2
   ·exact F4 b0
   ·exact F4 b1
   ·exact F4 b2
theorem GP{f0 f1 f2 f3 f4 f5 f6 f7 g0 g1 g2 x0 x1:Field}{q0 q4 q6 q7:TypeId}(ht:P.underlying t=some (.slice e))(T:Qk P e f0 f1 f2 f3 f4 f5 f6 f7 g0 g1 g2 x0 x1 q0 q4 q6 q7){v:Value}(h:DataW.Trod enc P w 0 (fun _=>true) true t v d p)(hv:∃ a n c,v=.slice a n c) :
 ∃ (a:Option Addr) (cap:Nat) (ps:List (NdH×Nd)),v=.slice a ps.length cap∧dG (fun k=>k<w.heap.size) w.heap a cap ps∧∀ p∈ps,okN p.2∧smN p.2:=by
 obtain⟨fuel,hf⟩:=h;obtain⟨a,n,c,rfl⟩:=hv;rcases open_slice ht hf with⟨hcs,_⟩|⟨x,l,c',m,n',D,Pl,hcs,_,hl,hm,hmm,_,hx⟩
 ·exact⟨none,0,[],by simpa[Value.cells] using hcs,⟨Zx 0 (ZZ _),by simp⟩,by simp⟩
 · simp only[if_true] at hmm
   have:Inhabited (NdH×Nd):=⟨(Dk,nd0)⟩
   obtain⟨Y,hY⟩:=choose_lt (α:=NdH×Nd) (p:=fun i y=>(∀ j v,(aV y)[j]?=some v→w.cell? ((x.add (i*10)).add j)=some v)∧NdV (fun k=>k<w.heap.size) w.heap y∧okN y.2∧smN y.2) (n:=m) (fun i hi=>by
    obtain⟨cs',h1,h2⟩:=hx i hi;rw[T.cells] at h1;obtain⟨_,hlen,hcell⟩:=World.cells?_some h1;obtain⟨y,hy,y1,y2,y3⟩:=JM T h2;refine⟨y,fun j v hj=>?_,y1,y2,y3⟩;rw[←hy] at hj;have hjl:=(ZS.1 hj).1;rw[hcell j (by omega)];rw[←hj])
   refine⟨some x,c',(bu l).map Y,by simpa[Value.cells] using hcs,⟨⟨by simp;omega,hm,fun _=>by simp,fun i u hu j v hj=>?_⟩,fun y hy=>?_⟩,fun y hy=>?_⟩
   · rw[ax] at hu
     obtain⟨q,hq,rfl⟩:=ae.1 hu;have hqi:q=i∧i<l:=by
      have:=ZS.1 hq;obtain⟨h1,h2⟩:=this;simp at h1 h2;omega
     obtain⟨rfl,hil⟩:=hqi;have h1:=(hY q (by omega)).1 j v hj;show w.cell? (x.add (q*10+j))=some v;rw[←rZ];exact h1
   · obtain⟨q,hq,rfl⟩:=av.1 hy
     exact(hY q (by have:=bt.1 hq;omega)).2.1
   · obtain⟨q,hq,rfl⟩:=av.1 hy
     exact(hY q (by have:=bt.1 hq;omega)).2.2
end
end
section
variable {P:Program}{N:Nat}{l:SF}{w:World}{fn:Func}{R:Ending→World→Prop}
theorem qG{t:TypeId}{cs:List Value}{ad:Addr}(ht:gP P t cs.length=true)(hc:∀ j v,cs[j]?=some v→bK w.heap (ad.add j)=some v):(loadVar t ad).run P w=.ok (.agg cs.toArray) w:=by
 have hl:=run_loadCells_list (P:=P) w ad cs hc;simp only[Sem.run_bind,loadVar,Bb ht w,wY ht w,Result.andThen_ok,Sem.run_pure,if_true,hl]
theorem Zc{a u:Nat}{t:TypeId}{x:Value}{cs:List Value}{ad:Addr}(hr:fn.results=#[.cell a t,.tmp u])(ht:gP P t cs.length=true)(ha:lk l a=some (.pointer (some ad)))(hx:lk l u=some x)
 (hc:∀ j v,cs[j]?=some v→bK w.heap (ad.add j)=some v)(h:R (.returned (.tuple #[.agg cs.toArray,x])) w) :
 At ⟨N,[]⟩ .ret (bodyPost P fn R) l w:=fun act ha'=>by
 refine⟨ha'.dfr,_,?_,h⟩;have h1:=ha'.has a _ ha;have h2:=ha'.has u _ hx;have h3:=qG (P:=P) (w:=w) ht hc;simp[results,hr,h1,h2,asAddr,h3,Result.andThen]
theorem rC {a u:Nat} {t:TypeId} {x:Value} {cs:List Value} {p:Nat} {T:TypeId} {fr:Nat×Nat} (hg:w.heap[p]?=some (.cells cs.toArray T fr)) (ht:gP P t cs.length=true) (h:R (.returned (.tuple #[.agg cs.toArray,x])) w) (hr:fn.results=#[.cell a t,.tmp u]:=by rfl) (ha:lk l a=some (pT p):=by rfl) (hx:lk l u=some x:=by rfl):At ⟨N,[]⟩ .ret (bodyPost P fn R) l w:=Zc hr ht ha hx (fun j v hj=>vN hg hj) h
end
theorem zA{x:Int}(h:0≤x):IntKind.u8.wrap x=((af x.toNat).toNat:Int):=by
 have h1:IntKind.u8.wrap x=x%256:=by
  show IntKind.wrap .u8 x=_;simp[IntKind.wrap,IntKind.signed,IntKind.bits]
 rw[h1,ck];omega
theorem CW{z:Int}(h:(Lit.int .i64 z).wf=true) : -9223372036854775808≤z∧z≤9223372036854775807:=by
 have h1:IntKind.i64.min = -9223372036854775808:=rfl;have h2:IntKind.i64.max=9223372036854775807:=rfl;simp only[Lit.wf,h1,h2,ag,decide_eq_true_eq] at h;exact h
def xB(W:World)(r:By×Int):Value→World→Prop:=fun v w'=>∃ ao c,v=.tuple #[.slice ao r.1.length c,iV r.2]∧Own b8 5 w'.heap ao c r.1∧Fr W.heap.size ao∧aA nob W w'
def Wd(W:World)(x:By)(e:Int):Value→World→Prop:=fun v w'=>∃ ao c,v=.tuple #[.slice ao x.length c,iV e]∧Own b8 5 w'.heap ao c x∧Fr W.heap.size ao∧aA nob W w'
section
variable {P:Program}{N:Nt}{Q:Exit→Act→World→Prop}{l:SF}{w:World}{ops:Array Oper}{rest:List Oper}
variable {ty:TypeId}{pos:String}{aft:Array Edge}{d:Nat}{CH:Array Obj→Prop}
variable {x y:Operand}{t t' e:TypeId}{gd:Option (Nat×Bool)}{dd:Option Nat}
theorem KK{n:Nat}(h:n<256):IntKind.u8.wrap (n:Int)=n:=by
 show IntKind.wrap .u8 n=_;simp[IntKind.wrap,IntKind.signed,IntKind.bits];omega
theorem kZ{n:Nat}(h:n<4294967296):IntKind.u32.wrap (n:Int)=n:=by
 show IntKind.wrap .u32 n=_;simp[IntKind.wrap,IntKind.signed,IntKind.bits];omega
theorem Qh{a:Nat}(h:a<256):(BitVec.ofInt 8 (a:Int)).toNat=a:=by simp;omega
theorem DH{a:Nat}(h:a<4294967296):(BitVec.ofInt 32 (a:Int)).toNat=a:=by simp;omega
theorem rK{a b:Nat}(ha:a<256)(hb:b<256):a ^^^ b<256:=Nat.xor_lt_two_pow (n:=8) ha hb
theorem pZ{a b:Nat}(ha:a<4294967296)(hb:b<4294967296):a ^^^ b<4294967296:=Nat.xor_lt_two_pow (n:=32) ha hb
theorem Ep{a b:Nat}(ha:a<256)(hb:b<256)(w:World):(Op.intBits .xor .u8 (a:Int) (b:Int)).run P w=.ok (.int .u8 ((a ^^^ b:Nat):Int)) w:=by
 have h2:(BitVec.ofInt 8 (a:Int) ^^^ BitVec.ofInt 8 (b:Int)).toNat=a ^^^ b:=by rw[BitVec.toNat_xor,Qh ha,Qh hb]
 show (pure (Value.int .u8 (IntKind.u8.wrap ((BitVec.ofInt 8 (a:Int) ^^^ BitVec.ofInt 8 (b:Int)).toNat:Int))):Sem Value).run P w=_;rw[h2,KK (rK ha hb)];rfl
theorem BQ{a b:Nat}(ha:a<4294967296)(hb:b<4294967296)(w:World):(Op.intBits .xor .u32 (a:Int) (b:Int)).run P w=.ok (.int .u32 ((a ^^^ b:Nat):Int)) w:=by
 have h2:(BitVec.ofInt 32 (a:Int) ^^^ BitVec.ofInt 32 (b:Int)).toNat=a ^^^ b:=by rw[BitVec.toNat_xor,DH ha,DH hb]
 show (pure (Value.int .u32 (IntKind.u32.wrap ((BitVec.ofInt 32 (a:Int) ^^^ BitVec.ofInt 32 (b:Int)).toNat:Int))):Sem Value).run P w=_;rw[h2,kZ (pZ ha hb)];rfl
theorem XR{a b:Nat}(hx:evL l x=some (.int .u8 a))(hy:evL l y=some (.int .u8 b))(ha:a<256)(hb:b<256):Cm P N CH l ⟨dd,.binOp .xor t x y t',ty,pos,aft,gd⟩ (.int .u8 ((a ^^^ b:Nat):Int)):=fun c w hc _=>by
 simp[execOp,hc.ev hx,hc.ev hy,binOp,eqGuard];rw[Ep ha hb];rfl
theorem Xv{a b:Nat}(hx:evL l x=some (.int .u32 a))(hy:evL l y=some (.int .u32 b))(ha:a<4294967296)(hb:b<4294967296):Cm P N CH l ⟨dd,.binOp .xor t x y t',ty,pos,aft,gd⟩ (.int .u32 ((a ^^^ b:Nat):Int)):=fun c w hc _=>by
 simp[execOp,hc.ev hx,hc.ev hy,binOp,eqGuard];rw[BQ ha hb];rfl
theorem YP{a b:Nat}(hx:evL l x=some (.int .u32 a))(hy:evL l y=some (.int .u32 b))(ha:a<4294967296)(hb:b<4294967296):Cm P N CH l ⟨dd,.binOp .and t x y t',ty,pos,aft,gd⟩ (.int .u32 ((a &&& b:Nat):Int)):=fun c w hc _=>by
 have h1:(a &&& b)<4294967296:=ir Nat.and_le_left ha;have h2:(BitVec.ofInt 32 (a:Int) &&& BitVec.ofInt 32 (b:Int)).toNat=a &&& b:=by rw[BitVec.toNat_and,DH ha,DH hb]
 have h3:(Op.intBits .and .u32 (a:Int) (b:Int)).run P w=.ok (.int .u32 ((a &&& b:Nat):Int)) w:=by
  show (pure (Value.int .u32 (IntKind.u32.wrap ((BitVec.ofInt 32 (a:Int) &&& BitVec.ofInt 32 (b:Int)).toNat:Int))):Sem Value).run P w=_;rw[h2,kZ h1];rfl
 simp[execOp,hc.ev hx,hc.ev hy,binOp,eqGuard];rw[h3];rfl
theorem Zd{a:Nat}(hx:evL l x=some (.int .u8 a))(ha:a<256):Cm P N CH l ⟨dd,.unOp .xor t x,ty,pos,aft,gd⟩ (.int .u8 ((255 ^^^ a:Nat):Int)):=fun c w hc _=>by
 have h:=Ep (P:=P) (show 255<256 by decide) ha w;have h2:(if IntKind.u8.signed=true then (-1:Int) else IntKind.u8.max)=((255:Nat):Int):=rfl;simp only[execOp,hc.ev hx,Op.unary,h2,Sem.run_bind,h,Result.andThen_ok,Sem.run_pure]
theorem Yc{a:Nat}(hx:evL l x=some (.int .u32 a))(ha:a<4294967296):Cm P N CH l ⟨dd,.unOp .xor t x,ty,pos,aft,gd⟩ (.int .u32 ((4294967295 ^^^ a:Nat):Int)):=fun c w hc _=>by
 have h:=BQ (P:=P) (show 4294967295<4294967296 by decide) ha w;have h2:(if IntKind.u32.signed=true then (-1:Int) else IntKind.u32.max)=((4294967295:Nat):Int):=rfl;simp only[execOp,hc.ev hx,Op.unary,h2,Sem.run_bind,h,Result.andThen_ok,Sem.run_pure]
theorem Yd{a n:Nat}{k':IntKind}{m:Int}(hm:m=n)(hx:evL l x=some (.int .u32 a))(hy:evL l y=some (.int k' m))(hn:n≤32):Cm P N CH l ⟨dd,.binOp .shr t x y t',ty,pos,aft,gd⟩ (.int .u32 ((a/2 ^ n:Nat):Int)):=fun c w hc _=>by
 subst hm;have h1:¬ ((n:Int)<0):=by omega
 have h2:min (n:Int).toNat 32=n:=by omega
 have h3:(a:Int).fdiv (2 ^ n)=((a/2 ^ n:Nat):Int):=by rw[Int.fdiv_eq_ediv_of_nonneg _ (Int.pow_nonneg (by decide))];simp
 have h4:∀ w,(Op.shift .shr .u32 a k' n).run P w=.ok (.int .u32 ((a/2 ^ n:Nat):Int)) w:=fun w=>by
  unfold Op.shift;rw[ZO h1];show (pure (Value.int .u32 ((a:Int).fdiv (2 ^ min (n:Int).toNat 32))):Sem Value).run P w=_;rw[h2,h3];rfl
 have h5:∀ w:World,(if (!false)=true then (pure ():Sem Unit) else pure ()).run P w=.ok () w:=fun w=>rfl;simp only[execOp,hc.ev hx,hc.ev hy,eqGuard,binOp,Sem.run_bind,h5,h4,Result.andThen_ok,Sem.run_pure]
theorem Hn{a:Nat}(h:a<65536):(BitVec.ofInt 64 (a:Int) &&& ~~~BitVec.ofInt 64 32768).toNat=a%32768:=by
 apply Nat.eq_of_testBit_eq;intro i;rw[BitVec.testBit_toNat,BitVec.getLsbD_and,BitVec.getLsbD_not,show (32768:Nat)=2 ^ 15 from rfl,Nat.testBit_mod_two_pow];have e1:(BitVec.ofInt 64 (a:Int)).getLsbD i=a.testBit i:=by
  rw[←BitVec.testBit_toNat,rI (by omega)]
 have e2:(BitVec.ofInt 64 32768).getLsbD i=(2 ^ 15).testBit i:=by
  rw[←BitVec.testBit_toNat];rfl
 rw[e1,e2,Nat.testBit_two_pow];by_cases h15:i<15
 · have:¬ (15=i):=by omega
   simp[h15,this];intro _;omega
 · by_cases hi:15=i
   ·simp[hi]
   · have:a.testBit i=false:=Nat.testBit_lt_two_pow (cl h (gj (n:=2) (by decide) (show 16≤i by omega)))
     simp[this]
theorem Ye{a:Nat}(hx:evL l x=some (iV a))(hy:evL l y=some (iV 32768))(ha:a<65536):Cm P N CH l ⟨dd,.binOp .andNot t x y t',ty,pos,aft,gd⟩ (iV ((a%32768:Nat):Int)):=fun c w hc _=>by
 have h3:(Op.intBits .andNot .i64 (a:Int) 32768).run P w=.ok (iV ((a%32768:Nat):Int)) w:=by
  show (pure (Value.int .i64 (IntKind.i64.wrap ((BitVec.ofInt 64 (a:Int) &&& ~~~BitVec.ofInt 64 32768).toNat:Int))):Sem Value).run P w=_;rw[Hn ha,aU (by omega)];rfl
 simp[execOp,hc.ev hx,hc.ev hy,binOp,eqGuard];rw[h3];rfl
structure KH (P:Program)(t e:TypeId)(n size:Nat):Prop where
 und:P.underlying t=some (.array n e)
 size:(P.info? e).map (·.size)=some size
theorem KH.run_size{n size:Nat}(h:KH P t e n size)(w:World):(sizeOf e).run P w=.ok size w:=by
 obtain⟨i,hi,h1⟩:=ae.1 h.size;simp[sizeOf,typeInfo,hi,h1]
theorem Xl{n size:Nat}{ad:Addr}{k:IntKind}{z:Int}(ht:KH P t e n size)(hx:evL l x=some (.pointer (some ad)))(hy:evL l y=some (.int k z))(h:0≤z∧z<n) :
 Cm P N CH l ⟨dd,.indexAddr t x y,ty,pos,aft,gd⟩ (.pointer (some (ad.add (z.toNat*size)))):=fun a w ha _=>by
 simp only[execOp,ha.ev hx,ha.ev hy,Instr.indexAt,asIntOf,Instr.sureAddr,Sem.run_bind,run_underlying ht.und,Result.andThen_ok,Sem.run_pure,ht.run_size w,ZP h]
theorem Yf{n size:Nat}{parts:List (Nat×Operand)}{vs:List (Nat×Value)}{zc cs:Array Value}(ht:KH P t e n size)(hz:(P.info? t).map (fun i=>i.zero.map (·.cells))=some (some zc))
 (hx:evPs l parts=some vs)(hf:Instr.fill (fun i=>some (i*size,size)) zc vs=some cs):Cm P N CH l ⟨dd,.build t parts.toArray,ty,pos,aft,gd⟩ (.agg cs):=fun a w ha _=>by
 obtain⟨i,hi,h1⟩:=ae.1 hz;obtain⟨z,hz',rfl⟩:=ae.1 h1;have hv:=ha.evPs hx;simp only[execOp,Instr.build,Sem.run_bind,zeroValue,typeInfo,run_program,Result.andThen_ok,hi,hz',run_underlying ht.und,Sem.run_pure,ht.run_size w,jf,hv];rw[hf];simp
theorem Fp(he:P.underlying e=some (.int .u8))(hc:P.cellsOf e=1)(d:Nat)(xs ys:By)(w:World):∀ is:List Nat,(∀ i∈is,i<xs.length∧i<ys.length) →
 ∃ r,(Op.eqItems (d+1) e (P.cellsOf e) (xs.map b8).toArray (ys.map b8).toArray is).run P w=.ok r w∧(r=true↔∀ i∈is,xs[i]?=ys[i]?)
|[],_=>⟨true,by simp[Op.eqItems],by simp⟩
|i::r,h=>by
   obtain⟨q,hq,hq2⟩:=Fp he hc d xs ys w r (fun j hj=>h j (by simp[hj]));obtain⟨h1,h2⟩:=h i (by simp);have hag:(isAgg e).run P w=.ok false w:=by
    unfold isAgg;rw[Sem.run_bind,run_underlying he w];simp
   have hp:∀ l:By,(hl:i<l.length)→(part e (l.map b8).toArray (i*P.cellsOf e)).run P w=.ok (b8 l[i]) w:=fun l hl=>by
    unfold part;rw[Sem.run_bind,hag,hc];simp[hl]
   have hr:(gi (d+1) e (b8 xs[i]) (b8 ys[i])).run P w=.ok ((xs[i].toNat:Int) == (ys[i].toNat:Int)) w:=run_equalIn_int (P:=P) w d e .u8 .u8 (xs[i].toNat:Int) (ys[i].toNat:Int) he;refine⟨((xs[i].toNat:Int) == (ys[i].toNat:Int)) && q,?_,?_⟩
   · simp only[Op.eqItems,Sem.run_bind,hp xs h1,hp ys h2,Result.andThen_ok,hr]
     cases ((xs[i].toNat:Int) == (ys[i].toNat:Int))
     ·simp
     ·simpa using hq
   · rw[ag,hq2]
     have:((xs[i].toNat:Int) == (ys[i].toNat:Int))=true↔xs[i]?=ys[i]?:=by
      rw[beq_iff_eq,ZQ h1,ZQ h2];constructor
      ·intro h3;congr 1;exact dn.1 (by omega)
      ·intro h3;rw[dx.inj h3]
     rw[this];simp
theorem Yn{n:Nat}{xs ys:By}(hu:P.underlying t=some (.array n e))(hi:(P.info? e).isSome=true)(he:P.underlying e=some (.int .u8))(hc:P.cellsOf e=1)(hg:P.eqGuardType P.depth t=false)
 (hx:evL l x=some (.agg (xs.map b8).toArray))(hy:evL l y=some (.agg (ys.map b8).toArray))(h1:xs.length=n)(h2:ys.length=n):Cm P N CH l ⟨dd,.binOp .eql t x y t',ty,pos,aft,gd⟩ (.bool (decide (xs=ys))):=fun a w ha _=>by
 obtain⟨i,hi⟩:=fj.1 hi;have g1:=run_eqGuard_agg (P:=P) w .eql t x y (xs.map b8).toArray (ys.map b8).toArray hg;have g2:=run_eql_struct (P:=P) w t (xs.map b8).toArray (ys.map b8).toArray;rw[run_equalIn_array w 9999 _ _ hu hi] at g2;obtain⟨r,hr,hr2⟩:=Fp he hc 9998 xs ys w (bu n) (fun j hj=>by have:=bt.1 hj;omega);rw[hr] at g2;have e1:r=decide (xs=ys):=by
  rw[Bool.eq_iff_iff,hr2,decide_eq_true_iff];constructor
  · intro h
    apply cd;intro j;by_cases hj:j<n
    ·exact h j (bt.2 hj)
    ·rw[bq (by omega),bq (by omega)]
  ·rintro rfl j _;rfl
 simp only[execOp,ha.ev hx,ha.ev hy,Sem.run_bind,g1,g2,Result.andThen_ok,Sem.run_pure,e1]
theorem Yo{ad:Addr}{n len cap:Nat}(ht:P.underlying t=some (.array n e))(hx:evL l x=some (.slice (some ad) len cap))(hl:n≤len):Cm P N CH l ⟨dd,.sliceToArrayPointer t x,ty,pos,aft,gd⟩ (.pointer (some ad)):=fun a w ha _=>by
 simp only[execOp,ha.ev hx,Instr.arrayAt,Sem.run_bind,run_underlying ht,Result.andThen_ok];rw[ZO (by omega)];simp
theorem Xd{M:Nat}{fn:Func}{R:Ending→World→Prop}{t1 t2 t3 t4 t5:Nat}{v1 v2 v3 v4 v5:Value}(hr:fn.results=#[.tmp t1,.tmp t2,.tmp t3,.tmp t4,.tmp t5])(h1:lk l t1=some v1)(h2:lk l t2=some v2)(h3:lk l t3=some v3)(h4:lk l t4=some v4)(h5:lk l t5=some v5)
 (h:R (.returned (.tuple #[v1,v2,v3,v4,v5])) w):At ⟨M,[]⟩ .ret (bodyPost P fn R) l w:=fun a ha=>by
 refine⟨ha.dfr,_,?_,h⟩;simp[results,hr,ha.has t1 v1 h1,ha.has t2 v2 h2,ha.has t3 v3 h3,ha.has t4 v4 h4,ha.has t5 v5 h5]
theorem Yg{f:Fn}{cs:List Operand}{vs:List Value}(hx:yA l cs=some vs):Cm P N CH l ⟨dd,.makeFunc f #[] cs.toArray,ty,pos,aft,gd⟩ (.func f #[] vs.toArray):=fun a w ha _=>by
 have:=ha.evs hx;simp[execOp,Instr.makeFunc];rw[←this]
theorem XV{M:Nat}{fn:Func}{R:Ending→World→Prop}{a:Nat}{cs:List Value}{ad:Addr}(hr:fn.results=#[.cell a t])(ht:gP P t cs.length=true)(ha:lk l a=some (.pointer (some ad)))
 (hc:∀ j v,cs[j]?=some v→bK w.heap (ad.add j)=some v)(h:R (.returned (.agg cs.toArray)) w) :
 At ⟨M,[]⟩ .ret (bodyPost P fn R) l w:=fun act ha'=>by
 refine⟨ha'.dfr,_,?_,h⟩;have h1:=ha'.has a _ ha;have h3:=qG (P:=P) (w:=w) ht hc;simp[results,hr,h1,asAddr,h3]
end
def e1(r:Nat):Nat:=(r/2) ^^^ (if r%2=1 then 3988292384 else 0)
def eN(r:Nat):Nat→Nat
|0=>r
|k+1=>e1 (eN r k)
def ent(i:Nat):Nat:=eN i 8
def Ri(r:Nat)(c:UInt8):Nat:=(r/256) ^^^ ent ((r%256) ^^^ c.toNat)
def Bt(r:Nat)(b:By):Nat:=b.foldl Ri r
def eU(b:By):Nat:=4294967295 ^^^ Bt 4294967295 b
theorem Ua{r:Nat}(h:r<4294967296):e1 r<4294967296:=pZ (by omega) (by split<;>decide)
theorem IG{r:Nat}(h:r<4294967296):∀ k,eN r k<4294967296
|0=>h
|k+1=>Ua (IG h k)
theorem He{i:Nat}(h:i<4294967296):ent i<4294967296:=IG h 8
theorem G3(r:Nat)(c:UInt8):(r%256) ^^^ c.toNat<256:=rK (by omega) c.toNat_lt
theorem Pq{r:Nat}(h:r<4294967296)(c:UInt8):Ri r c<4294967296:=pZ (by omega) (He (by have:=G3 r c;omega))
theorem rV:∀ (b:By) {r:Nat},r<4294967296→Bt r b<4294967296
|[],_,h=>h
|c::b,r,h=>rV b (Pq h c)
theorem rP(b:By):eU b<4294967296:=pZ (by decide) (rV b (by decide))
theorem CJ(r:Nat)(b:By)(c:UInt8):Bt r (b++[c])=Ri (Bt r b) c:=by unfold Bt;rw[cy];rfl
theorem BG{b:By}{i:Nat}(h:i<b.length):b.take (i+1)=b.take i++[b.getD i 0]:=by
 rw[am h,Z2,ZQ h];rfl
def tT(i:Nat):List Value:=(bu 256).map (fun j=>.int .u32 ((if j<i then ent j else 0:Nat):Int))
def tab:List Value:=(bu 256).map (fun j=>.int .u32 ((ent j:Nat):Int))
theorem zL(i:Nat):(tT i).length=256:=by simp[tT]
theorem C1:tab.length=256:=by simp[tab]
theorem KZ{i:Nat}(h:i<256):(tT i).set i (.int .u32 ((ent i:Nat):Int))=tT (i+1):=by
 apply cd;intro q;rw[List.getElem?_set,zL];by_cases hq:i=q
 · subst hq
   rw[ZP rfl,ZP h];simp[tT,h]
 · rw[ZO hq]
   unfold tT;rw[ax,ax];by_cases hq2:q<256
   · rw[List.getElem?_range hq2]
     simp only[dp];congr 3;by_cases h3:q<i
     ·rw[ZP h3,ZP (by omega)]
     ·rw[ZO h3,ZO (by omega)]
   ·rw[bq (by simp;omega)];rfl
theorem K1:tT 256=tab:=by
 unfold tT tab;apply gq;intro j hj;rw[ZP (bt.1 hj)]
theorem BI:(bg 256 (.int .u32 0):List Value)=tT 0:=by kernel_rfl
theorem NX{i:Nat}(h:i<256):tab[i]?=some (.int .u32 ((ent i:Nat):Int)):=by simp[tab,h]
theorem HC:∀ v∈tab,v.oneCell'=true:=by
 intro v hv;obtain⟨j,_,rfl⟩:=av.1 hv;rfl
theorem Ql:(Tryz.prog.info? 98).map (fun i=>i.zero.map (·.cells))=some (some (bg 256 (.int .u32 0)).toArray):=by kernel_rfl
theorem Ue:KH Tryz.prog 98 96 256 1:=⟨by kernel_rfl,by kernel_rfl⟩
theorem DJ:gP Tryz.prog 98 tab.length=true:=by rw[C1];exact Uf
def TbV(H:Array Obj)(p:Nat):Prop:=H[p]?=some (.cells tab.toArray 98 (0,0))
theorem NK(q i:Nat):(⟨q,0,none⟩:Addr).add (((i:Nat):Int).toNat*1)=⟨q,i,none⟩:=by rw[Addr.add_lit];simp
theorem MJ{x:Nat}(h:x<4294967296):IntKind.u32.wrap (((x &&& 1:Nat):Int)*3988292384)=((if x%2=1 then 3988292384 else 0:Nat):Int):=by
 have e:x &&& 1=x%2:=Nat.and_one_is_mod x;rw[e];by_cases h1:x%2=1
 ·rw[ZP h1,h1];rfl
 ·rw[ZO h1,show x%2=0 by omega];rfl
theorem Kr(W:World):CA 32 [] W fun v w'=>v=.agg tab.toArray∧aA nob W w':=by
 refine cS 23 [] Tryz.func32 ?_;refine Gz 2 ?_;refine Wn Ql rfl ?_;intro w1 hg1 hs1 hf1;have hg1:w1.heap[W.heap.size]?=some (.cells (tT 0).toArray 98 (0,0)):=by rw[←BI];exact hg1
 refine Gz 4 ?_;refine Wn Ql rfl ?_;intro w2 hg2 hs2 hf2;have hg2:w2.heap[w1.heap.size]?=some (.cells (tT 0).toArray 98 (0,0)):=by rw[←BI];exact hg2
 have hg12:=hf2.obj hg1 id;obtain⟨q,hq⟩:∃ q,q=w1.heap.size:=⟨_,rfl⟩
 rw[←hq] at hg2 ⊢;have hF2:=hf1.trans hf2;refine Gz 9 ?_;refine Wp (β:=Nat) (fun i=>[(0,pT W.heap.size),(1,pT q),(4,iV i)]) (fun i w=>i≤256∧w.heap[q]?=some (.cells (tT i).toArray 98 (0,0))∧w.heap[W.heap.size]?=some (.cells (tT 0).toArray 98 (0,0))∧aA nob W w) (fun i=>256-i) 0 ⟨rfl,rfl,rfl,trivial⟩ ⟨by decide,hg2,hg12,hF2⟩ ?_;rintro i w3 ⟨hi,hgq,hgr,hF3⟩;refine fK 2 ?_ ?_<;>intro h5
 ·refine Gz 17 ?_;refine cL (Wr (n:=(i:Int)) is3 IX rfl (kZ (by omega))) ?_;refine Gz 10 ?_;refine Wp (β:=Nat) (fun k=>[(0,pT W.heap.size),(1,pT q),(2,iV i),(3,.int .u32 ((eN i k:Nat):Int)),(4,iV i),(9,iV k)]) (fun k w=>k≤8∧w=w3) (fun k=>8-k) 0 ⟨rfl,rfl,rfl,rfl,rfl,rfl,trivial⟩ ⟨by decide,rfl⟩ ?_;rintro k wq ⟨hk,hwq⟩;subst wq;refine fK 2 ?_ ?_<;>intro h10
  ·refine Gz 10 ?_;have hlt:=IG (r:=i) (by omega) k;refine cL (Yd (n:=1) rfl rfl rfl (by decide)) ?_;refine Gz 1 ?_;refine cL (YP (b:=1) rfl rfl hlt (by decide)) ?_;refine cL (Wm (u:=.int .u32 ((if eN i k%2=1 then 3988292384 else 0:Nat):Int)) (Yt rfl rfl) (by rw[MJ hlt])) ?_;refine cL (Xv rfl rfl (by omega) (by split<;>decide)) ?_;refine Gz 8 ?_;exact aG (k+1) ⟨by omega,rfl⟩ (by show 8-(k+1)<8-k;omega)
  refine Gz 12 ?_;refine cL (Wm (u:=.pointer (some ⟨q,i,none⟩)) (Xl Ue rfl rfl (by omega)) (by rw[NK])) ?_;have hk8:k=8:=by omega
  subst hk8;refine Wl Em rfl rfl rfl hgq (by rw[dg,zL];omega) ?_;intro w4 hg4 hs4 hf4;have hg4:w4.heap[q]?=some (.cells (tT (i+1)).toArray 98 (0,0)):=by rw[hg4];congr 2;rw[←KZ (by omega)];rfl
  refine Gz 7 ?_;exact aG (i+1) ⟨by omega,hg4,hf4.obj hgr (by omega),hF3.tw hf4⟩ (by show 256-(i+1)<256-i;omega)
 refine Gz 11 ?_;have hi2:i=256:=by omega
 subst hi2;rw[K1] at hgq;refine cL (Ws (cs:=tab) DJ rfl (fun j v hj=>aB hgq hj)) ?_;refine WP (vs:=tab) DJ rfl rfl HC hgr (by rw[C1,zL]) ?_;intro w5 hg5 hs5 hf5;refine Gz 3 ?_;refine XV (cs:=tab) rfl DJ rfl (fun j v hj=>aB hg5 hj) ?_;exact⟨_,rfl,rfl,hF3.tw hf5⟩
theorem zB(n:Nat):IntKind.u8.wrap (n:Int)=((n%256:Nat):Int):=by
 show IntKind.wrap .u8 n=_;simp[IntKind.wrap,IntKind.signed,IntKind.bits]
theorem OL(p:Nat)(s:Nat)(ao:Option Addr)(c:Nat)(b:By)(W:World)(ht:TbV W.heap p)(hv:Vw b8 W.heap ao c b)(hs:s<4294967296) :
 CA 111 [pT p,.int .u32 (s:Nat),.slice ao b.length c] W fun v w'=>v=.int .u32 ((4294967295 ^^^ Bt (4294967295 ^^^ s) b:Nat):Int)∧w'=W:=by
 have hs2:=pZ (show 4294967295<4294967296 by decide) hs;have hl:=hv.ZL;refine cS 32 [(0,_),(1,_),(2,_)] Tryz.func111 ?_;refine Gz 8 ?_;refine cL (Yc rfl hs) ?_;refine Gz 12 ?_;refine Wp (β:=Nat) (fun i=>[(0,pT p),(7,.int .u32 ((Bt (4294967295 ^^^ s) (b.take i):Nat):Int)),(12,.slice ao b.length c),(13,iV b.length),(14,iV i)]) (fun i w=>i≤b.length∧w=W) (fun i=>b.length-i) 0 ⟨rfl,rfl,rfl,rfl,rfl,trivial⟩ ⟨ZZ _,rfl⟩ ?_;rintro i wq ⟨hi,hwq⟩;subst wq;refine fK 2 ?_ ?_<;>intro h15
 ·refine Gz 10 ?_;refine cL (Wi aH rfl rfl hv.non (by omega)) ?_;refine cL (Wk eC rfl (hv.gz 0 i rfl (by omega))) ?_;obtain⟨r,hr⟩:∃ r,r=Bt (4294967295 ^^^ s) (b.take i):=⟨_,rfl⟩
  have hrl:r<4294967296:=by rw[hr];exact rV _ hs2
  rw[←hr];have hix:=G3 r (b.getD i 0);refine Gz 5 ?_;refine cL (Yd (n:=8) rfl rfl rfl (by decide)) ?_;refine Gz 2 ?_;refine cL (Wr (n:=((r%256:Nat):Int)) MB ty5 rfl (zB r)) ?_;refine Gz 1 ?_;refine cL (XR rfl rfl (by omega) (b.getD i 0).toNat_lt) ?_;refine Gz 1 ?_;refine cL (Wm (u:=.pointer (some ⟨p,(r%256) ^^^ (b.getD i 0).toNat,none⟩)) (Xl Ue rfl rfl (by omega)) (by rw[NK])) ?_;refine cL (Wk Em rfl (cN ht (NX hix))) ?_;refine cL (Xv rfl rfl (by omega) (He (by omega))) ?_;refine Gz 8 ?_;refine Wz (i+1) ⟨rfl,?_,rfl,rfl,rfl,trivial⟩ ⟨by omega,rfl⟩ (by show b.length-(i+1)<b.length-i;omega);rw[BG (by omega),CJ,←hr];rfl
 refine Gz 12 ?_;refine cL (Yc rfl (rV _ hs2)) ?_;refine Gz 5 ?_;rw[Z4 (by omega)];exact⟨_,rfl,rfl,rfl⟩
theorem K3(p:Nat)(ao:Option Addr)(c:Nat)(b:By)(W:World)(ht:TbV W.heap p)(hv:Vw b8 W.heap ao c b) :
 CA 73 [pT p,.slice ao b.length c] W fun v w'=>v=.int .u32 ((eU b:Nat):Int)∧w'=W:=by
 refine cS 8 [(0,_),(1,_)] Tryz.func73 ?_;refine Gz 9 ?_;refine Wh S6 rfl (OL p 0 ao c b W ht hv (by decide)) rfl ?_;rintro _ w1 ⟨rfl,hw1⟩;subst w1;refine Gz 5 ?_;exact⟨_,rfl,rfl,rfl⟩
theorem Rh{r:Nat}(h:r%2=1):(r/2) ^^^ 3988292384=e1 r:=by unfold e1;rw[ZP h]
theorem Pj{r:Nat}(h:¬ r%2=1):r/2=e1 r:=by unfold e1;rw[ZO h,Nat.xor_zero]
theorem PK{r n:Nat}(hr:r<4294967296):IntKind.u32.wrap (((r:Nat):Int).tdiv n)=((r/n:Nat):Int):=by
 have h:=Nat.div_le_self r n;rw[show ((r:Nat):Int).tdiv n=((r/n:Nat):Int) from rfl,kZ (by omega)]
theorem M7(i:Nat)(W:World)(hi:i<4294967296):CA 109 [iV i] W fun v w'=>v=.int .u32 ((ent i:Nat):Int)∧w'=W:=by
 refine cS 21 [(0,_)] Tryz.func109 ?_;refine Gz 8 ?_;refine cL (Wr (n:=(i:Int)) is3 IX rfl (kZ hi)) ?_;refine Gz 10 ?_;refine Wp (β:=Nat) (fun k=>[(3,.int .u32 ((eN i k:Nat):Int)),(4,iV k)]) (fun k w=>k≤8∧w=W) (fun k=>8-k) 0 ⟨rfl,rfl,trivial⟩ ⟨by decide,rfl⟩ ?_;rintro k wq ⟨hk,hwq⟩;subst wq;refine fK 4 ?_ ?_<;>intro h9
 ·refine Gz 10 ?_;have hlt:=IG hi k;refine cL (Wm (u:=.int .u32 ((eN i k%2:Nat):Int)) (W7 rfl rfl (by omega) (by decide)) rfl) ?_;refine Gz 6 ?_;refine cL (Wm (u:=.int .u32 ((eN i k/2:Nat):Int)) (X2 rfl rfl (by decide)) (by rw[show (2:Int)=((2:Nat):Int) from rfl,PK hlt])) ?_;refine fK 6 ?_ ?_<;>intro h17
  ·refine Gz 5 ?_;refine cL (Xv rfl rfl (by omega) (by decide)) ?_;refine Gz 9 ?_;refine Wz (k+1) ⟨?_,rfl,trivial⟩ ⟨by omega,rfl⟩ (by show 8-(k+1)<8-k;omega);show some (Value.int .u32 _)=some (Value.int .u32 _);rw[show eN i (k+1)=e1 (eN i k) from rfl,←Rh (by omega)]
  refine Gz 11 ?_;refine Wz (k+1) ⟨?_,rfl,trivial⟩ ⟨by omega,rfl⟩ (by show 8-(k+1)<8-k;omega);show some (Value.int .u32 _)=some (Value.int .u32 _);rw[show eN i (k+1)=e1 (eN i k) from rfl,←Pj (by omega)]
 refine Gz 16 ?_;have hk8:k=8:=by omega
 subst hk8;exact⟨_,rfl,rfl,rfl⟩
theorem NT(r:Nat)(c:UInt8):(r ^^^ c.toNat)%256=(r%256) ^^^ c.toNat:=by
 have:=Nat.xor_mod_two_pow (a:=r) (b:=c.toNat) (n:=8);rw[show (2:Nat) ^ 8=256 from rfl,gx c.toNat_lt] at this;exact this
theorem C7(ao:Option Addr)(c:Nat)(b:By)(W:World)(hv:Vw b8 W.heap ao c b) :
 CA 65 [.slice ao b.length c] W fun v w'=>v=.int .u32 ((eU b:Nat):Int)∧w'=W:=by
 have hl:=hv.ZL;refine cS 26 [(0,_)] Tryz.func65 ?_;refine Gz 17 ?_;refine Wp (β:=Nat) (fun i=>[(0,.slice ao b.length c),(3,.int .u32 ((Bt 4294967295 (b.take i):Nat):Int)),(4,iV i)]) (fun i w=>i≤b.length∧w=W) (fun i=>b.length-i) 0 ⟨rfl,rfl,rfl,trivial⟩ ⟨ZZ _,rfl⟩ ?_;rintro i wq ⟨hi,hwq⟩;subst wq;refine fK 6 ?_ ?_<;>intro h8
 ·refine Gz 9 ?_;obtain⟨r,hr⟩:∃ r,r=Bt 4294967295 (b.take i):=⟨_,rfl⟩
  have hrl:r<4294967296:=by rw[hr];exact rV _ (by decide)
  rw[←hr];have hcl:=(b.getD i 0).toNat_lt;have hix:=G3 r (b.getD i 0);refine cL (Wm (u:=.int .u32 ((r/256:Nat):Int)) (X2 rfl rfl (by decide)) (by rw[show (256:Int)=((256:Nat):Int) from rfl,PK hrl])) ?_;refine Gz 3 ?_;refine cL (Wi aH rfl rfl hv.non (by omega)) ?_;refine cL (Wk eC rfl (hv.gz 0 i rfl (by omega))) ?_;refine cL (Wr (n:=((b.getD i 0).toNat:Int)) is5 IX rfl (kZ (by omega))) ?_;refine cL (Xv rfl rfl hrl (by omega)) ?_;refine cL (Wm (u:=.int .u32 (((r%256) ^^^ (b.getD i 0).toNat:Nat):Int)) (W7 rfl rfl (by omega) (by decide)) (by rw[←NT];rfl)) ?_;refine cL (Wr (n:=(((r%256) ^^^ (b.getD i 0).toNat:Nat):Int)) MB ty3 rfl (aU (by omega))) ?_;refine Wh S7 rfl (M7 ((r%256) ^^^ (b.getD i 0).toNat) W (by omega)) rfl ?_;rintro _ w1 ⟨rfl,hw1⟩;subst w1;refine cL (Xv rfl rfl (by omega) (He (by omega))) ?_;refine Gz 9 ?_;refine Wz (i+1) ⟨rfl,?_,rfl,trivial⟩ ⟨by omega,rfl⟩ (by show b.length-(i+1)<b.length-i;omega);rw[BG (by omega),CJ,←hr];rfl
 refine Gz 11 ?_;rw[Z4 (by omega)];refine cL (Wm (u:=.int .u32 ((eU b:Nat):Int)) (Xv (b:=4294967295) rfl rfl (rV _ (by decide)) (by decide)) (by rw[Nat.xor_comm];rfl)) ?_;refine Gz 5 ?_;exact⟨_,rfl,rfl,rfl⟩
def CL(b:By)(a o i:Nat):Prop:=i<130∧a+i<b.length∧b.getD (a+i) 0=b.getD (o+i) 0
instance (b:By)(a o i:Nat):Decidable (CL b a o i):=by unfold CL;exact inferInstance
def Mv(b:By)(a o:Nat):Nat→Nat→Nat
|0,n=>n
|f+1,n=>if CL b a o n then Mv b a o f (n+1) else n
def lik(b:By)(a o:Nat):Nat:=Mv b a o 131 0
theorem Cn(b:By)(a o:Nat):∀ f n,131≤n+f→(∀ i,i<n→CL b a o i)→(∀ i,i<Mv b a o f n→CL b a o i)∧¬ CL b a o (Mv b a o f n)
|0,n,h,hc=>by have:=(hc (n-1) (by omega)).1;omega
|f+1,n,h,hc=>by
   unfold Mv
   split
   · rename_i hn
     exact Cn b a o f (n+1) (by omega) (fun i hi=>by by_cases h2:i=n;rw[h2];exact hn;exact hc i (by omega))
   ·rename_i hn;exact⟨hc,hn⟩
theorem Aw(b:By)(a o:Nat):(∀ i,i<lik b a o→CL b a o i)∧¬ CL b a o (lik b a o):=Cn b a o 131 0 (by decide) (by intro i hi;omega)
theorem GX{b:By}{a o n:Nat}(h1:∀ i,i<n→CL b a o i)(h2:¬ CL b a o n):n=lik b a o:=by
 obtain⟨g1,g2⟩:=Aw b a o;rcases fb n (lik b a o) with h|h|h
 ·exact absurd (g1 n h) h2
 ·exact h
 ·exact absurd (h1 _ h) g2
theorem Mu(b:By)(a o:Nat):lik b a o≤130∧(0<lik b a o→a+lik b a o≤b.length):=by
 obtain⟨g1,_⟩:=Aw b a o;refine⟨?_,fun h=>?_⟩
 · by_cases h:0<lik b a o
   ·have:=(g1 (lik b a o-1) (by omega)).1;omega
   ·omega
 ·have:=(g1 (lik b a o-1) (by omega)).2.1;omega
theorem OY(b:By)(a o:Nat):lik b a o≤b.length-a:=by
 have:=Mu b a o;omega
def stp(b:By)(a:Nat)(s:Nat×Nat)(i:Nat):Nat×Nat:=if s.1<lik b a i then (lik b a i,a-i) else s
def thr(s:Nat×Nat):Nat×Nat:=if s.1<3 then (0,0) else s
def bst(b:By)(a k:Nat):Nat×Nat:=((List.range' (a-k) k).reverse).foldl (stp b a) (0,0)
def mt(b:By)(a:Nat):Nat×Nat:=if a<b.length then thr (bst b a (min 256 a)) else (0,0)
theorem F2(b:By){a k:Nat}(h:k+1≤a):bst b a (k+1)=stp b a (bst b a k) (a-(k+1)):=by
 unfold bst;rw[range'_succ,List.reverse_cons,cy,show a-(k+1)+1=a-k by omega];rfl
theorem A9(b:By)(a:Nat):∀ k,k≤a→(∀ j,1≤j→j≤k→lik b a (a-j)≤(bst b a k).1) ∧
 ((bst b a k).1=0∧(bst b a k).2=0∨1≤(bst b a k).2∧(bst b a k).2≤k∧0<(bst b a k).1∧lik b a (a-(bst b a k).2)=(bst b a k).1∧∀ j,1≤j→j<(bst b a k).2→lik b a (a-j)<(bst b a k).1)
|0,_=>⟨fun j h1 h2=>by omega,.inl ⟨rfl,rfl⟩⟩
|k+1,h=>by
   obtain⟨h1,h2⟩:=A9 b a k (by omega);rw[F2 b h];generalize bst b a k=s at h1 h2 ⊢;unfold stp;by_cases hs:s.1<lik b a (a-(k+1))
   · rw[ZP hs]
     refine⟨fun j j1 j2=>?_,.inr ⟨by simp only;omega,by simp only;omega,by simp only;omega,?_,fun j j1 j2=>?_⟩⟩
     · by_cases e:j=k+1
       ·rw[e];exact Z0 _
       ·exact Nat.le_of_lt (ir (h1 j j1 (by omega)) hs)
     · simp only
       rw[show a-(a-(k+1))=k+1 by omega]
     ·exact ir (h1 j j1 (by simp only at j2;omega)) hs
   · rw[ZO hs]
     refine⟨fun j j1 j2=>?_,?_⟩
     · by_cases e:j=k+1
       ·rw[e];omega
       ·exact h1 j j1 (by omega)
     · rcases h2 with h2|⟨c1,c2,c3,c4,c5⟩
       ·exact .inl h2
       ·exact .inr ⟨c1,by omega,c3,c4,c5⟩
theorem Rm(b:By)(a k:Nat)(h:k≤a):(bst b a k).1≤130∧(bst b a k).1≤b.length-a:=by
 rcases(A9 b a k h).2 with⟨e,_⟩|⟨_,_,_,e,_⟩
 ·omega
 ·rw[←e];exact⟨(Mu _ _ _).1,OY _ _ _⟩
theorem yN{b:By}{a:Nat}(h:(mt b a).1≠0):a<b.length∧3≤(mt b a).1∧(mt b a).1≤130∧a+(mt b a).1≤b.length∧1≤(mt b a).2∧(mt b a).2≤256∧(mt b a).2≤a ∧
 lik b a (a-(mt b a).2)=(mt b a).1∧∀ j,1≤j→j<(mt b a).2→lik b a (a-j)<(mt b a).1:=by
 unfold mt at h ⊢;by_cases hb:a<b.length
 · rw[ZP hb] at h ⊢
   unfold thr at h ⊢;by_cases h3:(bst b a (min 256 a)).1<3
   ·rw[ZP h3] at h;exact absurd rfl h
   · rw[ZO h3] at h ⊢
     have hl:=Rm b a (min 256 a) (by omega);rcases(A9 b a (min 256 a) (by omega)).2 with⟨e,_⟩|⟨c1,c2,c3,c4,c5⟩
     ·omega
     ·exact⟨hb,by omega,hl.1,by omega,c1,by omega,by omega,c4,c5⟩
 ·rw[ZO hb] at h;exact absurd rfl h
theorem OH{b:By}{a:Nat}(h:(mt b a).1=0):mt b a=(0,0):=by
 unfold mt thr at h ⊢
 split
 · rename_i hb
   rw[ZP hb] at h
   split
   ·rfl
   ·rename_i h3;rw[ZO h3] at h;omega
 ·rfl
theorem L8{b:By}{a:Nat}(h:b.length<a+3):mt b a=(0,0):=by
 apply OH;apply ZY;intro hn;have:=yN hn;omega
def rn(out l:By):By:=
 if h:l.length=0 then out else rn (out++(af (min l.length 128-1)::l.take (min l.length 128))) (l.drop (min l.length 128))
termination_by l.length
decreasing_by simp;omega
theorem Gy(out:By):rn out []=out:=by rw[rn];rfl
theorem C8{out l:By}(h:0<l.length):rn out l=rn (out++(af (min l.length 128-1)::l.take (min l.length 128))) (l.drop (min l.length 128)):=by
 rw[rn,dif_neg (by omega)]
def pk(b:By)(a:Nat)(run out:By):By:=
 if h:a<b.length then
  if hn:(mt b a).1=0 then pk b (a+1) (run++[b.getD a 0]) out
  else pk b (a+(mt b a).1) [] (rn out run++[af ((mt b a).1+125),af ((mt b a).2-1)])
 else rn out run
termination_by b.length-a
def pkS(b:By):By:=pk b 0 [] []
theorem LV{b:By}{a:Nat}(h:¬ a<b.length)(run out:By):pk b a run out=rn out run:=by rw[pk,dif_neg h]
theorem LU{b:By}{a:Nat}(h:a<b.length)(hn:(mt b a).1=0)(run out:By):pk b a run out=pk b (a+1) (run++[b.getD a 0]) out:=by rw[pk,dif_pos h,dif_pos hn]
theorem H2{b:By}{a:Nat}(hn:(mt b a).1≠0)(run out:By):pk b a run out=pk b (a+(mt b a).1) [] (rn out run++[af ((mt b a).1+125),af ((mt b a).2-1)]):=by
 rw[pk,dif_pos (yN hn).1,dif_neg hn]
def cp(out:By)(back:Nat):Nat→By
|0=>out
|n+1=>cp (out++[out.getD (out.length-back) 0]) back n
def up(most:Int)(b out:By):By×Int:=
 match b with
|[]=>(out,0)
|t::r=>
   if t.toNat<128 then
    if r.length<t.toNat+1 then ([],2)
    else if most-out.length<t.toNat+1 then ([],3)
    else up most (r.drop (t.toNat+1)) (out++r.take (t.toNat+1))
   else match r with
   |[]=>([],2)
   |c::r'=>if out.length<c.toNat+1 then ([],2) else if most-out.length<(t.toNat:Int)-125 then ([],3) else up most r' (cp out (c.toNat+1) (t.toNat-125))
termination_by b.length
decreasing_by
 ·simp;omega
 ·simp;omega
def upS(b:By)(most:Int):By×Int:=if most<0 then ([],1) else up most b []
theorem qA(most:Int)(out:By):up most [] out=(out,0):=by rw[up]
theorem CX{most:Int}{t:UInt8}{r out:By}(h:t.toNat<128):up most (t::r) out=if r.length<t.toNat+1 then ([],2) else if most-out.length<t.toNat+1 then ([],3) else up most (r.drop (t.toNat+1)) (out++r.take (t.toNat+1)):=by
 rw[up.eq_def];simp only;rw[ZP h]
theorem DQ{most:Int}{t:UInt8}{out:By}(h:¬ t.toNat<128):up most [t] out=([],2):=by rw[up,ZO h]
theorem CY{most:Int}{t c:UInt8}{r out:By}(h:¬ t.toNat<128):up most (t::c::r) out=if out.length<c.toNat+1 then ([],2) else if most-out.length<(t.toNat:Int)-125 then ([],3) else up most r (cp out (c.toNat+1) (t.toNat-125)):=by
 rw[up,ZO h]
theorem tG(back:Nat):∀ (n:Nat) (out:By),(cp out back n).length=out.length+n
|0,out=>rfl
|n+1,out=>by unfold cp;rw[tG back n];simp;omega
theorem yV(back:Nat):∀ (n:Nat) (out:By),cp out back (n+1)=cp out back n++[(cp out back n).getD ((cp out back n).length-back) 0]
|0,out=>rfl
|n+1,out=>by
   have h:=yV back n (out++[out.getD (out.length-back) 0]);exact h
theorem Nl(back:Nat)(pre:By):∀ (n:Nat) (out:By),back≤out.length→1≤back→cp (pre++out) back n=pre++cp out back n
|0,out,_,_=>rfl
|n+1,out,h,h1=>by
   unfold cp;have e:(pre++out).getD ((pre++out).length-back) 0=out.getD (out.length-back) 0:=by
    rw[Z2,Z2,ZR,da (by omega)];congr 2;omega
   rw[e,Z6,Nl back pre n _ (by simp;omega) h1]
theorem Nm(back:Nat):∀ (n:Nat) (out:By),∃ l,cp out back n=out++l
|0,out=>⟨[],by simp[cp]⟩
|n+1,out=>by
   obtain⟨l,hl⟩:=Nm back n (out++[out.getD (out.length-back) 0]);exact⟨_,by unfold cp;rw[hl,Z6]⟩
theorem FO{b:By}{a back:Nat}(h1:1≤back)(hb:back≤a):∀ n,(∀ i,i<n→CL b a (a-back) i)→cp (b.take a) back n=b.take (a+n)
|0,_=>rfl
|n+1,h=>by
   rw[yV,FO h1 hb n (fun i hi=>h i (by omega))];obtain⟨c1,c2,c3⟩:=h n (by omega);have e1:(b.take (a+n)).length=a+n:=by rw[ZT];omega
   rw[e1,←gu,am (by omega)];congr 2;have e2:(b.take (a+n)).getD (a+n-back) 0=b.getD (a+n-back) 0:=by rw[Z2,Z2,ar,ZP (by omega)]
   rw[e2,show a+n-back=a-back+n by omega,←c3];rw[Z2,ZQ c2];rfl
structure En (x o0 o1:By):Prop where
 pre:∃ l,o1=o0++l
 yes:∀ (p rest:By) (most:Int),(p.length:Int)+o1.length≤most→up most (x++rest) (p++o0)=up most rest (p++o1)
 big:∀ (p rest:By) (most:Int),(p.length:Int)+o0.length≤most→most<(p.length:Int)+o1.length→up most (x++rest) (p++o0)=([],3)
 cut:∀ (p:By) (most:Int) (n:Nat),(p.length:Int)+o1.length≤most→n<x.length→up most (x.take n) (p++o0)=([],2)∨∃ o l,o1=o++l∧up most (x.take n) (p++o0)=(p++o,0)
theorem En.nil(o:By):En [] o o:=⟨⟨[],by simp⟩,fun _ _ _ _=>rfl,fun _ _ _ h1 h2=>by omega,fun _ _ _ _ h=>by simp at h⟩
theorem En.trans{x y a b c:By}(h:En x a b)(k:En y b c):En (x++y) a c:=by
 obtain⟨l1,hl1⟩:=h.pre;obtain⟨l2,hl2⟩:=k.pre;have e1:b.length=a.length+l1.length:=by rw[hl1];simp
 have e2:c.length=b.length+l2.length:=by rw[hl2];simp
 refine⟨⟨l1++l2,by rw[hl2,hl1];simp⟩,fun p rest most hm=>?_,fun p rest most h1 h2=>?_,fun p most n hm hn=>?_⟩
 ·rw[Z6,h.yes p _ most (by omega),k.yes p rest most hm]
 · rw[Z6]
   by_cases hb:(p.length:Int)+b.length≤most
   ·rw[h.yes p _ most hb,k.big p rest most hb h2]
   ·exact h.big p _ most h1 (by omega)
 · rw[ZR] at hn
   by_cases hx:n<x.length
   · rw[cu (by omega)]
     rcases h.cut p most n (by omega) hx with h1|⟨o,l,h1,h2⟩
     ·exact .inl h1
     ·exact .inr ⟨o,l++l2,by rw[hl2,h1];simp,h2⟩
   · rw[fq,Z4 (by omega:x.length≤n),h.yes p _ most (by omega)]
     exact k.cut p most _ hm (by omega)
theorem En.run{l:By}(o:By)(h0:0<l.length)(h1:l.length≤128):En (af (l.length-1)::l) o (o++l):=by
 have ht:(af (l.length-1)).toNat=l.length-1:=by rw[ck];omega
 have ht2:l.length-1+1=l.length:=by omega
 refine⟨⟨l,rfl⟩,fun p rest most hm=>?_,fun p rest most h1 h2=>?_,fun p most n hm hn=>?_⟩
 · rw[ZR] at hm
   rw[df,CX (by omega),ht,ht2,ZO (by simp),ZO (by simp;omega),ct rfl,cz rfl,Z6]
 · rw[ZR] at h2
   rw[df,CX (by omega),ht,ht2,ZO (by simp),ZP (by simp;omega)]
 · cases n with
  |zero=>exact .inr ⟨o,l,rfl,by rw[dm,qA]⟩
  |succ n=>
     rw[al] at hn;left;rw[List.take_succ_cons,CX (by omega),ht,ht2,ZP (by rw[ZT];omega)]
theorem ZA{o:By}{n back:Nat}(h3:3≤n)(hn:n≤130)(h1:1≤back)(h2:back≤256)(hb:back≤o.length):En [af (n+125),af (back-1)] o (cp o back n):=by
 have ht:(af (n+125)).toNat=n+125:=by rw[ck];omega
 have hc:(af (back-1)).toNat=back-1:=by rw[ck];omega
 have hc2:back-1+1=back:=by omega
 have hl:=tG back n o;obtain⟨l,he⟩:=Nm back n o;refine⟨⟨l,he⟩,fun p rest most hm=>?_,fun p rest most h1 h2=>?_,fun p most k hm hk=>?_⟩
 ·rw[df,df,aq,CY (by omega),ht,hc,hc2,ZO (by simp;omega),ZO (by simp;omega),show n+125-125=n by omega,Nl _ _ _ _ hb h1]
 ·rw[df,df,aq,CY (by omega),ht,hc,hc2,ZO (by simp;omega),ZP (by simp;omega)]
 · match k,hk with
  |0,_=>exact .inr ⟨o,l,he,by rw[dm,qA]⟩
  |1,_=>exact .inl (by show up most [af (n+125)] _=_;rw[DQ (by omega)])
theorem En.rn:∀ (k:Nat) (l out o0 o:By),l.length=k→En out o0 o→En (rn out l) o0 (o++l):=by
 intro k
 induction k using dw with
|ind k ih=>
   intro l out o0 o hk h;by_cases h0:l.length=0
   · have:l=[]:=Z9 h0
     subst this;rw[Gy,bp];exact h
   · rw[C8 (by omega)]
     have hm:(l.take (min l.length 128)).length=min l.length 128:=by rw[ZT];omega
     have ht:=En.run (l:=l.take (min l.length 128)) o (by omega) (by omega);rw[hm] at ht;have:=ih _ (by omega) (l.drop (min l.length 128)) _ o0 _ (ZX ..) (h.trans ht);rwa[Z6,List.take_append_drop] at this
theorem En.pk(b:By):∀ (k a:Nat) (run out o:By),b.length-a=k→a≤b.length→En out [] o→o++run=b.take a→En (pk b a run out) [] b:=by
 intro k
 induction k using dw with
|ind k ih=>
   intro a run out o hk ha h ho;by_cases hlt:a<b.length
   · by_cases hn:(mt b a).1=0
     · rw[LU hlt hn]
       refine ih (b.length-(a+1)) (by omega) (a+1) _ out o rfl (by omega) h ?_;rw[←Z6,ho,am hlt,Z2,ZQ hlt];rfl
     · rw[H2 hn]
       obtain⟨m1,m2,m3,m4,m5,m6,m7,m8,m9⟩:=yN hn;have hr:=En.rn run.length run out [] o rfl h;rw[ho] at hr;have hl:(b.take a).length=a:=by rw[ZT];omega
       have hc:=ZA (o:=b.take a) m2 m3 m5 m6 (by omega);rw[FO m5 m7 _ (fun i hi=>(Aw b a _).1 i (by rw[m8];exact hi))] at hc;exact ih _ (by omega) _ [] _ _ rfl m4 (hr.trans hc) (by simp)
   · rw[LV hlt]
     have hr:=En.rn run.length run out [] o rfl h;rw[ho,Z4 (by omega)] at hr;exact hr
theorem ZB(b:By):En (pkS b) [] b:=En.pk b _ 0 [] [] [] rfl (ZZ _) (En.nil _) (by simp)
theorem DR(b:By):upS (pkS b) b.length=(b,0):=by
 have h:=(ZB b).yes [] [] b.length (by simp);unfold upS;rw[ZO (by omega)];simpa[qA] using h
theorem QC:∀ (k:Nat) (l out:By),l.length=k→(rn out l).length=out.length+l.length+(l.length+127)/128:=by
 intro k
 induction k using dw with
|ind k ih=>
   intro l out hk;by_cases h0:l.length=0
   · have:l=[]:=Z9 h0
     subst this;rw[Gy];simp
   · rw[C8 (by omega),ih _ (by omega) _ _ (ZX ..)]
     simp only[ZR,al,ZT,ZX];omega
def le(x:Int)(n:Nat):By:=(bu n).map (fun i=>af (x/256 ^ i).toNat)
theorem bC(x:Int)(n:Nat):(le x n).length=n:=by simp[le]
theorem le_succ(x:Int)(i:Nat):le x (i+1)=le x i++[af (x/256 ^ i).toNat]:=by simp[le,gg]
def iS(x n:Int):Prop:=n<1∨4<n∨x<0∨x/2 ^ (8*n).toNat≠0
instance (x n:Int):Decidable (iS x n):=by unfold iS;exact inferInstance
def iP(E x n:Int):Int:=if E≠0 then E else if iS x n then 1 else 0
def nJ(E:Int)(xs:By)(x n:Int):By:=if E≠0∨iS x n then xs else xs++le x n.toNat
def Da(E:Int)(xs ys:By):By:=if E=0 then xs++ys else xs
def nE(E:Int)(s:By):Int:=if E≠0 then E else if 255<s.length then 3 else 0
def oX(E:Int)(xs s:By):By:=if E≠0∨255<s.length then xs else xs++af s.length::s
theorem nP{E:Int}{s:By}(h:E≠0∨¬ 255<s.length):nE E s=E:=by
 unfold nE;by_cases hE:E=0
 ·rw[ZO (by omega),ZO (by omega),hE]
 ·rw[ZP hE]
theorem DT{E:Int}{s:By}(hE:E=0)(h:255<s.length):nE E s=3:=by
 unfold nE;rw[ZO (by omega),ZP h]
theorem IY{E:Int}{s:By}(h:nE E s=0):E=0∧¬ 255<s.length:=by
 by_cases hE:E=0
 · by_cases hs:255<s.length
   ·rw[DT hE hs] at h;omega
   ·exact⟨hE,hs⟩
 ·rw[nP (.inl hE)] at h;exact absurd h hE
theorem KS{E:Int}{xs s:By}(h:nE E s≠0):oX E xs s=xs:=by
 unfold oX;by_cases hE:E=0
 ·rw[ZP (.inr (ZY fun hs=>h (by rw[nP (.inr hs)];exact hE)))]
 ·rw[ZP (.inl hE)]
theorem L4{E x n:Int}(h:E≠0∨iS x n):iP E x n≠0:=by unfold iP;split;assumption;rw[ZP (h.resolve_left (by assumption))];decide
theorem Cf{E x n:Int}(h:¬ (E≠0∨iS x n)):iP E x n=0:=by
 unfold iP;rw[ZO (fun h'=>h (.inl h')),ZO (fun h'=>h (.inr h'))]
theorem mD{E x n:Int}{xs:By}(h:iP E x n≠0):nJ E xs x n=xs:=by
 unfold nJ;rw[ZP (by apply ZY;intro h';exact h (Cf h'))]
theorem lR{E x n:Int}{xs:By}(h:iP E x n=0):nJ E xs x n=xs++le x n.toNat:=by
 unfold nJ;rw[ZO (fun h'=>L4 h' h)]
theorem Jb(x:Int)(i:Nat):x/2 ^ (8*(i:Int)).toNat=x/256 ^ i:=by
 rw[show (8*(i:Int)).toNat=8*i from by omega,Int.pow_mul];rfl
theorem nT{n:Nat}(h:n≤255):¬ iS n 1:=by
 unfold iS;have h2:((n:Int)/2 ^ (8*(1:Int)).toNat)=0:=by
  show (n:Int)/256=0;omega
 omega
theorem Az(n:Nat):le n 1=[af n]:=by
 simp[le,gg]
theorem Py{x:Int}(h:0≤x):Value.int .u8 (IntKind.u8.wrap x)=b8 (af x.toNat):=by
 have h1:IntKind.u8.wrap x=x%256:=by
  show IntKind.wrap .u8 x=_;simp[IntKind.wrap,IntKind.signed,IntKind.bits]
 rw[h1,b8,ck];congr 1;omega
theorem IS{x:Int}(h:0≤x):IntKind.u8.wrap x=((af x.toNat).toNat:Int):=by
 have:=Py h;simpa[b8] using this
theorem mZ{E x n:Int}(h:iS x n):iP E x n=if E=0 then 1 else E:=by
 unfold iP;by_cases hE:E=0<;>simp[hE,h]
theorem dT{E x n:Int}(h:¬ iS x n):iP E x n=E:=by
 unfold iP;by_cases hE:E=0<;>simp[hE,h]
theorem OF{E x n:Int}{xs:By}{i:Nat}(h1:iP E x n≠0→i=0)(h2:iP E x n=0→i=n.toNat):xs++le x i=nJ E xs x n:=by
 by_cases h:iP E x n=0
 ·rw[lR h,h2 h]
 ·rw[mD h,h1 h];simp[le]
theorem O0{xs:By}{x:Int}{i:Nat}:xs++le x (i+1)=(xs++le x i)++[af (x/256 ^ i).toNat]:=by rw[le_succ,Z6]
def csL(E:Int)(s:Value):List Value:=[iV E,s]
def csR(E:Int)(s:Value):List Value:=[s,iV E]
def WrO(cs:Int→Value→List Value)(T:TypeId)(D:Nat→Prop)(H:Array Obj)(p:Nat)(E:Int)(xs:By):Prop:=
 ∃ ao c,H[p]?=some (.cells (cs E (.slice ao xs.length c)).toArray T (0,0))∧Own b8 5 H ao c xs∧¬ blk ao p∧D p∧∀ k,blk ao k→D k
abbrev WrR:=WrO csR 152
section
variable {cs:Int→Value→List Value}{T:TypeId}{D:Nat→Prop}{p:Nat}{E:Int}{xs:List UInt8}
theorem WrO.lt{H:Array Obj}(h:WrO cs T D H p E xs):p<H.size:=by obtain⟨ao,c,hg,_⟩:=h;exact(Z1.1 hg).1
theorem WrO.ZN{S:Nat→Prop}{w w':World}(h:WrO cs T D w.heap p E xs)(f:aA S w w')(hs:∀ k,D k→¬ S k):WrO cs T D w'.heap p E xs:=by
 obtain⟨ao,c,hg,ho,h1,h2,h3⟩:=h;exact⟨ao,c,f.obj hg (hs p h2),ho.ZN f (fun a ha=>hs _ (h3 _ ⟨a,ha,rfl⟩)),h1,h2,h3⟩
theorem WrO.ZM{w w':World}(h:WrO cs T D w.heap p E xs)(f:aA nob w w'):WrO cs T D w'.heap p E xs:=h.ZN f (fun _ _=>id)
theorem WrO.shrink{w w':World}(h:WrO cs T D w.heap p E xs)(f:aA nob w w'):WrO cs T (fun k=>D k∧(k<w.heap.size∨w'.heap.size≤k)) w'.heap p E xs:=by
 have hl:=h.lt;obtain⟨ao,c,hg,ho,h1,h2,h3⟩:=h;refine⟨ao,c,f.obj hg id,ho.ZM f,h1,⟨h2,.inl hl⟩,fun k hk=>⟨h3 k hk,.inl ?_⟩⟩;obtain⟨a,ha,rfl⟩:=hk;exact ho.lt a ha
theorem WrO.mono{D':Nat→Prop}{H:Array Obj}(h:WrO cs T D H p E xs)(hd:∀ k,D k→D' k):WrO cs T D' H p E xs:=by
 obtain⟨ao,c,hg,ho,h1,h2,h3⟩:=h;exact⟨ao,c,hg,ho,h1,hd _ h2,fun k hk=>hd k (h3 k hk)⟩
theorem Ht{W w1 w2 w3:World}{ys:By}{ao ao2:Option Addr}{c2:Nat}(hD:∀ k,W.heap.size≤k→D k)(hap:¬ blk ao p)(hDp:D p)(hDa:∀ k,blk ao k→D k)(hpW:p<W.heap.size)
 (hf1:aA nob W w1)(ho2:Own b8 5 w2.heap ao2 c2 (xs++ys))(hf2:aA (blk ao) w1 w2)(hr2:∀ a,ao2=some a→ao=some a∨w1.heap.size≤a.block)
 (hg3:w3.heap[p]?=some (.cells (cs E (.slice ao2 (xs++ys).length c2)).toArray T (0,0)))(hf3:aA (· = p) w2 w3) :
 WrO cs T D w3.heap p E (xs++ys)∧aA D W w3:=by
 have h1:=hf1.size;have hap2:¬ blk ao2 p:=fun⟨a,ha,hb⟩=>by
  rcases hr2 a ha with h|h
  ·exact hap ⟨a,h,hb⟩
  ·omega
 refine⟨⟨ao2,c2,hg3,ho2.ZN hf3 (fun a ha h=>hap2 ⟨a,ha,h⟩),hap2,hDp,fun k hk=>?_⟩,?_⟩
 · obtain⟨a,ha,rfl⟩:=hk
   rcases hr2 a ha with h|h
   ·exact hDa _ ⟨a,h,rfl⟩
   ·exact hD _ (by omega)
 ·exact((hf1.mono (fun _ h=>h.elim)).trans (hf2.mono (fun k h=>hDa k h))).trans (hf3.mono (fun k h=>by subst h;exact hDp))
end
theorem eB(D:Nat→Prop)(p:Nat)(E:Int)(xs:By)(x n:Int)(W:World)(hP:WrR D W.heap p E xs)(hD:∀ k,W.heap.size≤k→D k)(hb:xs.length≤1099511627776) :
 CA 61 [pT p,iV x,iV n] W fun v w'=>WrR D w'.heap p (iP E x n) (nJ E xs x n)∧aA D W w':=by
 have hP0:=hP;obtain⟨ao,c,hobj,hown,hap,hDp,hDa⟩:=hP;refine cS 51 [(0,_),(1,_),(2,_)] Tryz.func61 ?_;refine fK 7 ?_ ?_<;>intro h11
 ·refine Gz 6 ?_;have hE1:iP E x n=E:=by unfold iP;rw[ZP h11]
  exact⟨_,rfl,by rw[hE1,mD (by rw[hE1];exact h11)];exact hP0,Zn _ _⟩
 refine fK 9 ?_ ?_<;>intro h13
 ·refine Gz 23 ?_;refine Wl sH rfl rfl rfl hobj rfl ?_;intro w1 hg1 hs1 hf1;have hbad:iS x n:=by first|exact .inl h13|exact .inr (.inl h16)|exact .inr (.inr (.inl h20))|exact .inr (.inr (.inr h27))
  have hE1:iP E x n=1:=by rw[mZ hbad,ZP (by omega)]
  have hX1:nJ E xs x n=xs:=mD (by rw[hE1];decide);refine Gz 5 ?_;exact⟨_,rfl,by rw[hE1,hX1];exact⟨ao,c,hg1,hown.ZN hf1 (fun a ha h=>hap ⟨a,ha,h⟩),hap,hDp,hDa⟩,hf1.mono (fun k h=>by subst h;exact hDp)⟩
 refine fW 2 ?_ ?_<;>intro h16
 ·refine Gz 20 ?_;refine Wl sH rfl rfl rfl hobj rfl ?_;intro w1 hg1 hs1 hf1;have hbad:iS x n:=by first|exact .inl h13|exact .inr (.inl h16)|exact .inr (.inr (.inl h20))|exact .inr (.inr (.inr h27))
  have hE1:iP E x n=1:=by rw[mZ hbad,ZP (by omega)]
  have hX1:nJ E xs x n=xs:=mD (by rw[hE1];decide);refine Gz 5 ?_;exact⟨_,rfl,by rw[hE1,hX1];exact⟨ao,c,hg1,hown.ZN hf1 (fun a ha h=>hap ⟨a,ha,h⟩),hap,hDp,hDa⟩,hf1.mono (fun k h=>by subst h;exact hDp)⟩
 refine fW 3 ?_ ?_<;>intro h20
 ·refine Gz 16 ?_;refine Wl sH rfl rfl rfl hobj rfl ?_;intro w1 hg1 hs1 hf1;have hbad:iS x n:=by first|exact .inl h13|exact .inr (.inl h16)|exact .inr (.inr (.inl h20))|exact .inr (.inr (.inr h27))
  have hE1:iP E x n=1:=by rw[mZ hbad,ZP (by omega)]
  have hX1:nJ E xs x n=xs:=mD (by rw[hE1];decide);refine Gz 5 ?_;exact⟨_,rfl,by rw[hE1,hX1];exact⟨ao,c,hg1,hown.ZN hf1 (fun a ha h=>hap ⟨a,ha,h⟩),hap,hDp,hDa⟩,hf1.mono (fun k h=>by subst h;exact hDp)⟩
 refine Gz 4 ?_;refine cW (WN rfl rfl (by omega)) ?_;refine cW (X4 rfl rfl (by omega)) ?_;refine fW 0 ?_ ?_<;>intro h27
 ·refine Gz 9 ?_;refine Wl sH rfl rfl rfl hobj rfl ?_;intro w1 hg1 hs1 hf1;have hbad:iS x n:=by first|exact .inl h13|exact .inr (.inl h16)|exact .inr (.inr (.inl h20))|exact .inr (.inr (.inr h27))
  have hE1:iP E x n=1:=by rw[mZ hbad,ZP (by omega)]
  have hX1:nJ E xs x n=xs:=mD (by rw[hE1];decide);refine Gz 5 ?_;exact⟨_,rfl,by rw[hE1,hX1];exact⟨ao,c,hg1,hown.ZN hf1 (fun a ha h=>hap ⟨a,ha,h⟩),hap,hDp,hDa⟩,hf1.mono (fun k h=>by subst h;exact hDp)⟩
 refine Gz 12 ?_;have hgood:¬ iS x n:=by rintro(h|h|h|h);exact h13 h;exact h16 h;exact h20 h;exact h27 h
 have hE0:iP E x n=E:=dT hgood;refine Wp (β:=Nat) (fun i=>[(0,pT p),(1,iV x),(2,iV n),(6,iV i)]) (fun i w=>i≤n.toNat∧WrR D w.heap p E (xs++le x i)∧aA D W w) (fun i=>n.toNat-i) 0 ⟨rfl,rfl,rfl,rfl,trivial⟩ ⟨ZZ _,by simpa[le] using hP0,Zn _ _⟩ ?_;rintro i w3 ⟨hi1,hP3,hF3⟩;refine fK 5 ?_ ?_<;>intro h34
 ·refine Gz 7 ?_;have hP2:=hP3;obtain⟨ao,c,hobj,hown,hap,hDp,hDa⟩:=hP3;refine Wv 14 (fun H=>H[p]?=some (.cells (csR E (.slice ao (xs++le x i).length c)).toArray 152 (0,0))) [10,11,14] [0,1,2,3,4,5,6,7,8,9,10,11,12,13,14] aK (by kernel_rfl) (hobj) ?_;refine Gz 7 ?_;refine xC rfl (WN rfl rfl (by omega)) ?_;refine xC rfl (X4 rfl rfl (by omega)) ?_;refine xC rfl (Wr (n:=((af (x/256 ^ i).toNat).toNat:Int)) is3 ty5 rfl (by rw[Jb];exact IS (Int.ediv_nonneg (by omega) (Int.pow_nonneg (by decide))))) ?_;refine Wo rfl rfl (WS (enc:=b8) (u:=af (x/256 ^ i).toNat) aH rfl rfl rfl ?_);intro w4 ho4 hs4 hf4;refine Wu (by exact hf4.obj hobj (fun h=>h)) ?_;refine Wo rfl rfl (Wq aP aH rfl rfl (hown.ZM hf4.ZK) ho4.vw (by simp only[ZU,ZR,bC];omega) (by simp only[ZU,ZR,bC];unfold maxLen;omega) rfl ?_);intro ao5 c5 w5 ho5 hf5 hr5 hn5;refine Wu (by exact hf5.obj (hf4.obj hobj (fun h=>h)) hap) ?_;refine Gz 2 ?_;refine Wo rfl rfl (Wl aX rfl rfl rfl (hf5.obj (hf4.obj hobj (fun h=>h)) hap) rfl ?_);intro w6 hg6 hs6 hf6;refine WW rfl ?_;refine Gz 8 ?_;obtain⟨hP6,hF6⟩:=Ht (cs:=csR) (E:=E) (dV hF3 hD) hap hDp hDa hP2.lt hf4.ZK ho5 hf5 hr5 hg6 hf6;refine aG (i+1) ?_ (by show n.toNat-(i+1)<n.toNat-i;omega);exact⟨by omega,by rw[O0];exact hP6,hF3.trans hF6⟩
 refine Gz 7 ?_;refine Xi rfl ?_;exact⟨_,rfl,by rw[←OF (i:=i) (fun h=>absurd (by rw[hE0];omega) h) (fun h=>by omega),hE0];exact hP3,hF3⟩
theorem oB(D:Nat→Prop)(p:Nat)(E:Int)(xs:By)(yo:Option Addr)(yc:Nat)(ys:By)(W:World)(hP:WrR D W.heap p E xs)(hD:∀ k,W.heap.size≤k→D k)(hv:Vw b8 W.heap yo yc ys)(hb:xs.length≤1099511627776)(hb2:ys.length≤1099511627776) :
 CA 64 [pT p,.slice yo ys.length yc] W fun v w'=>WrR D w'.heap p E (Da E xs ys)∧aA D W w':=by
 have hP0:=hP;obtain⟨ao,c,hobj,hown,hap,hDp,hDa⟩:=hP;refine cS 18 [(0,_),(1,_)] Tryz.func64 ?_;refine fK 6 ?_ ?_<;>intro h8
 ·refine Gz 10 ?_;refine Wq aP aH rfl rfl hown hv (by omega) (by unfold maxLen;omega) rfl ?_;intro ao5 c5 w5 ho5 hf5 hr5 hn5;refine Gz 2 ?_;refine Wl aX rfl rfl rfl (hf5.obj hobj hap) rfl ?_;intro w6 hg6 hs6 hf6;refine Gz 1 ?_;refine Xi rfl ?_;obtain⟨hP6,hF6⟩:=Ht (cs:=csR) (E:=E) hD hap hDp hDa hP0.lt (Zn _ _) ho5 hf5 hr5 hg6 hf6;exact⟨_,rfl,by unfold Da;rw[ZP h8];exact hP6,hF6⟩
 refine Gz 4 ?_;refine Xi rfl ?_;exact⟨_,rfl,by unfold Da;rw[ZO h8];exact hP0,Zn _ _⟩
theorem EX(E:Int)(xs:By)(x n:Int)(h:¬ iS x n):(nJ E xs x n).length≤xs.length+4:=by
 unfold nJ;split
 ·omega
 ·simp only[ZR,bC];unfold iS at h;omega
theorem KQ{E:Int}{xs s:By}(h:¬ 255<s.length):iP E s.length 1=nE E s∧Da (iP E s.length 1) (nJ E xs s.length 1) s=oX E xs s:=by
 have hb:=nT (n:=s.length) (by omega);rw[dT hb];unfold nE oX Da nJ;by_cases hE:E=0
 ·simp[hE,h,hb,Az]
 ·simp[hE]
theorem uB(D:Nat→Prop)(p:Nat)(E:Int)(xs s:By)(W:World)(hP:WrR D W.heap p E xs)(hD:∀ k,W.heap.size≤k→D k)(hb:xs.length≤549755813888)(hsl:s.length≤549755813888) :
 CA 105 [pT p,.string (bs s)] W fun v w'=>WrR D w'.heap p (nE E s) (oX E xs s)∧aA D W w':=by
 have hP0:=hP;obtain⟨ao,c,hobj,hown,hap,hDp,hDa⟩:=hP;refine cS 26 [(0,_),(1,_)] Tryz.func105 ?_;refine WL (β:=Unit) (fun _u=>[(0,pT p),(1,.string (bs s))]) (fun _u w=>WrR D w.heap p (nE E s) xs∧aA D W w) ?_ ?_
 ·refine fK 6 ?_ ?_<;>intro h8
  ·refine Gz 2 ?_;refine cW (WM ty9 rfl) ?_;refine fW 0 ?_ ?_<;>intro h12
   ·refine Gz 8 ?_;refine Wl sH rfl rfl rfl hobj rfl ?_;intro w1 hg1 hs1 hf1;refine Gz 1 ?_;refine aC () ?_;exact⟨by rw[DT (by omega) (by omega)];exact⟨ao,c,hg1,hown.ZN hf1 (fun a ha h=>hap ⟨a,ha,h⟩),hap,hDp,hDa⟩,hf1.mono (fun k h=>by subst h;exact hDp)⟩
   refine Gz 5 ?_;refine aC () ?_;exact⟨by rw[nP (by omega)];exact hP0,Zn _ _⟩
  refine Gz 9 ?_;refine aC () ?_;exact⟨by rw[nP (by omega)];exact hP0,Zn _ _⟩
 rintro _ w2 ⟨hP2,hF2⟩;refine Gz 4 ?_;refine cL (WM ty9 rfl) ?_;refine cL (W7 rfl rfl (by omega) (by decide)) ?_;have hm:((s.length:Int)%256)=((s.length%256:Nat):Int):=by omega
 have hgood:=nT (n:=s.length%256) (by omega);have hl1:=EX (nE E s) xs ((s.length:Int)%256) 1 (by rw[hm];exact hgood);refine Wh iJ rfl (eB D p _ xs _ 1 w2 hP2 (dV hF2 hD) (by omega)) rfl ?_;rintro _ w3 ⟨hP3,hF3⟩;refine Gz 5 ?_;refine XU ty9 aH ty5 rfl (by unfold maxLen;omega) rfl ?_;intro w4 c4 hv4 hs4 hf4;refine Wh MV rfl (oB D p _ _ _ c4 s w4 (hP3.ZM hf4) (dV hf4 (dV hF3 (dV hF2 hD))) hv4 (by omega) (by omega)) rfl ?_;rintro _ w5 ⟨hP5,hF5⟩;refine Gz 1 ?_;refine Xi rfl ?_;refine⟨_,rfl,?_,((hF2.trans hF3).trans (hf4.mono (fun _ h=>h.elim))).trans hF5⟩;rw[hm] at hP5;rw[dT hgood] at hP5;by_cases hE:nE E s=0
 · have h0:=IY hE
   have:=(KQ (E:=E) (xs:=xs) h0.2).2;rw[dT (nT (by omega))] at this;rw[hE] at hP5 ⊢;rw[h0.1] at this ⊢;rw[←this,show s.length%256=s.length from by omega] at *;exact hP5
 · have e2:oX E xs s=xs:=KS hE
   rw[e2];have e3:Da (nE E s) (nJ (nE E s) xs ((s.length%256:Nat):Int) 1) s=xs:=by unfold Da;rw[ZO hE];exact mD (by rw[dT hgood];exact hE)
   rw[e3] at hP5;exact hP5
def rJ(W:World)(xs:By):Value→World→Prop:=fun v w'=>∃ ao' cap',v=.slice ao' xs.length cap'∧Own b8 5 w'.heap ao' cap' xs∧Fr W.heap.size ao'∧aA nob W w'
theorem Gm(cap:Nat)(xs:By)(W:World)(hv:Vw b8 W.heap none cap xs):CA 34 [.slice none xs.length cap] W (rJ W xs):=by
 have hx:xs=[]:=Z9 (by
  rcases ef xs.length with h|h
  ·exact h
  ·exact absurd rfl (hv.non (by omega)))
 subst hx;refine cS 8 [(0,_)] Tryz.func34 ?_;refine Gz 9 ?_;refine cL (Xg aH rfl rfl) ?_;refine Gz 11 ?_;exact⟨_,rfl,none,0,rfl,Zu,Zs,Zn _ _⟩
theorem El(a:Addr)(cap:Nat)(xs:By)(W:World)(hv:Vw b8 W.heap (some a) cap xs)(hb:xs.length≤140737488355328):CA 34 [.slice (some a) xs.length cap] W (rJ W xs):=by
 refine cS 8 [(0,_)] Tryz.func34 ?_;refine Gz 9 ?_;refine cL (Xg aH rfl rfl) ?_;refine Gz 7 ?_;refine WC b8 aH rfl ?_;intro w1 ho1 hs1 hf1;refine Gz 1 ?_;refine Wq aP aH rfl rfl ho1 (hv.ZM hf1) (by simp only[Z7];omega) (by simp only[Z7];unfold maxLen;omega) rfl ?_;intro ao2 c2 w2 ho2 hf2 hr2 hn2;refine Gz 5 ?_;have hfr:=cX W.heap.size;refine⟨_,rfl,ao2,c2,rfl,ho2,fun a ha=>?_,hf1.ZJ hf2 hfr.step⟩;rcases hr2 a ha with h|h
 ·exact hfr a h
 ·have:=hf1.size;omega
theorem kB(ao:Option Addr)(cap:Nat)(xs:By)(W:World)(hv:Vw b8 W.heap ao cap xs)(hb:xs.length≤140737488355328):CA 34 [.slice ao xs.length cap] W (rJ W xs):=by
 cases ao with
|none=>exact Gm cap xs W hv
|some a=>exact El a cap xs W hv hb
def jY(E:Int)(xs:By):By:=if E≠0 then [] else xs
theorem jH(D:Nat→Prop)(p:Nat)(E:Int)(xs:By)(W:World)(hP:WrR D W.heap p E xs)(hb:xs.length≤1099511627776) :
 CA 62 [pT p] W (rJ W (jY E xs)):=by
 obtain⟨ao,c,hobj,hown,hap,hDp,hDa⟩:=hP;refine cS 14 [(0,_)] Tryz.func62 ?_;refine fK 12 ?_ ?_<;>intro h7
 ·refine Gz 11 ?_;refine⟨_,rfl,?_⟩;unfold jY;rw[ZP h7];exact⟨none,0,rfl,Zu,Zs,Zn _ _⟩
 refine Gz 7 ?_;refine WC b8 aH rfl ?_;intro w1 ho1 hs1 hf1;refine Gz 3 ?_;refine cL (Wk aX rfl (aB (hf1.obj hobj (fun h=>h)) rfl)) ?_;refine Wq aP aH rfl rfl ho1 (hown.ZM hf1).vw (by simp only[Z7];omega) (by simp only[Z7];unfold maxLen;omega) rfl ?_;intro ao2 c2 w2 ho2 hf2 hr2 hn2;refine Gz 5 ?_;refine⟨_,rfl,?_⟩;unfold jY;rw[ZO h7];exact⟨ao2,c2,rfl,ho2,aS (cX _) hr2 hf1.size,hf1.ZJ hf2 (cX _).step⟩
theorem ZC{H:Array Obj}{p:Nat}(h:H[p]?=some (.cells #[sN,iV 0] 152 (0,0))){D:Nat→Prop}(hD:D p):WrR D H p 0 []:=
 ⟨none,0,h,Zu,(fun⟨a,h,_⟩=>by cases h),hD,(fun k ⟨a,h,_⟩=>by cases h)⟩
section
def dE(E:Int)(ys:By)(n:Int):Int:=if E≠0 then E else if n<0 then 1 else if (ys.length:Int)<n then 2 else 0
def fD(E:Int)(ys:By)(n:Int):By:=if dE E ys n≠0 then [] else ys.take n.toNat
def rF(E:Int)(ys:By)(n:Int):By:=if dE E ys n≠0 then ys else ys.drop n.toNat
def bV:By→Nat
|[]=>0
|b::r=>b.toNat+256*bV r
def cO(E n:Int):Int:=if E≠0 then E else if n<1∨4<n then 1 else 0
theorem uN(E n:Int):cO E n=if E=0∧(n<1∨4<n) then 1 else E:=by
 unfold cO;by_cases hE:E=0
 ·simp[hE]
 ·simp[hE]
theorem fH{n:Int}(h1:1≤n)(h4:n≤4)(E:Int):cO E n=E:=by rw[uN,ZO (by omega)]
theorem lS{E:Int}{ys:By}{n:Int}(h:E≠0):dE E ys n=E:=by unfold dE;rw[ZP h]
theorem FN{E:Int}{ys:By}{n:Int}(h:n<0):dE E ys n=if E=0 then 1 else E:=by
 unfold dE;by_cases hE:E=0<;>simp[hE,h]
theorem mM{E:Int}{ys:By}{n:Int}(h:¬ n<0)(h2:(ys.length:Int)<n):dE E ys n=if E=0 then 2 else E:=by
 unfold dE;by_cases hE:E=0<;>simp[hE,h,h2]
theorem dQ{E:Int}{ys:By}{n:Int}(h:¬ n<0)(h2:¬ (ys.length:Int)<n):dE E ys n=E:=by
 unfold dE;by_cases hE:E=0<;>simp[hE,h,h2]
theorem mN{E:Int}{ys:By}{n:Int}(h:dE E ys n≠0):fD E ys n=[]∧rF E ys n=ys:=by unfold fD rF;rw[ZP h,ZP h];exact⟨rfl,rfl⟩
theorem cF{E:Int}{ys:By}{n:Int}(h:dE E ys n=0):fD E ys n=ys.take n.toNat∧rF E ys n=ys.drop n.toNat:=by unfold fD rF;rw[ZO (by omega),ZO (by omega)];exact⟨rfl,rfl⟩
theorem jC{E:Int}{ys:By}{n:Int}(h:dE E ys n=0):E=0∧0≤n∧n≤ys.length:=by
 unfold dE at h
 split at h
 ·contradiction
 · split at h
   ·cases h
   · split at h
     ·cases h
     ·rename_i h1 h2 h3;exact⟨by omega,by omega,by omega⟩
theorem AW(E:Int)(ys:By)(n:Int):(fD E ys n).length≤n.toNat:=by unfold fD;split<;>simp;omega
theorem cC(E:Int)(ys:By)(n:Int):(rF E ys n).length≤ys.length:=by unfold rF;split<;>simp
theorem xE:∀ (a b:By),bV (a++b)=bV a+256 ^ a.length*bV b
|[],b=>by simp[bV]
|x::a,b=>by
   simp only[df,bV,xE a b,al,Nat.pow_succ];rw[Nat.mul_add,Nat.mul_assoc (256 ^ a.length) 256,Nat.mul_left_comm 256];omega
theorem tM:∀ a:By,bV a<256 ^ a.length
|[]=>by simp[bV]
|x::a=>by
   have h1:=tM a;have h2:=x.toNat_lt;simp only[bV,al,Nat.pow_succ];omega
theorem IU(bs:By)(i:Nat)(h:i<bs.length):bV (bs.take (i+1))=bV (bs.take i) ||| ((bs.getD i 0).toNat*2 ^ (8*i)):=by
 have e:bs.take (i+1)=bs.take i++[bs.getD i 0]:=by rw[am h];simp[Z2,h]
 have hl:(bs.take i).length=i:=by rw[ZT];omega
 rw[e,xE,hl];have hlt:=tM (bs.take i);rw[hl] at hlt;have h3:=Nat.shiftLeft_add_eq_or_of_lt (show bV (bs.take i)<2 ^ (8*i) by rw[Nat.pow_mul];exact hlt) (bs.getD i 0).toNat;rw[Nat.shiftLeft_eq] at h3;rw[Nat.or_comm,←h3,Nat.pow_mul,show (2:Nat) ^ 8=256 from rfl];simp only[bV,Nat.mul_zero,gp];rw[Nat.mul_comm (256 ^ i)];omega
theorem IV(bs:By)(i:Nat)(h:i<bs.length):bV (bs.drop i)=256*bV (bs.drop (i+1))+(bs.getD i 0).toNat:=by
 rw[bz h];simp[bV,Z2,h];omega
theorem Dn:∀ bs:By,le (bV bs) bs.length=bs
|[]=>rfl
|b::r=>by
   have ih:=Dn r;have h2:=b.toNat_lt;unfold le at *;simp only[al,List.range_succ_eq_map,db,map_map];congr 1
   · apply dn.1
     rw[ck];show ((((bV (b::r):Nat):Int)/256 ^ 0).toNat)%2 ^ 8=b.toNat;simp only[bV,Int.pow_zero,Int.ediv_one];omega
   · conv=>rhs;rw[←ih]
     apply gq;intro i _;simp only[Function.comp];have e1:((bV (b::r):Nat):Int)/256 ^ (i+1)=((bV (b::r)/256 ^ (i+1):Nat):Int):=by rw[Int.natCast_ediv];simp
     have e2:((bV r:Nat):Int)/256 ^ i=((bV r/256 ^ i:Nat):Int):=by rw[Int.natCast_ediv];simp
     have e3:bV (b::r)/256 ^ (i+1)=bV r/256 ^ i:=by
      rw[Nat.pow_succ,Nat.mul_comm (256 ^ i) 256,←Nat.div_div_eq_div_mul];simp only[bV];congr 1;omega
     rw[Nat.succ_eq_add_one,e1,e2,e3]
theorem O1(x:Int)(n:Nat):le x (n+1)=af x.toNat::le (x/256) n:=by
 unfold le;rw[List.range_succ_eq_map,db,map_map];congr 1
 ·simp
 · apply gq
   intro i _;simp only[Function.comp,Nat.succ_eq_add_one];rw[Int.pow_succ,Int.mul_comm (256 ^ i),Int.ediv_ediv_of_nonneg (by decide)]
theorem rM:∀ (n:Nat) (x:Int),0≤x→x<256 ^ n→((bV (le x n):Nat):Int)=x
|0,x,h0,h1=>by simp at h1;simp[le,bV];omega
|n+1,x,h0,h1=>by
   rw[O1];have h2:x/256<256 ^ n:=by
    rw[Int.pow_succ] at h1;exact Int.ediv_lt_of_lt_mul (by decide) h1
   have ih:=rM n (x/256) (Int.ediv_nonneg h0 (by decide)) h2;simp only[bV];rw[ck];omega
def ApD(D:Nat→Prop)(ao:Option Addr)(p n:Nat):Prop:=D p∧(0<n→¬ blk ao p∧∀ k,blk ao k→D k)
theorem Fo{w w':World}{S:Nat→Prop}{ao:Option Addr}{c:Nat}{ys:By}(h:Vw b8 w.heap ao c ys)(f:aA S w w')(hs:0<ys.length→∀ a,ao=some a→¬ S a.block):Vw b8 w'.heap ao c ys:=by
 by_cases h0:0<ys.length
 ·exact h.ZN f (hs h0)
 · have:ys=[]:=Z9 (by omega)
   subst this;exact Zt c h.max
def RdO(cs:Int→Value→List Value)(T:TypeId)(D:Nat→Prop)(H:Array Obj)(p:Nat)(E:Int)(ys:By):Prop:=
 ∃ ao c,H[p]?=some (.cells (cs E (.slice ao ys.length c)).toArray T (0,0))∧Vw b8 H ao c ys∧ApD D ao p ys.length
abbrev RdL:=RdO csL 171
abbrev RdR:=RdO csR 224
section
variable {cs:Int→Value→List Value}{T:TypeId}{D:Nat→Prop}{p:Nat}{E:Int}{ys:List UInt8}
theorem RdO.lt{H:Array Obj}(h:RdO cs T D H p E ys):p<H.size:=by obtain⟨ao,c,hg,_⟩:=h;exact(Z1.1 hg).1
theorem RdO.ZM{w w':World}(h:RdO cs T D w.heap p E ys)(f:aA nob w w'):RdO cs T D w'.heap p E ys:=by
 obtain⟨ao,c,hg,hv,h1⟩:=h;exact⟨ao,c,f.obj hg id,hv.ZM f,h1⟩
end
section
variable {cs:Int→Value→List Value}{T:TypeId}{D:Nat→Prop}{p:Nat}{E:Int}{ys:List UInt8}
theorem RdO.ZN{S:Nat→Prop}{w w':World}(h:RdO cs T D w.heap p E ys)(f:aA S w w')(hs:∀ k,D k→¬ S k):RdO cs T D w'.heap p E ys:=by
 obtain⟨ao,c,hg,hv,h1⟩:=h;exact⟨ao,c,f.obj hg (hs p h1.1),Fo hv f (fun hn a ha=>hs _ ((h1.2 hn).2 _ ⟨a,ha,rfl⟩)),h1⟩
end
variable {D:Nat→Prop}
theorem rY{D:Nat→Prop}{ao:Option Addr}{m l s p n n2:Nat}(h:ApD D ao p n)(hn:n2≤n):ApD D (aO ao m l s) p n2:=⟨h.1,fun h0=>⟨fun h2=>(h.2 (by omega)).1 (yX h2),fun k hk=>(h.2 (by omega)).2 k (yX hk)⟩⟩
theorem qK(p:Nat)(E:Int)(ys:By)(e:Int)(W:World)(hP:RdL D W.heap p E ys) :
 CA 110 [pT p,iV e] W fun v w'=>RdL D w'.heap p (if E=0 then e else E) ys∧aA (· = p) W w':=by
 have hPP:=hP;obtain⟨ao,c,hobj,hv,hap⟩:=hP;refine cS 13 [(0,_),(1,_)] Tryz.func110 ?_;refine fK 6 ?_ ?_<;>intro h8
 ·refine Gz 8 ?_;refine Wl sH rfl rfl rfl hobj rfl ?_;intro w1 hg1 hs1 hf1;refine Gz 1 ?_;refine Xi rfl ?_;exact⟨_,rfl,by rw[ZP h8];exact⟨ao,c,hg1,Fo hv hf1 (fun hn a ha h=>(hap.2 hn).1 ⟨a,ha,h⟩),hap⟩,hf1⟩
 refine Gz 4 ?_;refine Xi rfl ?_;exact⟨_,rfl,by rw[ZO h8];exact hPP,Zn _ _⟩
theorem rQ(p:Nat)(E:Int)(ys:By)(e:Int)(W:World)(hP:RdR D W.heap p E ys) :
 CA 147 [pT p,iV e] W fun v w'=>RdR D w'.heap p (if E=0 then e else E) ys∧aA (· = p) W w':=by
 have hPP:=hP;obtain⟨ao,c,hobj,hv,hap⟩:=hP;refine cS 13 [(0,_),(1,_)] Tryz.func147 ?_;refine fK 6 ?_ ?_<;>intro h8
 ·refine Gz 8 ?_;refine Wl sH rfl rfl rfl hobj rfl ?_;intro w1 hg1 hs1 hf1;refine Gz 1 ?_;refine Xi rfl ?_;exact⟨_,rfl,by rw[ZP h8];exact⟨ao,c,hg1,Fo hv hf1 (fun hn a ha h=>(hap.2 hn).1 ⟨a,ha,h⟩),hap⟩,hf1⟩
 refine Gz 4 ?_;refine Xi rfl ?_;exact⟨_,rfl,by rw[ZO h8];exact hPP,Zn _ _⟩
def RdP(cs:Int→Value→List Value)(T:TypeId)(D:Nat→Prop)(W:World)(p:Nat)(E:Int)(ys:By)(n:Int):Value→World→Prop:=fun v w'=>
 ∃ ao c,v=.slice ao (fD E ys n).length c∧Own b8 5 w'.heap ao c (fD E ys n)∧Fr W.heap.size ao∧RdO cs T D w'.heap p (dE E ys n) (rF E ys n)∧aA (· = p) W w'
theorem rD{H:Array Obj}{ao:Option Addr}{c:Nat}{ys:By}(h:Vw b8 H ao c ys){n:Int}(h0:0≤n)(h1:n≤ys.length):Vw b8 H (aO ao c n.toNat 1) (c-n.toNat) (ys.drop n.toNat):=by
 have:=h.cut (l:=n.toNat) (h:=ys.length) (m:=c) (by omega) (Z0 _) h.le (Z0 _);rwa[Z4 (by simp)] at this
theorem pA(p:Nat)(E:Int)(ys:By)(n:Int)(W:World)(hP:RdL D W.heap p E ys)(hb:ys.length≤1099511627776) :
 CA 67 [pT p,iV n] W (RdP csL 171 D W p E ys n):=by
 have hP0:=hP;obtain⟨ao0,c0,hobj0,hv0,hap0⟩:=hP0;refine cS 48 [(0,_),(1,_)] Tryz.func67 ?_;refine Gz 5 ?_;refine WL (β:=Unit) (fun _u=>[(0,pT p),(1,iV n)]) (fun _u w=>RdL D w.heap p (dE E ys n) ys∧aA (· = p) W w) ?_ ?_
 ·refine fK 4 ?_ ?_<;>intro h8
  ·refine cA 8 FF (qK p E ys 1 W hP) ?_;rintro _ w1 ⟨hP1,hF1⟩;refine Gz 2 ?_;refine aC () ?_;exact⟨by rw[FN h8];exact hP1,hF1⟩
  refine fK 12 ?_ ?_<;>intro h20
  ·refine cA 8 FF (qK p E ys 2 W hP) ?_;rintro _ w1 ⟨hP1,hF1⟩;refine Gz 2 ?_;refine aC () ?_;exact⟨by rw[mM h8 h20];exact hP1,hF1⟩
  refine Gz 6 ?_;refine aC () ?_;exact⟨by rw[dQ h8 h20];exact hP,Zn _ _⟩
 rintro _ w2 ⟨hP2,hF2⟩;obtain⟨ao,c,hobj,hv,hap⟩:=hP2;have hlt:=(RdO.lt hP)
 refine fK 8 ?_ ?_<;>intro h30
 ·refine Gz 11 ?_;have hbad:dE E ys n≠0:=h30;obtain⟨e1,e2⟩:=mN hbad;exact⟨_,rfl,none,0,by rw[e1];rfl,by rw[e1];exact Zu,Zs,by rw[e2];exact⟨ao,c,hobj,hv,hap⟩,hF2⟩
 refine Gz 10 ?_;obtain⟨z0,z1,z2⟩:=jC (show dE E ys n=0 by omega);have hvc:=hv.le;refine Gz 2 ?_;refine cL (WE aH rfl rfl (by omega)) ?_;have hvt:=hv.take n.toNat;have htl:(ys.take n.toNat).length=n.toNat:=by rw[ZT];omega
 refine Wh G9 rfl (by rw[bF,←htl];exact kB ao c (ys.take n.toNat) w2 hvt (by omega)) rfl ?_;rintro _ w3 ⟨ao3,c3,rfl,ho3,hfr3,hf3⟩;refine Gz 9 ?_;refine cL (Wk aX rfl (aB (hf3.obj hobj id) rfl)) ?_;refine Gz 1 ?_;refine cL (WR aH rfl rfl (by omega)) ?_;refine Gz 2 ?_;refine Wl aX rfl rfl rfl (hf3.obj hobj id) rfl ?_;intro w4 hg4 hs4 hf4;refine Gz 10 ?_;obtain⟨e1,e2⟩:=cF (show dE E ys n=0 by omega);have hs2:=hF2.size;have hlt2:p<w2.heap.size:=by omega
 refine⟨_,rfl,ao3,c3,by rw[e1],by rw[e1];exact ho3.ZN hf4 (fun a ha h=>by have:=hfr3 a ha;have h2:a.block=p:=h;omega),hfr3.mono hs2,?_,(hF2.trans (hf3.mono (fun _ h=>h.elim))).trans hf4⟩;rw[e2];refine⟨_,_,by rw[ZX];exact hg4,?_,rY hap (by rw[ZX];omega)⟩;exact Fo (rD (hv.ZM hf3) z1 z2) hf4 (fun hn a ha h=>((rY (n2:=(ys.drop n.toNat).length) hap (by rw[ZX];omega)).2 hn).1 ⟨a,ha,h⟩)
theorem qH(p:Nat)(E:Int)(ys:By)(n:Int)(W:World)(hP:RdR D W.heap p E ys)(hb:ys.length≤1099511627776) :
 CA 148 [pT p,iV n] W (RdP csR 224 D W p E ys n):=by
 have hlt:=RdO.lt hP;have hP0:=hP;obtain⟨ao,c,hobj,hv,hap⟩:=hP0;refine cS 42 [(0,_),(1,_)] Tryz.func148 ?_;refine fK 12 ?_ ?_<;>intro h10
 ·refine Gz 11 ?_;have hbad:dE E ys n≠0:=by rw[lS h10];exact h10
  obtain⟨e1,e2⟩:=mN hbad;exact⟨_,rfl,none,0,by rw[e1];rfl,by rw[e1];exact Zu,Zs,by rw[e2,lS h10];exact hP,Zn _ _⟩
 refine fK 9 ?_ ?_<;>intro h12
 ·refine cA 6 Iz (rQ p E ys 1 W hP) ?_;rintro _ w1 ⟨hP1,hF1⟩;refine Gz 10 ?_;have e0:=FN (E:=E) (ys:=ys) h12;have hbad:dE E ys n≠0:=by rw[e0,ZP (by omega)];decide
  obtain⟨e1,e2⟩:=mN hbad;exact⟨_,rfl,none,0,by rw[e1];rfl,by rw[e1];exact Zu,Zs,by rw[e2,e0];exact hP1,hF1⟩
 refine fK 14 ?_ ?_<;>intro h21
 ·refine cA 6 Iz (rQ p E ys 2 W hP) ?_;rintro _ w1 ⟨hP1,hF1⟩;refine Gz 10 ?_;have e0:=mM (E:=E) (ys:=ys) h12 h21;have hbad:dE E ys n≠0:=by rw[e0,ZP (by omega)];decide
  obtain⟨e1,e2⟩:=mN hbad;exact⟨_,rfl,none,0,by rw[e1];rfl,by rw[e1];exact Zu,Zs,by rw[e2,e0];exact hP1,hF1⟩
 refine Gz 7 ?_;refine WC b8 aH rfl ?_;intro w2 ho2 hs2 hf2;have hvc:=hv.le;refine Gz 3 ?_;refine cL (Wk aX rfl (aB (hf2.obj hobj id) rfl)) ?_;refine Gz 1 ?_;refine cL (WE aH rfl rfl (by omega)) ?_;refine Wq aP aH (ys:=ys.take n.toNat) rfl (by show some (Value.slice (aO ao c 0 1) n.toNat c)=_;rw[bF,show (ys.take n.toNat).length=n.toNat by rw[ZT];omega]) ho2 ((hv.take n.toNat).ZM hf2) (by simp only[Z7,ZT];omega) (by simp only[Z7,ZT];unfold maxLen;omega) rfl ?_;intro ao3 c3 w3 ho3 hf3 hr3 hn3;have hap2:¬ blk (some (⟨W.heap.size,0,none⟩:Addr)) p:=fun⟨a,ha,hb⟩=>by cases ha;have:W.heap.size=p:=hb;omega
 have hobj3:=hf3.obj (hf2.obj hobj id) hap2;have hfr3:Fr W.heap.size ao3:=aS (cX _) hr3 hf2.size;refine Gz 11 ?_;refine cL (WR aH rfl rfl (by omega)) ?_;refine Gz 2 ?_;refine Wl aX rfl rfl rfl hobj3 rfl ?_;intro w4 hg4 hs4 hf4;refine Gz 10 ?_;have e0:=dQ (E:=E) (ys:=ys) h12 h21;obtain⟨e1,e2⟩:=cF (show dE E ys n=0 by omega);rw[aq] at ho3;refine⟨_,rfl,ao3,c3,by rw[e1];rfl,by rw[e1];exact ho3.ZN hf4 (fun a ha h=>by have:=hfr3 a ha;have h2:a.block=p:=h;omega),hfr3,?_,((hf2.mono (fun _ h=>h.elim)).ZJ hf3 (cX _).step).trans hf4⟩;rw[e2,e0];refine⟨_,_,by rw[ZX];exact hg4,?_,rY hap (by rw[ZX];omega)⟩;have hv3:Vw b8 w3.heap ao c ys:=hv.ZM (hf2.ZJ hf3 (cX _).step);exact Fo (rD hv3 (by omega) (by omega)) hf4 (fun hn a ha h=>((rY (n2:=(ys.drop n.toNat).length) hap (by rw[ZX];omega)).2 hn).1 ⟨a,ha,h⟩)
def Uj(cs:Int→Value→List Value)(T:TypeId)(D:Nat→Prop)(W:World)(p:Nat)(E:Int)(ys:By)(n:Int):Value→World→Prop:=fun v w'=>
 v=iV (bV (fD (cO E n) ys n))∧RdO cs T D w'.heap p (dE (cO E n) ys n) (rF (cO E n) ys n)∧aA (· = p) W w'
theorem Al(E:Int)(ys:By)(n:Int):(fD (cO E n) ys n).length≤4:=by
 have h1:=AW (cO E n) ys n;by_cases h:dE (cO E n) ys n=0
 · have h2:=(jC h).1
   unfold cO at h2
   split at h2
   ·omega
   · split at h2
     ·cases h2
     ·omega
 ·rw[(mN h).1];simp
theorem JH{i:Nat}(h:i<4):2 ^ (8*i)≤16777216:=aj (gj (by decide) (show 8*i≤24 by omega)) (by decide)
theorem Ja(c:UInt8){i:Nat}(h:i<4):(c.toNat:Int)*2 ^ (8*(i:Int)).toNat=((c.toNat*2 ^ (8*i):Nat):Int)∧c.toNat*2 ^ (8*i)<4294967296:=by
 refine⟨by rw[show (8*(i:Int)).toNat=8*i by omega];simp,?_⟩;have h1:=c.toNat_lt;have h2:=JH h;have:=Nat.mul_le_mul (show c.toNat≤255 by omega) h2;omega
theorem lU{bs:By}(h:bs.length≤4):bV bs<4294967296:=
 cl (tM bs) (aj (gj (by decide) h) (by decide))
theorem iF(p:Nat)(E:Int)(ys:By)(n:Int)(W:World)(hP:RdL D W.heap p E ys)(hb:ys.length≤1099511627776) :
 CA 69 [pT p,iV n] W (Uj csL 171 D W p E ys n):=by
 have hbl:=Al E ys n;refine cS 36 [(0,_),(1,_)] Tryz.func69 ?_;refine Gz 5 ?_;refine WL (β:=Unit) (fun _u=>[(0,pT p),(1,iV n)]) (fun _u w=>RdL D w.heap p (cO E n) ys∧aA (· = p) W w) ?_ ?_
 ·refine fK 3 ?_ ?_<;>intro h9
  ·refine cA 11 FF (qK p E ys 1 W hP) ?_;rintro _ w1 ⟨hP1,hF1⟩;refine Gz 1 ?_;refine aC () ?_;exact⟨by rw[show cO E n=if E=0 then 1 else E by unfold cO;by_cases hE:E=0;rw[ZO (by omega),ZP (by omega),ZP hE];rw[ZP hE,ZO hE]];exact hP1,hF1⟩
  refine fW 2 ?_ ?_<;>intro h12
  ·refine cA 8 FF (qK p E ys 1 W hP) ?_;rintro _ w1 ⟨hP1,hF1⟩;refine Gz 1 ?_;refine aC () ?_;exact⟨by rw[show cO E n=if E=0 then 1 else E by unfold cO;by_cases hE:E=0;rw[ZO (by omega),ZP (by omega),ZP hE];rw[ZP hE,ZO hE]];exact hP1,hF1⟩
  refine Gz 5 ?_;refine aC () ?_;exact⟨by rw[show cO E n=E by rw[uN,ZO (by omega)]];exact hP,Zn _ _⟩
 rintro _ w2 ⟨hP2,hF2⟩;refine Gz 10 ?_;refine Wh G8 rfl (pA p _ ys n w2 hP2 hb) rfl ?_;rintro _ w3 ⟨ao3,c3,rfl,ho3,hfr3,hP3,hF3⟩;obtain⟨bs3,hbs⟩:∃ l,l=fD (cO E n) ys n:=⟨_,rfl⟩
 rw[←hbs] at ho3 hbl ⊢;refine Gz 5 ?_;refine Wp (β:=Nat) (fun k=>[(5,iV (bV (bs3.take k))),(20,.slice ao3 bs3.length c3),(21,iV bs3.length),(22,iV k)]) (fun k w=>k≤bs3.length∧w=w3) (fun k=>bs3.length-k) 0 ⟨rfl,rfl,rfl,rfl,trivial⟩ ⟨ZZ _,rfl⟩ ?_;rintro k w4 ⟨hk,hw4⟩;subst hw4;refine fK 2 ?_ ?_<;>intro h23
 ·refine Gz 11 ?_;refine cL (Wi aH rfl rfl ho3.vw.non (by omega)) ?_;refine cL (Wk eC rfl (ho3.vw.gz 0 k rfl (by omega))) ?_;refine Gz 7 ?_;refine cL (Wr (n:=((bs3.getD k 0).toNat:Int)) is5 ty3 rfl (aU (by have:=(bs3.getD k 0).toNat_lt;omega))) ?_;refine Gz 1 ?_;refine cL (WN rfl rfl (by omega)) ?_;obtain⟨s1,s2⟩:=Ja (bs3.getD k 0) (i:=k) (by omega);refine cL (Wm (u:=iV (((bs3.getD k 0).toNat*2 ^ (8*k):Nat):Int)) (X9 rfl rfl (by omega) (by rw[s1];omega)) (by rw[s1])) ?_;refine cL (YM rfl rfl (by have:=lU (bs:=bs3.take k) (by rw[ZT];omega);omega) (by omega)) ?_;refine Gz 8 ?_;refine Wz (k+1) ⟨by rw[IU bs3 k (by omega)];rfl,rfl,rfl,rfl,trivial⟩ ⟨by omega,rfl⟩ (by show bs3.length-(k+1)<bs3.length-k;omega)
 refine Gz 17 ?_;rw[Z4 (by omega)];exact⟨_,rfl,by rw[hbs],hP3,hF2.trans hF3⟩
theorem bT(p:Nat)(E:Int)(ys:By)(n:Int)(W:World)(hP:RdR D W.heap p E ys)(hb:ys.length≤1099511627776) :
 CA 125 [pT p,iV n] W (Uj csR 224 D W p E ys n):=by
 have hbl:=Al E ys n;have hP0:=hP;obtain⟨ao,c,hobj,hv,hap⟩:=hP0;refine cS 42 [(0,_),(1,_)] Tryz.func125 ?_;refine Gz 5 ?_;refine WL (β:=Unit) (fun _u=>[(0,pT p),(1,iV n)]) (fun _u w=>RdR D w.heap p (cO E n) ys∧aA (· = p) W w) ?_ ?_
 ·refine fK 6 ?_ ?_<;>intro h12
  ·refine fW 2 ?_ ?_<;>intro h15
   ·refine cA 10 Iz (rQ p E ys 1 W hP) ?_;rintro _ w1 ⟨hP1,hF1⟩;refine Gz 1 ?_;refine aC () ?_;exact⟨by rw[show cO E n=if E=0 then 1 else E by unfold cO;rw[ZO (by omega),ZP (by omega),ZP (by omega)]];exact hP1,hF1⟩
   refine fW 2 ?_ ?_<;>intro h18
   ·refine cA 7 Iz (rQ p E ys 1 W hP) ?_;rintro _ w1 ⟨hP1,hF1⟩;refine Gz 1 ?_;refine aC () ?_;exact⟨by rw[show cO E n=if E=0 then 1 else E by unfold cO;rw[ZO (by omega),ZP (by omega),ZP (by omega)]];exact hP1,hF1⟩
   refine Gz 6 ?_;refine aC () ?_;exact⟨by rw[show cO E n=E by rw[uN,ZO (by omega)]];exact hP,Zn _ _⟩
  refine Gz 12 ?_;refine aC () ?_;exact⟨by rw[show cO E n=E by rw[uN,ZO (by omega)]];exact hP,Zn _ _⟩
 rintro _ w2 ⟨hP2,hF2⟩;refine Gz 4 ?_;refine Wh FD rfl (qH p _ ys n w2 hP2 hb) rfl ?_;rintro _ w3 ⟨ao3,c3,rfl,ho3,hfr3,hP3,hF3⟩;obtain⟨bs3,hbs⟩:∃ l,l=fD (cO E n) ys n:=⟨_,rfl⟩
 rw[←hbs] at ho3 hbl ⊢;refine Gz 18 ?_;refine Wp (β:=Nat) (fun k=>[(5,.slice ao3 bs3.length c3),(6,iV (bV (bs3.drop (bs3.length-k)))),(7,iV ((bs3.length:Int)-1-k))]) (fun k w=>k≤bs3.length∧w=w3) (fun k=>bs3.length-k) 0 ⟨rfl,(by rw[Nat.sub_zero,List.drop_length];rfl),(by rw[Int.ofNat_zero,Int.sub_zero];rfl),trivial⟩ ⟨ZZ _,rfl⟩ ?_;rintro k w4 ⟨hk,hw4⟩;subst hw4;refine fK 4 ?_ ?_<;>intro h30
 ·refine Gz 9 ?_;have hkl:bs3.length-(k+1)<bs3.length:=by omega
  have hvs:=lU (bs:=bs3.drop (bs3.length-k)) (by rw[ZX];omega);refine cL (WN rfl rfl (by omega)) ?_;refine Gz 2 ?_;refine cL (Wi aH rfl rfl ho3.vw.non (by omega)) ?_;refine cL (Wk eC rfl (ho3.vw.gz 0 (bs3.length-(k+1)) (by omega) (by omega))) ?_;refine cL (Wr (n:=((bs3.getD (bs3.length-(k+1)) 0).toNat:Int)) is5 ty3 rfl (aU (by have:=(bs3.getD (bs3.length-(k+1)) 0).toNat_lt;omega))) ?_;refine cL (W5 rfl rfl (by have:=(bs3.getD (bs3.length-(k+1)) 0).toNat_lt;omega)) ?_;refine Gz 9 ?_;have e6:=IV bs3 _ hkl;rw[show bs3.length-(k+1)+1=bs3.length-k by omega] at e6;refine Wz (k+1) ⟨rfl,by rw[e6];show some (Value.int .i64 _)=some (Value.int .i64 _);first|rfl|(congr 2;omega),by show some (Value.int .i64 _)=some (Value.int .i64 _);first|rfl|(congr 2;omega),trivial⟩ ⟨by omega,rfl⟩ (by show bs3.length-(k+1)<bs3.length-k;omega)
 refine Gz 16 ?_;rw[show bs3.length-k=0 by omega,List.drop_zero];exact⟨_,rfl,by rw[hbs],hP3,hF2.trans hF3⟩
def tE(E:Int)(ys:By):Int:=dE (cO E 1) ys 1
def tR(E:Int)(ys:By):By:=rF (cO E 1) ys 1
def tN(E:Int)(ys:By):Int:=bV (fD (cO E 1) ys 1)
def Ui(cs:Int→Value→List Value)(T:TypeId)(D:Nat→Prop)(W:World)(p:Nat)(E:Int)(ys:By):Value→World→Prop:=fun v w'=>
 v=.string (bs (fD (tE E ys) (tR E ys) (tN E ys)))∧RdO cs T D w'.heap p (dE (tE E ys) (tR E ys) (tN E ys)) (rF (tE E ys) (tR E ys) (tN E ys))∧aA (· = p) W w'
theorem Gh(E:Int)(ys:By):(tR E ys).length≤ys.length:=cC _ _ _
theorem B3(p:Nat)(E:Int)(ys:By)(W:World)(hP:RdL D W.heap p E ys)(hb:ys.length≤1099511627776) :
 CA 143 [pT p] W (Ui csL 171 D W p E ys):=by
 have hl:=Gh E ys;refine cS 8 [(0,_)] Tryz.func143 ?_;refine cA 9 AO (iF p E ys 1 W hP hb) ?_;rintro _ w1 ⟨rfl,hP1,hF1⟩;refine Wh G8 rfl (pA p (tE E ys) (tR E ys) (tN E ys) w1 hP1 (by omega)) rfl ?_;rintro _ w2 ⟨ao2,c2,rfl,ho2,hfr2,hP2,hF2⟩;refine cL (WG aH ty5 ty9 rfl ho2.vw) ?_;refine Gz 5 ?_;exact⟨_,rfl,rfl,hP2,hF1.trans hF2⟩
theorem zW(p:Nat)(E:Int)(ys:By)(W:World)(hP:RdR D W.heap p E ys)(hb:ys.length≤1099511627776) :
 CA 172 [pT p] W (Ui csR 224 D W p E ys):=by
 have hl:=Gh E ys;refine cS 10 [(0,_)] Tryz.func172 ?_;refine cA 8 eD (bT p E ys 1 W hP hb) ?_;rintro _ w1 ⟨rfl,hP1,hF1⟩;refine Gz 7 ?_;refine Wh FD rfl (qH p (tE E ys) (tR E ys) (tN E ys) w1 hP1 (by omega)) rfl ?_;rintro _ w2 ⟨ao2,c2,rfl,ho2,hfr2,hP2,hF2⟩;refine cL (WG aH ty5 ty9 rfl ho2.vw) ?_;refine Gz 5 ?_;exact⟨_,rfl,rfl,hP2,hF1.trans hF2⟩
def DC(E:Int)(ys:By):Int:=if E≠0 then E else if 0<ys.length then 2 else 0
theorem Nc{E:Int}{ys:By}(h:0<ys.length):DC E ys=if E=0 then 2 else E:=by
 unfold DC;by_cases hE:E=0<;>simp[hE,h]
theorem Nf{E:Int}{ys:By}(h:¬ 0<ys.length):DC E ys=E:=by
 unfold DC;by_cases hE:E=0<;>simp[hE,h]
theorem LG(p:Nat)(E:Int)(ys:By)(W:World)(hP:RdL D W.heap p E ys) :
 CA 163 [pT p] W fun v w'=>v=iV (DC E ys)∧aA (· = p) W w':=by
 have hP0:=hP;obtain⟨ao,c,hobj,hv,hap⟩:=hP0;refine cS 18 [(0,_)] Tryz.func163 ?_;refine fK 13 ?_ ?_<;>intro h8
 ·refine cA 7 FF (qK p E ys 2 W hP) ?_;rintro _ w1 ⟨hP1,hF1⟩;refine Gz 8 ?_;obtain⟨ao1,c1,hobj1,hv1,hap1⟩:=hP1;refine Gz 6 ?_;exact⟨_,rfl,by rw[Nc (by omega)],hF1⟩
 refine Gz 17 ?_;exact⟨_,rfl,by rw[Nf (by omega)],Zn _ _⟩
theorem qO(ao:Option Addr)(c:Nat)(ys:By)(W:World)(hv:Vw b8 W.heap ao c ys)(hb:ys.length≤140737488355328) :
 CA 66 [.slice ao ys.length c] W fun v w'=>∃ p,v=pT p∧W.heap.size≤p∧RdL (fun k=>W.heap.size≤k∧k<w'.heap.size) w'.heap p 0 ys∧aA nob W w':=by
 refine cS 7 [(0,_)] Tryz.func66 ?_;refine cA 8 G9 (kB ao c ys W hv hb) ?_;rintro _ w1 ⟨ao1,c1,rfl,ho1,hfr1,hf1⟩;refine cL (WA (cs:=#[iV 0,.slice ao1 ys.length c1]) QH Rt rfl (by kernel_rfl)) ?_;refine WO rfl rfl ?_;intro w2 hg2 hs2 hf2;refine Gz 5 ?_;have z1:=hf1.size;exact⟨_,rfl,_,rfl,hf1.size,⟨ao1,c1,hg2,(ho1.ZM hf2).vw,⟨by omega,by omega⟩,fun _=>⟨fun⟨a,ha,hb⟩=>by have h3:=ho1.lt a ha;have h4:a.block=w1.heap.size:=hb;omega,fun k ⟨a,ha,hb⟩=>by have h3:=ho1.lt a ha;have h4:=hfr1 a ha;omega⟩⟩,hf1.trans hf2⟩
end
def hdN(n:Nat):List Nat:=[n%256,n/256%256,255 ^^^ ((n%256) ^^^ (n/256%256))]
def hdB(n:Nat):By:=(hdN n).map af
theorem lH(n:Nat):(hdB n).length=3:=rfl
theorem Q3{n x:Nat}(h:x∈hdN n):x<256:=by
 simp only[hdN,aw,bv,or_false] at h;rcases h with rfl|rfl|rfl
 ·omega
 ·omega
 ·exact rK (by decide) (rK (by omega) (by omega))
def frS(x:By)(mark:Nat):By:=hdB (x.length+mark)++(if x.length=0 then [] else le (eU x:Nat) 4++x)
def dB(b:By):By×Int:=
 if 128<b.length then ([],3) else if b.length=0 then (frS [] 0,0) else if (pkS b).length<b.length then (frS (pkS b) 0,0) else (frS b 32768,0)
def jU(r:By):Option (By×Nat×Bool):=
 if r.length<3 then none else
 if r.take 3≠hdB ((r.getD 0 0).toNat+256*(r.getD 1 0).toNat) then none else
 if 128<((r.getD 0 0).toNat+256*(r.getD 1 0).toNat)%32768∨(((r.getD 0 0).toNat+256*(r.getD 1 0).toNat)%32768=0∧32768≤(r.getD 0 0).toNat+256*(r.getD 1 0).toNat) then none else
 if ((r.getD 0 0).toNat+256*(r.getD 1 0).toNat)%32768=0 then some ([],0,false) else
 if r.length<7+((r.getD 0 0).toNat+256*(r.getD 1 0).toNat)%32768 then none else
 some ((r.drop 7).take (((r.getD 0 0).toNat+256*(r.getD 1 0).toNat)%32768),bV ((r.drop 3).take 4),decide (32768≤(r.getD 0 0).toNat+256*(r.getD 1 0).toNat))
def cQ(im:By)(a:Int):Option (By×Nat×Bool):=if a<0∨(im.length:Int)<a then none else jU (im.drop a.toNat)
def eH(x:By):Nat:=if x.length=0 then 3 else 7+x.length
def dA(c:Option (By×Nat×Bool)):By×Nat×Int:=match c with
|none=>([],0,2)
|some (x,s,st)=>if x.length=0 then ([],3,0) else if eU x≠s then ([],0,2) else if st then (x,eH x,0) else
   if (up 128 x []).2≠0∨(up 128 x []).1.length=0 then ([],0,2) else ((up 128 x []).1,eH x,0)
def bD(im:By)(a:Int):By×Int×Int:=((dA (cQ im a)).1,if (dA (cQ im a)).2.2=0 then a+(dA (cQ im a)).2.1 else 0,(dA (cQ im a)).2.2)
def dO(im:By)(a:Int):Int×Int:=match cQ im a with
|none=>(0,2)
|some (x,_,_)=>(a+eH x,0)
theorem LW{b:By}(h:0<b.length):0<(pkS b).length:=by
 apply ZY;intro hn;have e:pkS b=[]:=Z9 (by omega);have:=DR b;rw[e] at this;unfold upS at this;rw[ZO (by omega),qA] at this;simp only[Prod.mk.injEq,and_true] at this;rw[←this] at h;cases h
theorem rU(x:By)(mark:Nat):(frS x mark).length=eH x:=by
 unfold frS eH;rw[ZR,lH]
 split
 ·rfl
 ·rw[ZR,bC];omega
theorem O8(n:Nat):((hdB n).getD 0 0).toNat=n%256:=by simp[hdB,hdN]
theorem O7(n:Nat):((hdB n).getD 1 0).toNat=n/256%256:=by simp[hdB,hdN]
theorem wW(x rest:By)(mark:Nat)(hx:x.length≤128)(hm:mark=0∨mark=32768∧0<x.length):jU (frS x mark++rest)=some (x,if x.length=0 then 0 else eU x,decide (mark=32768)):=by
 have hlen:=rU x mark;have e0:((frS x mark++rest).getD 0 0).toNat+256*((frS x mark++rest).getD 1 0).toNat=x.length+mark:=by
  have h0:(frS x mark++rest).getD 0 0=(hdB (x.length+mark)).getD 0 0:=rfl;have h1:(frS x mark++rest).getD 1 0=(hdB (x.length+mark)).getD 1 0:=rfl;rw[h0,h1,O8,O7];omega
 have e3:(frS x mark++rest).take 3=hdB (x.length+mark):=rfl;unfold jU;rw[e0,e3,ZO (by rw[ZR,hlen];unfold eH;split<;>omega),ZO (fun h=>h rfl)];have hmod:(x.length+mark)%32768=x.length:=by omega
 rw[hmod];by_cases h0:x.length=0
 · have hx0:x=[]:=Z9 h0
   rw[ZO (by omega),ZP h0,ZP h0,hx0];have:¬ mark=32768:=by omega
   rw[ZV this]
 · rw[ZO (by omega),ZO h0,ZO h0,ZO (by rw[ZR,hlen];unfold eH;rw[ZO h0];omega)]
   have hf:frS x mark++rest=hdB (x.length+mark)++(le (eU x:Nat) 4++(x++rest)):=by unfold frS;rw[ZO h0];simp
   have d3:(frS x mark++rest).drop 3=le (eU x:Nat) 4++(x++rest):=by rw[hf,ct (lH _)]
   have d7:(frS x mark++rest).drop 7=x++rest:=by rw[show 7=3+4 from rfl,←ca,d3,ct (bC _ _)]
   rw[d3,d7,cz rfl,cz (bC _ _)];have hs:=rP x;have hv:=rM 4 (eU x:Nat) (by omega) (by omega);rw[show bV (le ((eU x:Nat):Int) 4)=eU x by omega];have hd:decide (32768≤x.length+mark)=decide (mark=32768):=by
    by_cases hm2:mark=32768
    ·rw[Z3 hm2,Z3 (by omega)]
    ·rw[ZV hm2,ZV (by omega)]
   rw[hd]
theorem Gg{b:By}(h:b.length≤128)(rest:By):dA (jU ((dB b).1++rest))=(b,(dB b).1.length,0)∧(dB b).2=0∧(dB b).1.length=eH (match jU ((dB b).1++rest) with|none=>[]|some (x,_,_)=>x):=by
 unfold dB;rw[ZO (by omega)];by_cases h0:b.length=0
 · have hb:b=[]:=Z9 h0
   rw[ZP h0];simp only;rw[wW [] rest 0 (by simp) (.inl rfl),hb];exact⟨rfl,trivial,rfl⟩
 · rw[ZO h0]
   by_cases hp:(pkS b).length<b.length
   · rw[ZP hp]
     have hp0:=LW (b:=b) (by omega);simp only;rw[wW (pkS b) rest 0 (by omega) (.inl rfl),rU];have hu:=(ZB b).yes [] [] 128 (by simp;omega);simp only[aq,bp,qA] at hu;refine⟨?_,trivial,rfl⟩;unfold dA;simp only;rw[ZO (by omega),ZO (show ¬ (pkS b).length=0 by omega),ZO (fun hh=>hh rfl),ZO (by simp),hu,ZO (by rintro(hh|hh);exact hh rfl;exact h0 hh)]
   · rw[ZO hp]
     simp only;rw[wW b rest 32768 h (.inr ⟨rfl,by omega⟩),rU];refine⟨?_,trivial,rfl⟩;unfold dA;simp only;rw[ZO h0,ZO h0,ZO (fun hh=>hh rfl),ZP (by simp)]
theorem iG{b:By}(h:b.length≤128):(dB b).1.length≤b.length+7∧3≤(dB b).1.length:=by
 unfold dB;rw[ZO (by omega)]
 split
 ·simp only[rU,eH];simp
 · split
   ·simp only[rU,eH];split<;>omega
   ·simp only[rU,eH];split<;>omega
theorem Pu{b:By}{a o k:Nat}(h:((b.getD (a+k) 0).toNat:Int)=((b.getD (o+k) 0).toNat:Int)):b.getD (a+k) 0=b.getD (o+k) 0:=dn.1 (by omega)
theorem Lx(ao:Option Addr)(cap:Nat)(b:By)(a bk:Nat)(W:World)(hv:Vw b8 W.heap ao cap b)(h1:a≤b.length)(h2:1≤bk)(h3:bk≤a)(hb:b.length≤1073741824) :
 CA 157 [.slice ao b.length cap,iV a,iV bk] W fun v w'=>v=iV (lik b a (a-bk))∧∃ n,w'=W.drewN n:=by
 refine cS 38 [(0,_),(1,_),(2,_)] Tryz.func157 ?_;refine Gz 12 ?_;refine Wp (β:=Nat) (fun k=>[(0,.slice ao b.length cap),(1,iV a),(2,iV bk),(7,iV k)]) (fun k w=>k≤130∧a+k≤b.length∧(∀ i,i<k→CL b a (a-bk) i)∧∃ n,w=W.drewN n) (fun k=>131-k) 0 ⟨rfl,rfl,rfl,rfl,trivial⟩ ⟨by omega,by omega,fun i hi=>by omega,0,rfl⟩ ?_;rintro k _ ⟨hk,hk2,hk3,n,rfl⟩;refine Gz 2 ?_;refine Ww 27 [0,1,2,3,4,5,6,7,8,9,10,11,12,13,14,15,16,17,18,19,20,21,22,23,24,25,26] aK (by kernel_rfl) ?_;refine xK 1 ?_ ?_<;>intro h9
 ·refine xW 6 ?_ ?_<;>intro h16
  ·refine Gz 6 ?_;refine xV rfl (Wi aH rfl rfl hv.non (by omega)) ?_;refine xV rfl (Wk eC rfl (hv.gz 0 (a+k) (by omega) (by omega))) ?_;refine Gz 6 ?_;refine xV rfl (Wi aH rfl rfl hv.non (by omega)) ?_;refine xV rfl (Wk eC rfl (hv.gz 0 (a-bk+k) (by omega) (by omega))) ?_;refine xW 0 ?_ ?_<;>intro h33
   ·refine Gz 13 ?_;refine aG (k+1) ⟨by omega,by omega,fun i hi=>?_,n+1,rfl⟩ (by show 131-(k+1)<131-k;omega);by_cases hik:i=k
    ·subst hik;exact⟨by omega,by omega,Pu h33⟩
    ·exact hk3 i (by omega)
   refine Gz 17 ?_;have e:k=lik b a (a-bk):=GX hk3 (fun hc=>by
    obtain⟨c1,c2,c3⟩:=hc;exact h33 (by rw[c3]))
   exact⟨_,rfl,by rw[e],n+1,rfl⟩
  refine Gz 34 ?_;have e:k=lik b a (a-bk):=GX hk3 (fun hc=>by
   obtain⟨c1,c2,c3⟩:=hc;omega)
  exact⟨_,rfl,by rw[e],n+1,rfl⟩
 refine Gz 41 ?_;have e:k=lik b a (a-bk):=GX hk3 (fun hc=>by
  obtain⟨c1,c2,c3⟩:=hc;omega)
 exact⟨_,rfl,by rw[e],n+1,rfl⟩
def RnP(W:World)(o:Option Addr)(xs:By):Value→World→Prop:=fun v w'=>∃ o' c',v=.slice o' xs.length c'∧Own b8 5 w'.heap o' c' xs∧aA (blk o) W w'∧∀ a,o'=some a→o=some a∨W.heap.size≤a.block
theorem Ih{w w':World}{o ao:Option Addr}{c:Nat}{l:By}(hv:Vw b8 w.heap ao c l)(f:aA (blk o) w w')(h:∀ k,blk o k→¬ blk ao k):Vw b8 w'.heap ao c l:=hv.ZN f (fun a ha hb=>h _ hb ⟨a,ha,rfl⟩)
theorem KO{H:Array Obj}{ao:Option Addr}{c:Nat}{l:By}(hv:Vw b8 H ao c l)(h:0<l.length):∀ k,blk ao k→k<H.size:=fun k ⟨a,ha,hk⟩=>hk ▸ hv.lt (bw.1 h) a ha
theorem OO{n:Nat}(h:0<n):IntKind.u8.wrap (((min n 128:Nat):Int)-1)=((af (min n 128-1)).toNat:Int):=by
 rw[zA (by omega)];congr 3;omega
theorem Ey(o:Option Addr)(co:Nat)(xs:By)(ao:Option Addr)(c:Nat)(l:By)(W:World)(ho:Own b8 5 W.heap o co xs)(hv:Vw b8 W.heap ao c l)(hap:0<l.length→∀ k,blk o k→¬ blk ao k)(hb:xs.length+2*l.length≤1099511627776) :
 CA 134 [.slice o xs.length co,.slice ao l.length c] W (RnP W o (rn xs l)):=by
 refine cS 26 [(0,_),(1,_)] Tryz.func134 ?_;refine Gz 7 ?_;refine Wp (β:=(By×Option Addr×Nat)×(By×Option Addr×Nat)) (fun⟨⟨ys,o1,c1⟩,⟨r,a1,c2⟩⟩=>[(0,.slice o1 ys.length c1),(1,.slice a1 r.length c2)]) (fun⟨⟨ys,o1,c1⟩,⟨r,a1,c2⟩⟩ w=>rn ys r=rn xs l∧Own b8 5 w.heap o1 c1 ys∧Vw b8 w.heap a1 c2 r∧(0<l.length→∀ k,blk o1 k→¬ blk ao k)∧r.length≤l.length∧(∀ k,blk a1 k→blk ao k)∧aA (blk o) W w∧(∀ a,o1=some a→o=some a∨W.heap.size≤a.block)∧ys.length+2*r.length≤1099511627776) (fun⟨⟨ys,o1,c1⟩,⟨r,a1,c2⟩⟩=>r.length) ⟨⟨xs,o,co⟩,⟨l,ao,c⟩⟩ ⟨rfl,rfl,trivial⟩ ⟨rfl,ho,hv,hap,Z0 _,fun _ h=>h,Zn _ _,fun a ha=>.inl ha,hb⟩ ?_;rintro⟨⟨ys,o1,c1⟩,⟨r,a1,c2⟩⟩ w1 ⟨hrn,ho1,hv1,hapc,hrl,hsub,hF1,hr1,hb1⟩;have hle:=hv1.le;refine fK 5 ?_ ?_<;>intro h8
 ·have hl0:0<l.length:=by omega
  have hap1:=hapc hl0;have hlt:=KO hv hl0;refine Gz 10 ?_;refine cL (Wm (u:=iV ((min r.length 128:Nat):Int)) (Xh rfl rfl) (by congr 1;split<;>omega)) ?_;refine Gz 4 ?_;refine Wv 11 (fun _=>True) [4,5,9] [0,1,2,3,6,7,8,4,5,9,10] aK (by kernel_rfl) (trivial) ?_;refine Gz 3 ?_;refine xC rfl (Wr (n:=((af (min r.length 128-1)).toNat:Int)) is3 ty5 rfl (OO (by omega))) ?_;refine Gz 2 ?_;refine xC rfl (WE aH rfl rfl (by omega)) ?_;refine Wo rfl rfl (WS (enc:=b8) (u:=af (min r.length 128-1)) aH rfl rfl rfl ?_);intro w2 ho2 hs2 hf2;refine Wu (by exact trivial) ?_;have hv2:=hv1.ZM hf2.ZK;have ho12:=ho1.ZM hf2.ZK;refine Wo rfl rfl (Wq aP aH rfl rfl ho12 ho2.vw (by simp;omega) (by simp;unfold maxLen;omega) rfl ?_);intro a3 c3 w3 ho3 hf3 hr3 hn3;refine Wu (by exact trivial) ?_;have hf2:=hf2.ZK;have hs2:=hf2.size;have hz1:=hF1.size;have hv3:=Ih hv2 hf3 (fun k hk hk2=>hap1 k hk (hsub k hk2));refine Wo rfl rfl (Wq aP aH (ys:=r.take (min r.length 128)) rfl (by show some (Value.slice (aO a1 c2 0 1) (min r.length 128) c2)=_;rw[bF,ZT,show min (min r.length 128) r.length=min r.length 128 by omega]) ho3 (hv3.take _) (by simp only[ZR,ZT,ZU];omega) (by simp only[ZR,ZT,ZU];unfold maxLen;omega) rfl ?_);intro a5 c5 w5 ho5 hf5 hr5a hn5;refine Wu (by exact trivial) ?_;have hz3:=hf3.size;have hb3:∀ k,blk a3 k→¬ blk ao k:=fun k ⟨a,ha,hk⟩ hk2=>by rcases hr3 a ha with h|h;exact hap1 k ⟨a,h,hk⟩ hk2;have:=hlt k hk2;omega
  have hv5:=Ih hv3 hf5 (fun k hk hk2=>hb3 k hk (hsub k hk2));have hnew:∀ k,blk a5 k→¬ blk ao k:=fun k ⟨a,ha,hk⟩ hk2=>by rcases hr5a a ha with h|h;exact hb3 k ⟨a,h,hk⟩ hk2;have:=hlt k hk2;omega
  have hto3:∀ k,blk o1 k→blk o k∨W.heap.size≤k:=fun k ⟨a,ha,hk⟩=>by rcases hr1 a ha with h|h;exact .inl ⟨a,h,hk⟩;exact .inr (by omega)
  have hF3:aA (blk o) W w3:=(hF1.trans hf2.any).ZJ hf3 hto3;have hto5:∀ k,blk a3 k→blk o k∨W.heap.size≤k:=fun k ⟨a,ha,hk⟩=>by rcases hr3 a ha with h|h;exact hto3 k ⟨a,h,hk⟩;exact .inr (by omega)
  have hF5:aA (blk o) W w5:=hF3.ZJ hf5 hto5;have hr5:∀ a,a5=some a→o=some a∨W.heap.size≤a.block:=fun a ha=>by rcases hr5a a ha with h|h;rcases hr3 a h with h2|h2;exact hr1 a h2;exact .inr (by omega);exact .inr (by omega)
  refine Gz 6 ?_;refine cL (WR aH rfl rfl (by omega)) ?_;refine Gz 3 ?_;have hm:(r.take (min r.length 128)).length=min r.length 128:=by rw[ZT];omega
  have hrs:=C8 (out:=ys) (l:=r) (by omega);refine Wz ⟨⟨ys++[af (min r.length 128-1)]++r.take (min r.length 128),a5,c5⟩,⟨r.drop (min r.length 128),aO a1 c2 (min r.length 128) 1,c2-min r.length 128⟩⟩ ⟨rfl,?_,trivial⟩ ?_ (by show (r.drop (min r.length 128)).length<r.length;rw[ZX];omega)
  · show some (Value.slice (aO a1 c2 (min r.length 128) 1) _ _)=some (Value.slice _ _ _)
    rw[ZX];rfl
  · refine⟨?_,ho5,?_,?_,by rw[ZX];omega,fun k hk=>hsub k (yX hk),?_,?_,?_⟩
    ·rw[←hrn,hrs];simp
    ·have:=hv5.cut (l:=min r.length 128) (h:=r.length) (m:=c2) (by omega) (Z0 _) hle (Z0 _);rwa[Z4 (by simp)] at this
    ·intro _ k hk hk2;exact hnew k hk hk2
    ·exact hF5
    ·exact hr5
    ·simp only[ZR,ZT,ZX,ZU];omega
 refine Gz 16 ?_;have hr0:r=[]:=Z9 (by omega);subst hr0;rw[Gy] at hrn;rw[←hrn];exact⟨_,rfl,o1,c1,rfl,ho1,hF1,hr1⟩
theorem IJ{r:By}(h:0<r.length):r=r.getD 0 0::r.drop 1:=by
 cases r with
|nil=>cases h
|cons t r=>rfl
theorem Qp{r:By}(h:1<r.length):r=r.getD 0 0::r.getD 1 0::r.drop 2:=by
 match r,h with
|t::c::r,_=>rfl
theorem zD{most:Int}{r out:By}{t:Nat}(h0:0<r.length)(ht:t=(r.getD 0 0).toNat)(h:t<128) :
 up most r out=if r.length<t+2 then ([],2) else if most-out.length<t+1 then ([],3) else up most (r.drop (t+2)) (out++(r.drop 1).take (t+1)):=by
 conv=>lhs;rw[IJ (r:=r) h0]
 rw[CX (by omega),←ht,ZX,ca];congr 1
 ·simp;omega
 ·rw[show 1+(t+1)=t+2 by omega]
theorem zE{most:Int}{r out:By}{t c:Nat}(h0:0<r.length)(ht:t=(r.getD 0 0).toNat)(hc:c=(r.getD 1 0).toNat)(h:¬ t<128) :
 up most r out=if r.length<2 then ([],2) else if out.length<c+1 then ([],2) else if most-out.length<(t:Int)-125 then ([],3) else up most (r.drop 2) (cp out (c+1) (t-125)):=by
 by_cases h2:r.length<2
 · rw[ZP h2]
   have e:=IJ h0;have e2:r.drop 1=[]:=Z9 (by rw[ZX];omega);rw[e2] at e;rw[e,DQ (by omega)]
 · rw[ZO h2]
   conv=>lhs;rw[Qp (r:=r) (by omega)]
   rw[CY (by omega),←ht,←hc]
theorem IW(ao:Option Addr)(cap:Nat)(b:By)(most:Int)(W:World)(hv:Vw b8 W.heap ao cap b)(hb:b.length≤1073741824)(hm:most≤9223372036854775807) :
 CA 146 [.slice ao b.length cap,iV most] W (xB W (upS b most)):=by
 refine cS 87 [(0,_),(1,_)] Tryz.func146 ?_;refine fK 10 ?_ ?_<;>intro h13
 ·have e:upS b most=([],1):=by unfold upS;rw[ZP h13]
  refine Gz 12 ?_
  (rw[e];exact⟨_,rfl,none,0,rfl,Zu,Zs,Zn _ _⟩)
 have e:upS b most=up most b []:=by unfold upS;rw[ZO h13]
 refine Gz 12 ?_;refine Wp (β:=(By×Option Addr×Nat)×(By×Option Addr×Nat)) (fun⟨⟨r,a1,c1⟩,⟨out,o1,c2⟩⟩=>[(0,.slice a1 r.length c1),(1,iV most),(6,.slice o1 out.length c2)]) (fun⟨⟨r,a1,c1⟩,⟨out,o1,c2⟩⟩ w=>up most r out=up most b []∧Vw b8 W.heap a1 c1 r∧Own b8 5 w.heap o1 c2 out∧Fr W.heap.size o1∧out.length+65*r.length≤65*b.length∧aA nob W w) (fun⟨⟨r,a1,c1⟩,⟨out,o1,c2⟩⟩=>r.length) ⟨⟨b,ao,cap⟩,⟨[],none,0⟩⟩ ⟨rfl,rfl,rfl,trivial⟩ ⟨rfl,hv,Zu,Zs,by simp,Zn _ _⟩ ?_;rintro⟨⟨r,a1,c1⟩,⟨out,o1,c2⟩⟩ w1 ⟨hup,hvW,ho1,hfr1,hlen,hF1⟩;have hv1:=hvW.ZM hF1;refine fK 5 ?_ ?_<;>intro h16
 ·refine Gz 1 ?_;refine aW [(0,_),(1,_),(6,_),(16,_)] ?_;refine Gz 8 ?_;refine cL (Wi aH rfl rfl hv1.non (by omega)) ?_;refine cL (Wk eC rfl (hv1.gz 0 0 rfl (by omega))) ?_;obtain⟨t,ht⟩:∃ t,t=(r.getD 0 0).toNat:=⟨_,rfl⟩
  have ht256:t<256:=by have:=(r.getD 0 0).toNat_lt;omega
  refine cL (Wr (n:=(t:Int)) is5 ty3 rfl (by rw[←ht];exact aU (by omega))) ?_;refine Gz 6 ?_;refine cL (Wm (u:=.slice (aO a1 c1 1 1) (r.drop 1).length (c1-1)) (WR aH rfl rfl (by omega)) (by rw[ZX];rfl)) ?_;have hle:=hv1.le;have hv2W:Vw b8 W.heap (aO a1 c1 1 1) (c1-1) (r.drop 1):=by have:=hvW.cut (l:=1) (h:=r.length) (m:=c1) (by omega) (Z0 _) hle (Z0 _);rwa[Z4 (by simp)] at this
  have hv2:=hv2W.ZM hF1;have hd1:(r.drop 1).length=r.length-1:=ZX ..;refine fK 17 ?_ ?_<;>intro h28
  ·have hgr:=zE (most:=most) (out:=out) (by omega) ht (c:=(r.getD 1 0).toNat) rfl (by omega);refine fK 16 ?_ ?_<;>intro h34
   ·have e2:up most r out=([],2):=by rw[hgr,ZP (by omega)]
    refine Gz 29 ?_
    (rw[e,←hup,e2];exact⟨_,rfl,none,0,rfl,Zu,Zs,hF1⟩)
   refine Gz 2 ?_;refine cW (Xo (XB rfl rfl) (by omega)) ?_;refine Gz 2 ?_;refine cW (Wi aH rfl rfl hv2.non (by omega)) ?_;obtain⟨c,hc⟩:∃ c,c=(r.getD 1 0).toNat:=⟨_,rfl⟩
   have hc256:c<256:=by have:=(r.getD 1 0).toNat_lt;omega
   have hcd:(r.drop 1).getD 0 0=r.getD 1 0:=by simp[Z2]
   rw[←hc] at hgr;refine cW (Wk eC rfl (hv2.gz 0 0 rfl (by omega))) ?_;refine cW (Wr (n:=(c:Int)) is5 ty3 rfl (by rw[hcd,←hc];exact aU (by omega))) ?_;refine fW 2 ?_ ?_<;>intro h45
   ·have e2:up most r out=([],2):=by rw[hgr,ZO (by omega),ZP (by omega)]
    refine Gz 18 ?_
    (rw[e,←hup,e2];exact⟨_,rfl,none,0,rfl,Zu,Zs,hF1⟩)
   refine fK 15 ?_ ?_<;>intro h53
   ·have e3:up most r out=([],3):=by rw[hgr,ZO (by omega),ZO (by omega),ZP (by omega)]
    refine Gz 16 ?_
    (rw[e,←hup,e3];exact⟨_,rfl,none,0,rfl,Zu,Zs,hF1⟩)
   have e4:up most r out=up most (r.drop 2) (cp out (c+1) (t-125)):=by rw[hgr,ZO (by omega),ZO (by omega),ZO (by omega)]
   refine Gz 9 ?_;refine cL (W8 (Xr rfl rfl) (by omega)) ?_;refine Gz 8 ?_;refine cL (Wi aH rfl rfl hv2.non (by omega)) ?_;refine cL (Wk eC rfl (hv2.gz 0 0 rfl (by omega))) ?_;refine cL (Wr (n:=(c:Int)) is5 ty3 rfl (by rw[hcd,←hc];exact aU (by omega))) ?_;refine Gz 12 ?_;refine Wp (β:=Nat×Option Addr×Nat) (fun⟨k,o2,c3⟩=>[(0,.slice (aO a1 c1 1 1) (r.drop 1).length (c1-1)),(1,iV most),(6,.slice o2 (cp out (c+1) k).length c3),(9,iV 1),(10,iV ((out.length:Int)-c-1)),(28,.bool true),(69,iV ((t:Int)-125)),(70,iV k)]) (fun⟨k,o2,c3⟩ w=>k≤t-125∧Own b8 5 w.heap o2 c3 (cp out (c+1) k)∧Fr W.heap.size o2∧aA nob W w) (fun⟨k,o2,c3⟩=>t-125-k) ⟨0,o1,c2⟩ ⟨rfl,rfl,rfl,rfl,rfl,rfl,rfl,rfl,trivial⟩ ⟨ZZ _,ho1,hfr1,hF1⟩ ?_;rintro⟨k,o2,c3⟩ w2 ⟨hk,ho2,hfr2,hF2⟩;refine fK 2 ?_ ?_<;>intro h71
   ·refine Gz 13 ?_;refine aW [(0,_),(1,_),(6,_),(9,_),(10,_),(11,_),(28,_),(69,_),(70,_),(71,_)] ?_;refine Gz 6 ?_;have hcl:=tG (c+1) k out;refine Gz 1 ?_;refine cL (Wi aH rfl rfl ho2.vw.non (by omega)) ?_;refine cL (Wk eC rfl (ho2.vw.gz 0 (out.length-(c+1)+k) (by omega) (by omega))) ?_;refine WS (enc:=b8) (u:=(cp out (c+1) k).getD (out.length-(c+1)+k) 0) aH rfl rfl rfl ?_;intro w3 hol hsl hfl;refine Wq aP aH rfl rfl (ho2.ZM hfl) hol.vw (by simp only[ZU];omega) (by simp only[ZU];unfold maxLen;omega) rfl ?_;intro o4 c4 w4 ho4 hf4 hr4 hn4;have hz2:=hF2.size;have hF4:aA nob W w4:=(hF2.trans hfl).ZJ hf4 hfr2.step;have hfr4:Fr W.heap.size o4:=aS hfr2 hr4 (by omega);have hsn:cp out (c+1) k++[(cp out (c+1) k).getD (out.length-(c+1)+k) 0]=cp out (c+1) (k+1):=by rw[yV,hcl,show out.length+k-(c+1)=out.length-(c+1)+k by omega]
    rw[hsn] at ho4 ⊢;refine Gz 8 ?_;exact aG ⟨k+1,o4,c4⟩ ⟨by omega,ho4,hfr4,hF4⟩ (by show t-125-(k+1)<t-125-k;omega)
   refine Gz 12 ?_;refine cL (Wm (u:=.slice (aO (aO a1 c1 1 1) (c1-1) 1 1) (r.drop 2).length (c1-1-1)) (WR aH rfl rfl (by omega)) (by rw[ZX,ZX,show r.length-1-(1:Int).toNat=r.length-2 by omega];rfl)) ?_;refine Gz 3 ?_;have hkk:k=t-125:=by omega
   have hcl:=tG (c+1) k out;have hv3:Vw b8 W.heap (aO (aO a1 c1 1 1) (c1-1) 1 1) (c1-1-1) (r.drop 2):=by have:=hv2W.cut (l:=1) (h:=(r.drop 1).length) (m:=c1-1) (by omega) (Z0 _) (by omega) (Z0 _);rwa[Z4 (by rw[ZX];exact Z0 _),ca] at this
   refine aG ⟨⟨r.drop 2,aO (aO a1 c1 1 1) (c1-1) 1 1,c1-1-1⟩,⟨cp out (c+1) k,o2,c3⟩⟩ ⟨by rw[hkk,←e4];exact hup,hv3,ho2,hfr2,by rw[hcl,ZX];omega,hF2⟩ (by show (r.drop 2).length<r.length;rw[ZX];omega)
  have hsm:=zD (most:=most) (out:=out) (by omega) ht (by omega);refine fK 11 ?_ ?_<;>intro h34
  ·have e2:up most r out=([],2):=by rw[hsm,ZP (by omega)]
   refine Gz 29 ?_
   (rw[e,←hup,e2];exact⟨_,rfl,none,0,rfl,Zu,Zs,hF1⟩)
  refine Gz 2 ?_;refine cW (W8 (XB rfl rfl) (by omega)) ?_;refine fK 23 ?_ ?_<;>intro h53
  ·have e3:up most r out=([],3):=by rw[hsm,ZO (by omega),ZP (by omega)]
   refine Gz 16 ?_
   (rw[e,←hup,e3];exact⟨_,rfl,none,0,rfl,Zu,Zs,hF1⟩)
  have e4:up most r out=up most (r.drop (t+2)) (out++(r.drop 1).take (t+1)):=by rw[hsm,ZO (by omega),ZO (by omega)]
  refine Gz 9 ?_;refine cL (Xo (Xr rfl rfl) (by omega)) ?_;refine Gz 7 ?_;refine cL (WE aH rfl rfl (by omega)) ?_;refine Wq aP aH (ys:=(r.drop 1).take (t+1)) rfl (by show some (Value.slice (aO (aO a1 c1 1 1) (c1-1) 0 1) ((t:Int)+1).toNat (c1-1))=_;rw[bF,ZT,show ((t:Int)+1).toNat=min (t+1) (r.drop 1).length by omega]) ho1 (hv2.take _) (by rw[ZT];omega) (by rw[ZT];unfold maxLen;omega) rfl ?_;intro o3 c3 w3 ho3 hf3 hr3 hn3;have hz1:=hF1.size;have hF3:aA nob W w3:=hF1.ZJ hf3 hfr1.step;have hfr3:Fr W.heap.size o3:=aS hfr1 hr3 hz1;refine Gz 6 ?_;refine cL (Wm (u:=.slice (aO (aO a1 c1 1 1) (c1-1) (t+1) 1) (r.drop (t+2)).length (c1-1-(t+1))) (WR aH rfl rfl (by omega)) (by rw[show ((t:Int)+1).toNat=t+1 by omega,ZX,ZX,show r.length-1-(t+1)=r.length-(t+2) by omega])) ?_;refine Gz 3 ?_;have hv3:Vw b8 W.heap (aO (aO a1 c1 1 1) (c1-1) (t+1) 1) (c1-1-(t+1)) (r.drop (t+2)):=by have:=hv2W.cut (l:=t+1) (h:=(r.drop 1).length) (m:=c1-1) (by omega) (Z0 _) (by omega) (Z0 _);rwa[Z4 (by rw[ZX];exact Z0 _),ca,show 1+(t+1)=t+2 by omega] at this
  refine aG ⟨⟨r.drop (t+2),aO (aO a1 c1 1 1) (c1-1) (t+1) 1,c1-1-(t+1)⟩,⟨out++(r.drop 1).take (t+1),o3,c3⟩⟩ ⟨by rw[←e4];exact hup,hv3,ho3,hfr3,by rw[ZR,ZT,ZX,ZX];omega,hF3⟩ (by show (r.drop (t+2)).length<r.length;rw[ZX];omega)
 refine Gz 1 ?_;refine aW [(0,_),(1,_),(6,_),(16,_)] ?_;refine Gz 16 ?_;have hr0:r=[]:=Z9 (by omega);subst hr0;rw[qA] at hup;rw[e,←hup];exact⟨_,rfl,o1,c2,rfl,ho1,hfr1,hF1⟩
theorem Cv(b:By)(q i:Nat):(b.drop q).getD i 0=b.getD (q+i) 0:=by simp[Z2]
theorem Gr(ao:Option Addr)(cap:Nat)(b:By)(most:Int)(W:World)(hv:Vw b8 W.heap ao cap b)(hb:b.length≤1073741824)(hm:most≤9223372036854775807) :
 CA 174 [.slice ao b.length cap,iV most] W (xB W (upS b most)):=by
 have hle:=hv.le;refine cS 104 [(0,_),(1,_)] Tryz.func174 ?_;refine fK 10 ?_ ?_<;>intro h12
 ·have e:upS b most=([],1):=by unfold upS;rw[ZP h12]
  refine Gz 12 ?_
  (rw[e];exact⟨_,rfl,none,0,rfl,Zu,Zs,Zn _ _⟩)
 have e:upS b most=up most b []:=by unfold upS;rw[ZO h12]
 refine Gz 7 ?_;refine WC b8 aH rfl ?_;intro w0 ho0 hs0 hf0;refine Gz 10 ?_;refine Wp (β:=Nat×By×Option Addr×Nat) (fun⟨q,out,o1,c2⟩=>[(0,.slice ao b.length cap),(1,iV most),(6,.slice o1 out.length c2),(7,iV q)]) (fun⟨q,out,o1,c2⟩ w=>q≤b.length∧up most (b.drop q) out=up most b []∧Own b8 5 w.heap o1 c2 out∧Fr W.heap.size o1∧out.length+65*(b.length-q)≤65*b.length∧aA nob W w) (fun⟨q,out,o1,c2⟩=>b.length-q) ⟨0,[],some ⟨W.heap.size,0,none⟩,0⟩ ⟨rfl,rfl,rfl,rfl,trivial⟩ ⟨ZZ _,rfl,ho0,cX _,by simp,hf0⟩ ?_;rintro⟨q,out,o1,c2⟩ w1 ⟨hq,hup,ho1,hfr1,hlen,hF1⟩;have hv1:=hv.ZM hF1;refine fK 6 ?_ ?_<;>intro h17
 ·refine Gz 1 ?_;refine aW [(0,_),(1,_),(6,_),(7,_),(17,_)] ?_;refine Gz 9 ?_;refine cL (Wi aH rfl rfl hv1.non (by omega)) ?_;refine cL (Wk eC rfl (hv1.gz 0 q rfl (by omega))) ?_;obtain⟨t,ht⟩:∃ t,t=(b.getD q 0).toNat:=⟨_,rfl⟩
  have ht256:t<256:=by have:=(b.getD q 0).toNat_lt;omega
  have hd:(b.drop q).length=b.length-q:=ZX ..;have ht2:t=((b.drop q).getD 0 0).toNat:=by rw[Cv];exact ht
  refine cL (Wr (n:=(t:Int)) is5 ty3 rfl (by rw[←ht];exact aU (by omega))) ?_;refine fK 7 ?_ ?_<;>intro h24
  ·have hsm:=zD (most:=most) (out:=out) (by omega) ht2 (by omega);refine fK 13 ?_ ?_<;>intro h32
   ·have e2:up most (b.drop q) out=([],2):=by rw[hsm,ZP (by omega)]
    refine Gz 17 ?_
    (rw[e,←hup,e2];exact⟨_,rfl,none,0,rfl,Zu,Zs,hF1⟩)
   refine fK 14 ?_ ?_<;>intro h39
   ·have e3:up most (b.drop q) out=([],3):=by rw[hsm,ZO (by omega),ZP (by omega)]
    refine Gz 17 ?_
    (rw[e,←hup,e3];exact⟨_,rfl,none,0,rfl,Zu,Zs,hF1⟩)
   have e4:up most (b.drop q) out=up most (b.drop (q+t+2)) (out++(b.drop (q+1)).take (t+1)):=by rw[hsm,ZO (by omega),ZO (by omega),ca,ca];rfl
   refine Gz 15 ?_;refine cL (Wm (u:=.slice (aO ao cap (q+1) 1) ((b.drop (q+1)).take (t+1)).length (cap-(q+1))) (Xe aH rfl rfl rfl (by omega) (by omega)) (by rw[show ((q:Int)+1).toNat=q+1 by omega,show ((q:Int)+t+2).toNat=q+t+2 by omega,ZT,ZX,show min (t+1) (b.length-(q+1))=q+t+2-(q+1) by omega])) ?_;have hv2:Vw b8 w1.heap (aO ao cap (q+1) 1) (cap-(q+1)) ((b.drop (q+1)).take (t+1)):=by have:=hv1.cut (l:=q+1) (h:=q+t+2) (m:=cap) (by omega) (by omega) (by omega) (Z0 _);rwa[show q+t+2-(q+1)=t+1 by omega] at this
   have hl2:((b.drop (q+1)).take (t+1)).length=t+1:=by rw[ZT,ZX];omega
   refine Wq aP aH rfl rfl ho1 hv2 (by omega) (by unfold maxLen;omega) rfl ?_;intro o3 c3 w3 ho3 hf3 hr3 hn3;have hz1:=hF1.size;have hF3:aA nob W w3:=hF1.ZJ hf3 hfr1.step;have hfr3:Fr W.heap.size o3:=aS hfr1 hr3 hz1;refine Gz 15 ?_;refine aG ⟨q+t+2,out++(b.drop (q+1)).take (t+1),o3,c3⟩ ⟨by omega,by rw[←e4];exact hup,ho3,hfr3,by rw[ZR];omega,hF3⟩ (by show b.length-(q+t+2)<b.length-q;omega)
  have hgr:=zE (most:=most) (out:=out) (by omega) ht2 (c:=(b.getD (q+1) 0).toNat) (by rw[Cv]) (by omega);refine fK 12 ?_ ?_<;>intro h58
  ·have e2:up most (b.drop q) out=([],2):=by rw[hgr,ZP (by omega)]
   refine Gz 28 ?_
   (rw[e,←hup,e2];exact⟨_,rfl,none,0,rfl,Zu,Zs,hF1⟩)
  refine Gz 4 ?_;refine cW (Wi aH rfl rfl hv1.non (by omega)) ?_;obtain⟨c,hc⟩:∃ c,c=(b.getD (q+1) 0).toNat:=⟨_,rfl⟩
  have hc256:c<256:=by have:=(b.getD (q+1) 0).toNat_lt;omega
  rw[←hc] at hgr;refine cW (Wk eC rfl (hv1.gz 0 (q+1) (by omega) (by omega))) ?_;refine cW (Wr (n:=(c:Int)) is5 ty3 rfl (by rw[←hc];exact aU (by omega))) ?_;refine fW 3 ?_ ?_<;>intro h69
  ·have e2:up most (b.drop q) out=([],2):=by rw[hgr,ZO (by omega),ZP (by omega)]
   refine Gz 17 ?_
   (rw[e,←hup,e2];exact⟨_,rfl,none,0,rfl,Zu,Zs,hF1⟩)
  refine fK 15 ?_ ?_<;>intro h77
  ·have e3:up most (b.drop q) out=([],3):=by rw[hgr,ZO (by omega),ZO (by omega),ZP (by omega)]
   refine Gz 16 ?_
   (rw[e,←hup,e3];exact⟨_,rfl,none,0,rfl,Zu,Zs,hF1⟩)
  have e4:up most (b.drop q) out=up most (b.drop (q+2)) (cp out (c+1) (t-125)):=by rw[hgr,ZO (by omega),ZO (by omega),ZO (by omega),ca]
  refine Gz 10 ?_;refine cL (Wi aH rfl rfl hv1.non (by omega)) ?_;refine cL (Wk eC rfl (hv1.gz 0 (q+1) (by omega) (by omega))) ?_;refine cL (Wr (n:=(c:Int)) is5 ty3 rfl (by rw[←hc];exact aU (by omega))) ?_;refine Gz 11 ?_;refine Wp (β:=Nat×Option Addr×Nat) (fun⟨k,o2,c3⟩=>[(0,.slice ao b.length cap),(1,iV most),(6,.slice o2 (cp out (c+1) k).length c3),(7,iV q),(8,iV t),(9,iV ((c:Int)+1)),(10,iV k),(24,.bool false)]) (fun⟨k,o2,c3⟩ w=>k≤t-125∧Own b8 5 w.heap o2 c3 (cp out (c+1) k)∧Fr W.heap.size o2∧aA nob W w) (fun⟨k,o2,c3⟩=>t-125-k) ⟨0,o1,c2⟩ ⟨rfl,rfl,rfl,rfl,rfl,rfl,rfl,rfl,trivial⟩ ⟨ZZ _,ho1,hfr1,hF1⟩ ?_;rintro⟨k,o2,c3⟩ w2 ⟨hk,ho2,hfr2,hF2⟩;refine fK 6 ?_ ?_<;>intro h88
  ·refine Gz 1 ?_;refine aW [(0,_),(1,_),(6,_),(7,_),(8,_),(9,_),(10,_),(24,_),(88,_)] ?_;refine Gz 12 ?_;have hcl:=tG (c+1) k out;refine Gz 1 ?_;refine cL (Wi aH rfl rfl ho2.vw.non (by omega)) ?_;refine cL (Wk eC rfl (ho2.vw.gz 0 (out.length+k-(c+1)) (by omega) (by omega))) ?_;refine WS (enc:=b8) (u:=(cp out (c+1) k).getD (out.length+k-(c+1)) 0) aH rfl rfl rfl ?_;intro w3 hol hsl hfl;refine Wq aP aH rfl rfl (ho2.ZM hfl) hol.vw (by simp only[ZU];omega) (by simp only[ZU];unfold maxLen;omega) rfl ?_;intro o4 c4 w4 ho4 hf4 hr4 hn4;have hz2:=hF2.size;have hF4:aA nob W w4:=(hF2.trans hfl).ZJ hf4 hfr2.step;have hfr4:Fr W.heap.size o4:=aS hfr2 hr4 (by omega);have hsn:cp out (c+1) k++[(cp out (c+1) k).getD (out.length+k-(c+1)) 0]=cp out (c+1) (k+1):=by rw[yV,hcl]
   rw[hsn] at ho4 ⊢;refine Gz 9 ?_;exact aG ⟨k+1,o4,c4⟩ ⟨by omega,ho4,hfr4,hF4⟩ (by show t-125-(k+1)<t-125-k;omega)
  refine Gz 1 ?_;refine aW [(0,_),(1,_),(6,_),(7,_),(8,_),(9,_),(10,_),(24,_),(88,_)] ?_;refine Gz 13 ?_;have hkk:k=t-125:=by omega
  have hcl:=tG (c+1) k out;refine aG ⟨q+2,cp out (c+1) k,o2,c3⟩ ⟨by omega,by rw[hkk,←e4];exact hup,ho2,hfr2,by rw[hcl];omega,hF2⟩ (by show b.length-(q+2)<b.length-q;omega)
 refine Gz 1 ?_;refine aW [(0,_),(1,_),(6,_),(7,_),(17,_)] ?_;refine Gz 16 ?_;rw[List.drop_of_length_le (by omega),qA] at hup;rw[e,←hup];exact⟨_,rfl,o1,c2,rfl,ho1,hfr1,hF1⟩
structure NP (P:Program)(t k e:TypeId)(z:Value):Prop where
 und:P.underlying t=some (.map k e)
 zero:(P.info? e).map (·.zero)=some (some z)
structure xD (P:Program)(k:TypeId){α:Type}(enc:α→Value):Prop where
 keyed:Go.Maps.Keyed P k
 reads:∀ a,∃ l,keyOf P k (enc a)=some l
 inj:∀ a b,enc a=enc b→a=b
section
variable {α:Type}{enc:α→Value}
def eY(enc:α→Value)(l:List (α×Value)):List MapEntry:=l.mapIdx fun i p=>⟨enc p.1,p.2,i⟩
def kS(enc:α→Value)(H:Array Obj)(g:Nat)(l:List (α×Value)):Prop:=H[g]?=some (.map (eY enc l).toArray l.length)∧(l.map (·.1)).Nodup
theorem DB{l:List (α×Value)}{j:Nat}{e:MapEntry}(h:(eY enc l)[j]?=some e):∃ p,l[j]?=some p∧e=⟨enc p.1,p.2,j⟩:=by
 unfold eY at h;rw[ib,ae] at h;obtain⟨p,hp,rfl⟩:=h;exact⟨p,hp,rfl⟩
theorem M9{l:List (α×Value)}{e:MapEntry}(h:e∈eY enc l):∃ p∈l,e.key=enc p.1∧e.val=p.2:=by
 obtain⟨j,hj⟩:=ab h;obtain⟨p,hp,rfl⟩:=DB hj;exact⟨p,ZW hp,rfl,rfl⟩
theorem Ph{l:List (α×Value)}{p:α×Value}(h:p∈l):∃ e∈eY enc l,e.key=enc p.1∧e.val=p.2:=by
 obtain⟨j,hj⟩:=ab h;have:(eY enc l)[j]?=some ⟨enc p.1,p.2,j⟩:=by unfold eY;rw[ib,hj];rfl
 exact⟨_,ZW this,rfl,rfl⟩
theorem Kj(l:List (α×Value))(p:α×Value):eY enc (l++[p])=eY enc l++[⟨enc p.1,p.2,l.length⟩]:=by
 simp[eY,List.mapIdx_append]
theorem M8(l:List (α×Value))(j:Nat)(p:α×Value):eY enc (l.set j p)=(eY enc l).set j ⟨enc p.1,p.2,j⟩:=by
 simp[eY,List.mapIdx_set]
theorem Na(l:List (α×Value)):(eY enc l).length=l.length:=by simp[eY]
variable [DecidableEq α]
def oL:List (α×Value)→α→Option Value
|[],_=>none
|p::r,a=>if p.1=a then some p.2 else oL r a
theorem Cu{a:α}:∀ {l:List (α×Value)},(∀ p∈l,p.1≠a)→oL l a=none
|[],_=>rfl
|p::r,h=>by
   unfold oL;rw[ZO (h p (by simp))];exact Cu (fun q hq=>h q (by simp[hq]))
theorem Ct{a:α}{v:Value}:∀ {l:List (α×Value)} {j:Nat},(l.map (·.1)).Nodup→l[j]?=some (a,v)→oL l a=some v
|[],j,_,h=>by simp at h
|p::r,0,_,h=>by
   simp at h;subst h;unfold oL;rw[ZP rfl]
|p::r,j+1,hn,h=>by
   rw[db,ie] at hn;have hm:(a,v)∈r:=ZW (by simpa using h);unfold oL;rw[ZO (fun e:p.1=a=>hn.1 (e ▸ av.2 ⟨_,hm,rfl⟩))];exact Ct hn.2 (by simpa using h)
theorem Fy{a:α}{v:Value}:∀ {l:List (α×Value)},oL l a=some v→(a,v)∈l
|[],h=>by cases h
|p::r,h=>by
   unfold oL at h
   split at h
   ·rename_i e;simp at h;subst e;subst h;simp
   ·exact gk _ (Fy h)
def oY(l:List (α×Value))(a:α)(v:Value):List (α×Value):=match l with
|[]=>[(a,v)]
|p::r=>if p.1=a then (a,v)::r else p::oY r a v
theorem wD{a:α}(v:Value):∀ {l:List (α×Value)},oL l a=none→oY l a v=l++[(a,v)]
|[],_=>rfl
|p::r,h=>by
   unfold oL at h
   split at h
   ·cases h
   ·rename_i hne;unfold oY;rw[ZO hne,wD v h];rfl
theorem vZ{a:α}{v0:Value}(v:Value):∀ {l:List (α×Value)} {j:Nat},(l.map (·.1)).Nodup→l[j]?=some (a,v0)→oY l a v=l.set j (a,v)
|[],j,_,h=>by simp at h
|p::r,0,_,h=>by
   simp at h;subst h;unfold oY;rw[ZP rfl];rfl
|p::r,j+1,hn,h=>by
   rw[db,ie] at hn;have hm:(a,v0)∈r:=ZW (by simpa using h);have hne:p.1≠a:=fun e=>hn.1 (e ▸ av.2 ⟨_,hm,rfl⟩);unfold oY;rw[ZO hne,vZ v hn.2 (j:=j) (by simpa using h)];rfl
theorem zQ{l:List (α×Value)}(h:(l.map (·.1)).Nodup)(a:α)(v:Value):((oY l a v).map (·.1)).Nodup:=by
 have key:∀ l:List (α×Value),(oY l a v).map (·.1)=if a∈l.map (·.1) then l.map (·.1) else l.map (·.1)++[a]:=by
  intro l
  induction l with
 |nil=>simp[oY]
 |cons p r ih=>
    unfold oY;by_cases hp:p.1=a
    ·rw[ZP hp];simp[hp]
    · rw[ZO hp]
      simp only[db,ih];by_cases hm:a∈r.map (·.1)
      ·rw[ZP hm,ZP (gk _ hm)]
      ·rw[ZO hm,ZO (fun e=>by rcases aw.1 e with e|e;exact hp e.symm;exact hm e)];rfl
 rw[key]
 split
 ·exact h
 · rename_i hm
   exact List.nodup_append.2 ⟨h,by simp,by simp only[List.mem_singleton];rintro x hx y rfl rfl;exact hm hx⟩
theorem yJ{w:World}{g:Nat}{o o':Obj}(hg:w.heap[g]?=some o):(ChangeMaps.setBlock w g o').heap[g]?=some o'∧(ChangeMaps.setBlock w g o').heap.size=w.heap.size∧aA (· = g) w (ChangeMaps.setBlock w g o'):=by
 have hlt:=(Z1.1 hg).1;refine⟨by simp[ChangeMaps.setBlock,hlt],by simp[ChangeMaps.setBlock],rfl,rfl,rfl,by simp[ChangeMaps.setBlock],fun k hk hn=>?_⟩;show (w.heap.setIfInBounds g o')[k]?=_;rw[Array.getElem?_setIfInBounds_ne (fun e=>hn e.symm)]
end
section
variable {P:Program}{N:Nt}{Q:Exit→Act→World→Prop}{l:SF}{w:World}{ops:Array Oper}{rest:List Oper}
variable {ty:TypeId}{pos:String}{aft:Array Edge}{d:Nat}{CH:Array Obj→Prop}
variable {x y u:Operand}{t k e:TypeId}{z:Value}{gd:Option (Nat×Bool)}{dd:Option Nat}
variable {α:Type}{enc:α→Value}{g:Nat}{m:List (α×Value)}{a:α}
theorem wO(K:xD P k enc)(w:World)(em:Bool)(a:α):(Instr.checkKey em 10000 k (enc a)).run P w=.ok () w:=by
 obtain⟨la,hla⟩:=K.reads a;exact K.keyed.check w em hla
theorem J1(K:xD P k enc)(w:World)(a:α):(Instr.keyThatStays (enc a) (enc a)).run P w=.ok (enc a) w:=by
 obtain⟨la,hla⟩:=K.reads a;exact K.keyed.stays w hla
theorem XF{t:TypeId}(hd:ba d N.n=true)(h:∀ w',kS enc w'.heap w.heap.size []→w'.heap.size=w.heap.size+1→aA nob w w'→Sl P N ops Q rest ((d,.map (some w.heap.size))::l) w') :
 Sl P N ops Q (⟨some d,.makeMap t none,ty,pos,aft,none⟩::rest) l w:=by
 refine W2 (w':=w.alloc (.map #[] 0)) (fun a ha=>?_) hd (h _ ⟨heap_alloc_new w _,by simp⟩ (by simp) (aA.alloc _ _ _));simp[execOp,Instr.makeMap,newObj];rfl
theorem kS.obj{H:Array Obj}(h:kS enc H g m):g<H.size:=(Z1.1 h.1).1
theorem kS.ZN{S:Nat→Prop}{w w':World}(h:kS enc w.heap g m)(f:aA S w w')(hs:¬ S g):kS enc w'.heap g m:=⟨f.obj h.1 hs,h.2⟩
variable [DecidableEq α]
theorem Ll{T:TypeId}(hz:(P.info? T).map (·.zero)=some (some z))(w:World):(zeroValue T).run P w=.ok z w:=by
 obtain⟨i,hi,h1⟩:=ae.1 hz;simp[zeroValue,typeInfo,hi,h1]
theorem Fh(K:xD P k enc)(w:World)(m:List (α×Value))(hn:(m.map (·.1)).Nodup)(a:α) :
 ((Instr.findKey k (enc a) (eY enc m)).run P w=.ok none w∧oL m a=none)∨∃ j v,(Instr.findKey k (enc a) (eY enc m)).run P w=.ok (some (j,v)) w∧m[j]?=some (a,v)∧oL m a=some v:=by
 obtain⟨la,hla⟩:=K.reads a;rcases K.keyed.find w hla (eY enc m) (fun e he=>by obtain⟨p,_,h,_⟩:=M9 he;rw[h];exact K.reads _) with⟨h1,h2⟩|⟨j,e,h1,h2,h3⟩
 · refine .inl ⟨h1,Cu fun p hp hpa=>?_⟩
   obtain⟨e,he,hk,_⟩:=Ph (enc:=enc) hp;exact h2 e he (by rw[hk,hpa])
 · obtain⟨p,hp,rfl⟩:=DB h2
   have hpa:p.1=a:=K.inj _ _ h3;subst hpa;exact .inr ⟨j,p.2,h1,hp,Ct hn hp⟩
theorem XD(ht:NP P t k e z)(K:xD P k enc)(hx:evL l x=some (.map (some g)))(hy:evL l y=some (enc a))(hm:∀ H,CH H→kS enc H g m) :
 Cm P N CH l ⟨dd,.lookup t x y true,ty,pos,aft,gd⟩ (.tuple [(oL m a).getD z,.bool (decide ((oL m a).isSome=true))].toArray):=fun b w hb hw=>by
 obtain⟨h1,hn⟩:=hm _ hw;have hg:=MapKept.run_getObj_map (P:=P) h1;simp only[execOp,hb.ev hx,hb.ev hy,Instr.lookup,Sem.run_bind,run_underlying ht.und,hg,Result.andThen_ok,Sem.run_pure,wO K];rcases Fh K w m hn a with⟨h2,h3⟩|⟨j,v,h2,h3,h4⟩
 ·simp[h2,h3,Ll ht.zero]
 ·simp[h2,h4]
theorem XJ{v:Value}(ht:NP P t k e z)(K:xD P k enc)(hx:evL l x=some (.map (some g)))(hy:evL l y=some (enc a))(hu:evL l u=some v)(hm:kS enc w.heap g m)
 (h:∀ w',kS enc w'.heap g (oY m a v)→w'.heap.size=w.heap.size→aA (· = g) w w'→Sl P N ops Q rest l w') :
 Sl P N ops Q (⟨none,.mapUpdate t x y u,ty,pos,aft,none⟩::rest) l w:=by
 obtain⟨h1,hn⟩:=hm;have hg:=MapKept.run_getObj_map (P:=P) h1;rcases Fh K w m hn a with⟨h2,h3⟩|⟨j,v0,h2,h3,h4⟩
 · obtain⟨s1,s2,s3⟩:=yJ (o':=.map ((eY enc m).toArray.push ⟨enc a,v,m.length⟩) (m.length+1)) h1
   refine Xx (w':=ChangeMaps.setBlock w g (.map ((eY enc m).toArray.push ⟨enc a,v,m.length⟩) (m.length+1))) (fun b hb=>?_) (h _ ⟨?_,zQ hn a v⟩ s2 s3)
   ·simp[execOp,hb.ev hx,hb.ev hy,hb.ev hu,Instr.mapUpdate,run_underlying ht.und,hg,wO K,h2,MapKept.run_setObj_map _ h1,Result.andThen,ChangeMaps.setBlock]
   ·rw[s1,wD v h3,Kj];simp
 · have he:(eY enc m)[j]?=some ⟨enc a,v0,j⟩:=by
    simp[eY,ib,h3]
   have hmod:(eY enc m).modify j (fun e'=>{ e' with key:=enc a,val:=v })=eY enc (oY m a v):=by
    rw[vZ v hn h3,M8,ChangeMaps.modify_eq_set _ _ _ _ he]
   obtain⟨s1,s2,s3⟩:=yJ (o':=.map (eY enc (oY m a v)).toArray m.length) h1;refine Xx (w':=ChangeMaps.setBlock w g (.map (eY enc (oY m a v)).toArray m.length)) (fun b hb=>?_) (h _ ⟨?_,zQ hn a v⟩ s2 s3)
   ·simp[execOp,hb.ev hx,hb.ev hy,hb.ev hu,Instr.mapUpdate,run_underlying ht.und,hg,wO K,h2,he,J1 K,MapKept.run_setObj_map _ h1,Result.andThen,ChangeMaps.setBlock,hmod]
   ·rw[s1];congr 2;rw[vZ v hn h3];simp
end
theorem CD(W:World)(n k:Nat):(W.drewN n).drewN k=W.drewN (n+k):=by simp[World.drewN,gu]
def mtZ(b:By)(a:Int):Nat×Nat:=if a<0 then (0,0) else mt b a.toNat
theorem Fb{b:By}{a:Int}(h:a<0∨b.length≤a):mtZ b a=(0,0):=by
 unfold mtZ
 split
 ·rfl
 ·exact L8 (by omega)
theorem Jl(ao:Option Addr)(cap:Nat)(b:By)(a:Int)(W:World)(hv:Vw b8 W.heap ao cap b)(hb:b.length≤1073741824) :
 CA 133 [.slice ao b.length cap,iV a] W fun v w'=>v=.tuple [iV (mtZ b a).1,iV (mtZ b a).2].toArray∧∃ n,w'=W.drewN n:=by
 refine cS 40 [(0,_),(1,_)] Tryz.func133 ?_;refine fK 10 ?_ ?_<;>intro h11
 ·have e:mtZ b a=(0,0):=Fb (by omega);refine Gz 18 ?_
  (rw[e];exact⟨_,rfl,rfl,0,rfl⟩)
 refine fW 4 ?_ ?_<;>intro h16
 ·have e:mtZ b a=(0,0):=Fb (by omega);refine Gz 13 ?_
  (rw[e];exact⟨_,rfl,rfl,0,rfl⟩)
 have e:mtZ b a=mt b a.toNat:=by unfold mtZ;rw[ZO (by omega)]
 obtain⟨q,hq⟩:∃ q:Nat,a=q:=⟨a.toNat,by omega⟩
 rw[hq] at e ⊢;have e2:((q:Nat):Int).toNat=q:=rfl;rw[e2] at e;have hqb:q<b.length:=by omega
 refine Gz 23 ?_;refine Wp (β:=Nat) (fun j=>[(0,.slice ao b.length cap),(1,iV q),(6,iV (bst b q j).1),(7,iV (bst b q j).2),(8,iV ((j:Int)+1))]) (fun j w=>j≤min 256 q∧∃ n,w=W.drewN n) (fun j=>min 256 q-j) 0 ⟨rfl,rfl,rfl,rfl,rfl,trivial⟩ ⟨ZZ _,0,rfl⟩ ?_;rintro j _ ⟨hj0,n,rfl⟩;refine fK 4 ?_ ?_<;>intro h19
 ·refine fW 3 ?_ ?_<;>intro h23
  ·refine Gz 13 ?_;rw[show ((j:Int)+1)=((j+1:Nat):Int) by omega];refine Wh SE rfl (Lx ao cap b q (j+1) _ hv (by omega) (by omega) (by omega) hb) rfl ?_;rintro _ _ ⟨rfl,n2,rfl⟩;have hs2:=F2 b (a:=q) (k:=j) (by omega);refine fK 7 ?_ ?_<;>intro h33
   ·have hst:bst b q (j+1)=(lik b q (q-(j+1)),j+1):=by rw[hs2];unfold stp;rw[ZP (by omega),show q-(q-(j+1))=j+1 by omega]
    refine Gz 20 ?_;refine Wz (j+1) ⟨rfl,rfl,?_,?_,rfl,trivial⟩ ⟨by omega,n+n2,CD _ _ _⟩ (by show min 256 q-(j+1)<min 256 q-j;omega)
    ·show some (Value.int .i64 _)=some (Value.int .i64 _);rw[hst]
    ·show some (Value.int .i64 _)=some (Value.int .i64 _);rw[hst]
   have hst:bst b q (j+1)=bst b q j:=by rw[hs2];unfold stp;rw[ZO (by omega)]
   refine Gz 11 ?_;refine Wz (j+1) ⟨rfl,rfl,?_,?_,rfl,trivial⟩ ⟨by omega,n+n2,CD _ _ _⟩ (by show min 256 q-(j+1)<min 256 q-j;omega)
   ·show some (Value.int .i64 _)=some (Value.int .i64 _);rw[hst]
   ·show some (Value.int .i64 _)=some (Value.int .i64 _);rw[hst]
  refine Gz 13 ?_;have hj1:j=min 256 q:=by omega
  refine fK 0 ?_ ?_<;>intro h37
  ·refine Gz 12 ?_;have e3:mt b q=(0,0):=by unfold mt thr;rw[ZP hqb,←hj1,ZP (by omega)]
   rw[e,e3];exact⟨_,rfl,rfl,n,rfl⟩
  refine Gz 15 ?_;have e3:mt b q=bst b q j:=by unfold mt thr;rw[ZP hqb,←hj1,ZO (by omega)]
  rw[e,e3];exact⟨_,rfl,rfl,n,rfl⟩
 refine Gz 17 ?_;have hj1:j=min 256 q:=by omega
 refine fK 0 ?_ ?_<;>intro h37
 ·refine Gz 12 ?_;have e3:mt b q=(0,0):=by unfold mt thr;rw[ZP hqb,←hj1,ZP (by omega)]
  rw[e,e3];exact⟨_,rfl,rfl,n,rfl⟩
 refine Gz 15 ?_;have e3:mt b q=bst b q j:=by unfold mt thr;rw[ZP hqb,←hj1,ZO (by omega)]
 rw[e,e3];exact⟨_,rfl,rfl,n,rfl⟩
def pkR(b:By):By×Int:=if 4096<b.length then ([],3) else (pkS b,0)
theorem OA{b:By}(h:b.length≤4096):pkR b=(pkS b,0):=by unfold pkR;rw[ZO (by omega)]
theorem OI(b:By)(a:Nat):mtZ b (a:Int)=mt b a:=by unfold mtZ;rw[ZO (by omega)];rfl
theorem ES{x:Int}{n:Nat}(h:x=n):IntKind.u8.wrap x=((af n).toNat:Int):=by rw[zA (by omega),h];rfl
theorem Lp(ao:Option Addr)(cap:Nat)(b:By)(W:World)(hv:Vw b8 W.heap ao cap b) :
 CA 102 [.slice ao b.length cap] W (xB W (pkR b)):=by
 refine cS 54 [(0,_)] Tryz.func102 ?_;refine fK 11 ?_ ?_<;>intro h11
 ·have e:pkR b=([],3):=by unfold pkR;rw[ZP (by omega)]
  refine Gz 12 ?_
  (rw[e];exact⟨_,rfl,none,0,rfl,Zu,Zs,Zn _ _⟩)
 have e:pkR b=(pkS b,0):=by unfold pkR;rw[ZO (by omega)]
 refine Gz 7 ?_;refine WC b8 aH rfl ?_;intro w0 ho0 hs0 hf0;refine Gz 5 ?_;refine WC b8 aH rfl ?_;intro wr hor hsr hfr;refine Gz 10 ?_;refine Wp (β:=Nat×(By×Option Addr×Nat)×(By×Option Addr×Nat)) (fun⟨a,⟨run,ro,rc⟩,⟨out,o1,c1⟩⟩=>[(0,.slice ao b.length cap),(4,.slice o1 out.length c1),(5,.slice ro run.length rc),(6,iV a)]) (fun⟨a,⟨run,ro,rc⟩,⟨out,o1,c1⟩⟩ w=>a≤b.length∧pk b a run out=pkS b∧Own b8 5 w.heap ro rc run∧Own b8 5 w.heap o1 c1 out∧(∀ k,blk ro k→¬ blk o1 k)∧Fr W.heap.size ro∧Fr W.heap.size o1∧out.length+3*run.length≤3*a∧aA nob W w) (fun⟨a,⟨run,ro,rc⟩,⟨out,o1,c1⟩⟩=>b.length-a) ⟨0,⟨[],some ⟨w0.heap.size,0,none⟩,0⟩,⟨[],some ⟨W.heap.size,0,none⟩,0⟩⟩ ⟨rfl,rfl,rfl,rfl,trivial⟩ ⟨ZZ _,rfl,hor,ho0.ZM hfr,fun k ⟨x,hx,hk⟩ ⟨y,hy,hk2⟩=>by cases hx;cases hy;have h1:w0.heap.size=k:=hk;have h2:W.heap.size=k:=hk2;omega,(cX _).mono (by omega),cX _,Z0 _,hf0.trans hfr⟩ ?_;rintro⟨a,⟨run,ro,rc⟩,⟨out,o1,c1⟩⟩ w1 ⟨ha,hpk,hor1,ho1,hap1,hfrr,hfr1,hol,hF1⟩;have hv1:=hv.ZM hF1;have hz1:=hF1.size;refine fK 6 ?_ ?_<;>intro h17
 ·refine Gz 1 ?_;refine aW [(0,_),(4,_),(5,_),(6,_),(17,_)] ?_;refine Gz 9 ?_;refine Wh ST rfl (Jl ao cap b (a:Int) w1 hv1 (by omega)) rfl ?_;rintro _ _ ⟨rfl,d1,rfl⟩;obtain⟨n,hn⟩:∃ n,n=(mt b a).1:=⟨_,rfl⟩
  obtain⟨bk,hbk⟩:∃ x,x=(mt b a).2:=⟨_,rfl⟩
  rw[OI,←hn,←hbk];have hv1d:Vw b8 (w1.drewN d1).heap ao cap b:=hv1;have hrd:Own b8 5 (w1.drewN d1).heap ro rc run:=hor1;have hod:Own b8 5 (w1.drewN d1).heap o1 c1 out:=ho1;have hF1d:aA nob W (w1.drewN d1):=hF1.draws d1;obtain⟨w2,hw2⟩:∃ w,w=w1.drewN d1:=⟨_,rfl⟩
  rw[←hw2] at hv1d hrd hod hF1d ⊢;have hz2:=hF1d.size;refine fK 11 ?_ ?_<;>intro h25
  ·have hn0:(mt b a).1=0:=by omega
   refine Gz 8 ?_;refine cL (Wi aH rfl rfl hv1d.non (by omega)) ?_;refine cL (Wk eC rfl (hv1d.gz 0 a rfl (by omega))) ?_;refine WS (enc:=b8) (u:=b.getD a 0) aH rfl rfl rfl ?_;intro w3 hol hsl hfl;refine Wq aP aH rfl rfl (hrd.ZM hfl) hol.vw (by simp only[ZU];omega) (by simp only[ZU];unfold maxLen;omega) rfl ?_;intro r4 rc4 w4 hor4 hf4 hr4 hn4;refine Gz 13 ?_;refine aG ⟨a+1,⟨run++[b.getD a 0],r4,rc4⟩,⟨out,o1,c1⟩⟩ ⟨by omega,by rw[←hpk,LU (by omega) hn0],hor4,(hod.ZM hfl).ZN hf4 (fun x hx h=>hap1 _ h ⟨x,hx,rfl⟩),fun k ⟨x,hx,hk⟩ hk2=>?_,aS hfrr hr4 (by omega),hfr1,by rw[ZR,ZU];omega,(hF1d.trans hfl).ZJ hf4 hfrr.step⟩ (by show b.length-(a+1)<b.length-a;omega);rcases hr4 x hx with h|h
   ·exact hap1 k ⟨x,h,hk⟩ hk2
   ·obtain⟨y,hy,hk3⟩:=hk2;have:=hod.lt y hy;omega
  have hn1:(mt b a).1≠0:=by omega
  obtain⟨m1,m2,m3,m4,m5,m6,m7,m8,m9⟩:=yN hn1;rw[←hn] at m2 m3 m4 m8 m9;rw[←hbk] at m5 m6 m7 m8 m9;refine Gz 9 ?_;refine Wh Qb rfl (Ey o1 c1 out ro rc run w2 hod hrd.vw (fun _ k hk hk2=>hap1 k hk2 hk) (by omega)) rfl ?_;rintro _ w3 ⟨o3,c3,rfl,ho3,hf3,hr3⟩;have hz3:=hf3.size;have hrl:=QC _ run out rfl;have hfr3:Fr W.heap.size o3:=aS hfr1 hr3 hz2;have hF3:aA nob W w3:=hF1d.ZJ hf3 hfr1.step;refine Gz 5 ?_;refine WC b8 aH rfl ?_;intro w4 hor4 hs4 hf4;refine Gz 8 ?_;refine cL (Wr (n:=((af (n+125)).toNat:Int)) is3 ty5 rfl (ES (by omega))) ?_;refine Gz 2 ?_;refine cL (Wr (n:=((af (bk-1)).toNat:Int)) is3 ty5 rfl (ES (by omega))) ?_;refine Y7 (enc:=b8) (u:=af (n+125)) (u':=af (bk-1)) aH aP rfl rfl rfl ?_;intro w5 ho5 hs5 hf5;refine Wq aP aH rfl rfl ((ho3.ZM hf4).ZM hf5) ho5.vw (by simp only[al,Z7];omega) (by simp only[al,Z7];unfold maxLen;omega) rfl ?_;intro o6 c6 w6 ho6 hf6 hr6 hn6;have hfr6:Fr W.heap.size o6:=aS hfr3 hr6 (by omega);have hF6:aA nob W w6:=((hF3.trans hf4).trans hf5).ZJ hf6 hfr3.step;have hb6:∀ k,blk (some (⟨w3.heap.size,0,none⟩:Addr)) k→¬ blk o6 k:=fun k ⟨x,hx,hk⟩ ⟨y,hy,hk2⟩=>by cases hx;have h1:w3.heap.size=k:=hk;rcases hr6 y hy with h|h;have:=ho3.lt y h;omega;omega
  have hor6:=(hor4.ZM hf5).ZN hf6 (fun x hx h=>by cases hx;obtain⟨y,hy,hk2⟩:=h;have:=ho3.lt y hy;have h1:y.block=w3.heap.size:=hk2;omega);refine Gz 10 ?_;exact aG ⟨a+n,⟨[],some ⟨w3.heap.size,0,none⟩,0⟩,⟨rn out run++[af (n+125),af (bk-1)],o6,c6⟩⟩ ⟨by omega,by rw[←hpk,H2 hn1,←hn,←hbk],hor6,ho6,hb6,(cX _).mono (by omega),hfr6,by rw[ZR,hrl];simp only[al,Z7];omega,hF6⟩ (by show b.length-(a+n)<b.length-a;omega)
 refine Gz 1 ?_;refine aW [(0,_),(4,_),(5,_),(6,_),(17,_)] ?_;refine Gz 11 ?_;have haf:a=b.length:=by omega
 rw[haf,LV (Nat.lt_irrefl _)] at hpk;refine Wh Qb rfl (Ey o1 c1 out ro rc run w1 ho1 hor1.vw (fun _ k hk hk2=>hap1 k hk2 hk) (by omega)) rfl ?_;rintro _ w3 ⟨o3,c3,rfl,ho3,hf3,hr3⟩;refine Gz 6 ?_
 (rw[e,←hpk];exact⟨_,rfl,o3,c3,rfl,ho3,aS hfr1 hr3 hz1,hF1.ZJ hf3 hfr1.step⟩)
def hdV(n:Nat):List Value:=[.int .u8 ((n%256:Nat):Int),.int .u8 ((n/256%256:Nat):Int),.int .u8 ((255 ^^^ ((n%256) ^^^ (n/256%256)):Nat):Int)]
theorem O9(n:Nat):∀ v∈hdV n,v.oneCell'=true:=by simp[hdV,Value.oneCell']
theorem MH(n:Nat):hdV n=(hdB n).map b8:=by
 have h:=fun x (hx:x∈hdN n)=>Q3 hx;simp only[hdN,aw,bv,or_false,forall_eq_or_imp,forall_eq] at h;obtain⟨h1,h2,h3⟩:=h;simp only[hdV,hdB,hdN,db,ip,b8,ck];rw[gx h1,gx h2,gx h3]
theorem PA:KH Tryz.prog 268 5 3 1:=⟨by kernel_rfl,by kernel_rfl⟩
theorem MG(n:Nat):((n:Nat):Int)/2 ^ (8:Int).toNat=((n/256:Nat):Int):=rfl
theorem O6(n:Nat)(W:World)(hn:n<65536):CA 168 [iV n] W fun v w'=>v=.agg (hdV n).toArray∧aA nob W w':=by
 refine cS 18 [(0,_)] Tryz.func168 ?_;refine Gz 2 ?_;refine Wn KI rfl ?_;intro w1 hg1 hs1 hf1;have hg1:w1.heap[W.heap.size]?=some (.cells [.int .u8 0,.int .u8 0,.int .u8 0].toArray 268 (0,0)):=hg1;refine Gz 5 ?_;refine cL (Wr (n:=((n%256:Nat):Int)) is3 ty5 rfl (zB n)) ?_;refine Gz 1 ?_;refine cL (Wm (u:=iV ((n/256:Nat):Int)) (X4 rfl rfl (by omega)) (by rw[MG])) ?_;refine cL (Wr (n:=((n/256%256:Nat):Int)) is3 ty5 rfl (zB _)) ?_;refine cL (Yf (cs:=[.int .u8 ((n%256:Nat):Int),.int .u8 ((n/256%256:Nat):Int),.int .u8 0].toArray) PA KI rfl (by kernel_rfl)) ?_;refine Wn KI rfl ?_;intro w2 hg2 hs2 hf2;have hg12:=hf2.obj hg1 id;obtain⟨q,hq⟩:∃ q,q=w1.heap.size:=⟨_,rfl⟩
 rw[←hq] at hg2 ⊢;refine sA rfl Bc (by simp[Value.oneCell']) hg2 ?_;intro w3 hg3 hs3 hf3;have hg13:=hf3.obj hg12 (by omega);refine Gz 4 ?_;refine cL (Wm (u:=pT q) (Xl PA rfl rfl (by omega)) (by rw[Addr.add_lit];rfl)) ?_;refine cL (Wk eC rfl (cN hg3 rfl)) ?_;refine cL (Wm (u:=.pointer (some ⟨q,1,none⟩)) (Xl PA rfl rfl (by omega)) (by rw[Addr.add_lit];rfl)) ?_;refine cL (Wk eC rfl (cN hg3 rfl)) ?_;refine cL (XR rfl rfl (by omega) (by omega)) ?_;refine cL (Zd rfl (rK (by omega) (by omega))) ?_;refine cL (Wm (u:=.pointer (some ⟨q,2,none⟩)) (Xl PA rfl rfl (by omega)) (by rw[Addr.add_lit];rfl)) ?_;refine Wl eC rfl rfl rfl hg3 rfl ?_;intro w4 hg4 hs4 hf4;have hg4:w4.heap[q]?=some (.cells (hdV n).toArray 268 (0,0)):=hg4;have hg14:=hf4.obj hg13 (by omega);refine Gz 4 ?_;refine cL (Ws (cs:=hdV n) Bc rfl (fun j v hj=>aB hg4 hj)) ?_;refine sA rfl Bc (by exact O9 n) hg14 ?_;intro w5 hg5 hs5 hf5;refine Gz 3 ?_;refine XV (cs:=hdV n) rfl Bc rfl (fun j v hj=>aB hg5 hj) ?_;exact⟨_,rfl,rfl,((((hf1.trans hf2).tw hf3).tw hf4)).tw hf5⟩
theorem L3{x:Nat}(h:x<4294967296):¬ iS x 4:=by
 unfold iS;have h2:((x:Int)/2 ^ (8*(4:Int)).toNat)=0:=by
  show (x:Int)/4294967296=0;omega
 omega
theorem JE{E:Int}(xs:By){x:Nat}(h:x<4294967296)(hE:E=0):iP E x 4=0∧nJ E xs x 4=xs++le x 4:=by
 have h1:iP E x 4=0:=by rw[dT (L3 h),hE]
 exact⟨h1,lR h1⟩
theorem GN(xs ys:By):Da 0 xs ys=xs++ys:=by unfold Da;rw[ZP rfl]
theorem Pk(xs:By):jY 0 xs=xs:=by unfold jY;rw[ZO (by decide)]
end Go.Proofs.YthdecfkdgdagcaaGreat
