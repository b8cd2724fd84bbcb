/- lamella: what the law needs. No condition beyond the bounds that each states. -/
import Derived.WalkKit
import Derived.WalkSpells
import Derived.WalkLawsBesides
import Derived.Deep.Quiet
import Derived.Deep.LoopGhost
import Derived.Orders
import Derived.Test.YthmmmagklhiiiaaGreatDoorRows
import Derived.IntWalk
import Derived.Laws.BytesArg
import Derived.StillTail
import Derived.KernelRfl
import Derived.Lib.Bytealg
import Derived.Lib.ConvBytes
import Derived.Laws.Small
import Derived.Laws.StructEq
import Derived.Laws.Rows
import Derived.ProofKit
import Derived.OpenShut
import Derived.ShutString
import Derived.ChangeOld
import Derived.Below
import Derived.Deep.Slices
import Derived.ChangeKeysEq
import Derived.Maps.Keyed
import Derived.WideKeyArr2
import Derived.WideKeyPair
namespace Go.Proofs.YthmmmagklhiiiaaGreatDoor
open Go Go.RowKit
set_option linter.unusedVariables false
set_option linter.unusedSectionVars false
set_option maxHeartbeats 64000000
open List (drop_length drop_zero mem_filter range'_succ)
open Option (map_some)
open List renaming length_append → R6, getElem?_eq_getElem → R7, getElem?_eq_some_iff → R9, mem_of_getElem? → Sd, length_take → Sh, getD → Sj, length_pos_iff → Sk, length_drop → Sm, take_of_length_le → So, length_cons → Sq, getElem?_of_mem → Sr, mem_cons → St, take_succ_eq_append_getElem → Sv, length_singleton → Sw, replicate → Sy, eq_nil_of_length_eq_zero → SB, length_map → SC, not_mem_nil → SD, mem_singleton → SE, append_assoc → SI, length_nil → SL, mem_map → SN, mem_append → SO, getElem?_map → SU, map_cons → SV, getElem?_eq_none → SY, getElem?_take → SZ, take_length → S1, nil_append → S2, foldl_append → Tb, flatMap_cons → Tc, filter_append → Tf, cons_append → Th, ext_getElem? → Tj, foldl_cons → Tm, range' → Tu, getElem_mem → Tv, range → Tw, getElem?_append_left → Tx, append_nil → TA, map_nil → TC, getElem?_set → TD, filter_eq_self → TE, filter_cons_of_pos → TG, take_append_of_le_length → TH, getElem?_mapIdx → TO, forall_mem_cons → TP, map_map → TQ, flatMap_append → TS, range_succ → TV, filter_cons_of_neg → T0, cons → T1, size_toArray → T3, mem_range'_1 → T4, map_append → Uc, map_congr_left → Ue, mem_range → Uo, mapM_cons → Up, map_toArray → UC
open _root_.Nat renaming le_refl → Sa, zero_le → Sf, blt → SH, le_trans → SM, mul_le_mul_right → SS, zero_add → S3, add_mul → S4, lt_trichotomy → Ta, min_eq_left → Td, lt_of_lt_of_le → Te, succ_eq_add_one → Tk, one_mul → Tl, blt_eq → Tp, beq → Tt, mul_comm → TB, lt_or_ge → TI, add_zero → T2, eq_zero_or_pos → Uj, ble_eq → Uk, add_assoc → Uw, mod_eq_of_lt → UA
open _root_.Array renaming getElem?_eq_some_iff → Sb, getElem?_modify → TM, replicate → TW, getElem?_eq_none → T7
open Classical renaming byContradiction → Se
open _root_.Option renaming map_eq_some_iff → Sn, ne_none_iff_exists' → Ui
open UInt8 renaming ofNat → Ss, toNat_ofNat' → S6, lt_iff_toNat_lt → To, toNat_inj → TK
open Go.Op renaming bytesLess → Su, stringOp → Ur, shift → Uz
open _root_.Bool renaming and_eq_true → SA, or_eq_true → Tr
open Prod renaming ext → Uh
open _root_.Int renaming fdiv_eq_ediv_of_nonneg → Uq
theorem R3.{u}{c:Prop}{h:Decidable c}(n:¬c){α:Sort u}{t e:α}:ite c t e=e:=if_neg n
theorem R4.{u}{c:Prop}{h:Decidable c}(n:c){α:Sort u}{t e:α}:ite c t e=t:=if_pos n
theorem R5{p:Prop}[i:Decidable p](h:¬p):decide p=false:=decide_eq_false h
theorem R8{p:Prop}[i:Decidable p](h:p):decide p=true:=decide_eq_true h
abbrev SF:=List (Nat×Value)
def lk:SF→Nat→Option Value
|[],_=>none
|(s,v)::r,t=>bif Tt s t then some v else lk r t
theorem mB{d:Nat}{v:Value}{l:SF}:lk ((d,v)::l) d=some v:=by simp[lk]
theorem jL{d t:Nat}{v:Value}{l:SF}(h:d≠t):lk ((d,v)::l) t=lk l t:=by
 have:Tt d t=false:=by rw[←Bool.not_eq_true,Nat.beq_eq];exact h
 simp[lk,this]
def evL(l:SF):Operand→Option Value
|.tmp t=>lk l t
|.const v=>some v
|.global g=>some (.pointer (some ⟨g,0,none⟩))
|.func f=>some (.func (.func f) #[] #[])
structure Nt where
 n:Nat
 ds:List Deferred
structure bS (N:Nt)(l:SF)(a:Act):Prop where
 dfr:a.defers=N.ds
 siz:a.tmps.size=N.n
 has:∀ t v,lk l t=some v→a.tmps[t]?=some v
theorem bS.ev{N:Nt}{l:SF}{a:Act}(h:bS N l a){x:Operand}{v:Value}(hx:evL l x=some v):a.eval x=v:=by
 cases x with
|tmp t=>have:=h.has t v hx;simp[Act.eval,this]
|const u=>simpa[evL,Act.eval] using hx
|global g=>simpa[evL,Act.eval] using hx
|func f=>simpa[evL,Act.eval] using hx
theorem bS.put{N:Nt}{l:SF}{a:Act}(h:bS N l a){d:Nat}(hd:SH d N.n=true)(v:Value):bS N ((d,v)::l) (a.put (some d) v):=by
 have hd':d<N.n:=by simpa[Tp] using hd
 refine⟨h.dfr,by simp[Act.put,h.siz],fun t u ht=>?_⟩;by_cases e:d=t
 · subst e
   rw[mB] at ht;cases ht;simp[Act.put,h.siz,hd']
 · rw[jL e] at ht
   have:=h.has t u ht;simp only[Act.put];rw[Array.getElem?_setIfInBounds_ne e];exact this
def Sub:SF→SF→Prop
|[],_=>True
|(t,v)::r,l=>lk l t=some v∧Sub r l
theorem Sub.lk:∀ {l' l:SF},Sub l' l→∀ t v,Go.Proofs.YthmmmagklhiiiaaGreatDoor.lk l' t=some v→Go.Proofs.YthmmmagklhiiiaaGreatDoor.lk l t=some v
|[],_,_,t,v,h=>by simp[Go.Proofs.YthmmmagklhiiiaaGreatDoor.lk] at h
|(s,u)::r,l,hs,t,v,h=>by
   by_cases e:s=t
   ·subst e;rw[mB] at h;cases h;exact hs.1
   ·rw[jL e] at h;exact Sub.lk hs.2 t v h
theorem bS.sub{N:Nt}{l l':SF}{a:Act}(h:bS N l a)(hs:Sub l' l):bS N l' a:=⟨h.dfr,h.siz,fun t v ht=>h.has t v (hs.lk t v ht)⟩
section
variable {P:Program}{N:Nt}{Q:Exit→Act→World→Prop}{l:SF}{w:World}
def Sc(P:Program)(N:Nt)(c:Code)(Q:Exit→Act→World→Prop)(l:SF)(w:World):Prop:=∀ a,bS N l a→c.wp P Q a w
def Sl(P:Program)(N:Nt)(ops:Array Oper)(Q:Exit→Act→World→Prop)(rest:List Oper)(l:SF)(w:World):Prop:=∀ a,bS N l a→wpList P ops Q rest a w
theorem Rb{x y:Code}(h:Sc P N x (Exit.then (y.wp P Q) Q) l w):Sc P N (.seq x y) Q l w:=fun a ha=>wp_seq (h a ha)
theorem QE{id:Nat}{c:Code}(h:Sc P N c (Exit.inBlock id Q) l w):Sc P N (.block id c) Q l w:=fun a ha=>wp_block (h a ha)
theorem Qt{id:Nat}{ops:List Oper}(h:Sl P N ops.toArray Q ops l w):Sc P N (.region id ops.toArray false) Q l w:=fun a ha=>wp_region_lit (h a ha)
theorem Qu{c:Operand}{x y:Code}(hc:evL l c=some (.bool true))(h:Sc P N x Q l w):Sc P N (.cond c x y) Q l w:=fun a ha=>wp_cond (ha.ev hc) (h a ha)
theorem Qv{c:Operand}{x y:Code}(hc:evL l c=some (.bool false))(h:Sc P N y Q l w):Sc P N (.cond c x y) Q l w:=fun a ha=>wp_cond (ha.ev hc) (h a ha)
def At(N:Nt)(e:Exit)(Q:Exit→Act→World→Prop)(l:SF)(w:World):Prop:=∀ a,bS N l a→Q e a w
theorem QS(h:At N .normal Q l w):Sc P N .skip Q l w:=fun a ha=>wp_skip (h a ha)
theorem Re(h:At N .ret Q l w):Sc P N .ret Q l w:=fun a ha=>wp_ret (h a ha)
theorem QT{id:Nat}(h:At N (.exit id) Q l w):Sc P N (.exit id) Q l w:=fun a ha=>wp_exit (h a ha)
theorem Rf{ops:Array Oper}(h:At N .normal Q l w):Sl P N ops Q [] l w:=fun a ha=>wpList_nil (h a ha)
theorem Rj{y:Code}(h:Sc P N y Q l w):At N .normal (Exit.then (y.wp P Q) Q) l w:=fun a ha=>h a ha
theorem PW{K:Act→World→Prop}(h:At N .ret Q l w):At N .ret (Exit.then K Q) l w:=fun a ha=>h a ha
theorem PQ{K:Act→World→Prop}{id:Nat}(h:At N (.exit id) Q l w):At N (.exit id) (Exit.then K Q) l w:=fun a ha=>h a ha
theorem PR{i:Nat}(h:At N .ret Q l w):At N .ret (Exit.inBlock i Q) l w:=fun a ha=>h a ha
theorem PD{i:Nat}(h:At N .normal Q l w):At N .normal (Exit.inBlock i Q) l w:=fun a ha=>h a ha
theorem PS{i:Nat}(h:At N .normal Q l w):At N (.exit i) (Exit.inBlock i Q) l w:=fun a ha=>by
 show (if i=i then Q .normal a w else Q (.exit i) a w);rw[R4 rfl];exact h a ha
theorem PL{i j:Nat}(hij:Tt j i=false)(h:At N (.exit j) Q l w):At N (.exit j) (Exit.inBlock i Q) l w:=fun a ha=>by
 show (if j=i then Q .normal a w else Q (.exit j) a w);rw[R3 (fun e=>by subst e;simp at hij)];exact h a ha
theorem QU{e:Exit}(l':SF)(hs:Sub l' l)(h:At N e Q l' w):At N e Q l w:=fun a ha=>h a (ha.sub hs)
def HH(N:Nt){β:Type}(L:β→SF)(J:β→World→Prop)(μ:β→Nat)(b:β)(a':Act)(w':World):Prop:=∃ b',bS N (L b') a'∧J b' w'∧μ b'<μ b
theorem Oy{β:Type}(L:β→SF)(J:β→World→Prop)(μ:β→Nat){c:Code}(b0:β)(hl:Sub (L b0) l)(h0:J b0 w)
 (round:∀ b w,J b w→Sc P N c (Exit.then (HH N L J μ b) Q) (L b) w):Sc P N (.loop c) Q l w:=by
 intro a ha;refine wp_loop_ghost (fun n a w=>∃ b,μ b=n∧bS N (L b) a∧J b w) (μ b0) ⟨b0,rfl,ha.sub hl,h0⟩ ?_;rintro n a w ⟨b,rfl,hL,hJ⟩;refine wp_mono (round b w hJ a hL) ?_;intro e a' w' hq;cases e with
|normal=>obtain⟨b',h1,h2,h3⟩:=hq;exact⟨μ b',h3,b',rfl,h1,h2⟩
|exit id=>exact hq
|goto l=>exact hq
|ret=>exact hq
|panic ch=>exact hq
|outgrown=>exact hq
theorem ON{β:Type}{L:β→SF}{J:β→World→Prop}{μ:β→Nat}{b:β}(b':β)(hl:Sub (L b') l)(hJ:J b' w)(hm:μ b'<μ b) :
 At N .normal (Exit.then (HH N L J μ b) Q) l w:=fun _ ha=>⟨b',ha.sub hl,hJ,hm⟩
theorem O1{x y:Code}{β:Type}(L:β→SF)(J:β→World→Prop)(h1:Sc P N x (Exit.then (fun a w=>∃ b,bS N (L b) a∧J b w) Q) l w)
 (h2:∀ b w,J b w→Sc P N y Q (L b) w):Sc P N (.seq x y) Q l w:=fun a ha=>
 wp_seq (wp_mono (h1 a ha) fun e a' w' hq=>by
  cases e with
 |normal=>obtain⟨b,h3,h4⟩:=hq;exact h2 b w' h4 a' h3
 |exit id=>exact hq
 |goto l=>exact hq
 |ret=>exact hq
 |panic ch=>exact hq
 |outgrown=>exact hq)
theorem O4{β:Type}{L:β→SF}{J:β→World→Prop}(b:β)(hl:Sub (L b) l)(hJ:J b w) :
 At N .normal (Exit.then (fun a w=>∃ b,bS N (L b) a∧J b w) Q) l w:=fun _ ha=>⟨b,ha.sub hl,hJ⟩
theorem Bl{P:Program}{f:FuncId}{fn:Func}{c:Code}{args:List Value}{w:World}{R:Ending→World→Prop}(N:Nat)(l:SF)
 (hf:P.funcs[f]?=some fn)(hb:fn.body=some c)(hN:fn.ntmps=N)(hle:Nat.ble args.length N=true)
 (hl:∀ t v,lk l t=some v→args[t]?=some v)
 (h:Sc P ⟨N,[]⟩ c (bodyPost P fn R) l w):Calls P f args.toArray w R:=by
 refine calls_of_wp hf hb (h _ ⟨rfl,?_,?_⟩)
 · have:args.length≤N:=by simpa[Uk] using hle
   simp[hN];omega
 · intro t v ht
   have:=hl t v ht;have hlt:t<args.length:=(R9.1 this).1;rw[R7 hlt] at this;simpa[Array.getElem?_append,hlt] using this
theorem pZ{args:List Value}{l:SF}(h:Sub l ((Tw args.length).zip args)):∀ t v,lk l t=some v→args[t]?=some v:=by
 have key:∀ (vs:List Value) (k:Nat) t v,lk ((Tu k vs.length).zip vs) t=some v→vs[t-k]?=some v:=by
  intro vs
  induction vs with
 |nil=>intro k t v h;simp[lk] at h
 |cons x xs ih=>
    intro k t v h;simp only[Sq,range'_succ,List.zip_cons_cons] at h;by_cases e:k=t
    ·subst e;rw[mB] at h;cases h;simp
    · rw[jL e] at h
      have h2:=ih (k+1) t v h;by_cases hlt:k<t
      ·rw[show t-k=(t-(k+1))+1 by omega];simpa using h2
      · have hnone:lk ((Tu (k+1) xs.length).zip xs) t=none:=by
         have:∀ (ys:List Value) (m:Nat),t<m→lk ((Tu m ys.length).zip ys) t=none:=by
          intro ys
          induction ys with
         |nil=>intro m _;simp[lk]
         |cons y ys ihy=>intro m hm;simp only[Sq,range'_succ,List.zip_cons_cons];rw[jL (by omega)];exact ihy (m+1) (by omega)
         exact this xs (k+1) (by omega)
        rw[hnone] at h;cases h
 intro t v ht;have h1:=h.lk t v ht;rw[List.range_eq_range'] at h1;simpa using key args 0 t v h1
theorem QV{P:Program}{N:Nat}{fn:Func}{R:Ending→World→Prop}{l:SF}{w:World}{t:Nat}{v:Value}(hr:fn.results=#[.tmp t])(hv:lk l t=some v)(h:R (.returned v) w) :
 At ⟨N,[]⟩ .ret (bodyPost P fn R) l w:=fun a ha=>⟨ha.dfr,v,by rw[results_tmp hr];simp[ha.has t v hv],h⟩
theorem QW{P:Program}{N:Nat}{fn:Func}{R:Ending→World→Prop}{l:SF}{w:World}{t u:Nat}{v x:Value}(hr:fn.results=#[.tmp t,.tmp u])(hv:lk l t=some v)(hx:lk l u=some x)
 (h:R (.returned (.tuple #[v,x])) w) :
 At ⟨N,[]⟩ .ret (bodyPost P fn R) l w:=fun a ha=>⟨ha.dfr,_,by rw[results_tmp2 hr],by simpa[ha.has t v hv,ha.has u x hx] using h⟩
theorem QX{P:Program}{N:Nat}{fn:Func}{R:Ending→World→Prop}{l:SF}{w:World}{t u s:Nat}{v x y:Value}(hr:fn.results=#[.tmp t,.tmp u,.tmp s])(hv:lk l t=some v)(hx:lk l u=some x)(hy:lk l s=some y)
 (h:R (.returned (.tuple #[v,x,y])) w) :
 At ⟨N,[]⟩ .ret (bodyPost P fn R) l w:=fun a ha=>⟨ha.dfr,_,by rw[results_tmp3 hr],by simpa[ha.has t v hv,ha.has u x hx,ha.has s y hy] using h⟩
theorem OQ{P:Program}{N:Nat}{fn:Func}{R:Ending→World→Prop}{l:SF}{w:World}(hr:fn.results=#[])(h:R (.returned (.tuple #[])) w) :
 At ⟨N,[]⟩ .normal (bodyPost P fn R) l w:=fun a ha=>⟨ha.dfr,_,by rw[results_none hr],h⟩
theorem QY{P:Program}{N:Nat}{fn:Func}{R:Ending→World→Prop}{l:SF}{w:World}(hr:fn.results=#[])(h:R (.returned (.tuple #[])) w) :
 At ⟨N,[]⟩ .ret (bodyPost P fn R) l w:=fun a ha=>⟨ha.dfr,_,by rw[results_none hr],h⟩
end
def aS(H:Array Obj)(a:Addr):Option Value:=
 match H[a.block]? with
|some (.cells c _ _)=>if a.spot.isSome then none else c[a.off]?
|_=>none
theorem cell?_eq(w:World)(a:Addr):w.cell? a=aS w.heap a:=rfl
def Cm(P:Program)(N:Nt)(CH:Array Obj→Prop)(l:SF)(o:Oper)(v:Value):Prop:=
 ∀ a w,bS N l a→CH w.heap→(execOp a.eval o).run P w=.ok (.value v) w
def vE:Value→Bool→Bool
|.bool c,b=>c != b
|.tuple _,_=>true
|_,_=>false
section
variable {P:Program}{N:Nt}{Q:Exit→Act→World→Prop}{l:SF}{w:World}{ops:Array Oper}{rest:List Oper}
variable {op:Op}{ty:TypeId}{pos:String}{aft:Array Edge}{d:Nat}{v:Value}{CH:Array Obj→Prop}
theorem PE(hv:Cm P N (· = w.heap) l ⟨some d,op,ty,pos,aft,none⟩ v)(hd:SH d N.n=true)(h:Sl P N ops Q rest ((d,v)::l) w) :
 Sl P N ops Q (⟨some d,op,ty,pos,aft,none⟩::rest) l w:=fun a ha=>by
 unfold wpList;rw[R4 (by simp[Region.wanted])];refine .inl ?_;unfold Oper.wp;rw[hv a w ha rfl];exact h _ (ha.put hd v)
theorem eX{a:Act}(ha:bS N l a){j s:Nat}{u:Value}(hj:(ops[j]?).bind (·.dst)=some s)(hs:lk l s=some u) :
 yielded ops a.tmps j=(match u with|.bool b=>some b|_=>none):=by
 unfold yielded;rw[hj];simp only[Option.bind_some,ha.has s u hs];cases u<;>rfl
theorem PF{j s:Nat}{b:Bool}(hj:(ops[j]?).bind (·.dst)=some s)(hs:lk l s=some (.bool b))
 (hv:Cm P N (· = w.heap) l ⟨some d,op,ty,pos,aft,some (j,b)⟩ v)(hd:SH d N.n=true)(h:Sl P N ops Q rest ((d,v)::l) w) :
 Sl P N ops Q (⟨some d,op,ty,pos,aft,some (j,b)⟩::rest) l w:=fun a ha=>by
 unfold wpList;rw[R4 (by simp[Region.wanted,eX ha hj hs])];refine .inl ?_;unfold Oper.wp;rw[hv a w ha rfl];exact h _ (ha.put hd v)
theorem OZ{p:Prop}[Decidable p](hv:Cm P N (· = w.heap) l ⟨some d,op,ty,pos,aft,none⟩ (.bool (decide p)))(hd:SH d N.n=true)
 (h1:p→Sl P N ops Q rest ((d,.bool true)::l) w)(h2:¬ p→Sl P N ops Q rest ((d,.bool false)::l) w) :
 Sl P N ops Q (⟨some d,op,ty,pos,aft,none⟩::rest) l w:=by
 by_cases h:p
 ·rw[R8 h] at hv;exact PE hv hd (h1 h)
 ·rw[R5 h] at hv;exact PE hv hd (h2 h)
theorem OW{p:Prop}[Decidable p]{j s:Nat}{b:Bool}(hj:(ops[j]?).bind (·.dst)=some s)(hs:lk l s=some (.bool b))
 (hv:Cm P N (· = w.heap) l ⟨some d,op,ty,pos,aft,some (j,b)⟩ (.bool (decide p)))(hd:SH d N.n=true)
 (h1:p→Sl P N ops Q rest ((d,.bool true)::l) w)(h2:¬ p→Sl P N ops Q rest ((d,.bool false)::l) w) :
 Sl P N ops Q (⟨some d,op,ty,pos,aft,some (j,b)⟩::rest) l w:=by
 by_cases h:p
 ·rw[R8 h] at hv;exact PF hj hs hv hd (h1 h)
 ·rw[R5 h] at hv;exact PF hj hs hv hd (h2 h)
theorem Ql{j s:Nat}{b:Bool}{u:Value}(hj:(ops[j]?).bind (·.dst)=some s)(hs:lk l s=some u)(hb:vE u b=true)(hd:SH d N.n=true)
 (h:Sl P N ops Q rest ((d,undef)::l) w) :
 Sl P N ops Q (⟨some d,op,ty,pos,aft,some (j,b)⟩::rest) l w:=fun a ha=>by
 unfold wpList;rw[R3 (by
  simp only[Region.wanted,eX ha hj hs];cases u<;>simp_all [vE])]
 exact h _ (ha.put hd undef)
section
variable {x y:Operand}{t t':TypeId}{g:Option (Nat×Bool)}{dd:Option Nat}
variable {k k':IntKind}{m n:Int}
theorem Oz(hx:evL l x=some v):Cm P N CH l ⟨dd,.move x,ty,pos,aft,g⟩ v:=fun a w ha _=>by simp[execOp,ha.ev hx]
theorem Qw(hx:evL l x=some v):Cm P N CH l ⟨dd,.assign x,ty,pos,aft,g⟩ v:=fun a w ha _=>by simp[execOp,ha.ev hx]
theorem Qx{c:Operand}(hc:evL l c=some (.bool true))(hx:evL l x=some v):Cm P N CH l ⟨dd,.pick c x y,ty,pos,aft,g⟩ v:=fun a w ha _=>by
 simp[execOp,ha.ev hc,ha.ev hx,asBool]
theorem Qy{c:Operand}(hc:evL l c=some (.bool false))(hy:evL l y=some v):Cm P N CH l ⟨dd,.pick c x y,ty,pos,aft,g⟩ v:=fun a w ha _=>by
 simp[execOp,ha.ev hc,ha.ev hy,asBool]
theorem Qm(hx:evL l x=some (.int k m))(hy:evL l y=some (.int k n)):Cm P N CH l ⟨dd,.binOp .add t x y t',ty,pos,aft,g⟩ (.int k (k.wrap (m+n))):=fun a w ha _=>by
 simp[execOp,ha.ev hx,ha.ev hy,eqGuard,binOp,Op.intArith]
theorem QZ(hx:evL l x=some (.int k m))(hy:evL l y=some (.int k n)):Cm P N CH l ⟨dd,.binOp .sub t x y t',ty,pos,aft,g⟩ (.int k (k.wrap (m-n))):=fun a w ha _=>by
 simp[execOp,ha.ev hx,ha.ev hy,eqGuard,binOp,Op.intArith]
theorem Qn(hx:evL l x=some (.int k m))(hy:evL l y=some (.int k n)):Cm P N CH l ⟨dd,.binOp .mul t x y t',ty,pos,aft,g⟩ (.int k (k.wrap (m*n))):=fun a w ha _=>by
 simp[execOp,ha.ev hx,ha.ev hy,eqGuard,binOp,Op.intArith]
theorem cI{z:Int}(h : -9223372036854775808≤z∧z≤9223372036854775807):IntKind.i64.wrap z=z:=IntWalk.i64_in z (by omega)
theorem Pb(hx:evL l x=some (.int .i64 m))(hy:evL l y=some (.int .i64 n))(hb : -9223372036854775808≤m+n∧m+n≤9223372036854775807) :
 Cm P N CH l ⟨dd,.binOp .add t x y t',ty,pos,aft,g⟩ (.int .i64 (m+n)):=by
 have:=@Qm P N l ty pos aft CH x y t t' g dd .i64 m n hx hy;rwa[cI hb] at this
theorem Pj(hx:evL l x=some (.int .i64 m))(hy:evL l y=some (.int .i64 n))(hb : -9223372036854775808≤m-n∧m-n≤9223372036854775807) :
 Cm P N CH l ⟨dd,.binOp .sub t x y t',ty,pos,aft,g⟩ (.int .i64 (m-n)):=by
 have:=@QZ P N l ty pos aft CH x y t t' g dd .i64 m n hx hy;rwa[cI hb] at this
theorem Pc(hx:evL l x=some (.int .i64 m))(hy:evL l y=some (.int .i64 n))(hb : -9223372036854775808≤m*n∧m*n≤9223372036854775807) :
 Cm P N CH l ⟨dd,.binOp .mul t x y t',ty,pos,aft,g⟩ (.int .i64 (m*n)):=by
 have:=@Qn P N l ty pos aft CH x y t t' g dd .i64 m n hx hy;rwa[cI hb] at this
theorem Q0(hx:evL l x=some (.int k m))(hy:evL l y=some (.int k n))(hn:n≠0):Cm P N CH l ⟨dd,.binOp .quo t x y t',ty,pos,aft,g⟩ (.int k (k.wrap (m.tdiv n))):=fun a w ha _=>by
 simp[execOp,ha.ev hx,ha.ev hy,eqGuard,binOp,Op.intDiv,hn]
theorem PX(hx:evL l x=some (.int .i64 m))(hy:evL l y=some (.int .i64 n))(hm:0≤m∧m≤9223372036854775807)(hn:1≤n):Cm P N CH l ⟨dd,.binOp .quo t x y t',ty,pos,aft,g⟩ (.int .i64 (m/n)):=by
 have:=@Q0 P N l ty pos aft CH x y t t' g dd .i64 m n hx hy (by omega);rw[Int.tdiv_eq_ediv_of_nonneg hm.1,cI ⟨by have:=Int.ediv_nonneg hm.1 (show 0≤n by omega);omega,Int.le_trans (Int.ediv_le_self n hm.1) hm.2⟩] at this;exact this
theorem Q1(hx:evL l x=some (.int k m))(hy:evL l y=some (.int k n))(hn:n≠0):Cm P N CH l ⟨dd,.binOp .rem t x y t',ty,pos,aft,g⟩ (.int k (m.tmod n)):=fun a w ha _=>by
 simp[execOp,ha.ev hx,ha.ev hy,eqGuard,binOp,Op.intDiv,hn]
theorem QF(hx:evL l x=some (.int k m))(hy:evL l y=some (.int k n))(hm:0≤m)(hn:n≠0):Cm P N CH l ⟨dd,.binOp .rem t x y t',ty,pos,aft,g⟩ (.int k (m%n)):=by
 have:=@Q1 P N l ty pos aft CH x y t t' g dd k m n hx hy hn;rw[Int.tmod_eq_emod_of_nonneg hm] at this;exact this
theorem Pp(hx:evL l x=some (.int k m))(hy:evL l y=some (.int k n)):Cm P N CH l ⟨dd,.binOp .lss t x y t',ty,pos,aft,g⟩ (.bool (decide (m<n))):=fun a w ha _=>by
 simp[execOp,ha.ev hx,ha.ev hy,eqGuard,binOp,Op.intCmp]
theorem Pv(hx:evL l x=some (.int k m))(hy:evL l y=some (.int k n)):Cm P N CH l ⟨dd,.binOp .leq t x y t',ty,pos,aft,g⟩ (.bool (decide (m≤n))):=fun a w ha _=>by
 simp[execOp,ha.ev hx,ha.ev hy,eqGuard,binOp,Op.intCmp]
theorem PT(hx:evL l x=some (.int k m))(hy:evL l y=some (.int k n)):Cm P N CH l ⟨dd,.binOp .gtr t x y t',ty,pos,aft,g⟩ (.bool (decide (n<m))):=fun a w ha _=>by
 simp[execOp,ha.ev hx,ha.ev hy,eqGuard,binOp,Op.intCmp]
theorem PB(hx:evL l x=some (.int k m))(hy:evL l y=some (.int k n)):Cm P N CH l ⟨dd,.binOp .geq t x y t',ty,pos,aft,g⟩ (.bool (decide (n≤m))):=fun a w ha _=>by
 simp[execOp,ha.ev hx,ha.ev hy,eqGuard,binOp,Op.intCmp]
theorem OX(hx:evL l x=some (.int k m))(hy:evL l y=some (.int k n)):Cm P N CH l ⟨dd,.binOp .eql t x y t',ty,pos,aft,g⟩ (.bool (decide (m=n))):=fun a w ha _=>by
 simp[execOp,ha.ev hx,ha.ev hy,eqGuard,binOp,Op.intCmp];rfl
theorem PC(hx:evL l x=some (.int k m))(hy:evL l y=some (.int k n)):Cm P N CH l ⟨dd,.binOp .neq t x y t',ty,pos,aft,g⟩ (.bool (decide (m≠n))):=fun a w ha _=>by
 simp[execOp,ha.ev hx,ha.ev hy,eqGuard,binOp,Op.intCmp];by_cases h:m=n<;>simp[h]
theorem O5{o:Oper}{p:Prop}[Decidable p](h:Cm P N CH l o (.bool (decide p)))(hp:p):Cm P N CH l o (.bool true):=by rwa[R8 hp] at h
theorem PY{o:Oper}{p:Prop}[Decidable p](h:Cm P N CH l o (.bool (decide p)))(hp:¬ p):Cm P N CH l o (.bool false):=by rwa[R5 hp] at h
theorem Ox{o:Oper}{u:Value}(h:Cm P N CH l o v)(e:v=u):Cm P N CH l o u:=e ▸ h
theorem OL{b:Bool}(hx:evL l x=some (.bool b)):Cm P N CH l ⟨dd,.unOp .not t x,ty,pos,aft,g⟩ (.bool (!b)):=fun a w ha _=>by
 simp[execOp,ha.ev hx,Op.unary]
theorem QG(hs:(P.underlying t).isSome=true)(hd:P.underlying t'=some (.int k'))(hx:evL l x=some (.int k m)):Cm P N CH l ⟨dd,.convert t t' x,ty,pos,aft,g⟩ (.int k' (k'.wrap m)):=fun a w ha _=>by
 obtain⟨u,hu⟩:=Option.isSome_iff_exists.1 hs;simp only[execOp,ha.ev hx,convert,Sem.run_bind,run_underlying hu,run_underlying hd,Result.andThen_ok];cases u<;>simp[Conv.intToInt]
theorem OH(hs:(P.underlying t).isSome=true)(hd:P.underlying t'=some (.int k'))(hx:evL l x=some (.int k m))(hw:k'.wrap m=n):Cm P N CH l ⟨dd,.convert t t' x,ty,pos,aft,g⟩ (.int k' n):=by
 have:=@QG P N l ty pos aft CH x t t' g dd k k' m hs hd hx;rwa[hw] at this
theorem Qd{vs:List Value}{i:Nat}(hx:evL l x=some (.tuple vs.toArray))(hi:vs[i]?=some v):Cm P N CH l ⟨dd,.extract x i,ty,pos,aft,g⟩ v:=fun a w ha _=>by
 simp[execOp,ha.ev hx,Instr.extract,hi]
theorem OM{ad:Addr}(hx:evL l x=some (.pointer (some ad))):Cm P N CH l ⟨dd,.nilCheck x,ty,pos,aft,g⟩ (.pointer (some ad)):=fun a w ha _=>by
 simp[execOp,ha.ev hx]
structure aN (P:Program)(t e:TypeId)(size bytes:Nat):Prop where
 und:P.underlying t=some (.slice e)
 inf:(P.info? e).map (fun i=>(i.zero.map (·.cells.size),i.size,i.bytes))=some (some size,size,bytes)
theorem aN.parts{e:TypeId}{size bytes:Nat}(h:aN P t e size bytes):∃ i z,P.info? e=some i∧i.zero=some z∧z.cells.size=size∧i.size=size∧i.bytes=bytes:=by
 obtain⟨i,hi,h1⟩:=Sn.1 h.inf;simp only[Prod.mk.injEq] at h1;obtain⟨z,hz,h2⟩:=Sn.1 h1.1;exact⟨i,z,hi,hz,h2,h1.2.1,h1.2.2⟩
theorem aN.size{e:TypeId}{size bytes:Nat}(h:aN P t e size bytes)(w:World):(sizeOf e).run P w=.ok size w:=by
 obtain⟨i,z,hi,h1,hz,h2,h3⟩:=h.parts;simp[sizeOf,typeInfo,hi,h2]
theorem Qe{e:TypeId}{size bytes:Nat}(ht:aN P t e size bytes){ao:Option Addr}{c n:Nat}(hx:evL l x=some (.slice ao n c)) :
 Cm P N CH l ⟨dd,.call ⟨.builtin .len,#[x],#[t]⟩,ty,pos,aft,g⟩ (.int .i64 n):=fun a w ha _=>by
 simp[execOp,ha.ev hx,resolve,invoke,builtin,Builtin.len_,run_underlying ht.und,goInt]
theorem Q2(ht:P.underlying t=some .string){s:ByteArray}(hx:evL l x=some (.string s)) :
 Cm P N CH l ⟨dd,.call ⟨.builtin .len,#[x],#[t]⟩,ty,pos,aft,g⟩ (.int .i64 s.size):=fun a w ha _=>by
 simp[execOp,ha.ev hx,resolve,invoke,builtin,Builtin.len_,run_underlying ht,goInt]
theorem PU{ts:Array TypeId}(hx:evL l x=some (.int k m))(hy:evL l y=some (.int k n)) :
 Cm P N CH l ⟨dd,.call ⟨.builtin .min,#[x,y],ts⟩,ty,pos,aft,g⟩ (.int k (if n<m then n else m)):=fun a w ha _=>by
 simp[execOp,ha.ev hx,ha.ev hy,resolve,invoke,builtin,Builtin.min_,Builtin.min2]
def adr(ao:Option Addr)(i:Nat):Addr:=(ao.getD ⟨0,0,none⟩).add i
theorem OA{e:TypeId}{size bytes:Nat}(ht:aN P t e size bytes){ao:Option Addr}{c len:Nat}(hx:evL l x=some (.slice ao len c))(hy:evL l y=some (.int k n))
 (hao:len≠0→ao≠none)(hn:0≤n∧n<len) :
 Cm P N CH l ⟨dd,.indexAddr t x y,ty,pos,aft,g⟩ (.pointer (some (adr ao (n.toNat*size)))):=fun a w ha _=>by
 have:ao≠none:=hao (by omega);cases ao with
|none=>exact absurd rfl this
|some ad=>simp[execOp,ha.ev hx,ha.ev hy,Instr.indexAt,asIntOf,run_underlying ht.und,ht.size w,hn,adr]
theorem Ou{e:TypeId}{bytes:Nat}(ht:aN P t e 1 bytes){ao:Option Addr}{c len:Nat}(hx:evL l x=some (.slice ao len c))(hy:evL l y=some (.int k n))
 (hao:len≠0→ao≠none)(hn:0≤n∧n<len) :
 Cm P N CH l ⟨dd,.indexAddr t x y,ty,pos,aft,g⟩ (.pointer (some (adr ao n.toNat))):=by
 have:=@OA P N l ty pos aft CH x y t g dd k n e 1 bytes ht ao c len hx hy hao hn;rwa[Nat.mul_one] at this
end
end
structure aA (S:Nat→Prop)(w w':World):Prop where
 os:w'.os=w.os
 tape:w'.tape=w.tape
 output:w'.output=w.output
 size:w.heap.size≤w'.heap.size
 same:∀ k,k<w.heap.size→¬ S k→w'.heap[k]?=w.heap[k]?
def nob:Nat→Prop:=fun _=>False
theorem Rk(S:Nat→Prop)(w:World):aA S w w:=⟨rfl,rfl,rfl,Sa _,fun _ _ _=>rfl⟩
theorem aA.trans{S:Nat→Prop}{a b c:World}(h:aA S a b)(k:aA S b c):aA S a c:=
 ⟨k.os.trans h.os,k.tape.trans h.tape,k.output.trans h.output,SM h.size k.size,
  fun i hi hs=>(k.same i (Te hi h.size) hs).trans (h.same i hi hs)⟩
theorem aA.step{S S':Nat→Prop}{a b c:World}(h:aA S a b)(k:aA S' b c)(hs:∀ i,S' i→S i∨a.heap.size≤i):aA S a c:=
 ⟨k.os.trans h.os,k.tape.trans h.tape,k.output.trans h.output,SM h.size k.size,
  fun i hi hn=>(k.same i (Te hi h.size) (fun h'=>by rcases hs i h' with h1|h1;exact hn h1;omega)).trans (h.same i hi hn)⟩
theorem aA.RV{S S':Nat→Prop}{a b c:World}(h:aA S a b)(k:aA S' b c)(hs:∀ i,S' i→S i∨a.heap.size≤i):aA S a c:=h.step k hs
theorem aA.mono{S S':Nat→Prop}{a b:World}(h:aA S a b)(hs:∀ i,S i→S' i):aA S' a b:=
 ⟨h.os,h.tape,h.output,h.size,fun i hi hn=>h.same i hi (fun h'=>hn (hs i h'))⟩
theorem aA.draws{S:Nat→Prop}{a b:World}(h:aA S a b)(n:Nat):aA S a (b.drewN n):=⟨h.os,h.tape,h.output,h.size,h.same⟩
theorem aA.RW{S:Nat→Prop}{w w':World}{n:Nat}(h:aA S (w.drewN n) w'):aA S w w':=⟨h.os,h.tape,h.output,h.size,h.same⟩
theorem Rl{S:Nat→Prop}{w:World}(n:Nat):aA S w (w.drewN n):=(Rk S w).draws n
theorem aA.alloc(S:Nat→Prop)(w:World)(o:Obj):aA S w (w.alloc o):=⟨rfl,rfl,rfl,by simp,fun _ hk _=>Below.heap_alloc w o _ hk⟩
theorem Rm(S:Nat→Prop)(w:World)(o:Obj):aA S w (w.drew.alloc o):=⟨rfl,rfl,rfl,by simp,fun _ hk _=>Below.heap_alloc w.drew o _ hk⟩
theorem aA.below{w w':World}(h:aA nob w w'):Below w.heap.size w w':=⟨h.os,h.tape,h.output,h.size,fun k hk=>h.same k hk id⟩
theorem aA.obj{S:Nat→Prop}{w w':World}(h:aA S w w'){g:Nat}{o:Obj}(hg:w.heap[g]?=some o)(hs:¬ S g):w'.heap[g]?=some o:=
 (h.same g (Sb.1 hg).1 hs).trans hg
def blk(ao:Option Addr):Nat→Prop:=fun k=>∃ a,ao=some a∧a.block=k
def Fr(B:Nat)(ao:Option Addr):Prop:=∀ a,ao=some a→B≤a.block
def Lt(B:Nat)(ao:Option Addr):Prop:=∀ a,ao=some a→a.block<B
def Ap(ao bo:Option Addr):Prop:=∀ a b,ao=some a→bo=some b→a.block≠b.block
theorem Rn{b:Option Addr}:Ap none b:=fun _ _ h=>by cases h
theorem Ro{b:Option Addr}:Ap b none:=fun _ _ _ h=>by cases h
theorem Ap.not{a b:Option Addr}(h:Ap a b):∀ x,a=some x→¬ blk b x.block:=fun x hx ⟨y,hy,e⟩=>h x y hx hy e.symm
theorem Rp{B:Nat}:Fr B none:=fun _ h=>by cases h
theorem Fr.mono{B B':Nat}{a:Option Addr}(h:Fr B a)(hB:B'≤B):Fr B' a:=fun x hx=>SM hB (h x hx)
theorem Fr.step{B:Nat}{a:Option Addr}(h:Fr B a){S:Nat→Prop}:∀ i,blk a i→S i∨B≤i:=fun i ⟨x,hx,e⟩=>.inr (by have:=h x hx;omega)
theorem xD(a:Addr)(n:Nat):(a.add n).block=a.block:=by unfold Addr.add;split<;>rfl
theorem lF(a:Addr)(n:Nat):(adr (some a) n).block=a.block:=xD a n
structure Vw {α:Type}(enc:α→Value)(H:Array Obj)(ao:Option Addr)(cap:Nat)(xs:List α):Prop where
 le:xs.length≤cap
 max:cap≤maxLen
 non:xs.length≠0→ao≠none
 get:∀ i x,xs[i]?=some x→aS H (adr ao i)=some (enc x)
def b8(x:UInt8):Value:=.int .u8 x.toNat
def i64(x:Int):Value:=.int .i64 x
section
variable {α:Type}{enc:α→Value}{H:Array Obj}{ao:Option Addr}{cap:Nat}{xs:List α}
theorem Vw.at(h:Vw enc H ao cap xs){i:Nat}(hi:i<xs.length):aS H (adr ao i)=some (enc xs[i]):=h.get i _ (R7 hi)
theorem Vw.gd(h:Vw enc H ao cap xs)(dflt:α){i:Nat}(hi:i<xs.length):aS H (adr ao i)=some (enc (xs.getD i dflt)):=by
 rw[h.at hi];simp[Sj,hi]
theorem Vw.gz(h:Vw enc H ao cap xs)(dflt:α)(i:Nat){z:Int}(hz:z=i)(hi:i<xs.length):aS H (adr ao z.toNat)=some (enc (xs.getD i dflt)):=by
 subst hz;exact h.gd dflt hi
theorem Vw.RX(h:Vw enc H ao cap xs):(xs.length:Int)≤9223372036854775807:=by have:=h.le;have:=h.max;unfold maxLen at this;omega
theorem Rq(c:Nat)(hc:c≤maxLen):Vw enc H ao c []:=⟨by simp,hc,by simp,by simp⟩
theorem Vw.lt(h:Vw enc H ao cap xs)(hne:xs≠[]):Lt H.size ao:=fun a ha=>by
 have hl:0<xs.length:=Sk.2 hne;have:=h.at hl;subst ha;unfold aS at this
 split at this
 ·rename_i hb;rw[lF] at hb;exact(Sb.1 hb).1
 ·cases this
theorem Vw.RZ{w w':World}{S:Nat→Prop}(h:Vw enc w.heap ao cap xs)(f:aA S w w')(hs:∀ a,ao=some a→¬ S a.block):Vw enc w'.heap ao cap xs:=by
 refine⟨h.le,h.max,h.non,fun i x hx=>?_⟩;have h1:=h.get i x hx;have hne:xs.length≠0:=by intro e;have:xs=[]:=SB e;subst this;simp at hx
 cases hao:ao with
|none=>exact absurd hao (h.non hne)
|some a=>
   rw[hao] at h1;rw[←h1];unfold aS;rw[lF,f.same a.block (h.lt (fun e=>hne (by simp[e])) a hao) (hs a hao)]
theorem Vw.RY{w w':World}(h:Vw enc w.heap ao cap xs)(f:aA nob w w'):Vw enc w'.heap ao cap xs:=h.RZ f (fun _ _=>id)
theorem Vw.take(h:Vw enc H ao cap xs)(n:Nat):Vw enc H ao cap (xs.take n):=
 ⟨by have:=h.le;simp;omega,h.max,fun hn=>h.non (fun e=>hn (by have:xs=[]:=SB e;simp[this])),fun i x hx=>h.get i x (by
  rw[SZ] at hx
  split at hx
  ·exact hx
  ·cases hx)⟩
end
theorem zG(a:Addr)(i j:Nat):(a.add i).add j=a.add (i+j):=by
 unfold Addr.add;by_cases hi:i=0
 ·simp[hi]
 · by_cases hj:j=0
   ·simp[hj]
   ·simp[hi,hj,Uw]
def aU(ao:Option Addr)(m l size:Nat):Option Addr:=if m=l then ao else ao.map (·.add (l*size))
section
variable {α:Type}{enc:α→Value}{H:Array Obj}{ao:Option Addr}{cap:Nat}{xs:List α}
theorem Vw.cut(v:Vw enc H ao cap xs){l h m:Nat}(hl:l≤h)(hh:h≤xs.length)(hm:h≤m)(hmc:m≤cap) :
 Vw enc H (aU ao m l 1) (m-l) ((xs.drop l).take (h-l)):=by
 refine⟨by simp;omega,by have:=v.max;omega,fun hne=>?_,fun i x hx=>?_⟩
 · have h0:xs.length≠0:=by simp at hne;omega
   have:=v.non h0;unfold aU
   split
   ·exact this
   ·cases ao<;>simp_all
 · have hi:i<h-l:=by
    have:=(R9.1 hx).1;simp at this;omega
   have hx':xs[l+i]?=some x:=by
    rw[SZ,R4 hi,List.getElem?_drop] at hx;exact hx
   have h1:=v.get (l+i) x hx';rw[←h1];unfold aU;rw[R3 (by omega)];cases ao with
  |none=>exact absurd rfl (v.non (by have:=(R9.1 hx').1;omega))
  |some a=>simp[adr,zG]
theorem bN(ao:Option Addr)(m s:Nat):aU ao m 0 s=ao:=by
 unfold aU;split
 ·rfl
 · cases ao with
  |none=>rfl
  |some a=>simp[Addr.add]
theorem jO{m l s k:Nat}(h:blk (aU ao m l s) k):blk ao k:=by
 obtain⟨a,ha,rfl⟩:=h;unfold aU at ha
 split at ha
 ·exact⟨a,ha,rfl⟩
 · cases ao with
  |none=>simp at ha
  |some b=>simp at ha;subst ha;exact⟨b,rfl,(xD _ _).symm⟩
end
def Own{α:Type}(enc:α→Value)(e:TypeId)(H:Array Obj)(ao:Option Addr)(cap:Nat)(xs:List α):Prop:=
 (ao=none∧cap=0∧xs=[]) ∨
 ∃ g cur,ao=some ⟨g,0,none⟩∧H[g]?=some (.cells cur e (0,0))∧xs.length≤cap∧cap≤maxLen∧cur.size=cap∧cur.toList.take xs.length=xs.map enc
section
variable {α:Type}{enc:α→Value}{e:TypeId}{H:Array Obj}{ao:Option Addr}{cap:Nat}{xs:List α}
theorem Rr:Own enc e H none 0 ([]:List α):=.inl ⟨rfl,rfl,rfl⟩
theorem Own.vw(h:Own enc e H ao cap xs):Vw enc H ao cap xs:=by
 rcases h with⟨rfl,rfl,rfl⟩|⟨g,cur,rfl,hg,h1,h2,h3,h4⟩
 ·exact Rq 0 (Sf _)
 · refine⟨h1,h2,fun _=>by simp,fun i x hx=>?_⟩
   have hi:i<xs.length:=(R9.1 hx).1;have hadd:(adr (some ⟨g,0,none⟩) i)=⟨g,i,none⟩:=by
    show (⟨g,0,none⟩:Addr).add i=_;rw[Addr.add_lit,S3]
   rw[hadd];simp only[aS,hg];have h5:(cur.toList.take xs.length)[i]?=some (enc x):=by rw[h4,SU,hx];rfl
   rw[SZ,R4 hi] at h5;simpa using h5
theorem Own.lt(h:Own enc e H ao cap xs):Lt H.size ao:=by
 intro a ha;rcases h with⟨rfl,_⟩|⟨g,cur,rfl,hg,_⟩
 ·cases ha
 ·cases ha;exact(Sb.1 hg).1
theorem Own.RZ{w w':World}{S:Nat→Prop}(h:Own enc e w.heap ao cap xs)(f:aA S w w')(hs:∀ a,ao=some a→¬ S a.block):Own enc e w'.heap ao cap xs:=by
 rcases h with h|⟨g,cur,rfl,hg,r⟩
 ·exact .inl h
 ·exact .inr ⟨g,cur,rfl,f.obj hg (hs _ rfl),r⟩
theorem Own.RY{w w':World}(h:Own enc e w.heap ao cap xs)(f:aA nob w w'):Own enc e w'.heap ao cap xs:=h.RZ f (fun _ _=>id)
end
theorem gP{P:Program}{w:World}{t ty e:TypeId}{i:TypeInfo}(ht:P.underlying t=some (.slice e))(hi:P.info? e=some i)
 {ao:Option Addr}{n cap:Nat}(hn:n≤cap){bo:Option Addr}{bcap:Nat} :
 (Builtin.append_ #[t,t] ty #[.slice ao n cap,.slice bo 0 bcap]).run P w=.ok (.slice ao n cap) w:=by
 cases ao<;>cases bo<;>simp[Builtin.append_,run_underlying ht,sizeOf,typeInfo,hi,Builtin.lenOf,Builtin.firstCells,hn,storeCells,loadCells,loadCellsFrom]
theorem qD{α:Type}{enc:α→Value}(henc:∀ x,(enc x).oneCell'=true){P:Program}{w:World}{t ty e:TypeId}{bytes:Nat}(ht:aN P t e 1 bytes)
 {ao:Option Addr}{cap:Nat}{xs:List α}(ho:Own enc e w.heap ao cap xs){bo:Option Addr}{bcap:Nat}{ys:List α}(hy:Vw enc w.heap bo bcap ys)
 (hb:(xs.length+ys.length)*bytes≤140737488355328)(hm:xs.length+ys.length≤maxLen) :
 ∃ ao' cap' w',(Builtin.append_ #[t,t] ty #[.slice ao xs.length cap,.slice bo ys.length bcap]).run P w=.ok (.slice ao' (xs.length+ys.length) cap') w' ∧
  Own enc e w'.heap ao' cap' (xs++ys)∧aA (blk ao) w w'∧(∀ a,ao'=some a→ao=some a∨w.heap.size≤a.block)∧(ao'=none→ao=none∧ys=[]):=by
 obtain⟨i,z,hi,h1,hz,h2,h3⟩:=ht.parts;have hnews1:∀ u∈ys.map enc,u.oneCell'=true:=by intro u hu;obtain⟨x,_,rfl⟩:=SN.1 hu;exact henc x
 have hsmall:xs.length+ys.length≤9223372036854775807:=by unfold maxLen at hm;omega
 by_cases hys:ys=[]
 · subst hys
   refine⟨ao,cap,w,?_,by simpa using ho,Rk _ _,fun a ha=>.inl ha,fun h=>⟨h,rfl⟩⟩;exact gP ht.und hi ho.vw.le
 · have hne:ys.length≠0:=fun e=>hys (SB e)
   obtain⟨b,rfl⟩:∃ b,bo=some b:=Ui.1 (hy.non hne);have hnews:∀ j u,(ys.map enc)[j]?=some u→w.cell? (b.add j)=some u:=by
    intro j u hu;rw[SU] at hu;obtain⟨x,hx,rfl⟩:=Sn.1 hu;exact hy.get j x hx
   have hl:(ys.map enc).length=ys.length*i.size:=by simp[h2]
   have big:∀ (old:Nat),old<xs.length+ys.length→Own enc e (w.drew.alloc (.cells ((xs.map enc).toArray++(ys.map enc).toArray++Builtin.zeroCells z.cells (grownCap w (xs.length+ys.length) old e-(xs.length+ys.length))) e)).heap
    (some ⟨w.heap.size,0,none⟩) (grownCap w (xs.length+ys.length) old e) (xs++ys):=by
    intro old _;have hge:=grownCap_ge w (xs.length+ys.length) old e;refine .inr ⟨w.heap.size,_,rfl,heap_alloc_new w.drew _,by simpa using hge,grownCap_le_maxLen w _ old e hm,?_,?_⟩
    ·simp only[Array.size_append,T3,SC,size_zeroCells,hz];omega
    · simp[List.take_append]
      exact So (by simp)
   have hfoot:∀ (old:Nat),aA (blk ao) w (w.drew.alloc (.cells ((xs.map enc).toArray++(ys.map enc).toArray++Builtin.zeroCells z.cells (grownCap w (xs.length+ys.length) old e-(xs.length+ys.length))) e)):=fun old=>Rm _ _ _;rcases ho with⟨rfl,rfl,rfl⟩|⟨g,cur,rfl,hg,g1,g2,g3,g4⟩
   · have hr:=run_append_nil (P:=P) w t ty e i z ht.und hi h1 b ys.length bcap (ys.map enc) hl hnews (by omega) (by simp at hsmall;omega) (by simp at hb;rw[h3];omega)
     have hB:=big 0 (by simp;omega);have hF:=hfoot 0;simp only[SL,S3,TC,S2,Array.empty_append] at hB hF ⊢;exact⟨_,_,_,hr,hB,hF,fun a ha=>.inr (by cases ha;exact Sa _),fun h=>by cases h⟩
   · have holds:∀ j v,(xs.map enc)[j]?=some v→w.cell? ((⟨g,0,none⟩:Addr).add j)=some v:=by
      intro j v hv;rw[SU] at hv;obtain⟨x,hx,rfl⟩:=Sn.1 hv;exact(Own.vw (.inr ⟨g,cur,rfl,hg,g1,g2,g3,g4⟩:Own enc e w.heap (some ⟨g,0,none⟩) cap xs)).get j x hx
     by_cases hroom:xs.length+ys.length≤cap
     · have hr:=run_append_room (P:=P) w t ty e i ht.und hi g xs.length cap cur hg b ys.length bcap (ys.map enc) hl hnews hnews1 hroom (by simp[h2,g3];omega)
       refine⟨_,_,_,hr,.inr ⟨g,_,rfl,setRow_heap w g cur _ e _ hg,by simpa using hroom,g2,?_,?_⟩,?_,fun a ha=>.inl ha,fun h=>by cases h⟩
       ·simp[h2,g3];omega
       · rw[h2,Nat.mul_one,g4];simp[List.take_append]
         exact So (by simp)
       ·exact⟨rfl,rfl,rfl,by simp[World.setRow],fun k hk hn=>setRow_other w g k _ (fun e=>hn ⟨_,rfl,e.symm⟩)⟩
     · have hr:=run_append_grow (P:=P) w t ty e i z ht.und hi h1 ⟨g,0,none⟩ xs.length cap (xs.map enc) (by simp[h2]) holds b ys.length bcap (ys.map enc) hl hnews (by omega) (by omega)
        (by rw[h3];exact growslice_fits (by omega) hb)
       exact⟨_,_,_,hr,big cap (by omega),hfoot cap,fun a ha=>.inr (by cases ha;exact Sa _),fun h=>by cases h⟩
def bs(xs:List UInt8):ByteArray:=⟨xs.toArray⟩
theorem fD(xs:List UInt8):(bs xs).toList=xs:=by rw[ByteArray.toList_eq];simp[bs]
theorem Hw{a b:List UInt8}(h:bs a=bs b):a=b:=by rw[←fD a,h,fD]
theorem gD(xs:List UInt8):(bs xs).size=xs.length:=by simp[bs,ByteArray.size]
def Ret(R:Value→World→Prop)(e:Ending)(w:World):Prop:=∃ v,e=.returned v∧R v w
def oX(l:SF):List Operand→Option (List Value)
|[]=>some []
|x::r=>match evL l x,oX l r with
  |some v,some vs=>some (v::vs)
  |_,_=>none
theorem bS.evs{N:Nt}{l:SF}{a:Act}(h:bS N l a):∀ {xs:List Operand} {vs:List Value},oX l xs=some vs→xs.map a.eval=vs
|[],vs,e=>by simp[oX] at e;simp[e]
|x::r,vs,e=>by
   unfold oX at e
   split at e
   · rename_i v us h1 h2
     cases e;simp[h.ev h1,h.evs h2]
   ·cases e
def eB(P:Program)(t:TypeId):Bool:=
 (match P.underlying t with|some (.struct _)|some (.array _ _)|none=>false|_=>true) && ((P.info? t).map (·.size) == some 1)
theorem CY{P:Program}{t:TypeId}(h:eB P t=true)(w:World):(isAgg t).run P w=.ok false w:=by
 simp only[eB,SA] at h;unfold isAgg;cases hu:P.underlying t with
|none=>simp[hu] at h
|some d=>rw[Sem.run_bind,run_underlying hu w];cases d<;>simp_all
theorem Fz{P:Program}{t:TypeId}(h:eB P t=true)(w:World):(sizeOf t).run P w=.ok 1 w:=by
 simp only[eB,SA,beq_iff_eq] at h;obtain⟨i,hi,h1⟩:=Sn.1 h.2;simp[sizeOf,typeInfo,hi,h1]
def KK(P:Program)(s f off:Nat):Bool:=
 match P.underlying s with
|some (.struct fs)=>match fs[f]? with
  |some fd=>fd.offset == off && (match (P.info? fd.type).map (·.size) with|some n=>n != 0|none=>false)
  |none=>false
|_=>false
def fnB (P:Program) (f:FuncId):Bool:=
 match P.funcs[f]? with
 | some fn => !(fn.name == "runtime.NumGoroutine") && fn.body.isSome
 | none=>false
theorem dH{P:Program}{f:FuncId}(h:fnB P f=true)(args:Array Value)(w:World):(callFunc f args).run P w=.ok (.enter f args) w:=by
 unfold fnB at h
 split at h
 · rename_i fn hf
   simp only[SA,Bool.not_eq_true'] at h;have hb:fn.body.isNone=false:=by cases hb:fn.body<;>simp_all
   unfold callFunc;rw[Sem.run_bind,run_program,Result.andThen_ok,hf];simp only[h.1,hb];rfl
 ·cases h
section
variable {P:Program}{N:Nt}{Q:Exit→Act→World→Prop}{l:SF}{w:World}{ops:Array Oper}{rest:List Oper}
variable {op:Op}{ty:TypeId}{pos:String}{aft:Array Edge}{d:Nat}{v:Value}{CH:Array Obj→Prop}
variable {x y:Operand}{t t':TypeId}{g:Option (Nat×Bool)}{dd:Option Nat}
theorem OY{w':World}(hr:∀ a,bS N l a→(execOp a.eval ⟨some d,op,ty,pos,aft,none⟩).run P w=.ok (.value v) w')(hd:SH d N.n=true)(h:Sl P N ops Q rest ((d,v)::l) w') :
 Sl P N ops Q (⟨some d,op,ty,pos,aft,none⟩::rest) l w:=fun a ha=>by
 unfold wpList;rw[R4 (by simp[Region.wanted])];refine .inl ?_;unfold Oper.wp;rw[hr a ha];exact h _ (ha.put hd v)
theorem Pk{w':World}(hr:∀ a,bS N l a→(execOp a.eval ⟨none,op,ty,pos,aft,none⟩).run P w=.ok .skip w')(h:Sl P N ops Q rest l w') :
 Sl P N ops Q (⟨none,op,ty,pos,aft,none⟩::rest) l w:=fun a ha=>by
 unfold wpList;rw[R4 (by simp[Region.wanted])];refine .inl ?_;unfold Oper.wp;rw[hr a ha];exact h _ ha
theorem Ag{f:FuncId}{xs:List Operand}{vs:List Value}{ts:Array TypeId}{a:Act}(hf:fnB P f=true)(ha:bS N l a)(hx:oX l xs=some vs) :
 (execOp a.eval ⟨dd,.call ⟨.value (.func f),xs.toArray,ts⟩,ty,pos,aft,g⟩).run P w=.ok (.enter f vs.toArray) w:=by
 simp[execOp,resolve,Act.eval,Deferred.ofValue,invoke,dH hf];rw[←ha.evs hx]
theorem Ot{f:FuncId}{xs:List Operand}{vs:List Value}{ts:Array TypeId}(hf:fnB P f=true)(hx:oX l xs=some vs){R:Value→World→Prop}(hc:Calls P f vs.toArray w (Ret R))(hd:SH d N.n=true)
 (h:∀ v w',R v w'→Sl P N ops Q rest ((d,v)::l) w') :
 Sl P N ops Q (⟨some d,.call ⟨.value (.func f),xs.toArray,ts⟩,ty,pos,aft,none⟩::rest) l w:=fun a ha=>by
 unfold wpList;rw[R4 (by simp[Region.wanted])];refine .inl ?_;unfold Oper.wp;rw[Ag hf ha hx];refine hc.mono ?_;rintro e w' ⟨v,rfl,hR⟩;exact h v w' hR _ (ha.put hd v)
theorem OC{f:FuncId}{xs:List Operand}{vs:List Value}{ts:Array TypeId}{j s:Nat}{b:Bool}(hj:(ops[j]?).bind (·.dst)=some s)(hs:lk l s=some (.bool b))(hf:fnB P f=true)(hx:oX l xs=some vs){R:Value→World→Prop}(hc:Calls P f vs.toArray w (Ret R))(hd:SH d N.n=true)
 (h:∀ v w',R v w'→Sl P N ops Q rest ((d,v)::l) w') :
 Sl P N ops Q (⟨some d,.call ⟨.value (.func f),xs.toArray,ts⟩,ty,pos,aft,some (j,b)⟩::rest) l w:=fun a ha=>by
 unfold wpList;rw[R4 (by simp[Region.wanted,eX ha hj hs])];refine .inl ?_;unfold Oper.wp;rw[Ag hf ha hx];refine hc.mono ?_;rintro e w' ⟨v,rfl,hR⟩;exact h v w' hR _ (ha.put hd v)
theorem OB{ad:Addr}(ht:eB P t=true)(hx:evL l x=some (.pointer (some ad)))(hc:∀ H,CH H→aS H ad=some v):Cm P N CH l ⟨dd,.load t x,ty,pos,aft,g⟩ v:=fun a w ha hw=>by
 have:=hc _ hw;simp[execOp,ha.ev hx,Instr.loadAt,Instr.sureAddr,loadVar,CY ht,cell?_eq,this]
theorem Ow{H:Array Obj}{ad:Addr}(ht:eB P t=true)(hx:evL l x=some (.pointer (some ad)))(hc:aS H ad=some v):Cm P N (· = H) l ⟨dd,.load t x,ty,pos,aft,g⟩ v:=
 OB ht hx (fun _ e=>by rw[e];exact hc)
theorem OO{ad:Addr}{s f off:Nat}(hs:KK P s f off=true)(hx:evL l x=some (.pointer (some ad))):Cm P N CH l ⟨dd,.fieldAddr s x f,ty,pos,aft,g⟩ (.pointer (some (ad.add off))):=fun a w ha _=>by
 unfold KK at hs
 split at hs
 · rename_i fs hu
   split at hs
   · rename_i fd hf
     simp only[SA,beq_iff_eq] at hs;obtain⟨h1,h2⟩:=hs
     split at h2
     · rename_i n hn
       obtain⟨i,hi,h3⟩:=Sn.1 hn;have h4:i.size≠0:=by rw[h3];simpa using h2
       simp[execOp,ha.ev hx,Instr.fieldAt,run_underlying hu,hf,Instr.sureAddr,fieldPlace,sizeOf,typeInfo,hi,h4,h1]
     ·cases h2
   ·cases hs
 ·cases hs
theorem bA(k:IntKind){i:Int}{y:Nat}{code:BoundsCode}(w:World)(h:0≤i∧i≤y):(Instr.sliceBound (.int k i) y code).run P w=.ok i.toNat w:=by
 simp[Instr.sliceBound,asIntOf,h]
theorem O7{e:TypeId}{size bytes:Nat}(ht:aN P t e size bytes){ao:Option Addr}{len cap:Nat}{kl:IntKind}{n:Int}{lo:Operand}(hx:evL l x=some (.slice ao len cap))(hl:evL l lo=some (.int kl n))
 (hn:0≤n∧n≤len):Cm P N CH l ⟨dd,.slice t x (some lo) none none,ty,pos,aft,g⟩ (.slice (aU ao cap n.toNat size) (len-n.toNat) (cap-n.toNat)):=fun a w ha _=>by
 simp[execOp,ha.ev hx,ha.ev hl,Instr.sliceAt,Instr.slice,run_underlying ht.und,Instr.sliceBounds,bA _ _ hn,ht.size,aU]
theorem OV{e:TypeId}{size bytes:Nat}(ht:aN P t e size bytes){ao:Option Addr}{len cap:Nat}{kh:IntKind}{n:Int}{hi:Operand}(hx:evL l x=some (.slice ao len cap))(hh:evL l hi=some (.int kh n))
 (hn:0≤n∧n≤cap):Cm P N CH l ⟨dd,.slice t x none (some hi) none,ty,pos,aft,g⟩ (.slice (aU ao cap 0 size) n.toNat cap):=fun a w ha _=>by
 simp[execOp,ha.ev hx,ha.ev hh,Instr.sliceAt,Instr.slice,run_underlying ht.und,Instr.sliceBounds,bA _ _ hn,ht.size,aU]
theorem Qf{e:TypeId}{size bytes:Nat}(ht:aN P t e size bytes){ao:Option Addr}{len cap:Nat}{kl kh:IntKind}{m n:Int}{lo hi:Operand}(hx:evL l x=some (.slice ao len cap))(hl:evL l lo=some (.int kl m))(hh:evL l hi=some (.int kh n))
 (hm:0≤m∧m≤n)(hn:n≤cap):Cm P N CH l ⟨dd,.slice t x (some lo) (some hi) none,ty,pos,aft,g⟩ (.slice (aU ao cap m.toNat size) (n.toNat-m.toNat) (cap-m.toNat)):=fun a w ha _=>by
 have h1:0≤n∧n≤(cap:Int):=⟨by omega,hn⟩
 have h2:0≤m∧m≤(n.toNat:Int):=⟨hm.1,by omega⟩
 simp only[execOp,ha.ev hx,ha.ev hl,ha.ev hh,Instr.sliceAt,Instr.slice,run_underlying ht.und,Instr.sliceBounds,map_some,Option.map_none,Sem.run_bind,Result.andThen_ok,Sem.run_pure,
  bA _ _ h1,bA _ _ h2,ht.size,aU]
theorem Pr{e:TypeId}{size bytes:Nat}(ht:aN P t e size bytes){ao:Option Addr}{len cap:Nat}{kl kh km:IntKind}{m n q:Int}{lo hi mx:Operand}(hx:evL l x=some (.slice ao len cap))(hl:evL l lo=some (.int kl m))(hh:evL l hi=some (.int kh n))(hq:evL l mx=some (.int km q))
 (hm:0≤m∧m≤n)(hn:n≤q)(hqc:q≤cap):Cm P N CH l ⟨dd,.slice t x (some lo) (some hi) (some mx),ty,pos,aft,g⟩ (.slice (aU ao q.toNat m.toNat size) (n.toNat-m.toNat) (q.toNat-m.toNat)):=fun a w ha _=>by
 have h0:0≤q∧q≤(cap:Int):=⟨by omega,hqc⟩
 have h1:0≤n∧n≤(q.toNat:Int):=⟨by omega,by omega⟩
 have h2:0≤m∧m≤(n.toNat:Int):=⟨hm.1,by omega⟩
 simp only[execOp,ha.ev hx,ha.ev hl,ha.ev hh,ha.ev hq,Instr.sliceAt,Instr.slice,run_underlying ht.und,Instr.sliceBounds,map_some,Sem.run_bind,Result.andThen_ok,Sem.run_pure,
  bA _ _ h0,bA _ _ h1,bA _ _ h2,ht.size,aU]
theorem PI{e:TypeId}{size bytes:Nat}(ht:aN P t e size bytes)(he:P.underlying e=some (.int .u8))(hd:P.underlying t'=some .string){ao:Option Addr}{cap:Nat}{xs:List UInt8}(hx:evL l x=some (.slice ao xs.length cap))(hv:∀ H,CH H→Vw b8 H ao cap xs) :
 Cm P N CH l ⟨dd,.convert t t' x,ty,pos,aft,g⟩ (.string (bs xs)):=fun a w ha hw=>by
 have hv:=hv _ hw;simp only[execOp,ha.ev hx,Sem.run_bind];cases hao:ao with
|none=>
   have hn:xs=[]:=by
    rcases Uj xs.length with h0|h0
    ·exact SB h0
    ·exact absurd hao (hv.non (by omega))
   subst hn;rw[run_convert_bytes_nil w t e ht.und he _ _ t' hd];rfl
|some b=>
   have hl:(loadCells b xs.length).run P w=.ok ((xs.map fun u=>((u.toNat:Int))).map (Value.int .u8)).toArray w:=by
    have:=run_loadCells_list (P:=P) w b (xs.map b8) (fun j u hj=>by
     rw[SU] at hj;obtain⟨q,hq,rfl⟩:=Sn.1 hj;have:=hv.get j q hq;rw[hao] at this;exact this)
    rw[SC] at this;rw[this,TQ];rfl
   rw[run_convert_bytes_string w t t' e _ xs.length cap ht.und he hd,run_bytesToString w b xs.length cap _ hl,foldl_push_bytes];simp[bs,ByteArray.empty,ByteArray.emptyWithCapacity,Function.comp_def];rfl
theorem Pw{H:Array Obj}{e:TypeId}{size bytes:Nat}(ht:aN P t e size bytes)(he:P.underlying e=some (.int .u8))(hd:P.underlying t'=some .string){ao:Option Addr}{cap:Nat}{xs:List UInt8}(hx:evL l x=some (.slice ao xs.length cap))(hv:Vw b8 H ao cap xs) :
 Cm P N (· = H) l ⟨dd,.convert t t' x,ty,pos,aft,g⟩ (.string (bs xs)):=PI ht he hd hx (fun _ e=>by rw[e];exact hv)
theorem Q3{a b:ByteArray}(hx:evL l x=some (.string a))(hy:evL l y=some (.string b)):Cm P N CH l ⟨dd,.binOp .eql t x y t',ty,pos,aft,g⟩ (.bool (decide (a.toList=b.toList))):=fun c w ha _=>by
 simp[execOp,ha.ev hx,ha.ev hy,eqGuard,binOp,Ur];by_cases h:a.toList=b.toList<;>simp[h]
theorem Q4{a b:ByteArray}(hx:evL l x=some (.string a))(hy:evL l y=some (.string b)):Cm P N CH l ⟨dd,.binOp .neq t x y t',ty,pos,aft,g⟩ (.bool (decide (a.toList≠b.toList))):=fun c w ha _=>by
 simp[execOp,ha.ev hx,ha.ev hy,eqGuard,binOp,Ur];by_cases h:a.toList=b.toList<;>simp[h]
theorem Pf{a b:List UInt8}(hx:evL l x=some (.string (bs a)))(hy:evL l y=some (.string (bs b))):Cm P N CH l ⟨dd,.binOp .eql t x y t',ty,pos,aft,g⟩ (.bool (decide (a=b))):=by
 have:=@Q3 P N l ty pos aft CH x y t t' g dd (bs a) (bs b) hx hy;simpa only[fD] using this
theorem Px{a b:List UInt8}(hx:evL l x=some (.string (bs a)))(hy:evL l y=some (.string (bs b))):Cm P N CH l ⟨dd,.binOp .neq t x y t',ty,pos,aft,g⟩ (.bool (decide (a≠b))):=by
 have:=@Q4 P N l ty pos aft CH x y t t' g dd (bs a) (bs b) hx hy;simpa only[fD] using this
theorem OJ{α:Type}{enc:α→Value}(henc:∀ x,(enc x).oneCell'=true){e:TypeId}{bytes:Nat}(ht:aN P t e 1 bytes)
 {ao bo:Option Addr}{cap bcap:Nat}{xs ys:List α}(hx:evL l x=some (.slice ao xs.length cap))(hy:evL l y=some (.slice bo ys.length bcap))
 (ho:Own enc e w.heap ao cap xs)(hv:Vw enc w.heap bo bcap ys)
 (hb:(xs.length+ys.length)*bytes≤140737488355328)(hm:xs.length+ys.length≤maxLen)(hd:SH d N.n=true)
 (h:∀ ao' cap' w',Own enc e w'.heap ao' cap' (xs++ys)→aA (blk ao) w w'→(∀ a,ao'=some a→ao=some a∨w.heap.size≤a.block)→(ao'=none→ao=none∧ys=[]) →
   Sl P N ops Q rest ((d,.slice ao' (xs++ys).length cap')::l) w') :
 Sl P N ops Q (⟨some d,.call ⟨.builtin .append,#[x,y],#[t,t]⟩,ty,pos,aft,none⟩::rest) l w:=by
 obtain⟨ao',cap',w',hr,h1,h2,h3,h4⟩:=qD henc (ty:=ty) ht ho hv hb hm;refine OY (w':=w') (v:=.slice ao' (xs++ys).length cap') (fun a ha=>?_) hd (h ao' cap' w' h1 h2 h3 h4);simp[execOp,ha.ev hx,ha.ev hy,resolve,invoke,builtin,hr]
theorem OR{T:TypeId}(hx:evL l x=some v)(hd:SH d N.n=true)
 (h:∀ w',w'.heap[w.heap.size]?=some (.cells v.cells T (0,0))→w'.heap.size=w.heap.size+1→aA nob w w'→Sl P N ops Q rest ((d,.pointer (some ⟨w.heap.size,0,none⟩))::l) w') :
 Sl P N ops Q (⟨some d,.box T x,ty,pos,aft,none⟩::rest) l w:=by
 refine OY (w':=w.alloc (.cells v.cells T)) (fun a ha=>?_) hd (h _ (heap_alloc_new w _) (by simp) (aA.alloc _ _ _));simp[execOp,ha.ev hx,Instr.box,newVar,newRow]
theorem iH{α:Type}{enc:α→Value}{e:TypeId}{H:Array Obj}{g:Nat}{xs:List α}(hg:H[g]?=some (.cells (xs.map enc).toArray e (0,0)))(hm:xs.length≤maxLen):Own enc e H (some ⟨g,0,none⟩) xs.length xs:=
 .inr ⟨g,_,rfl,hg,Sa _,hm,by simp,by simp;exact So (by simp)⟩
theorem sD{f:Nat→Value}:(Array.range 0).map f=#[]:=by apply Array.ext';simp
theorem BL{f:Nat→Value}{u:Value}:((Array.range 1).map f).setIfInBounds 0 u=#[u]:=by apply Array.ext';simp[TV]
theorem BK{f:Nat→Value}{u u':Value}:(((Array.range 2).map f).setIfInBounds 0 u).setIfInBounds 1 u'=#[u,u']:=by apply Array.ext';simp[TV]
theorem Py{α:Type}(enc:α→Value){e:TypeId}{bytes:Nat}(ht:aN P t e 1 bytes)(hd:SH d N.n=true)
 (h:∀ w',Own enc e w'.heap (some ⟨w.heap.size,0,none⟩) 0 ([]:List α)→w'.heap.size=w.heap.size+1→aA nob w w'→Sl P N ops Q rest ((d,.slice (some ⟨w.heap.size,0,none⟩) 0 0)::l) w') :
 Sl P N ops Q (⟨some d,.buildSlice t 0 #[],ty,pos,aft,none⟩::rest) l w:=by
 refine OY (w':=w.alloc (.cells #[] e)) (fun a ha=>?_) hd (h _ (iH (xs:=[]) (heap_alloc_new w _) (Sf _)) (by simp) (aA.alloc _ _ _));simp[execOp,Instr.buildSlice,run_underlying ht.und,ht.size,Instr.fill,newRow];rw[sD]
theorem Pd{α:Type}{enc:α→Value}{e:TypeId}{bytes:Nat}(ht:aN P t e 1 bytes){u:α}(hu:(enc u).oneCell'=true)(hx:evL l x=some (enc u))(hd:SH d N.n=true)
 (h:∀ w',Own enc e w'.heap (some ⟨w.heap.size,0,none⟩) 1 [u]→w'.heap.size=w.heap.size+1→aA nob w w'→Sl P N ops Q rest ((d,.slice (some ⟨w.heap.size,0,none⟩) 1 1)::l) w') :
 Sl P N ops Q (⟨some d,.buildSlice t 1 #[(0,x)],ty,pos,aft,none⟩::rest) l w:=by
 obtain⟨i,z,hi,h1,hz,h2,h3⟩:=ht.parts;have hc:(enc u).cells=#[enc u]:=by cases he:enc u<;>simp_all [Value.cells,Value.oneCell']
 refine OY (w':=w.alloc (.cells #[enc u] e)) (fun a ha=>?_) hd (h _ (iH (xs:=[u]) (heap_alloc_new w _) (by simp[maxLen])) (by simp) (aA.alloc _ _ _));simp[execOp,Instr.buildSlice,run_underlying ht.und,ht.size,zeroValue,typeInfo,hi,h1,Instr.fill,ha.ev hx,hc,newRow];rw[BL]
theorem Qo{α:Type}{enc:α→Value}{e:TypeId}{bytes:Nat}(ht:aN P t e 1 bytes){u u':α}(hu:∀ x,(enc x).oneCell'=true)(hx:evL l x=some (enc u))(hy:evL l y=some (enc u'))(hd:SH d N.n=true)
 (h:∀ w',Own enc e w'.heap (some ⟨w.heap.size,0,none⟩) 2 [u,u']→w'.heap.size=w.heap.size+1→aA nob w w'→Sl P N ops Q rest ((d,.slice (some ⟨w.heap.size,0,none⟩) 2 2)::l) w') :
 Sl P N ops Q (⟨some d,.buildSlice t 2 #[(0,x),(1,y)],ty,pos,aft,none⟩::rest) l w:=by
 obtain⟨i,z,hi,h1,hz,h2,h3⟩:=ht.parts;have hc:∀ u,(enc u).cells=#[enc u]:=fun u=>by have:=hu u;cases he:enc u<;>simp_all [Value.cells,Value.oneCell']
 refine OY (w':=w.alloc (.cells #[enc u,enc u'] e)) (fun a ha=>?_) hd (h _ (iH (xs:=[u,u']) (heap_alloc_new w _) (by simp[maxLen])) (by simp) (aA.alloc _ _ _));simp[execOp,Instr.buildSlice,run_underlying ht.und,ht.size,zeroValue,typeInfo,hi,h1,Instr.fill,ha.ev hx,ha.ev hy,hc,newRow];rw[BK]
theorem OF{b o:Nat}{cur:List Value}{T:TypeId}(ht:eB P t=true)(hx:evL l x=some (.pointer (some ⟨b,o,none⟩)))(hy:evL l y=some v)(h1:v.oneCell'=true)
 (hg:w.heap[b]?=some (.cells cur.toArray T (0,0)))(ho:SH o cur.length=true)
 (h:∀ w',w'.heap[b]?=some (.cells (cur.set o v).toArray T (0,0))→w'.heap.size=w.heap.size→aA (· = b) w w'→Sl P N ops Q rest l w') :
 Sl P N ops Q (⟨none,.store t x y,ty,pos,aft,none⟩::rest) l w:=by
 have ho':o<cur.length:=by simpa[Tp] using ho
 have hb:=(Sb.1 hg)
 have hc:v.cells=#[v]:=by cases v<;>simp_all [Value.cells,Value.oneCell']
 have hcell:w.cell? ((⟨b,o,none⟩:Addr).add 0)=some cur[o]:=by simp[Addr.add,World.cell?,hg,ho']
 have hfro:w.frozen? ((⟨b,o,none⟩:Addr).add 0)=false:=by simp[Addr.add,World.frozen?,hg]
 refine Pk (w':=w.setCell ⟨b,o,none⟩ v) (fun a ha=>?_) (h _ ?_ ?_ ?_)
 · simp[execOp,ha.ev hx,ha.ev hy,Instr.storeAt,Instr.sureAddr,storeVar,Fz ht,hc,storeCells,run_store P w _ v _ h1,hcell,hfro]
   simp[Addr.add]
 ·simp[World.setCell,TM,hg]
 ·simp[World.setCell]
 ·exact⟨rfl,rfl,rfl,by simp[World.setCell],fun k hk hn=>Below.heap_setCell _ _ _ _ hn⟩
end
section
variable {P:Program}{ops:Array Oper}{md:Region.Mode}{CH:Array Obj→Prop}
def YC(P:Program)(ops:Array Oper)(CH:Array Obj→Prop)(o:Oper)(v:Value)(a:Act):Prop:=
 (Region.wanted o (yielded ops a.tmps)=true∧∀ w,CH w.heap→(execOp a.eval o).run P w=.ok (.value v) w) ∨
 (Region.wanted o (yielded ops a.tmps)=false∧v=undef)
theorem YC.of_same{o:Oper}{v:Value}{a a':Act}(hy:YC P ops CH o v a)(he:execOp a'.eval o=execOp a.eval o)
 (hw:Region.wanted o (yielded ops a'.tmps)=Region.wanted o (yielded ops a.tmps)):YC P ops CH o v a':=by
 unfold YC at *;rw[he,hw];exact hy
def kL(K:Act→World→Prop):Exit→Act→World→Prop
|.normal,a,w=>K a w
|_,_,_=>False
theorem YC.wpOp{i:Nat}{o:Oper}{v:Value}{a:Act}{Q:Exit→Act→World→Prop}(hi:ops[i]?=some o)(hy:YC P ops CH o v a)
 {K:Act→World→Prop}{w:World}(hc:CH w.heap)(h:K (a.put o.dst v) w):wpOp P ops Q i K a w:=by
 unfold Go.wpOp;simp only[hi];rcases hy with⟨hw,hv⟩|⟨hw,rfl⟩
 ·simp only[hw,if_true,Oper.wp,hv w hc,Oper.upon];exact .inl h
 ·simp only[hw,Bool.false_eq_true,if_false];exact h
theorem oF{K0:Act→World→Prop}{j:Nat}{oi oj:Oper}{v:Value}(hj:ops[j]?=some oj)(hap:oi.apart ops oj=true)
 (hsi:∀ cs b,oi.op≠.select cs b)(hsj:∀ cs b,oj.op≠.select cs b){K:Act→World→Prop}{a:Act}{w:World}
 (hy:YC P ops CH oi v a)(h:wpOp P ops (kL K0) j K (a.put oi.dst v) w) :
 wpOp P ops (kL K0) j (fun a' w'=>YC P ops CH oi v a'∧K (a'.put oi.dst v) w') a w:=by
 obtain⟨h1,h2,h3⟩:=Oper.apart_spec hap;have keep:∀ (a:Act),YC P ops CH oi v a→∀ u,YC P ops CH oi v (a.put oj.dst u):=fun a hy u=>
  hy.of_same (execOp_put oi hsi a oj.dst u h3) (wanted_put oi a oj.dst u h3)
 have keepD:∀ d,YC P ops CH oi v { a with defers:=d::a.defers }:=fun d=>hy.of_same rfl rfl;unfold wpOp at *;simp only[hj] at *;rw[wanted_put oj a oi.dst v h1] at h
 split
 · rename_i hw
   simp only[hw,if_true] at h;rcases h with h|⟨hasks,hlets⟩
   case inr=>exact .inr ⟨by unfold Oper.asks at *;rw[execOp_put oj hsj a oi.dst v h1] at hasks;exact hasks,hlets⟩
   refine .inl ?_;unfold Oper.wp at *;rw[execOp_put oj hsj a oi.dst v h1] at h;generalize (execOp a.eval oj).run P w=r at *;cases r with
  |ok n w'=>
     cases n<;>simp only[Oper.upon] at h ⊢
     case value u=>exact⟨keep a hy u,by rw[←Act.put_comm a v u h2];exact h⟩
     case skip=>exact⟨keep a hy _,by rw[←Act.put_comm a v undef h2];exact h⟩
     case defer d=>
      refine⟨keep _ (keepD d) _,?_⟩;rw[←Act.put_comm _ v undef h2,←Act.put_defers];exact h
     case enter f args=>
      refine Calls.mono h fun e w'' he=>?_;cases e with
     |returned u=>exact⟨keep a hy u,by rw[←Act.put_comm a v u h2];exact he⟩
     |panicked c=>exact he
     |outgrown=>exact he
     case row row args=>exact Rows.mono h fun u w'' he=>⟨keep a hy u,by rw[←Act.put_comm a v u h2];exact he⟩
  |halt x w'=>
     cases x<;>simp only[Oper.upon] at h ⊢
     case panic u=>exact h
 · rename_i hw
   simp only[hw] at h;exact⟨keep a hy _,by rw[←Act.put_comm a v undef h2];exact h⟩
def bF(P:Program)(md:Region.Mode)(ops:Array Oper)(n:Nat)(CH:Array Obj→Prop)(K0:Act→World→Prop):Nat→Array Bool→Act→World→Prop
|0,listed,a,w=>(listed.getD n false=false→CH w.heap)∧Region.ready md ops listed=[]∧K0 a w
|fuel+1,listed,a,w=>(listed.getD n false=false→CH w.heap) ∧
   (Region.ready md ops listed=[]→K0 a w) ∧
   ∀ i∈Region.ready md ops listed,wpOp P ops (kL K0) i (bF P md ops n CH K0 fuel (listed.setIfInBounds i true)) a w
theorem bF.ch{n:Nat}{K0:Act→World→Prop}:∀ {fuel:Nat} {listed:Array Bool} {a:Act} {w:World},bF P md ops n CH K0 fuel listed a w→listed.getD n false=false→CH w.heap
|0,_,_,_,h=>h.1
|_+1,_,_,_,h=>h.1
theorem bF.any{n:Nat}{K0:Act→World→Prop}:∀ {fuel:Nat} {listed:Array Bool} {a:Act} {w:World},bF P md ops n CH K0 fuel listed a w→wpAny P md ops (kL K0) fuel listed a w
|0,_,_,_,h=>h.2
|_+1,_,_,_,h=>⟨h.2.1,fun i hi=>wpOp_mono (fun _ _ h'=>bF.any h') (h.2.2 i hi)⟩
def AU(ops:Array Oper)(n:Nat):Bool:=Nat.ble ops.size n || (Region.sinkB .any ops n && Region.chainB .any ops n)
theorem EB{n:Nat}{listed:Array Bool}(hf:AU ops n=true)(inv:HeadInv .any ops n listed){i j:Nat}(hi:i<n)(hun:listed.getD i true=false)(hj:j∈Region.ready .any ops listed):j<n:=by
 have hjs:j<ops.size:=by
  obtain⟨_,o,ho,_⟩:=mem_ready.1 hj;exact(Sb.1 ho).1
 simp only[AU,Tr,SA,Uk] at hf;rcases TI n ops.size with hn|hn
 · rcases hf with hf|hf
   ·omega
   · rcases TI j n with h|h
     ·exact h
     ·exact absurd hj (tail_waits hf.1 hf.2 hn inv _ i rfl hi hun j h)
 ·omega
theorem uR{n:Nat}{listed:Array Bool}(hf:AU ops n=true)(inv:HeadInv .any ops n listed){j:Nat}(hj:j∈Region.ready .any ops listed)(h:n<j):False:=by
 obtain⟨_,o,ho,hall⟩:=mem_ready.1 hj;have hjs:j<ops.size:=(Sb.1 ho).1;simp only[AU,Tr,SA,Uk] at hf;rcases hf with hf|hf
 ·omega
 · have h1:=List.all_eq_true.1 hf.2 j (Uo.2 hjs)
   simp only[Tr,decide_eq_true_eq] at h1;rcases h1 with h1|h1
   ·omega
   · obtain⟨o',ho',e,he,hb,hon⟩:=Region.waitsFor_spec h1
     have:o'=o:=Option.some.inj (ho'.symm.trans ho);subst this;have h2:=hall e he hb;rw[hon,getD_both (inv.tail (j-1) (by omega) (by omega))] at h2;cases h2
theorem uQ{n:Nat}{listed:Array Bool}(inv:HeadInv .any ops n listed):listed.getD n false=false:=by
 rcases TI n ops.size with h|h
 ·exact getD_both (inv.tail n (Sa _) h)
 · have:listed.size≤n:=by rw[inv.size];exact h
   simp[T7 this]
theorem xJ{n:Nat}{K0:Act→World→Prop}{i:Nat}{oi:Oper}{v:Value}(hi:ops[i]?=some oi)(hsel:∀ (j:Nat) (o:Oper) cs b,ops[j]?=some o→o.op≠.select cs b)(hf:AU ops n=true)(hin:i<n) :
 ∀ (fuel:Nat) (listed:Array Bool) (a:Act) (w:World),HeadInv .any ops n listed→CH w.heap →
  (∀ j oj,ops[j]?=some oj→j≠i→listed.getD j true=false→(∀ e∈oj.after,Region.binds .any e=true→e.on≠i)→oi.apart ops oj=true) →
  i∈Region.ready .any ops listed→YC P ops CH oi v a →
  bF P .any ops n CH K0 fuel (listed.setIfInBounds i true) (a.put oi.dst v) w→bF P .any ops n CH K0 (fuel+1) listed a w:=by
 intro fuel
 induction fuel with
|zero=>
   intro listed a w _ hc _ hr hy H;refine⟨fun _=>hc,fun h=>(by rw[h] at hr;cases hr),fun j hj=>?_⟩;by_cases hji:j=i
   ·subst hji;exact hy.wpOp hi hc H
   · have:=ready_mono hj hji
     rw[H.2.1] at this;cases this
|succ fuel ih=>
   intro listed a w inv hc hfree hr hy H;refine⟨fun _=>hc,fun h=>(by rw[h] at hr;cases hr),fun j hj=>?_⟩;by_cases hji:j=i
   ·subst hji;exact hy.wpOp hi hc H
   · have h1:=H.2.2 j (ready_mono hj hji)
     obtain⟨hjun,oj,hoj,hall⟩:=mem_ready.1 hj;have hjn:j<n:=EB hf inv hin (mem_ready.1 hr).1 hj;have inv':=inv.set hj hjn;have hnot:∀ e∈oj.after,Region.binds .any e=true→e.on≠i:=fun e he hb heq=>by
      have h1:=hall e he hb;have h0:=(mem_ready.1 hr).1;rw[heq] at h1;rcases TI i listed.size with h'|h'
      ·simp[h'] at h0 h1;rw[h0] at h1;cases h1
      ·simp[T7 h'] at h1
     have h2:=oF hoj (hfree j oj hoj hji hjun hnot) (fun cs b=>hsel i oi cs b hi) (fun cs b=>hsel j oj cs b hoj) hy h1;have hfree':∀ k ok,ops[k]?=some ok→k≠i→(listed.setIfInBounds j true).getD k true=false →
      (∀ e∈ok.after,Region.binds .any e=true→e.on≠i)→oi.apart ops ok=true:=fun k ok hk hki hun hno=>by
      refine hfree k ok hk hki ?_ hno;by_cases hjk:j=k
      ·subst hjk;exact hjun
      ·rw[getD_set_ne true hjk] at hun;exact hun
     have hstill:((listed.setIfInBounds i true).setIfInBounds j true).getD n false=false:=by
      rw[getD_set_ne false (by omega),getD_set_ne false (by omega)];exact uQ inv
     refine wpOp_mono (fun a' w' h3=>ih (listed.setIfInBounds j true) a' w' inv' (h3.2.ch hstill) hfree' (ready_mono hr (Ne.symm hji)) h3.1 ?_) h2;rw[Array.setIfInBounds_comm _ _ hji];exact h3.2
def vS(ops:Array Oper)(n:Nat)(effs:List Nat):List Nat→Array Bool→Bool
|[],listed=>(Region.ready .any ops listed).isEmpty
|i::r,listed=>
   (bif effs.contains i then (match Region.ready .any ops listed with|[j]=>Tt j i|_=>false) && (SH i n || r.isEmpty) else ((Region.ready .any ops listed).contains i && Region.free .any ops listed i && SH i n)) &&
   vS ops n effs r (listed.setIfInBounds i true)
def Sx(P:Program)(N:Nt)(ops:Array Oper)(n:Nat):(Array Obj→Prop)→List Nat→(Act→World→Prop)→List Nat→SF→World→Prop
|_,_,K0,[],l,w=>∀ a,bS N l a→K0 a w
|CH,effs,K0,i::r,l,w=>∃ o,ops[i]?=some o ∧
   (bif effs.contains i then Sl P N ops (kL fun a w=>∃ l',bS N l' a∧∃ CH':Array Obj→Prop,(∀ H,CH' H→CH H)∧(SH i n=true→CH' w.heap)∧Sx P N ops n CH' effs K0 r l' w) [o] l w
    else ∃ v,(∀ a,bS N l a→YC P ops CH o v a)∧∃ l',(∀ a,bS N l a→bS N l' (a.put o.dst v))∧Sx P N ops n CH effs K0 r l' w)
theorem bF.mono{n:Nat}{K0:Act→World→Prop}{CH CH':Array Obj→Prop}(hs:∀ H,CH' H→CH H):∀ {fuel:Nat} {listed:Array Bool} {a:Act} {w:World},bF P md ops n CH' K0 fuel listed a w→bF P md ops n CH K0 fuel listed a w
|0,_,_,_,h=>⟨fun h0=>hs _ (h.1 h0),h.2⟩
|_+1,_,_,_,h=>⟨fun h0=>hs _ (h.1 h0),h.2.1,fun i hi=>wpOp_mono (fun _ _ h'=>bF.mono hs h') (h.2.2 i hi)⟩
theorem Rs{o:Oper}{a:Act}{w:World}{K K':Act→World→Prop}{M M':Act→World→Prop}(h:∀ a w,K a w→K' a w)(hh:o.wp P a w K (kL M)):o.wp P a w K' (kL M'):=by
 unfold Oper.wp at *;generalize (execOp a.eval o).run P w=r at *;cases r with
|ok n w'=>
   cases n<;>simp only[Oper.upon] at hh ⊢ <;>
    first
    |exact h _ _ hh
    |exact Calls.mono hh (fun e w'' he=>by cases e<;>first|exact h _ _ he|exact he.elim|(obtain⟨_,_,hf⟩:=he;exact hf.elim))
    |exact Rows.mono hh (fun _ _ he=>h _ _ he)
|halt x w'=>cases x<;>simp only[Oper.upon] at hh ⊢;exact hh.elim
theorem rS{N:Nt}{n:Nat}{effs:List Nat}{K0:Act→World→Prop}(hsel:Region.noSelect ops=true)(hfin:AU ops n=true):∀ (ord:List Nat) (CH:Array Obj→Prop) (fuel:Nat) (listed:Array Bool) (l:SF) (a:Act) (w:World),ord.length≤fuel→vS ops n effs ord listed=true →
 bS N l a→(HeadInv .any ops n listed∧CH w.heap)∨(ord=[]∧listed.getD n false=true)→Sx P N ops n CH effs K0 ord l w→bF P .any ops n CH K0 fuel listed a w
|[],CH,fuel,listed,l,a,w,_,hm,ha,hc,h=>by
   have hr:Region.ready .any ops listed=[]:=by simpa[vS] using hm
   have hch:listed.getD n false=false→CH w.heap:=fun h0=>by
    rcases hc with hc|hc
    ·exact hc.2
    ·rw[hc.2] at h0;cases h0
   cases fuel with
  |zero=>exact⟨hch,hr,h a ha⟩
  |succ f=>exact⟨hch,fun _=>h a ha,by rw[hr];simp⟩
|i::r,CH,0,listed,l,a,w,hf,hm,ha,hc,h=>by simp at hf
|i::r,CH,f+1,listed,l,a,w,hf,hm,ha,hc,h=>by
   obtain⟨inv,hc⟩:=hc.resolve_right (fun hc=>by cases hc.1);obtain⟨o,ho,h⟩:=h;simp only[vS,SA] at hm;obtain⟨hm1,hm2⟩:=hm;cases he:effs.contains i with
  |true=>
     rw[he] at h hm1;simp only[cond_true,SA] at h hm1;obtain⟨hm1,hm3⟩:=hm1;have hr:Region.ready .any ops listed=[i]:=by
      split at hm1
      ·rename_i j hj;rw[hj,Nat.eq_of_beq_eq_true hm1]
      ·cases hm1
     refine⟨fun _=>hc,fun h0=>(by rw[hr] at h0;cases h0),fun j hj=>?_⟩;have hjr:=hj;rw[hr] at hj;obtain rfl:j=i:=by simpa using hj
     have h1:=h a ha;unfold wpList at h1;unfold wpOp;simp only[ho]
     have key:∀ a' w',wpList P ops (kL fun a w=>∃ l',bS N l' a∧∃ CH':Array Obj→Prop,(∀ H,CH' H→CH H)∧(SH j n=true→CH' w.heap)∧Sx P N ops n CH' effs K0 r l' w) [] a' w'→bF P .any ops n CH K0 f (listed.setIfInBounds j true) a' w':=by
      intro a' w' h2;obtain⟨l',h3,CH',hsub,h4,h5⟩:=h2;refine bF.mono hsub (rS hsel hfin r CH' f _ l' a' w' (by simp at hf;omega) hm2 h3 ?_ h5);rcases TI j n with hjn|hjn
      ·exact .inl ⟨inv.set hjr hjn,h4 (by simpa[Tp] using hjn)⟩
      · have hjs:j<ops.size:=(Sb.1 ho).1
        have hb:SH j n=false:=by rw[←Bool.not_eq_true,Tp];omega
        simp only[hb,Bool.false_or,List.isEmpty_iff] at hm3;have hr0:r=[]:=hm3
        · have hjn':j=n:=by
           rcases TI n j with h6|h6
           ·have h7:=uR hfin inv hjr h6;exact h7.elim
           ·omega
          subst hjn';exact .inr ⟨hr0,by simp[inv.size,hjs]⟩
     split
     · rename_i hw
       rw[R4 hw] at h1;rcases h1 with h1|⟨_,_,_,h1⟩
       ·exact .inl (Rs key h1)
       ·exact h1.elim
     · rename_i hw
       rw[R3 hw] at h1;exact key _ _ h1
  |false=>
     rw[he] at h hm1;simp only[cond_false,SA] at h hm1;obtain⟨v,hy,l',hl',hs⟩:=h;have hin:i<n:=by simpa[Tp] using hm1.2
     have hir:i∈Region.ready .any ops listed:=by simpa using hm1.1.1
     exact xJ ho (Region.noSelect_spec hsel) hfin hin f listed a w inv hc (Region.free_spec ho hm1.1.2) hir (hy a ha) (rS hsel hfin r CH f _ l' _ w (by simp at hf;omega) hm2 (hl' a ha) (.inl ⟨inv.set hir hin,hc⟩) hs)
variable {N:Nt}{Q:Exit→Act→World→Prop}{l:SF}{w:World}
theorem GB{n:Nat}:HeadInv .any ops n (TW ops.size false):=
 ⟨by simp,(fun j oj hj hl=>by rw[getD_replicate_false] at hl;cases hl),(fun t _ ht=>by simp[ht])⟩
theorem OI{id:Nat}{lops:List Oper}(n:Nat)(CH:Array Obj→Prop)(effs ord:List Nat)(hm:P.follows .mixedOrders=true)(hs:(Region.noSelect lops.toArray && AU lops.toArray n &&
 vS lops.toArray n effs ord (TW lops.length false) && Nat.ble ord.length lops.length)=true)(hc:CH w.heap)
 (h:Sx P N lops.toArray n CH effs (fun a w=>Q .normal a w) ord l (w.drewN 1)):Sc P N (.region id lops.toArray true) Q l w:=fun a ha=>by
 simp only[SA] at hs;obtain⟨⟨⟨hs,hfin⟩,hok⟩,hlen⟩:=hs;have h1:=rS (P:=P) (N:=N) (K0:=fun a w=>Q .normal a w) hs hfin ord CH lops.length _ l a (w.drewN 1) (by simpa[Uk] using hlen) hok ha
  (.inl ⟨by have:=GB (ops:=lops.toArray) (n:=n);simpa using this,hc⟩) h
 have h2:=wp_region_any (P:=P) (id:=id) (ops:=lops.toArray) (Q:=kL fun a w=>Q .normal a w) (a:=a) (w:=w) hm (by
  have:=h1.any;simpa[World.drewN] using this)
 refine wp_mono h2 ?_;intro e a' w' hq;cases e<;>first|exact hq|exact hq.elim
variable {n:Nat}{effs:List Nat}{K0:Act→World→Prop}{r:List Nat}{i:Nat}{op:Op}{ty:TypeId}{pos:String}{aft:Array Edge}{d:Nat}{v:Value}
theorem PG(hi:ops[i]?=some ⟨some d,op,ty,pos,aft,none⟩)(he:effs.contains i=false)(hv:Cm P N CH l ⟨some d,op,ty,pos,aft,none⟩ v)(hd:SH d N.n=true)
 (h:Sx P N ops n CH effs K0 r ((d,v)::l) w):Sx P N ops n CH effs K0 (i::r) l w:=
 ⟨_,hi,by rw[he];exact⟨v,fun a ha=>.inl ⟨by simp[Region.wanted],fun w hw=>hv a w ha hw⟩,_,fun a ha=>ha.put hd v,h⟩⟩
theorem PH{j s:Nat}{b:Bool}(hi:ops[i]?=some ⟨some d,op,ty,pos,aft,some (j,b)⟩)(he:effs.contains i=false)(hj:(ops[j]?).bind (·.dst)=some s)(hs:lk l s=some (.bool b))
 (hv:Cm P N CH l ⟨some d,op,ty,pos,aft,some (j,b)⟩ v)(hd:SH d N.n=true)
 (h:Sx P N ops n CH effs K0 r ((d,v)::l) w):Sx P N ops n CH effs K0 (i::r) l w:=
 ⟨_,hi,by rw[he];exact⟨v,fun a ha=>.inl ⟨by simp[Region.wanted,eX ha hj hs],fun w hw=>hv a w ha hw⟩,_,fun a ha=>ha.put hd v,h⟩⟩
theorem Q5{p:Prop}[Decidable p](hi:ops[i]?=some ⟨some d,op,ty,pos,aft,none⟩)(he:effs.contains i=false)(hv:Cm P N CH l ⟨some d,op,ty,pos,aft,none⟩ (.bool (decide p)))(hd:SH d N.n=true)
 (h1:p→Sx P N ops n CH effs K0 r ((d,.bool true)::l) w)(h2:¬ p→Sx P N ops n CH effs K0 r ((d,.bool false)::l) w):Sx P N ops n CH effs K0 (i::r) l w:=by
 by_cases h:p
 ·rw[R8 h] at hv;exact PG hi he hv hd (h1 h)
 ·rw[R5 h] at hv;exact PG hi he hv hd (h2 h)
theorem PZ{p:Prop}[Decidable p]{j s:Nat}{b:Bool}(hi:ops[i]?=some ⟨some d,op,ty,pos,aft,some (j,b)⟩)(he:effs.contains i=false)(hj:(ops[j]?).bind (·.dst)=some s)(hs:lk l s=some (.bool b))
 (hv:Cm P N CH l ⟨some d,op,ty,pos,aft,some (j,b)⟩ (.bool (decide p)))(hd:SH d N.n=true)
 (h1:p→Sx P N ops n CH effs K0 r ((d,.bool true)::l) w)(h2:¬ p→Sx P N ops n CH effs K0 r ((d,.bool false)::l) w):Sx P N ops n CH effs K0 (i::r) l w:=by
 by_cases h:p
 ·rw[R8 h] at hv;exact PH hi he hj hs hv hd (h1 h)
 ·rw[R5 h] at hv;exact PH hi he hj hs hv hd (h2 h)
theorem Q6{j s:Nat}{b:Bool}{u:Value}(hi:ops[i]?=some ⟨some d,op,ty,pos,aft,some (j,b)⟩)(he:effs.contains i=false)(hj:(ops[j]?).bind (·.dst)=some s)(hs:lk l s=some u)(hb:vE u b=true)(hd:SH d N.n=true)
 (h:Sx P N ops n CH effs K0 r ((d,undef)::l) w):Sx P N ops n CH effs K0 (i::r) l w:=
 ⟨_,hi,by rw[he];exact⟨undef,fun a ha=>.inr ⟨by
  simp only[Region.wanted,eX ha hj hs];cases u<;>simp_all [vE],rfl⟩,_,fun a ha=>ha.put hd undef,h⟩⟩
def KX(P:Program)(N:Nt)(ops:Array Oper)(n:Nat)(CH:Array Obj→Prop)(effs:List Nat)(K0:Act→World→Prop)(i:Nat)(r:List Nat):Exit→Act→World→Prop:=
 kL fun a w=>∃ l',bS N l' a∧∃ CH':Array Obj→Prop,(∀ H,CH' H→CH H)∧(SH i n=true→CH' w.heap)∧Sx P N ops n CH' effs K0 r l' w
theorem OE{o:Oper}(hi:ops[i]?=some o)(he:effs.contains i=true)(h:Sl P N ops (KX P N ops n CH effs K0 i r) [o] l w):Sx P N ops n CH effs K0 (i::r) l w:=
 ⟨_,hi,by rw[he];exact h⟩
theorem OK(hc:CH w.heap)(h:Sx P N ops n CH effs K0 r l w):Sl P N ops (KX P N ops n CH effs K0 i r) [] l w:=fun _ ha=>⟨l,ha,CH,fun _ h=>h,fun _=>hc,h⟩
theorem O8(hb:SH i n=false)(h:Sx P N ops n CH effs K0 r l w):Sl P N ops (KX P N ops n CH effs K0 i r) [] l w:=fun _ ha=>⟨l,ha,CH,fun _ h=>h,(fun h0=>by rw[hb] at h0;cases h0),h⟩
theorem Rg(h:At N .normal Q l w):Sx P N ops n CH effs (fun a w=>Q .normal a w) [] l w:=fun a ha=>h a ha
theorem Pe{id:Nat}{lops:List Oper}(n:Nat)(ord:List Nat)(hm:P.follows .mixedOrders=true)(hs:(Region.noSelect lops.toArray && AU lops.toArray n &&
 vS lops.toArray n [] ord (TW lops.length false) && Nat.ble ord.length lops.length)=true)
 (h:Sx P N lops.toArray n (· = w.heap) [] (fun a w=>Q .normal a w) ord l (w.drewN 1)):Sc P N (.region id lops.toArray true) Q l w:=
 OI n (· = w.heap) [] ord hm hs rfl h
end
inductive GoR:Nat→Prop→Prop→Prop
 |z {p:Prop}:GoR 0 p p
 |s {n:Nat} {p q r:Prop} (h:r→p) (k:GoR n r q):GoR (n+1) p q
theorem GoR.run{n:Nat}{p q:Prop}(h:GoR n p q):q→p:=by
  induction h with
 |z=>exact id
 |s f _ ih=>exact fun h=>f (ih h)
section
variable {P:Program}{N:Nt}{Q:Exit→Act→World→Prop}{l:SF}{w:World}{ops:Array Oper}{rest:List Oper}{k d:Nat}{z:Prop}{ty:TypeId}{pos:String}{aft:Array Edge}{v:Value}
theorem gA1{y:Code}(h:GoR k (Sc P N y Q l w) z):GoR (k+1) (At N .normal (Exit.then (y.wp P Q) Q) l w) z:=.s Rj h
theorem gA2{K:Act→World→Prop}(h:GoR k (At N .ret Q l w) z):GoR (k+1) (At N .ret (Exit.then K Q) l w) z:=.s PW h
theorem gA3{K:Act→World→Prop}{id:Nat}(h:GoR k (At N (.exit id) Q l w) z):GoR (k+1) (At N (.exit id) (Exit.then K Q) l w) z:=.s PQ h
theorem gA4{i:Nat}(h:GoR k (At N .ret Q l w) z):GoR (k+1) (At N .ret (Exit.inBlock i Q) l w) z:=.s PR h
theorem gA5{i:Nat}(h:GoR k (At N .normal Q l w) z):GoR (k+1) (At N .normal (Exit.inBlock i Q) l w) z:=.s PD h
theorem gA6{i:Nat}(h:GoR k (At N .normal Q l w) z):GoR (k+1) (At N (.exit i) (Exit.inBlock i Q) l w) z:=.s PS h
theorem gC1{x y:Code}(h:GoR k (Sc P N x (Exit.then (y.wp P Q) Q) l w) z):GoR (k+1) (Sc P N (.seq x y) Q l w) z:=.s Rb h
theorem gC2{id:Nat}{os:List Oper}(h:GoR k (Sl P N os.toArray Q os l w) z):GoR (k+1) (Sc P N (.region id os.toArray false) Q l w) z:=.s Qt h
theorem gC3{c:Operand}{x y:Code}(hc:evL l c=some (.bool true))(h:GoR k (Sc P N x Q l w) z):GoR (k+1) (Sc P N (.cond c x y) Q l w) z:=.s (Qu hc) h
theorem gC4{c:Operand}{x y:Code}(hc:evL l c=some (.bool false))(h:GoR k (Sc P N y Q l w) z):GoR (k+1) (Sc P N (.cond c x y) Q l w) z:=.s (Qv hc) h
theorem gC5(h:GoR k (At N .normal Q l w) z):GoR (k+1) (Sc P N .skip Q l w) z:=.s QS h
theorem gC6{id:Nat}{c:Code}(h:GoR k (Sc P N c (Exit.inBlock id Q) l w) z):GoR (k+1) (Sc P N (.block id c) Q l w) z:=.s QE h
theorem gC7{id:Nat}(h:GoR k (At N (.exit id) Q l w) z):GoR (k+1) (Sc P N (.exit id) Q l w) z:=.s QT h
theorem gC8(h:GoR k (At N .ret Q l w) z):GoR (k+1) (Sc P N .ret Q l w) z:=.s Re h
theorem gL0(h:GoR k (At N .normal Q l w) z):GoR (k+1) (Sl P N ops Q [] l w) z:=.s Rf h
theorem gL3{op:Op}{j s:Nat}{b:Bool}{u:Value}(hj:(ops[j]?).bind (·.dst)=some s)(hs:lk l s=some u)(hb:vE u b=true)(hd:Nat.blt d N.n=true)(h:GoR k (Sl P N ops Q rest ((d,undef)::l) w) z):GoR (k+1) (Sl P N ops Q (⟨some d,op,ty,pos,aft,some (j,b)⟩::rest) l w) z:=.s (Ql hj hs hb hd) h
end
section
variable {P:Program}{N:Nt}{Q:Exit→Act→World→Prop}{l:SF}{w:World}{ops:Array Oper}{k i d n:Nat}{z:Prop}{ty:TypeId}{pos:String}{aft:Array Edge}{v:Value}{CH:Array Obj→Prop}{effs r:List Nat}{K0:Act→World→Prop}
theorem gX0(h:GoR k (At N .normal Q l w) z):GoR (k+1) (Sx P N ops n CH effs (fun a w=>Q .normal a w) [] l w) z:=.s Rg h
theorem gX3{op:Op}{j s:Nat}{b:Bool}{u:Value}(hi:ops[i]?=some ⟨some d,op,ty,pos,aft,some (j,b)⟩)(he:effs.contains i=false)(hj:(ops[j]?).bind (·.dst)=some s)(hs:lk l s=some u)(hb:vE u b=true)(hd:Nat.blt d N.n=true)(h:GoR k (Sx P N ops n CH effs K0 r ((d,undef)::l) w) z):GoR (k+1) (Sx P N ops n CH effs K0 (i::r) l w) z:=.s (Q6 hi he hj hs hb hd) h
end
class Fld (P:Program)(s f:Nat)(off:outParam Nat):Prop where h:KK P s f off=true
class Sca (P:Program)(t:Nat):Prop where h:eB P t=true
class Slt (P:Program)(t:Nat):Prop where h:∃ e size bytes,aN P t e size bytes
theorem nZ{H:Array Obj}{p:Nat}{cs:List Value}{T:TypeId}{fr:Nat×Nat}(h:H[p]?=some (.cells cs.toArray T fr)){i:Nat}{v:Value}(hi:cs[i]?=some v):aS H ((⟨p,0,none⟩:Addr).add i)=some v:=by
  rw[Addr.add_lit,Nat.zero_add];simp[aS,h,hi]
section
variable {P:Program}{N:Nt}{l:SF}{ty:TypeId}{pos:String}{aft:Array Edge}{v:Value}{CH:Array Obj→Prop}{x y:Operand}{t t':TypeId}{g:Option (Nat×Bool)}{dd:Option Nat}
theorem Qz{ad:Addr}{s f off:Nat}[hs:Fld P s f off](hx:evL l x=some (.pointer (some ad))):Cm P N CH l ⟨dd,.fieldAddr s x f,ty,pos,aft,g⟩ (.pointer (some (ad.add off))):=OO hs.h hx
theorem Q7[ht:Slt P t]{ao:Option Addr}{c n:Nat}(hx:evL l x=some (.slice ao n c)):Cm P N CH l ⟨dd,.call ⟨.builtin .len,#[x],#[t]⟩,ty,pos,aft,g⟩ (.int .i64 n):=by
  obtain⟨_,_,_,h⟩:=ht.h;exact Qe h hx
theorem Rh{H:Array Obj}{ad:Addr}[ht:Sca P t](hx:evL l x=some (.pointer (some ad)))(hc:aS H ad=some v):Cm P N (· = H) l ⟨dd,.load t x,ty,pos,aft,g⟩ v:=Ow ht.h hx hc
theorem Pl{ad:Addr}[ht:Sca P t](hx:evL l x=some (.pointer (some ad)))(hc:∀ H,CH H→aS H ad=some v):Cm P N CH l ⟨dd,.load t x,ty,pos,aft,g⟩ v:=OB ht.h hx hc
end
section
variable {P:Program}{N:Nt}{Q:Exit→Act→World→Prop}{l:SF}{w:World}{ops:Array Oper}{rest:List Oper}{k d i n:Nat}{ty:TypeId}{pos:String}{aft:Array Edge}{v:Value}{op:Op}{z:Prop}{CH:Array Obj→Prop}{effs r:List Nat}{K0:Act→World→Prop}
theorem gV1(hv:Cm P N (· = w.heap) l ⟨some d,op,ty,pos,aft,none⟩ v)(hd:Nat.blt d N.n=true)(h:GoR k (Sl P N ops Q rest ((d,v)::l) w) z):GoR (k+1) (Sl P N ops Q (⟨some d,op,ty,pos,aft,none⟩::rest) l w) z:=.s (PE hv hd) h
theorem gV2{j s:Nat}{b:Bool}(hj:(ops[j]?).bind (·.dst)=some s)(hs:lk l s=some (.bool b))(hv:Cm P N (· = w.heap) l ⟨some d,op,ty,pos,aft,some (j,b)⟩ v)(hd:Nat.blt d N.n=true)(h:GoR k (Sl P N ops Q rest ((d,v)::l) w) z):GoR (k+1) (Sl P N ops Q (⟨some d,op,ty,pos,aft,some (j,b)⟩::rest) l w) z:=.s (PF hj hs hv hd) h
theorem gV3(hi:ops[i]?=some ⟨some d,op,ty,pos,aft,none⟩)(he:effs.contains i=false)(hv:Cm P N CH l ⟨some d,op,ty,pos,aft,none⟩ v)(hd:Nat.blt d N.n=true)(h:GoR k (Sx P N ops n CH effs K0 r ((d,v)::l) w) z):GoR (k+1) (Sx P N ops n CH effs K0 (i::r) l w) z:=.s (PG hi he hv hd) h
theorem gV4{j s:Nat}{b:Bool}(hi:ops[i]?=some ⟨some d,op,ty,pos,aft,some (j,b)⟩)(he:effs.contains i=false)(hj:(ops[j]?).bind (·.dst)=some s)(hs:lk l s=some (.bool b))(hv:Cm P N CH l ⟨some d,op,ty,pos,aft,some (j,b)⟩ v)(hd:Nat.blt d N.n=true)(h:GoR k (Sx P N ops n CH effs K0 r ((d,v)::l) w) z):GoR (k+1) (Sx P N ops n CH effs K0 (i::r) l w) z:=.s (PH hi he hj hs hv hd) h
end
section
variable {P:Program}{N k:Nat}{fn:Func}{R:Ending→World→Prop}{l:SF}{w:World}{z:Prop}{t u s:Nat}{v x y:Value}
theorem gR1(hr:fn.results=#[.tmp t])(hv:lk l t=some v)(h:GoR k (R (.returned v) w) z):GoR (k+1) (At ⟨N,[]⟩ .ret (bodyPost P fn R) l w) z:=.s (QV hr hv) h
theorem gR2(hr:fn.results=#[.tmp t,.tmp u])(hv:lk l t=some v)(hx:lk l u=some x)(h:GoR k (R (.returned (.tuple #[v,x])) w) z):GoR (k+1) (At ⟨N,[]⟩ .ret (bodyPost P fn R) l w) z:=.s (QW hr hv hx) h
theorem gR3(hr:fn.results=#[.tmp t,.tmp u,.tmp s])(hv:lk l t=some v)(hx:lk l u=some x)(hy:lk l s=some y)(h:GoR k (R (.returned (.tuple #[v,x,y])) w) z):GoR (k+1) (At ⟨N,[]⟩ .ret (bodyPost P fn R) l w) z:=.s (QX hr hv hx hy) h
theorem gR0(hr:fn.results=#[])(h:GoR k (R (.returned (.tuple #[])) w) z):GoR (k+1) (At ⟨N,[]⟩ .ret (bodyPost P fn R) l w) z:=.s (QY hr) h
end
theorem Gp (n : Nat) {p q : Prop} (h : GoR n p q := by
  repeat first
    | exact .z
    | with_reducible apply gA1
    | with_reducible apply gC1
    | with_reducible apply gC2
    | with_reducible apply gL0
    | ((with_reducible apply gL3); exact rfl; exact rfl; exact rfl; exact rfl)
    | ((with_reducible apply gC3); exact rfl)
    | ((with_reducible apply gC4); exact rfl)
    | with_reducible apply gC5
    | with_reducible apply gC6
    | with_reducible apply gC7
    | with_reducible apply gC8
    | with_reducible apply gA2
    | with_reducible apply gA3
    | with_reducible apply gA4
    | with_reducible apply gA5
    | with_reducible apply gA6
    | with_reducible apply gX0
    | ((with_reducible apply gX3); exact rfl; exact rfl; exact rfl; exact rfl; exact rfl; exact rfl)
    | ((first
        | with_reducible apply gV1
        | ((with_reducible apply gV2); exact rfl; exact rfl)
        | ((with_reducible apply gV3); exact rfl; exact rfl)
        | ((with_reducible apply gV4); exact rfl; exact rfl; exact rfl; exact rfl))
       (first
        | exact Oz rfl
        | exact Qw rfl
        | exact Qd rfl rfl
        | exact Qx rfl rfl
        | exact Qy rfl rfl
        | exact OM rfl
        | exact Qz rfl
        | exact Q7 rfl
        | exact Pb rfl rfl (by omega)
        | exact Pj rfl rfl (by omega)
        | (apply Rh; exact rfl; apply nZ; assumption; exact rfl)
        | exact Pl rfl (fun H hH => nZ hH rfl)
        | exact Pl rfl (fun H hH => nZ hH.1 rfl)
        | exact Pl rfl (fun H hH => nZ hH.2 rfl)
        | exact Pl rfl (fun H hH => nZ hH.1.1 rfl)
        | exact Pl rfl (fun H hH => nZ hH.2.1 rfl)
        | exact Pl rfl (fun H hH => nZ hH.2.2 rfl)
        | exact Pl rfl (fun H hH => nZ hH.2.2.1 rfl))
       exact rfl)
    | ((with_reducible apply gR1); exact rfl; exact rfl)
    | ((with_reducible apply gR2); exact rfl; exact rfl; exact rfl)
    | ((with_reducible apply gR3); exact rfl; exact rfl; exact rfl; exact rfl)
    | ((with_reducible apply gR0); exact rfl)) : GoR n p q := h
theorem Gz(n:Nat){p q:Prop}(k:q)(h:GoR n p q:=by exact Gp _):p:=h.run k
section
variable {P:Program}{N:Nt}{Q:Exit→Act→World→Prop}{l:SF}{w:World}{ops:Array Oper}{rest:List Oper}{d i n:Nat}{ty:TypeId}{pos:String}{aft:Array Edge}{op:Op}{CH:Array Obj→Prop}{effs r:List Nat}{K0:Act→World→Prop}{p:Prop}[Decidable p]
theorem fK(m:Nat){z:Prop}(h1:p→Sl P N ops Q rest ((d,.bool true)::l) w)(h2:¬ p→Sl P N ops Q rest ((d,.bool false)::l) w)(hg:GoR m z (Sl P N ops Q (⟨some d,op,ty,pos,aft,none⟩::rest) l w):=by exact Gp _)(hv:Cm P N (· = w.heap) l ⟨some d,op,ty,pos,aft,none⟩ (.bool (decide p)):=by first|exact Pp rfl rfl|exact PC rfl rfl|exact OX rfl rfl|exact PT rfl rfl|exact Pv rfl rfl|exact PB rfl rfl|exact Pf rfl rfl|exact Px rfl rfl)(hd:Nat.blt d N.n=true:=by rfl):z:=hg.run (OZ hv hd h1 h2)
theorem fW(m:Nat){z:Prop}{j s:Nat}{b:Bool}(h1:p→Sl P N ops Q rest ((d,.bool true)::l) w)(h2:¬ p→Sl P N ops Q rest ((d,.bool false)::l) w)(hg:GoR m z (Sl P N ops Q (⟨some d,op,ty,pos,aft,some (j,b)⟩::rest) l w):=by exact Gp _)(hj:(ops[j]?).bind (·.dst)=some s:=by rfl)(hs:lk l s=some (.bool b):=by rfl)(hv:Cm P N (· = w.heap) l ⟨some d,op,ty,pos,aft,some (j,b)⟩ (.bool (decide p)):=by first|exact Pp rfl rfl|exact PC rfl rfl|exact OX rfl rfl|exact PT rfl rfl|exact Pv rfl rfl|exact PB rfl rfl|exact Pf rfl rfl|exact Px rfl rfl)(hd:Nat.blt d N.n=true:=by rfl):z:=hg.run (OW hj hs hv hd h1 h2)
theorem xK(m:Nat){z:Prop}(h1:p→Sx P N ops n CH effs K0 r ((d,.bool true)::l) w)(h2:¬ p→Sx P N ops n CH effs K0 r ((d,.bool false)::l) w)(hg:GoR m z (Sx P N ops n CH effs K0 (i::r) l w):=by exact Gp _)(hi:ops[i]?=some ⟨some d,op,ty,pos,aft,none⟩:=by rfl)(he:effs.contains i=false:=by rfl)(hv:Cm P N CH l ⟨some d,op,ty,pos,aft,none⟩ (.bool (decide p)):=by first|exact Pp rfl rfl|exact PC rfl rfl|exact OX rfl rfl|exact PT rfl rfl|exact Pv rfl rfl|exact PB rfl rfl|exact Pf rfl rfl|exact Px rfl rfl)(hd:Nat.blt d N.n=true:=by rfl):z:=hg.run (Q5 hi he hv hd h1 h2)
theorem xW(m:Nat){z:Prop}{j s:Nat}{b:Bool}(h1:p→Sx P N ops n CH effs K0 r ((d,.bool true)::l) w)(h2:¬ p→Sx P N ops n CH effs K0 r ((d,.bool false)::l) w)(hg:GoR m z (Sx P N ops n CH effs K0 (i::r) l w):=by exact Gp _)(hi:ops[i]?=some ⟨some d,op,ty,pos,aft,some (j,b)⟩:=by rfl)(he:effs.contains i=false:=by rfl)(hj:(ops[j]?).bind (·.dst)=some s:=by rfl)(hs:lk l s=some (.bool b):=by rfl)(hv:Cm P N CH l ⟨some d,op,ty,pos,aft,some (j,b)⟩ (.bool (decide p)):=by first|exact Pp rfl rfl|exact PC rfl rfl|exact OX rfl rfl|exact PT rfl rfl|exact Pv rfl rfl|exact PB rfl rfl|exact Pf rfl rfl|exact Px rfl rfl)(hd:Nat.blt d N.n=true:=by rfl):z:=hg.run (PZ hi he hj hs hv hd h1 h2)
end
theorem cS{P:Program}{f:FuncId}{fn:Func}{c:Code}{args:List Value}{w:World}{R:Ending→World→Prop}(N:Nat)(l:SF)(hf:P.funcs[f]?=some fn)(h:Sc P ⟨N,[]⟩ c (bodyPost P fn R) l w)(hb:fn.body=some c:=by rfl)(hN:fn.ntmps=N:=by rfl)(hle:Nat.ble args.length N=true:=by rfl)(hl:Sub l ((List.range args.length).zip args):=by repeat first|exact trivial|refine⟨rfl,?_⟩):Calls P f args.toArray w R:=Bl N l hf hb hN hle (pZ hl) h
section
variable {P:Program}{N:Nt}{Q:Exit→Act→World→Prop}{l:SF}{w:World}{ops:Array Oper}{rest:List Oper}{d i n:Nat}{ty:TypeId}{pos:String}{aft:Array Edge}{op:Op}{v:Value}{CH:Array Obj→Prop}{effs r:List Nat}{K0:Act→World→Prop}
theorem cA(m:Nat){z:Prop}{f:FuncId}{xs:List Operand}{vs:List Value}{ts:Array TypeId}(hf:fnB P f=true){R:Value→World→Prop}(hc:Calls P f vs.toArray w (Ret R))(h:∀ v w',R v w'→Sl P N ops Q rest ((d,v)::l) w')(hg:GoR m z (Sl P N ops Q (⟨some d,.call ⟨.value (.func f),xs.toArray,ts⟩,ty,pos,aft,none⟩::rest) l w):=by exact Gp _)(hx:oX l xs=some vs:=by rfl)(hd:Nat.blt d N.n=true:=by rfl):z:=hg.run (Ot hf hx hc hd h)
theorem cL(hv:Cm P N (· = w.heap) l ⟨some d,op,ty,pos,aft,none⟩ v)(h:Sl P N ops Q rest ((d,v)::l) w)(hd:Nat.blt d N.n=true:=by rfl):Sl P N ops Q (⟨some d,op,ty,pos,aft,none⟩::rest) l w:=PE hv hd h
theorem cW{j s:Nat}{b:Bool}(hv:Cm P N (· = w.heap) l ⟨some d,op,ty,pos,aft,some (j,b)⟩ v)(h:Sl P N ops Q rest ((d,v)::l) w)(hj:(ops[j]?).bind (·.dst)=some s:=by rfl)(hs:lk l s=some (.bool b):=by rfl)(hd:Nat.blt d N.n=true:=by rfl):Sl P N ops Q (⟨some d,op,ty,pos,aft,some (j,b)⟩::rest) l w:=PF hj hs hv hd h
theorem xC(hi:ops[i]?=some ⟨some d,op,ty,pos,aft,none⟩)(hv:Cm P N CH l ⟨some d,op,ty,pos,aft,none⟩ v)(h:Sx P N ops n CH effs K0 r ((d,v)::l) w)(he:effs.contains i=false:=by rfl)(hd:Nat.blt d N.n=true:=by rfl):Sx P N ops n CH effs K0 (i::r) l w:=PG hi he hv hd h
theorem xV{j s:Nat}{b:Bool}(hi:ops[i]?=some ⟨some d,op,ty,pos,aft,some (j,b)⟩)(hv:Cm P N CH l ⟨some d,op,ty,pos,aft,some (j,b)⟩ v)(h:Sx P N ops n CH effs K0 r ((d,v)::l) w)(he:effs.contains i=false:=by rfl)(hj:(ops[j]?).bind (·.dst)=some s:=by rfl)(hs:lk l s=some (.bool b):=by rfl)(hd:Nat.blt d N.n=true:=by rfl):Sx P N ops n CH effs K0 (i::r) l w:=PH hi he hj hs hv hd h
theorem aW{e:Exit}(l':SF)(h:At N e Q l' w)(hs:Sub l' l:=by repeat first|exact trivial|refine⟨rfl,?_⟩):At N e Q l w:=QU l' hs h
end
theorem aA.tw{S:Nat→Prop}{w w1 w2:World}{y:Nat}(h:aA S w w1)(g:aA (· = y) w1 w2)(hy:w.heap.size≤y:=by first|omega|(dsimp only;omega)):aA S w w2:=h.RV g (fun k hk=>.inr (by have e:k=y:=hk;omega))
abbrev iV(x:Int):Value:=.int .i64 x
section
variable {N:Nt}{l:SF}{w:World}{Q:Exit→Act→World→Prop}{β:Type}{L:β→SF}{J:β→World→Prop}{μ:β→Nat}{b:β}
theorem aG(b':β)(hJ:J b' w)(hm:μ b'<μ b)(hl:Sub (L b') l:=by repeat first|exact trivial|refine⟨rfl,?_⟩):At N .normal (Exit.then (HH N L J μ b) Q) l w:=ON b' hl hJ hm
theorem aC(b:β)(hJ:J b w)(hl:Sub (L b) l:=by repeat first|exact trivial|refine⟨rfl,?_⟩):At N .normal (Exit.then (fun a w=>∃ b,bS N (L b) a∧J b w) Q) l w:=O4 b hl hJ
end
abbrev By:=List UInt8
abbrev pT(p:Nat):Value:=.pointer (some ⟨p,0,none⟩)
abbrev sN:Value:=.slice none 0 0
def dV(P:Program)(t:TypeId):Option (List (Nat×Nat)):=
 match P.underlying t with
|some (.struct fs)=>fs.toList.mapM fun f=>(P.info? f.type).map fun i=>(f.offset,i.size)
|_=>none
theorem jP{P:Program}{w:World}:∀ (fs:List Field) (pl:List (Nat×Nat)),(fs.mapM fun f=>(P.info? f.type).map fun i=>(f.offset,i.size))=some pl →
 (fs.mapM fun(f:Field)=>(do pure (f.offset,←sizeOf f.type):Sem (Nat×Nat))).run P w=.ok pl w
|[],pl,h=>by simp at h;subst h;simp
|f::r,pl,h=>by
   simp only[Up,Option.bind_eq_bind,Option.bind_eq_some_iff,Sn,Option.pure_def,Option.some.injEq] at h;obtain⟨p,⟨i,hi,rfl⟩,ps,hps,rfl⟩:=h;have ih:=jP (w:=w) r ps hps;simp[Up,sizeOf,typeInfo,hi];simp[sizeOf,typeInfo] at ih;rw[ih];rfl
def evPs(l:SF):List (Nat×Operand)→Option (List (Nat×Value))
|[]=>some []
|(i,x)::r=>match evL l x,evPs l r with
  |some v,some vs=>some ((i,v)::vs)
  |_,_=>none
theorem bS.evPs{N:Nt}{l:SF}{a:Act}(h:bS N l a):∀ {xs:List (Nat×Operand)} {vs:List (Nat×Value)},Go.Proofs.YthmmmagklhiiiaaGreatDoor.evPs l xs=some vs→xs.map (fun p=>(p.1,a.eval p.2))=vs
|[],vs,e=>by simp[Go.Proofs.YthmmmagklhiiiaaGreatDoor.evPs] at e;simp[e]
|(i,x)::r,vs,e=>by
   unfold Go.Proofs.YthmmmagklhiiiaaGreatDoor.evPs at e
   split at e
   · rename_i v us h1 h2
     cases e;simp[h.ev h1,h.evPs h2]
   ·cases e
section
variable {P:Program}{N:Nt}{Q:Exit→Act→World→Prop}{l:SF}{w:World}{ops:Array Oper}{rest:List Oper}
variable {op:Op}{ty:TypeId}{pos:String}{aft:Array Edge}{d:Nat}{v:Value}{CH:Array Obj→Prop}
variable {x y:Operand}{t t':TypeId}{g:Option (Nat×Bool)}{dd:Option Nat}
theorem Pq{parts:List (Nat×Operand)}{vs:List (Nat×Value)}{pl:List (Nat×Nat)}{zc cs:Array Value}(hp:dV P t=some pl)(hz:(P.info? t).map (fun i=>i.zero.map (·.cells))=some (some zc))
 (hx:evPs l parts=some vs)(hf:Instr.fill (fun i=>pl.toArray[i]?) zc vs=some cs):Cm P N CH l ⟨dd,.build t parts.toArray,ty,pos,aft,g⟩ (.agg cs):=fun a w ha _=>by
 unfold dV at hp
 split at hp
 · rename_i fs hu
   obtain⟨i,hi,h1⟩:=Sn.1 hz;obtain⟨z,hz',rfl⟩:=Sn.1 h1;have hm:=jP (P:=P) (w:=w) fs.toList pl hp;have hm':(fs.mapM fun(f:Field)=>(do pure (f.offset,←sizeOf f.type):Sem (Nat×Nat))).run P w=.ok pl.toArray w:=by
    rw[←Array.toArray_toList (xs:=fs),List.mapM_toArray];simp only[Sem.run_map,hm,Result.andThen_ok]
   have hv:=ha.evPs hx;simp only[execOp,Instr.build,Sem.run_bind,zeroValue,typeInfo,run_program,Result.andThen_ok,hi,hz',run_underlying hu,Sem.run_pure,hm',UC,hv];rw[hf];simp
 ·cases hp
theorem bU {parts:List (Nat×Operand)} {vs:List (Nat×Value)} {pl:List (Nat×Nat)} {zc:Array Value} (cs:List Value) (hp:dV P t=some pl) (hz:(P.info? t).map (fun i=>i.zero.map (·.cells))=some (some zc)) (hx:evPs l parts=some vs:=by rfl) (hf:Instr.fill (fun i=>pl.toArray[i]?) zc vs=some cs.toArray:=by kernel_rfl):Cm P N CH l ⟨dd,.build t parts.toArray,ty,pos,aft,g⟩ (.agg cs.toArray):=Pq hp hz hx hf
theorem OU{e:TypeId}{size bytes:Nat}(ht:aN P t e size bytes){ao:Option Addr}{n c:Nat}(hx:evL l x=some (.slice ao n c))(hy:evL l y=some sN):Cm P N CH l ⟨dd,.binOp .eql t x y t',ty,pos,aft,g⟩ (.bool ao.isNone):=fun b w ha _=>by
 simp only[execOp,ha.ev hx,ha.ev hy];have:=Lib.run_eql_slice_nil w t e ao n c 0 0 ht.und;cases ao<;>simp[eqGuard] at this ⊢<;>simp[this]
theorem Qp{α:Type}(enc:α→Value){e:TypeId}(z0:α){bytes:Nat}(ht:aN P t e 1 bytes)(hz:(P.info? e).map (·.zero)=some (some (enc z0)))(h1:(enc z0).oneCell'=true){k k':IntKind}{n m:Int}
 (hx:evL l x=some (.int k n))(hy:evL l y=some (.int k' m))(h0:0≤n)(hnm:n≤m)(hn:(bytes:Int)*m≤281474976710656)(hm:m≤9223372036854775807)(hd:SH d N.n=true)
 (h:∀ w',Own enc e w'.heap (some ⟨w.heap.size,0,none⟩) m.toNat (Sy n.toNat z0)→w'.heap.size=w.heap.size+1→aA nob w w'→Sl P N ops Q rest ((d,.slice (some ⟨w.heap.size,0,none⟩) n.toNat m.toNat)::l) w') :
 Sl P N ops Q (⟨some d,.makeSlice t x y,ty,pos,aft,none⟩::rest) l w:=by
 obtain⟨i,z,hi,hz1,hzc,h2,h3⟩:=ht.parts;have hzz:z=enc z0:=by rw[hi] at hz;simp[hz1] at hz;exact hz
 subst hzz;have hc:(enc z0).cells=#[enc z0]:=by cases he:enc z0<;>simp_all [Value.cells,Value.oneCell']
 have hr:=run_make (P:=P) w t e i (enc z0) ht.und hi hz1 k k' n m h0 hnm (by rw[h3];exact hn) hm;have hmc:madeCells (enc z0).cells (m.toNat*i.size)=(Sy m.toNat (enc z0)).toArray:=by
  rw[hc,h2,Nat.mul_one];apply Array.ext';rw[toList_madeCells_one]
 rw[hmc] at hr;refine OY (w':=w.alloc (.cells (Sy m.toNat (enc z0)).toArray e)) (fun a ha=>?_) hd (h _ ?_ (by simp) (aA.alloc _ _ _))
 ·simp only[execOp,ha.ev hx,ha.ev hy,Sem.run_bind,hr,Result.andThen_ok,Sem.run_pure]
 · refine .inr ⟨w.heap.size,_,rfl,heap_alloc_new w _,by simp;omega,by unfold maxLen;omega,by simp,?_⟩
   simp;omega
theorem Own.set{α:Type}{enc:α→Value}{e:TypeId}{H H':Array Obj}{ao:Option Addr}{cap:Nat}{xs:List α}(h:Own enc e H ao cap xs){a:Addr}(ha:ao=some a){i:Nat}{u:α}{cur:Array Value}(hg:H[a.block]?=some (.cells cur e (0,0)))
 (hg':H'[a.block]?=some (.cells (cur.setIfInBounds i (enc u)) e (0,0))):Own enc e H' ao cap (xs.set i u):=by
 rcases h with⟨rfl,_⟩|⟨g,cur',rfl,hg2,h1,h2,h3,h4⟩
 ·cases ha
 · cases ha
   rw[hg] at hg2;cases hg2;refine .inr ⟨g,_,rfl,hg',by simpa using h1,h2,by simpa using h3,?_⟩;simp only[List.length_set,Array.toList_setIfInBounds,List.map_set];rw[List.take_set,h4]
theorem O0{α:Type}{enc:α→Value}(henc:∀ x,(enc x).oneCell'=true)(ht:eB P t=true){e:TypeId}{ao:Option Addr}{cap:Nat}{xs:List α}{z:Int}{u:α}(hx:evL l x=some (.pointer (some (adr ao z.toNat))))(hy:evL l y=some (enc u))
 (ho:Own enc e w.heap ao cap xs)(hz:0≤z∧z<xs.length)
 (h:∀ w',Own enc e w'.heap ao cap (xs.set z.toNat u)→w'.heap.size=w.heap.size→aA (blk ao) w w'→Sl P N ops Q rest l w') :
 Sl P N ops Q (⟨none,.store t x y,ty,pos,aft,none⟩::rest) l w:=by
 have ho2:=ho;rcases ho with⟨rfl,_,rfl⟩|⟨g,cur,rfl,hg,h1,h2,h3,h4⟩
 ·simp at hz;omega
 · have hi:z.toNat<cur.toList.length:=by simp[h3];omega
   have e1:adr (some (⟨g,0,none⟩:Addr)) z.toNat=⟨g,z.toNat,none⟩:=by
    show (⟨g,0,none⟩:Addr).add _=_;rw[Addr.add_lit,S3]
   rw[e1] at hx;refine OF (cur:=cur.toList) (T:=e) ht hx hy (henc u) (by simpa using hg) (by simpa[Tp] using hi) ?_;intro w' hw hs hf;refine h w' (Own.set ho2 (i:=z.toNat) rfl hg ?_) hs (hf.mono (fun k hk=>⟨_,rfl,hk.symm⟩));rw[hw];congr 2;apply Array.ext';simp
end
section
variable {P:Program}{N:Nt}{Q:Exit→Act→World→Prop}{l:SF}{w:World}{ops:Array Oper}{rest:List Oper}
variable {op:Op}{ty:TypeId}{pos:String}{aft:Array Edge}{d:Nat}{v:Value}{CH:Array Obj→Prop}
variable {x y:Operand}{t t':TypeId}{g:Option (Nat×Bool)}{dd:Option Nat}{k k':IntKind}{m n:Int}
theorem Qg(hx:evL l x=some (iV m))(hy:evL l y=some (.int k' n))(hn:0≤n∧n≤64):Cm P N CH l ⟨dd,.binOp .shr t x y t',ty,pos,aft,g⟩ (iV (m/2 ^ n.toNat)):=fun a w ha _=>by
 have h1:¬ (n<0):=by omega
 have h2:min n.toNat 64=n.toNat:=by omega
 have h3:m.fdiv (2 ^ n.toNat)=m/2 ^ n.toNat:=Uq _ (Int.pow_nonneg (by decide));have h4:(Uz .shr .i64 m k' n).run P w=.ok (iV (m/2 ^ n.toNat)) w:=by
  unfold Uz;rw[R3 h1];show (pure (Value.int .i64 (m.fdiv (2 ^ min n.toNat 64))):Sem Value).run P w=_;rw[h2,h3];rfl
 simp only[execOp,ha.ev hx,ha.ev hy,eqGuard,binOp,Sem.run_bind];simp
theorem Q8(hx:evL l x=some (iV m))(hy:evL l y=some (.int k' n))(hn:0≤n∧n≤64):Cm P N CH l ⟨dd,.binOp .shl t x y t',ty,pos,aft,g⟩ (iV (IntKind.i64.wrap (m*2 ^ n.toNat))):=fun a w ha _=>by
 have h1:¬ (n<0):=by omega
 have h2:min n.toNat 64=n.toNat:=by omega
 have h4:(Uz .shl .i64 m k' n).run P w=.ok (iV (IntKind.i64.wrap (m*2 ^ n.toNat))) w:=by
  unfold Uz;rw[R3 h1];show (pure (Value.int .i64 (IntKind.i64.wrap (m*2 ^ min n.toNat 64))):Sem Value).run P w=_;rw[h2];rfl
 simp only[execOp,ha.ev hx,ha.ev hy,eqGuard,binOp,Sem.run_bind];simp
theorem QH(hx:evL l x=some (iV m))(hy:evL l y=some (.int k' n))(hn:0≤n∧n≤64)(hb : -9223372036854775808≤m*2 ^ n.toNat∧m*2 ^ n.toNat≤9223372036854775807) :
 Cm P N CH l ⟨dd,.binOp .shl t x y t',ty,pos,aft,g⟩ (iV (m*2 ^ n.toNat)):=by
 have:=@Q8 P N l ty pos aft CH x y t t' g dd k' m n hx hy hn;rwa[cI hb] at this
theorem Bm{a:Nat}(h:a<2 ^ 63):(BitVec.ofInt 64 (a:Int)).toNat=a:=by
 simp;omega
theorem Ri{a b:Nat}(hx:evL l x=some (iV a))(hy:evL l y=some (iV b))(ha:a<2 ^ 63)(hb:b<2 ^ 63):Cm P N CH l ⟨dd,.binOp .or t x y t',ty,pos,aft,g⟩ (iV ((a ||| b:Nat):Int)):=fun c w hc _=>by
 have h1:(a ||| b)<2 ^ 63:=Nat.or_lt_two_pow ha hb;have h2:(BitVec.ofInt 64 (a:Int) ||| BitVec.ofInt 64 (b:Int)).toNat=a ||| b:=by
  rw[BitVec.toNat_or,Bm ha,Bm hb]
 have h3:(Op.intBits .or .i64 (a:Int) (b:Int)).run P w=.ok (iV ((a ||| b:Nat):Int)) w:=by
  show (pure (Value.int .i64 (IntKind.i64.wrap ((BitVec.ofInt 64 (a:Int) ||| BitVec.ofInt 64 (b:Int)).toNat:Int))):Sem Value).run P w=_;rw[h2,cI (by omega)];rfl
 simp[execOp,hc.ev hx,hc.ev hy,binOp,eqGuard];rw[h3];rfl
theorem QI{a b:By}(hx:evL l x=some (.string (bs a)))(hy:evL l y=some (.string (bs b))):Cm P N CH l ⟨dd,.binOp .lss t x y t',ty,pos,aft,g⟩ (.bool (Su a b)):=fun c w ha _=>by
 simp[execOp,ha.ev hx,ha.ev hy,eqGuard,binOp,Ur,fD]
theorem P0{a b:By}(hx:evL l x=some (.string (bs a)))(hy:evL l y=some (.string (bs b))):Cm P N CH l ⟨dd,.binOp .leq t x y t',ty,pos,aft,g⟩ (.bool (Su a b || a == b)):=fun c w ha _=>by
 simp[execOp,ha.ev hx,ha.ev hy,eqGuard,binOp,Ur,fD]
theorem P1{a b:By}(hx:evL l x=some (.string (bs a)))(hy:evL l y=some (.string (bs b))):Cm P N CH l ⟨dd,.binOp .gtr t x y t',ty,pos,aft,g⟩ (.bool (!(Su a b || a == b))):=fun c w ha _=>by
 simp[execOp,ha.ev hx,ha.ev hy,eqGuard,binOp,Ur,fD]
theorem Pg(ht:P.underlying t=some .string){s:By}(hx:evL l x=some (.string (bs s))) :
 Cm P N CH l ⟨dd,.call ⟨.builtin .len,#[x],#[t]⟩,ty,pos,aft,g⟩ (iV s.length):=by
 have:=@Q2 P N l ty pos aft CH x t g dd ht (bs s) hx;rwa[gD] at this
theorem Qq(ht:P.underlying t=some .string){s:By}(hx:evL l x=some (.string (bs s)))(hy:evL l y=some (.int k n))(hn:0≤n∧n<s.length) :
 Cm P N CH l ⟨dd,.index t x y,ty,pos,aft,g⟩ (b8 (s.getD n.toNat 0)):=fun c w ha _=>by
 have h1:n.toNat<s.length:=by omega
 have h2:n.toNat<(bs s).size:=by rw[gD];exact h1
 have h3:(bs s)[n.toNat]?=some (s.getD n.toNat 0):=by
  rw[getElem?_pos (bs s) n.toNat h2];have:(bs s)[n.toNat]=s[n.toNat]:=rfl;rw[this,Sj,R7 h1];rfl
 simp[execOp,ha.ev hx,ha.ev hy,Instr.index,asIntOf,run_underlying ht,hn.1,h3,b8]
theorem QJ{a b:By}(hx:evL l x=some (.string (bs a)))(hy:evL l y=some (.string (bs b)))(hl:a.length+b.length≤9223372036854775807):Cm P N CH l ⟨dd,.binOp .add t x y t',ty,pos,aft,g⟩ (.string (bs (a++b))):=fun c w ha _=>by
 have h1:bs a++bs b=bs (a++b):=by
  apply ByteArray.ext;simp[bs,ByteArray.data_append]
 have h2:¬ (((bs a).size+(bs b).size:Nat):Int) > IntKind.i64.max:=by
  rw[gD,gD];show ¬ (_ > (9223372036854775807:Int));omega
 simp only[execOp,ha.ev hx,ha.ev hy,binOp,Ur,R3 h2];simp[eqGuard,h1]
structure IbT (P:Program) (f:FuncId):Prop where
 fn : ∃ fn, P.funcs[f]? = some fn ∧ (fn.name == "runtime.NumGoroutine") = false ∧ fn.body.isNone = true ∧ Extern.findNext fn = none ∧ Extern.find fn = some Extern.BytealgIndexByte.indexByte
theorem Rt {P : Program} {f : FuncId} {fn : Func} (h0 : P.funcs[f]? = some fn) (h1 : (fn.name == "runtime.NumGoroutine") = false) (h2 : fn.body.isNone = true) (h3 : Extern.findNext fn = none) (h4 : Extern.find fn = some Extern.BytealgIndexByte.indexByte) : IbT P f := ⟨fn, h0, h1, h2, h3, h4⟩
theorem PV{f:FuncId}{ts:Array TypeId}(hf:IbT P f){s:By}{c:Int}(hx:evL l x=some (.string (bs s)))(hy:evL l y=some (.int .u8 c)) :
 Cm P N CH l ⟨dd,.call ⟨.value (.func f),#[x,y],ts⟩,ty,pos,aft,g⟩ (iV (Lib.indexByte s c.toNat.toUInt8)):=fun a w ha _=>by
 obtain⟨fn,h0,h1,h2,h3,h4⟩:=hf;have hr:=run_callFunc_extern h0 h1 h2 h3 h4 #[.string (bs s),.int .u8 c] w;rw[Lib.run_indexByteString] at hr;simp only[Result.andThen_ok] at hr;rw[←ha.ev hx,←ha.ev hy] at hr;simp[execOp,resolve,Act.eval,Deferred.ofValue,invoke] at hr ⊢;rw[hr];rfl
theorem lN(s:By)(c:UInt8):Lib.indexByte s c<0↔c∉s:=by
 induction s with
|nil=>simp[Lib.indexByte]
|cons b r ih=>
   have hge:=Lib.indexByte_ge r c;unfold Lib.indexByte;by_cases h:b=c
   ·simp[h]
   · simp only[beq_iff_eq,h,if_false,St,not_or]
     split
     · rename_i h1
       rw[h1] at ih;have:=ih.1 (by decide);exact⟨fun _=>⟨fun e=>h e.symm,this⟩,fun _=>by decide⟩
     · rename_i h1
       constructor
       ·intro h2;omega
       · intro h2
         have:=ih.2 h2.2;omega
theorem Pm(ht:P.underlying t=some .bool){a b:Bool}(hx:evL l x=some (.bool a))(hy:evL l y=some (.bool b)):Cm P N CH l ⟨dd,.binOp .eql t x y t',ty,pos,aft,g⟩ (.bool (a == b)):=fun c w ha _=>by
 simp[execOp,ha.ev hx,ha.ev hy,eqGuard,binOp,run_equal_bool w t a b ht]
theorem Qh{e:TypeId}{size bytes:Nat}(hs:P.underlying t=some .string)(ht:aN P t' e size bytes)(he:P.underlying e=some (.int .u8)){s:By}(hx:evL l x=some (.string (bs s)))(hl:s.length≤maxLen)(hd:SH d N.n=true)
 (h:∀ w' cap,Vw b8 w'.heap (some ⟨w.heap.size,0,none⟩) cap s→w'.heap.size=w.heap.size+1→aA nob w w'→Sl P N ops Q rest ((d,.slice (some ⟨w.heap.size,0,none⟩) s.length cap)::l) w') :
 Sl P N ops Q (⟨some d,.convert t t' x,ty,pos,aft,none⟩::rest) l w:=by
 have hr:=Lib.run_convert_string_bytes (P:=P) w t t' e (bs s) hs ht.und he;rw[gD] at hr;refine OY (w':=Lib.bytesWorld w e (bs s)) (fun a ha=>?_) hd (h _ (grownCap w s.length 0 e) ⟨grownCap_ge w _ _ _,grownCap_le_maxLen w _ _ e hl,fun _=>by simp,fun i u hu=>?_⟩ (Lib.bytesWorld_size _ _ _) ?_)
 ·simp[execOp,ha.ev hx,hr]
 · have hi:i<s.length:=(R9.1 hu).1
   have e1:adr (some (⟨w.heap.size,0,none⟩:Addr)) i=⟨w.heap.size,i,none⟩:=by
    show (⟨w.heap.size,0,none⟩:Addr).add _=_;rw[Addr.add_lit,S3]
   rw[e1,←cell?_eq,Lib.bytesWorld_cell w e (bs s) i (by rw[gD];exact hi)];simp[bs,hu,b8]
 ·refine⟨rfl,rfl,rfl,by rw[Lib.bytesWorld_size];omega,fun k hk _=>Lib.bytesWorld_at_old w e _ k hk⟩
theorem QK{e:TypeId}{size bytes:Nat}(ht:aN P t e size bytes)(he:P.underlying e=some (.int .u8)){a:Nat}{cap:Nat}{xs:By}{cur:Array Value}(hx:evL l x=some (.slice (some ⟨a,0,none⟩) xs.length cap))
 (hg:w.heap[a]?=some (.cells cur e (0,0)))(hv:Vw b8 w.heap (some ⟨a,0,none⟩) cap xs)(hd:SH d N.n=true)
 (h:∀ w',Vw b8 w'.heap (some ⟨a,0,none⟩) cap xs→w'.heap.size=w.heap.size→aA (· = a) w w'→Sl P N ops Q rest ((d,.slice (some ⟨a,0,none⟩) xs.length cap)::l) w') :
 Sl P N ops Q (⟨some d,.convert t t x,ty,pos,aft,none⟩::rest) l w:=by
 have hsh:w.shape? a=some (e,cur.size):=by simp[World.shape?,hg]
 have hlt:=(Sb.1 hg)
 obtain⟨hal,hge⟩:=hlt;refine OY (w':=w.freeze ⟨a,cur.size,none⟩ 1) (fun c hc=>?_) hd (h _ ⟨hv.le,hv.max,hv.non,fun i u hu=>?_⟩ ?_ ?_)
 ·simp[execOp,hc.ev hx,convert,run_underlying ht.und,run_underlying he,markStringish,hsh]
 · have h1:=hv.get i u hu
   have e1:adr (some (⟨a,0,none⟩:Addr)) i=⟨a,i,none⟩:=by
    show (⟨a,0,none⟩:Addr).add _=_;rw[Addr.add_lit,S3]
   rw[e1] at h1 ⊢;have h2:(w.freeze ⟨a,cur.size,none⟩ 1).heap[a]?=some (.cells cur e (cur.size,cur.size+1)):=by
    simp[World.freeze,TM,hg]
   unfold aS at h1 ⊢;rw[hg] at h1;rw[h2];exact h1
 ·simp[World.freeze]
 · exact⟨rfl,rfl,rfl,by simp[World.freeze],fun k hk hn=>by
    simp[World.freeze,TM,Ne.symm hn]⟩
end
theorem Bk{H:Array Obj}{a:Addr}{v:Value}(h:aS H a=some v):a.block<H.size:=by
 unfold aS at h
 split at h
 ·rename_i hb;exact(Sb.1 hb).1
 ·cases h
theorem uA{w w':World}{S:Nat→Prop}{a:Addr}{v:Value}(h:aS w.heap a=some v)(f:aA S w w')(hs:¬ S a.block):aS w'.heap a=some v:=by
 have hl:=Bk h;unfold aS at h ⊢;rw[f.same _ hl hs];exact h
structure VwM {α:Type}(k:Nat)(enc:α→List Value)(H:Array Obj)(ao:Option Addr)(cap:Nat)(xs:List α):Prop where
 le:xs.length≤cap
 max:cap≤maxLen
 non:xs.length≠0→ao≠none
 get:∀ i x,xs[i]?=some x→∀ j v,(enc x)[j]?=some v→aS H (adr ao (i*k+j))=some v
section
variable {α:Type}{k:Nat}{enc:α→List Value}{H:Array Obj}{ao:Option Addr}{cap:Nat}{xs:List α}
theorem Ru(c:Nat)(hc:c≤maxLen):VwM k enc H ao c []:=⟨by simp,hc,by simp,by simp⟩
theorem VwM.RX(h:VwM k enc H ao cap xs):(xs.length:Int)≤9223372036854775807:=by have:=h.le;have:=h.max;unfold maxLen at this;omega
theorem VwM.RZ{w w':World}{S:Nat→Prop}(h:VwM k enc w.heap ao cap xs)(f:aA S w w')(hs:∀ a,ao=some a→¬ S a.block):VwM k enc w'.heap ao cap xs:=by
 refine⟨h.le,h.max,h.non,fun i x hx j v hv=>uA (h.get i x hx j v hv) f ?_⟩;have hne:xs.length≠0:=by have:=(R9.1 hx).1;omega
 cases hao:ao with
|none=>exact absurd hao (h.non hne)
|some a=>rw[lF];exact hs a hao
theorem VwM.RY{w w':World}(h:VwM k enc w.heap ao cap xs)(f:aA nob w w'):VwM k enc w'.heap ao cap xs:=h.RZ f (fun _ _=>id)
theorem VwM.row(h:VwM k enc H ao cap xs){i:Nat}{x:α}(hx:xs[i]?=some x):∀ j v,(enc x)[j]?=some v→aS H ((adr ao (i*k)).add j)=some v:=fun j v hv=>by
 have h1:=h.get i x hx j v hv;rwa[adr,←zG] at h1
theorem VwM.rowZ(h:VwM k enc H ao cap xs){z:Int}(i:Nat)(hz:z=i){x:α}(hx:xs[i]?=some x):∀ j v,(enc x)[j]?=some v→aS H ((adr ao (z.toNat*k)).add j)=some v:=by
 subst hz;exact h.row hx
theorem VwM.lt(h:VwM k enc H ao cap xs)(hne:xs≠[])(henc:∀ x,enc x≠[]):Lt H.size ao:=fun a ha=>by
 have hl:0<xs.length:=Sk.2 hne;have hq:(enc xs[0])[0]?=some ((enc xs[0])[0]'(Sk.2 (henc _))):=R7 _;have h1:=Bk (h.get 0 xs[0] (R7 hl) 0 _ hq);subst ha;rwa[lF] at h1
end
def cH{α:Type}(k:Nat)(enc:α→List Value)(e:TypeId)(H:Array Obj)(ao:Option Addr)(cap:Nat)(xs:List α):Prop:=
 (ao=none∧cap=0∧xs=[]) ∨
 ∃ g cur,ao=some ⟨g,0,none⟩∧H[g]?=some (.cells cur e (0,0))∧xs.length≤cap∧cap≤maxLen∧cur.size=cap*k∧cur.toList.take (xs.length*k)=xs.flatMap enc
def iP{α:Type}(k:Nat)(enc:α→List Value):Prop:=∀ x,(enc x).length=k∧∀ v∈enc x,v.oneCell'=true
theorem bJ{α:Type}{k:Nat}{enc:α→List Value}(hk:∀ x,(enc x).length=k):∀ xs:List α,(xs.flatMap enc).length=xs.length*k
|[]=>by simp
|x::r=>by simp[bJ hk r,hk x,S4];omega
theorem mG{α:Type}{k:Nat}{enc:α→List Value}(hk:∀ x,(enc x).length=k):∀ (xs:List α) (i:Nat) (x:α),xs[i]?=some x→∀ j v,(enc x)[j]?=some v→(xs.flatMap enc)[i*k+j]?=some v
|[],i,x,h,j,v,hv=>by simp at h
|y::r,0,x,h,j,v,hv=>by
   simp at h;subst h;have:j<(enc y).length:=(R9.1 hv).1;simp[Tx this,hv]
|y::r,i+1,x,h,j,v,hv=>by
   have:=mG hk r i x (by simpa using h) j v hv;rw[Tc,List.getElem?_append_right (by rw[hk y];rw[S4];omega),hk y];rw[←this];congr 1;rw[S4];omega
theorem mF{α:Type}{k:Nat}{enc:α→List Value}(hk:∀ x,(enc x).length=k)(hk0:0<k):∀ (xs:List α) (q:Nat) (v:Value),(xs.flatMap enc)[q]?=some v→∃ x,xs[q/k]?=some x∧(enc x)[q%k]?=some v
|[],q,v,h=>by simp at h
|y::r,q,v,h=>by
   rw[Tc] at h;by_cases hq:q<k
   · rw[Tx (by rw[hk y];exact hq)] at h
     exact⟨y,by simp[Nat.div_eq_of_lt hq],by rwa[UA hq]⟩
   · rw[List.getElem?_append_right (by rw[hk y];omega),hk y] at h
     obtain⟨x,h1,h2⟩:=mF hk hk0 r (q-k) v h;refine⟨x,?_,?_⟩
     ·rw[show q/k=(q-k)/k+1 from by rw[←Nat.add_div_right _ hk0,Nat.sub_add_cancel (by omega)]];simpa using h1
     ·rwa[show q%k=(q-k)%k from by rw[←Nat.add_mod_right (q-k),Nat.sub_add_cancel (by omega)]]
section
variable {α:Type}{k:Nat}{enc:α→List Value}{e:TypeId}{H:Array Obj}{ao:Option Addr}{cap:Nat}{xs:List α}
theorem Rv:cH k enc e H none 0 ([]:List α):=.inl ⟨rfl,rfl,rfl⟩
theorem cH.lt(h:cH k enc e H ao cap xs):Lt H.size ao:=by
 intro a ha;rcases h with⟨rfl,_⟩|⟨g,cur,rfl,hg,_⟩
 ·cases ha
 ·cases ha;exact(Sb.1 hg).1
theorem cH.RZ{w w':World}{S:Nat→Prop}(h:cH k enc e w.heap ao cap xs)(f:aA S w w')(hs:∀ a,ao=some a→¬ S a.block):cH k enc e w'.heap ao cap xs:=by
 rcases h with h|⟨g,cur,rfl,hg,r⟩
 ·exact .inl h
 ·exact .inr ⟨g,cur,rfl,f.obj hg (hs _ rfl),r⟩
theorem cH.RY{w w':World}(h:cH k enc e w.heap ao cap xs)(f:aA nob w w'):cH k enc e w'.heap ao cap xs:=h.RZ f (fun _ _=>id)
theorem cH.vw(hk:iP k enc)(h:cH k enc e H ao cap xs):VwM k enc H ao cap xs:=by
 rcases h with⟨rfl,rfl,rfl⟩|⟨g,cur,rfl,hg,h1,h2,h3,h4⟩
 ·exact Ru 0 (Sf _)
 · refine⟨h1,h2,fun _=>by simp,fun i x hx j v hv=>?_⟩
   have hi:i<xs.length:=(R9.1 hx).1;have hj:j<k:=by have:=(R9.1 hv).1;rwa[(hk x).1] at this
   have hadd:(adr (some ⟨g,0,none⟩) (i*k+j))=⟨g,i*k+j,none⟩:=by
    show (⟨g,0,none⟩:Addr).add _=_;rw[Addr.add_lit,S3]
   rw[hadd];simp only[aS,hg];have h5:=mG (fun x=>(hk x).1) xs i x hx j v hv;have hlt:i*k+j<xs.length*k:=by
    have:=SS k (show i+1≤xs.length from hi);rw[S4] at this;omega
   rw[←h4,SZ,R4 hlt] at h5;simpa using h5
end
theorem qC{α:Type}{k:Nat}{enc:α→List Value}(henc:iP k enc)(hk0:0<k){P:Program}{w:World}{t ty e:TypeId}{bytes:Nat}(ht:aN P t e k bytes)
 {ao:Option Addr}{cap:Nat}{xs:List α}(ho:cH k enc e w.heap ao cap xs){bo:Option Addr}{bcap:Nat}{ys:List α}(hy:VwM k enc w.heap bo bcap ys)
 (hb:(xs.length+ys.length)*bytes≤140737488355328)(hm:xs.length+ys.length≤maxLen) :
 ∃ ao' cap' w',(Builtin.append_ #[t,t] ty #[.slice ao xs.length cap,.slice bo ys.length bcap]).run P w=.ok (.slice ao' (xs.length+ys.length) cap') w' ∧
  cH k enc e w'.heap ao' cap' (xs++ys)∧aA (blk ao) w w'∧(∀ a,ao'=some a→ao=some a∨w.heap.size≤a.block)∧(ao'=none→ao=none∧ys=[]):=by
 obtain⟨i,z,hi,h1,hz,h2,h3⟩:=ht.parts;have hkl:∀ x,(enc x).length=k:=fun x=>(henc x).1;have hnews1:∀ u∈ys.flatMap enc,u.oneCell'=true:=by intro u hu;obtain⟨x,_,hx⟩:=List.mem_flatMap.1 hu;exact(henc x).2 u hx
 have hsmall:xs.length+ys.length≤9223372036854775807:=by unfold maxLen at hm;omega
 by_cases hys:ys=[]
 · subst hys
   refine⟨ao,cap,w,?_,by simpa using ho,Rk _ _,fun a ha=>.inl ha,fun h=>⟨h,rfl⟩⟩;exact gP ht.und hi (ho.vw henc).le
 · have hne:ys.length≠0:=fun e=>hys (SB e)
   obtain⟨b,rfl⟩:∃ b,bo=some b:=Ui.1 (hy.non hne);have hnews:∀ j u,(ys.flatMap enc)[j]?=some u→w.cell? (b.add j)=some u:=by
    intro j u hu;obtain⟨x,hx1,hx2⟩:=mF hkl hk0 ys j u hu;have:=hy.get _ x hx1 _ u hx2;rwa[TB,Nat.div_add_mod] at this
   have hl:(ys.flatMap enc).length=ys.length*i.size:=by rw[bJ hkl,h2]
   have big:∀ (old:Nat),old<xs.length+ys.length→cH k enc e (w.drew.alloc (.cells ((xs.flatMap enc).toArray++(ys.flatMap enc).toArray++Builtin.zeroCells z.cells (grownCap w (xs.length+ys.length) old e-(xs.length+ys.length))) e)).heap
    (some ⟨w.heap.size,0,none⟩) (grownCap w (xs.length+ys.length) old e) (xs++ys):=by
    intro old _;have hge:=grownCap_ge w (xs.length+ys.length) old e;refine .inr ⟨w.heap.size,_,rfl,heap_alloc_new w.drew _,by simpa using hge,grownCap_le_maxLen w _ old e hm,?_,?_⟩
    ·simp only[Array.size_append,T3,bJ hkl,size_zeroCells,hz];rw[←S4,←S4];congr 1;omega
    · have h6:((xs++ys).flatMap enc).length=(xs++ys).length*k:=bJ hkl _
      rw[TS] at h6 ⊢;simp only[Array.toList_append];rw[TH (by rw[h6];exact Sa _)];exact So (by rw[h6];exact Sa _)
   have hfoot:∀ (old:Nat),aA (blk ao) w (w.drew.alloc (.cells ((xs.flatMap enc).toArray++(ys.flatMap enc).toArray++Builtin.zeroCells z.cells (grownCap w (xs.length+ys.length) old e-(xs.length+ys.length))) e)):=fun old=>Rm _ _ _;rcases ho with⟨rfl,rfl,rfl⟩|⟨g,cur,rfl,hg,g1,g2,g3,g4⟩
   · have hr:=run_append_nil (P:=P) w t ty e i z ht.und hi h1 b ys.length bcap (ys.flatMap enc) hl hnews (by omega) (by simp at hsmall;omega) (by simp at hb;rw[h3];omega)
     have hB:=big 0 (by simp;omega);have hF:=hfoot 0;simp only[SL,S3,List.flatMap_nil,S2,Array.empty_append] at hB hF ⊢;exact⟨_,_,_,hr,hB,hF,fun a ha=>.inr (by cases ha;exact Sa _),fun h=>by cases h⟩
   · have holds:∀ j v,(xs.flatMap enc)[j]?=some v→w.cell? ((⟨g,0,none⟩:Addr).add j)=some v:=by
      intro j v hv;obtain⟨x,hx1,hx2⟩:=mF hkl hk0 xs j v hv;have:=(cH.vw henc (.inr ⟨g,cur,rfl,hg,g1,g2,g3,g4⟩:cH k enc e w.heap (some ⟨g,0,none⟩) cap xs)).get _ x hx1 _ v hx2;rwa[TB,Nat.div_add_mod] at this
     by_cases hroom:xs.length+ys.length≤cap
     · have hmul:(xs.length+ys.length)*k≤cap*k:=SS k hroom
       have hmul2:=hmul;rw[S4] at hmul2;have hr:=run_append_room (P:=P) w t ty e i ht.und hi g xs.length cap cur hg b ys.length bcap (ys.flatMap enc) hl hnews hnews1 hroom (by rw[bJ hkl,h2,g3];exact hmul2);have hcl:cur.toList.length=cap*k:=by simp[g3]
       have hle1:xs.length*k≤cap*k:=SS k (by omega);have hlen1:(cur.toList.take (xs.length*k)).length=xs.length*k:=by rw[Sh,hcl,Td hle1]
       refine⟨_,_,_,hr,.inr ⟨g,_,rfl,setRow_heap w g cur _ e _ hg,by simpa using hroom,g2,?_,?_⟩,?_,fun a ha=>.inl ha,fun h=>by cases h⟩
       ·rw[h2];simp only[T3,R6,hlen1,bJ hkl,Sm,Array.length_toList,g3];omega
       · have h6:((xs++ys).flatMap enc).length=(xs++ys).length*k:=bJ hkl _
         rw[h2,g4,TS] at *;rw[TH (by rw[h6];exact Sa _)];exact So (by rw[h6];exact Sa _)
       ·exact⟨rfl,rfl,rfl,by simp[World.setRow],fun k hk hn=>setRow_other w g k _ (fun e=>hn ⟨_,rfl,e.symm⟩)⟩
     · have hr:=run_append_grow (P:=P) w t ty e i z ht.und hi h1 ⟨g,0,none⟩ xs.length cap (xs.flatMap enc) (by rw[bJ hkl,h2]) holds b ys.length bcap (ys.flatMap enc) hl hnews (by omega) (by omega)
        (by rw[h3];exact growslice_fits (by omega) hb)
       exact⟨_,_,_,hr,big cap (by omega),hfoot cap,fun a ha=>.inr (by cases ha;exact Sa _),fun h=>by cases h⟩
def fV(P:Program)(t:TypeId)(k:Nat):Bool:=
 (match P.underlying t with|some (.struct _)|some (.array _ _)=>true|_=>false) && ((P.info? t).map (·.size) == some k)
theorem uF{P:Program}{t:TypeId}{k:Nat}(h:fV P t k=true)(w:World):(Go.isAgg t).run P w=.ok true w:=by
 simp only[fV,SA] at h;unfold Go.isAgg;cases hu:P.underlying t with
|none=>simp[hu] at h
|some d=>rw[Sem.run_bind,run_underlying hu w];cases d<;>simp_all
theorem pF{P:Program}{t:TypeId}{k:Nat}(h:fV P t k=true)(w:World):(sizeOf t).run P w=.ok k w:=by
 simp only[fV,SA,beq_iff_eq] at h;obtain⟨i,hi,h1⟩:=Sn.1 h.2;simp[sizeOf,typeInfo,hi,h1]
section
variable {P:Program}{N:Nt}{Q:Exit→Act→World→Prop}{l:SF}{w:World}{ops:Array Oper}{rest:List Oper}
variable {op:Op}{ty:TypeId}{pos:String}{aft:Array Edge}{d:Nat}{v:Value}{CH:Array Obj→Prop}
variable {x y:Operand}{t t':TypeId}{g:Option (Nat×Bool)}{dd:Option Nat}
theorem P2{ad:Addr}{cs:List Value}(ht:fV P t cs.length=true)(hx:evL l x=some (.pointer (some ad)))(hc:∀ H,CH H→∀ j v,cs[j]?=some v→aS H (ad.add j)=some v) :
 Cm P N CH l ⟨dd,.load t x,ty,pos,aft,g⟩ (.agg cs.toArray):=fun a w ha hw=>by
 have h1:=hc _ hw;have hl:=run_loadCells_list (P:=P) w ad cs h1;simp only[execOp,ha.ev hx,Instr.loadAt,Instr.sureAddr,Sem.run_bind,loadVar,uF ht w,pF ht w,Result.andThen_ok,Sem.run_pure,if_true,hl]
theorem OG{H:Array Obj}{ad:Addr}{cs:List Value}(ht:fV P t cs.length=true)(hx:evL l x=some (.pointer (some ad)))(hc:∀ j v,cs[j]?=some v→aS H (ad.add j)=some v) :
 Cm P N (· = H) l ⟨dd,.load t x,ty,pos,aft,g⟩ (.agg cs.toArray):=P2 ht hx (fun _ e=>by rw[e];exact hc)
theorem QA{b o:Nat}{cur vs:List Value}{T:TypeId}(ht:fV P t vs.length=true)(hx:evL l x=some (.pointer (some ⟨b,o,none⟩)))(hy:evL l y=some (.agg vs.toArray))(h1:∀ v∈vs,v.oneCell'=true)
 (hg:w.heap[b]?=some (.cells cur.toArray T (0,0)))(ho:o+vs.length≤cur.length)
 (h:∀ w',w'.heap[b]?=some (.cells (cur.take o++vs++cur.drop (o+vs.length)).toArray T (0,0))→w'.heap.size=w.heap.size→aA (· = b) w w'→Sl P N ops Q rest l w') :
 Sl P N ops Q (⟨none,.store t x y,ty,pos,aft,none⟩::rest) l w:=by
 have hst:=run_storeCells_at P b o T vs 0 cur.toArray w hg (by simpa using ho) h1;simp only[T2] at hst;refine Pk (w':=_) (fun a ha=>?_) (h (w.setRow b (cur.take o++vs++cur.drop (o+vs.length)).toArray) ?_ ?_ ?_)
 ·simp only[execOp,ha.ev hx,ha.ev hy,Instr.storeAt,Instr.sureAddr,Sem.run_bind,storeVar,pF ht w,Result.andThen_ok,Sem.run_pure,Value.cells,T3,ne_eq,not_true,if_false,hst]
 ·exact setRow_heap w b cur.toArray _ T _ hg
 ·simp[World.setRow]
 ·exact⟨rfl,rfl,rfl,by simp[World.setRow],fun k hk hn=>setRow_other w b k _ (fun e=>hn e)⟩
theorem OD{b:Nat}{cur vs:List Value}{T:TypeId}(ht:fV P t vs.length=true)(hx:evL l x=some (pT b))(hy:evL l y=some (.agg vs.toArray))(h1:∀ v∈vs,v.oneCell'=true)
 (hg:w.heap[b]?=some (.cells cur.toArray T (0,0)))(ho:vs.length=cur.length)
 (h:∀ w',w'.heap[b]?=some (.cells vs.toArray T (0,0))→w'.heap.size=w.heap.size→aA (· = b) w w'→Sl P N ops Q rest l w') :
 Sl P N ops Q (⟨none,.store t x y,ty,pos,aft,none⟩::rest) l w:=by
 refine QA ht hx hy h1 hg (by omega) (fun w' h2 h3 h4=>h w' ?_ h3 h4);rw[h2];simp[ho]
theorem sA {b:Nat} {cur vs:List Value} {T:TypeId} (hy:evL l y=some (.agg vs.toArray)) (ht:fV P t vs.length=true) (h1:∀ v∈vs,v.oneCell'=true) (hg:w.heap[b]?=some (.cells cur.toArray T (0,0))) (h:∀ w',w'.heap[b]?=some (.cells vs.toArray T (0,0))→w'.heap.size=w.heap.size→aA (· = b) w w'→Sl P N ops Q rest l w') (hx:evL l x=some (pT b):=by rfl) (ho:vs.length=cur.length:=by rfl):Sl P N ops Q (⟨none,.store t x y,ty,pos,aft,none⟩::rest) l w:=OD ht hx hy h1 hg ho h
theorem Pn{α:Type}{k:Nat}{enc:α→List Value}(henc:iP k enc)(hk0:SH 0 k=true){e:TypeId}{bytes:Nat}(ht:aN P t e k bytes)
 {ao bo:Option Addr}{cap bcap:Nat}{xs ys:List α}(hx:evL l x=some (.slice ao xs.length cap))(hy:evL l y=some (.slice bo ys.length bcap))
 (ho:cH k enc e w.heap ao cap xs)(hv:VwM k enc w.heap bo bcap ys)
 (hb:(xs.length+ys.length)*bytes≤140737488355328)(hm:xs.length+ys.length≤maxLen)(hd:SH d N.n=true)
 (h:∀ ao' cap' w',cH k enc e w'.heap ao' cap' (xs++ys)→aA (blk ao) w w'→(∀ a,ao'=some a→ao=some a∨w.heap.size≤a.block)→(ao'=none→ao=none∧ys=[]) →
   Sl P N ops Q rest ((d,.slice ao' (xs++ys).length cap')::l) w') :
 Sl P N ops Q (⟨some d,.call ⟨.builtin .append,#[x,y],#[t,t]⟩,ty,pos,aft,none⟩::rest) l w:=by
 obtain⟨ao',cap',w',hr,h1,h2,h3,h4⟩:=qC henc (by simpa[Tp] using hk0) (ty:=ty) ht ho hv hb hm;refine OY (w':=w') (v:=.slice ao' (xs++ys).length cap') (fun a ha=>?_) hd (h ao' cap' w' h1 h2 h3 h4);simp[execOp,ha.ev hx,ha.ev hy,resolve,invoke,builtin,hr]
theorem Pa{e:TypeId}{size bytes:Nat}(ht:aN P t e size bytes){n:Nat}{parts:List (Nat×Operand)}{vs:List (Nat×Value)}{zc cs:Array Value}
 (hz:(P.info? e).map (fun i=>i.zero.map (·.cells))=some (some zc))(hn:Nat.ble (n*size) 16777216=true)(hn0:SH 0 (n*size)=true)(hx:evPs l parts=some vs)
 (hf:Instr.fill (fun i=>some (i*size,size)) ((Array.range (n*size)).map (zc[· % zc.size]!)) vs=some cs)(hd:SH d N.n=true)
 (h:∀ w',w'.heap[w.heap.size]?=some (.cells cs e (0,0))→w'.heap.size=w.heap.size+1→aA nob w w'→Sl P N ops Q rest ((d,.slice (some ⟨w.heap.size,0,none⟩) n n)::l) w') :
 Sl P N ops Q (⟨some d,.buildSlice t n parts.toArray,ty,pos,aft,none⟩::rest) l w:=by
 obtain⟨i,hi,h1⟩:=Sn.1 hz;obtain⟨z,hz',rfl⟩:=Sn.1 h1
 have hn' : ¬ (n * size > 2 ^ 24) := by have : n * size ≤ 16777216 := by simpa[Uk] using hn
                                        show ¬ (_ > 16777216);omega
 have hn0' : ¬ (n * size = 0) := by have : 0 < n * size := by simpa[Tp] using hn0
                                    omega
 refine OY (w':=w.alloc (.cells cs e)) (fun a ha=>?_) hd (h _ (heap_alloc_new w _) (by simp) (aA.alloc _ _ _));have hv:=ha.evPs hx;simp only[execOp,Instr.buildSlice,Sem.run_bind,run_underlying ht.und,ht.size,Result.andThen_ok,R3 hn',R3 hn0',Sem.run_pure,zeroValue,typeInfo,run_program,hi,hz',UC,hv];rw[hf];simp[newRow]
theorem fG{α:Type}{k:Nat}{enc:α→List Value}(hk:iP k enc){e:TypeId}{H:Array Obj}{g:Nat}{xs:List α}(hg:H[g]?=some (.cells (xs.flatMap enc).toArray e (0,0)))(hm:xs.length≤maxLen):cH k enc e H (some ⟨g,0,none⟩) xs.length xs:=
 .inr ⟨g,_,rfl,hg,Sa _,hm,by simp[bJ (fun x=>(hk x).1)],by simp;exact So (by rw[bJ (fun x=>(hk x).1)];exact Sa _)⟩
theorem DU{f:FuncId}{xs:List Operand}{vs:List Value}{ts:Array TypeId}{a:Act}(hf:fnB P f=true)(ha:bS N l a)(hc:evL l x=some (.func (.func f) #[] #[]))(hx:oX l xs=some vs) :
 (execOp a.eval ⟨dd,.call ⟨.value x,xs.toArray,ts⟩,ty,pos,aft,g⟩).run P w=.ok (.enter f vs.toArray) w:=by
 have h1:=ha.ev hc;simp[execOp,resolve,h1,Deferred.ofValue,invoke,dH hf];rw[←ha.evs hx]
theorem Pt{f:FuncId}{xs:List Operand}{vs:List Value}{ts:Array TypeId}(hf:fnB P f=true)(hc0:evL l x=some (.func (.func f) #[] #[]))(hx:oX l xs=some vs){R:Value→World→Prop}(hc:Calls P f vs.toArray w (Ret R))(hd:SH d N.n=true)
 (h:∀ v w',R v w'→Sl P N ops Q rest ((d,v)::l) w') :
 Sl P N ops Q (⟨some d,.call ⟨.value x,xs.toArray,ts⟩,ty,pos,aft,none⟩::rest) l w:=fun a ha=>by
 unfold wpList;rw[R4 (by simp[Region.wanted])];refine .inl ?_;unfold Oper.wp;rw[DU hf ha hc0 hx];refine hc.mono ?_;rintro e w' ⟨v,rfl,hR⟩;exact h v w' hR _ (ha.put hd v)
def okV(P:Program)(t:TypeId)(v:Value):Prop:=
 match P.underlying t,v with
|some (.int k),.int k' _=>k'=k
|some .string,.string _=>True
|some .bool,.bool _=>True
|_,_=>False
theorem pY {P : Program} (w : World) {d d1 : Nat} (hd1 : d1 = d + 1) {xs ys : Array Value} : ∀ (fs : List Field), (∀ f ∈ fs, f.name ≠ "_" ∧ ∃ a b, xs[f.offset]? = some a ∧ ys[f.offset]? = some b ∧ okV P f.type a ∧ okV P f.type b) →
 ∃ r,(Op.eqFields d1 xs ys fs).run P w=.ok r w∧(r=true↔∀ f∈fs,xs[f.offset]?=ys[f.offset]?)
 | [],_=>⟨true,by simp [Op.eqFields],by simp⟩
 | f::fs,h=>by
   subst hd1;obtain ⟨h1,a,b,h2,h3,h4,h5⟩:=h f (by simp);obtain ⟨r,hr,hr2⟩:=pY (d:=d) w rfl fs (fun g hg=>h g (by simp [hg]));have hag:(isAgg f.type).run P w=.ok false w:=by
    unfold isAgg okV at *;cases hu:P.underlying f.type with
    | none=>simp [hu] at h4
    | some u=>rw [Sem.run_bind,run_underlying hu w];cases u <;> simp_all
   have hpa:(part f.type xs f.offset).run P w=.ok a w:=by
    unfold part;rw [Sem.run_bind,hag];simp [h2]
   have hpb:(part f.type ys f.offset).run P w=.ok b w:=by
    unfold part;rw [Sem.run_bind,hag];simp [h3]
   have he:∃ q,(Op.equalIn (d+1) f.type a b).run P w=.ok q w∧(q=true↔a=b):=by
    unfold okV at h4 h5;cases hu:P.underlying f.type with
    | none=>simp [hu] at h4
    | some u=>
      cases u <;> simp [hu] at h4 h5 <;> cases a <;> simp at h4 <;> cases b <;> simp at h5
      case int.int.int k k1 m k2 n=>subst h4;subst h5;exact ⟨m == n,run_equalIn_int w d _ _ _ m n hu,by simp⟩
      case string.string.string m n=>exact ⟨_,run_equalIn_string w d _ m n hu,by rw [beq_iff_eq,ByteArray.toList_eq,ByteArray.toList_eq];simp [ByteArray.ext_iff]⟩
      case bool.bool.bool m n=>exact ⟨_,run_equalIn_bool w d _ m n hu,by simp⟩
   obtain ⟨q,hq,hq2⟩:=he;refine ⟨q && r,?_,?_⟩
   · unfold Op.eqFields
     rw [R4 h1];simp only [Sem.run_bind,hpa,hpb,hq,Result.andThen_ok];cases q <;> simp [hr]
   · rw [SA,hq2,hr2]
     simp [h2,h3]
theorem Ov{T:TypeId}{zc:Array Value}(hz:(P.info? T).map (fun i=>i.zero.map (·.cells))=some (some zc))(hd:SH d N.n=true)
 (h:∀ w',w'.heap[w.heap.size]?=some (.cells zc T (0,0))→w'.heap.size=w.heap.size+1→aA nob w w'→Sl P N ops Q rest ((d,pT w.heap.size)::l) w') :
 Sl P N ops Q (⟨some d,.alloc T,ty,pos,aft,none⟩::rest) l w:=by
 obtain⟨i,hi,h1⟩:=Sn.1 hz;obtain⟨z,hz',rfl⟩:=Sn.1 h1;refine OY (w':=w.alloc (.cells z.cells T)) (fun a ha=>?_) hd (h _ (heap_alloc_new w _) (by simp) (aA.alloc _ _ _));simp[execOp,Instr.alloc,zeroValue,typeInfo,hi,hz',newVar,newRow]
theorem Pz{b:Bool}(hx:evL l x=some (.bool b)):Cm P N CH l ⟨dd,.unOp .not t x,ty,pos,aft,g⟩ (.bool (decide (b=false))):=by
 have h:=@OL P N l ty pos aft CH x t g dd b hx;cases b<;>exact h
theorem OP{o:Oper}{b:Bool}(h:Cm P N CH l o (.bool b)):Cm P N CH l o (.bool (decide (b=true))):=by
 have:decide (b=true)=b:=by cases b<;>rfl
 rwa[this]
end
abbrev CA(f:Nat)(xs:List Value)(W:World)(R:Value→World→Prop):Prop:=Calls Tryz.prog f xs.toArray W (Ret R)
theorem ty3:Tryz.prog.underlying 3=some (.int .i64):=by kernel_rfl
theorem is3:(Tryz.prog.underlying 3).isSome=true:=by kernel_rfl
theorem aL:eB Tryz.prog 3=true:=by kernel_rfl
instance:Sca Tryz.prog 3:=⟨aL⟩
theorem z3:(Tryz.prog.info? 3).map (·.zero)=some (some (iV 0)):=by kernel_rfl
theorem DT:eB Tryz.prog 4=true:=by kernel_rfl
instance:Sca Tryz.prog 4:=⟨DT⟩
theorem z4:(Tryz.prog.info? 4).map (·.zero)=some (some (.bool false)):=by kernel_rfl
theorem ty4:Tryz.prog.underlying 4=some .bool:=by kernel_rfl
theorem ty5:Tryz.prog.underlying 5=some (.int .u8):=by kernel_rfl
theorem is5:(Tryz.prog.underlying 5).isSome=true:=by kernel_rfl
theorem uL:eB Tryz.prog 5=true:=by kernel_rfl
instance:Sca Tryz.prog 5:=⟨uL⟩
theorem zc5:(Tryz.prog.info? 5).map (fun i=>i.zero.map (·.cells))=some (some #[.int .u8 0]):=by kernel_rfl
theorem z5:(Tryz.prog.info? 5).map (·.zero)=some (some (.int .u8 0)):=by kernel_rfl
theorem ty9:Tryz.prog.underlying 9=some .string:=by kernel_rfl
theorem lV:eB Tryz.prog 9=true:=by kernel_rfl
instance:Sca Tryz.prog 9:=⟨lV⟩
theorem vH:eB Tryz.prog 22=true:=by kernel_rfl
instance:Sca Tryz.prog 22:=⟨vH⟩
theorem gL:aN Tryz.prog 22 37 10 136:=⟨by kernel_rfl,by kernel_rfl⟩
instance:Slt Tryz.prog 22:=⟨_,_,_,gL⟩
theorem aT:eB Tryz.prog 25=true:=by kernel_rfl
instance:Sca Tryz.prog 25:=⟨aT⟩
theorem aP:aN Tryz.prog 25 5 1 1:=⟨by kernel_rfl,by kernel_rfl⟩
instance:Slt Tryz.prog 25:=⟨_,_,_,aP⟩
theorem KY:(Tryz.prog.info? 25).map (fun i=>i.zero.map (·.cells))=some (some #[sN]):=by kernel_rfl
theorem FB:eB Tryz.prog 26=true:=by kernel_rfl
instance:Sca Tryz.prog 26:=⟨FB⟩
theorem pO:eB Tryz.prog 31=true:=by kernel_rfl
instance:Sca Tryz.prog 31:=⟨pO⟩
theorem bP:aN Tryz.prog 31 3 1 8:=⟨by kernel_rfl,by kernel_rfl⟩
instance:Slt Tryz.prog 31:=⟨_,_,_,bP⟩
theorem z31:(Tryz.prog.info? 31).map (·.zero)=some (some sN):=by kernel_rfl
theorem lK:eB Tryz.prog 32=true:=by kernel_rfl
instance:Sca Tryz.prog 32:=⟨lK⟩
theorem lU:aN Tryz.prog 32 9 1 16:=⟨by kernel_rfl,by kernel_rfl⟩
instance:Slt Tryz.prog 32:=⟨_,_,_,lU⟩
theorem Nu:(Tryz.prog.info? 34).map (fun i=>i.zero.map (·.cells))=some (some #[iV 0,iV 0,iV 0]):=by kernel_rfl
theorem DF:fV Tryz.prog 34 3=true:=by kernel_rfl
instance Nq:Fld Tryz.prog 34 0 0:=⟨by kernel_rfl⟩
instance Np:Fld Tryz.prog 34 1 1:=⟨by kernel_rfl⟩
instance No:Fld Tryz.prog 34 2 2:=⟨by kernel_rfl⟩
theorem gO:eB Tryz.prog 35=true:=by kernel_rfl
instance:Sca Tryz.prog 35:=⟨gO⟩
theorem oJ:aN Tryz.prog 35 123 2 40:=⟨by kernel_rfl,by kernel_rfl⟩
instance:Slt Tryz.prog 35:=⟨_,_,_,oJ⟩
theorem fS:(Tryz.prog.info? 37).map (fun i=>i.zero.map (·.cells))=some (some #[sN,iV 0,iV 0,iV 0,iV 0,iV 0,sN,.string ByteArray.empty,sN,.bool false]):=by kernel_rfl
theorem aX:fV Tryz.prog 37 10=true:=by kernel_rfl
theorem C5:dV Tryz.prog 37=some [(0,1),(1,1),(2,1),(3,3),(6,1),(7,1),(8,1),(9,1)]:=by kernel_rfl
instance rD:Fld Tryz.prog 37 0 0:=⟨by kernel_rfl⟩
instance Nn:Fld Tryz.prog 37 1 1:=⟨by kernel_rfl⟩
instance Nm:Fld Tryz.prog 37 2 2:=⟨by kernel_rfl⟩
instance Nl:Fld Tryz.prog 37 3 3:=⟨by kernel_rfl⟩
instance rB:Fld Tryz.prog 37 4 6:=⟨by kernel_rfl⟩
instance Nk:Fld Tryz.prog 37 5 7:=⟨by kernel_rfl⟩
instance lA:Fld Tryz.prog 37 6 8:=⟨by kernel_rfl⟩
instance Nj:Fld Tryz.prog 37 7 9:=⟨by kernel_rfl⟩
theorem K6:Tryz.prog.underlying 39=some (.int .u32):=by kernel_rfl
theorem Kq:(Tryz.prog.underlying 39).isSome=true:=by kernel_rfl
theorem FA:eB Tryz.prog 39=true:=by kernel_rfl
instance:Sca Tryz.prog 39:=⟨FA⟩
theorem MM:fV Tryz.prog 41 256=true:=by kernel_rfl
theorem mM:(Tryz.prog.info? 44).map (fun i=>i.zero.map (·.cells))=some (some #[iV 0,iV 0,iV 0,iV 0,iV 0,iV 0,iV 0,iV 0,iV 0,iV 0]):=by kernel_rfl
theorem cU:fV Tryz.prog 44 10=true:=by kernel_rfl
theorem pS:dV Tryz.prog 44=some [(0,1),(1,1),(2,1),(3,1),(4,1),(5,1),(6,1),(7,1),(8,1),(9,1)]:=by kernel_rfl
instance Ni:Fld Tryz.prog 44 0 0:=⟨by kernel_rfl⟩
instance Nh:Fld Tryz.prog 44 1 1:=⟨by kernel_rfl⟩
instance Ng:Fld Tryz.prog 44 2 2:=⟨by kernel_rfl⟩
instance Nf:Fld Tryz.prog 44 3 3:=⟨by kernel_rfl⟩
instance Nc:Fld Tryz.prog 44 4 4:=⟨by kernel_rfl⟩
instance Nb:Fld Tryz.prog 44 5 5:=⟨by kernel_rfl⟩
instance Na:Fld Tryz.prog 44 6 6:=⟨by kernel_rfl⟩
instance M9:Fld Tryz.prog 44 7 7:=⟨by kernel_rfl⟩
instance M8:Fld Tryz.prog 44 8 8:=⟨by kernel_rfl⟩
instance M7:Fld Tryz.prog 44 9 9:=⟨by kernel_rfl⟩
theorem Jy:eB Tryz.prog 47=true:=by kernel_rfl
instance:Sca Tryz.prog 47:=⟨Jy⟩
theorem rY:eB Tryz.prog 53=true:=by kernel_rfl
instance:Sca Tryz.prog 53:=⟨rY⟩
theorem Ns:(Tryz.prog.info? 56).map (fun i=>i.zero.map (·.cells))=some (some #[.pointer none,.pointer none,.pointer none]):=by kernel_rfl
theorem Lh:dV Tryz.prog 56=some [(0,1),(1,1),(2,1)]:=by kernel_rfl
instance M6:Fld Tryz.prog 56 0 0:=⟨by kernel_rfl⟩
instance M5:Fld Tryz.prog 56 1 1:=⟨by kernel_rfl⟩
instance M4:Fld Tryz.prog 56 2 2:=⟨by kernel_rfl⟩
theorem Lc:eB Tryz.prog 58=true:=by kernel_rfl
instance:Sca Tryz.prog 58:=⟨Lc⟩
theorem La:eB Tryz.prog 59=true:=by kernel_rfl
instance:Sca Tryz.prog 59:=⟨La⟩
theorem K9:eB Tryz.prog 60=true:=by kernel_rfl
instance:Sca Tryz.prog 60:=⟨K9⟩
theorem Nr:(Tryz.prog.info? 62).map (fun i=>i.zero.map (·.cells))=some (some #[.pointer none,.pointer none,.pointer none,sN,sN,.map none,.map none,.map none]):=by kernel_rfl
theorem Lg:dV Tryz.prog 62=some [(0,3),(3,1),(4,1),(5,1),(6,1),(7,1)]:=by kernel_rfl
instance M3:Fld Tryz.prog 62 0 0:=⟨by kernel_rfl⟩
instance M1:Fld Tryz.prog 62 1 3:=⟨by kernel_rfl⟩
instance M0:Fld Tryz.prog 62 2 4:=⟨by kernel_rfl⟩
instance MZ:Fld Tryz.prog 62 3 5:=⟨by kernel_rfl⟩
instance MY:Fld Tryz.prog 62 4 6:=⟨by kernel_rfl⟩
instance MX:Fld Tryz.prog 62 5 7:=⟨by kernel_rfl⟩
theorem pN:eB Tryz.prog 63=true:=by kernel_rfl
instance:Sca Tryz.prog 63:=⟨pN⟩
theorem rV:aN Tryz.prog 71 25 1 24:=⟨by kernel_rfl,by kernel_rfl⟩
instance:Slt Tryz.prog 71:=⟨_,_,_,rV⟩
theorem vG:eB Tryz.prog 72=true:=by kernel_rfl
instance:Sca Tryz.prog 72:=⟨vG⟩
theorem JR:(Tryz.prog.info? 72).map (fun i=>i.zero.map (·.cells))=some (some #[.pointer none]):=by kernel_rfl
theorem xO:aN Tryz.prog 73 72 1 8:=⟨by kernel_rfl,by kernel_rfl⟩
instance:Slt Tryz.prog 73:=⟨_,_,_,xO⟩
theorem EZ:(Tryz.prog.info? 88).map (fun i=>i.zero.map (·.cells))=some (some #[iV 0,iV 0,iV 0,iV 0,iV 0,iV 0,iV 0,iV 0,iV 0,iV 0,.string ByteArray.empty]):=by kernel_rfl
theorem qB:fV Tryz.prog 88 11=true:=by kernel_rfl
theorem Lf:dV Tryz.prog 88=some [(0,1),(1,1),(2,1),(3,1),(4,1),(5,1),(6,1),(7,1),(8,1),(9,1),(10,1)]:=by kernel_rfl
instance MW:Fld Tryz.prog 88 0 0:=⟨by kernel_rfl⟩
instance MV:Fld Tryz.prog 88 1 1:=⟨by kernel_rfl⟩
instance MU:Fld Tryz.prog 88 2 2:=⟨by kernel_rfl⟩
instance MT:Fld Tryz.prog 88 3 3:=⟨by kernel_rfl⟩
instance MS:Fld Tryz.prog 88 4 4:=⟨by kernel_rfl⟩
instance MR:Fld Tryz.prog 88 5 5:=⟨by kernel_rfl⟩
instance MQ:Fld Tryz.prog 88 6 6:=⟨by kernel_rfl⟩
instance MP:Fld Tryz.prog 88 7 7:=⟨by kernel_rfl⟩
instance MO:Fld Tryz.prog 88 8 8:=⟨by kernel_rfl⟩
instance MN:Fld Tryz.prog 88 9 9:=⟨by kernel_rfl⟩
instance Mm:Fld Tryz.prog 88 10 10:=⟨by kernel_rfl⟩
theorem E7:Tryz.prog.underlying 97=some (.int .u64):=by kernel_rfl
theorem Gu:(Tryz.prog.underlying 97).isSome=true:=by kernel_rfl
instance MH:Fld Tryz.prog 106 0 0:=⟨by kernel_rfl⟩
theorem K4:(Tryz.prog.info? 108).map (fun i=>i.zero.map (·.cells))=some (some #[iV 0,sN]):=by kernel_rfl
theorem J7:dV Tryz.prog 108=some [(0,1),(1,1)]:=by kernel_rfl
instance MG:Fld Tryz.prog 108 0 0:=⟨by kernel_rfl⟩
instance MF:Fld Tryz.prog 108 1 1:=⟨by kernel_rfl⟩
theorem rL:(Tryz.prog.info? 123).map (fun i=>i.zero.map (·.cells))=some (some #[.string ByteArray.empty,sN]):=by kernel_rfl
theorem dM:fV Tryz.prog 123 2=true:=by kernel_rfl
instance ME:Fld Tryz.prog 123 0 0:=⟨by kernel_rfl⟩
instance nQ:Fld Tryz.prog 123 1 1:=⟨by kernel_rfl⟩
theorem K3:(Tryz.prog.info? 125).map (fun i=>i.zero.map (·.cells))=some (some #[.pointer none,sN,sN]):=by kernel_rfl
theorem J6:dV Tryz.prog 125=some [(0,1),(1,1),(2,1)]:=by kernel_rfl
instance MD:Fld Tryz.prog 125 0 0:=⟨by kernel_rfl⟩
instance MC:Fld Tryz.prog 125 1 1:=⟨by kernel_rfl⟩
instance MB:Fld Tryz.prog 125 2 2:=⟨by kernel_rfl⟩
theorem K2:(Tryz.prog.info? 132).map (fun i=>i.zero.map (·.cells))=some (some #[.pointer none,iV 0,sN,.map none]):=by kernel_rfl
theorem J5:dV Tryz.prog 132=some [(0,1),(1,1),(2,1),(3,1)]:=by kernel_rfl
instance MA:Fld Tryz.prog 132 0 0:=⟨by kernel_rfl⟩
instance Mz:Fld Tryz.prog 132 1 1:=⟨by kernel_rfl⟩
instance My:Fld Tryz.prog 132 2 2:=⟨by kernel_rfl⟩
instance Mx:Fld Tryz.prog 132 3 3:=⟨by kernel_rfl⟩
theorem uV:(Tryz.prog.info? 143).map (fun i=>i.zero.map (·.cells))=some (some #[iV 0,sN]):=by kernel_rfl
instance Mw:Fld Tryz.prog 143 0 0:=⟨by kernel_rfl⟩
instance Mv:Fld Tryz.prog 143 1 1:=⟨by kernel_rfl⟩
theorem CW:aN Tryz.prog 155 157 3 32:=⟨by kernel_rfl,by kernel_rfl⟩
instance:Slt Tryz.prog 155:=⟨_,_,_,CW⟩
theorem E2:(Tryz.prog.info? 157).map (fun i=>i.zero.map (·.cells))=some (some #[.string ByteArray.empty,iV 0,iV 0]):=by kernel_rfl
theorem Cu:fV Tryz.prog 157 3=true:=by kernel_rfl
theorem J4:dV Tryz.prog 157=some [(0,1),(1,1),(2,1)]:=by kernel_rfl
instance Mu:Fld Tryz.prog 157 0 0:=⟨by kernel_rfl⟩
instance Mt:Fld Tryz.prog 157 1 1:=⟨by kernel_rfl⟩
instance Ms:Fld Tryz.prog 157 2 2:=⟨by kernel_rfl⟩
theorem E1:(Tryz.prog.info? 168).map (fun i=>i.zero.map (·.cells))=some (some #[iV 0,iV 0,iV 0,iV 0,iV 0,iV 0,iV 0,iV 0]):=by kernel_rfl
theorem Ct:fV Tryz.prog 168 8=true:=by kernel_rfl
theorem K1:(Tryz.prog.info? 184).map (fun i=>i.zero.map (·.cells))=some (some #[sN,sN]):=by kernel_rfl
theorem J3:dV Tryz.prog 184=some [(0,1),(1,1)]:=by kernel_rfl
instance Mr:Fld Tryz.prog 184 0 0:=⟨by kernel_rfl⟩
instance Mq:Fld Tryz.prog 184 1 1:=⟨by kernel_rfl⟩
theorem pM:aN Tryz.prog 191 196 3 24:=⟨by kernel_rfl,by kernel_rfl⟩
instance:Slt Tryz.prog 191:=⟨_,_,_,pM⟩
theorem JY:eB Tryz.prog 194=true:=by kernel_rfl
instance:Sca Tryz.prog 194:=⟨JY⟩
theorem fX:(Tryz.prog.info? 196).map (fun i=>i.zero.map (·.cells))=some (some #[.nilFunc,iV 0,iV 0]):=by kernel_rfl
theorem zE:fV Tryz.prog 196 3=true:=by kernel_rfl
theorem gT:dV Tryz.prog 196=some [(0,1),(1,1),(2,1)]:=by kernel_rfl
instance Mp:Fld Tryz.prog 196 0 0:=⟨by kernel_rfl⟩
instance Mo:Fld Tryz.prog 196 1 1:=⟨by kernel_rfl⟩
instance Mn:Fld Tryz.prog 196 2 2:=⟨by kernel_rfl⟩
theorem CC:(Tryz.prog.info? 201).map (fun i=>i.zero.map (·.cells))=some (some #[.int .u8 0,.int .u8 0,.int .u8 0]):=by kernel_rfl
theorem uG:fV Tryz.prog 201 3=true:=by kernel_rfl
theorem KV:(Tryz.prog.info? 270).map (fun i=>i.zero.map (·.cells))=some (some #[.int .u8 0,.int .u8 0,.int .u8 0]):=by kernel_rfl
theorem zD:fV Tryz.prog 270 3=true:=by kernel_rfl
theorem fn8:fnB Tryz.prog 8=true:=by kernel_rfl
theorem KI:fnB Tryz.prog 10=true:=by kernel_rfl
theorem KH:fnB Tryz.prog 13=true:=by kernel_rfl
theorem KG:fnB Tryz.prog 14=true:=by kernel_rfl
theorem Oe:fnB Tryz.prog 18=true:=by kernel_rfl
theorem IZ:fnB Tryz.prog 19=true:=by kernel_rfl
theorem Od:fnB Tryz.prog 20=true:=by kernel_rfl
theorem Oc:fnB Tryz.prog 21=true:=by kernel_rfl
theorem Ob:fnB Tryz.prog 22=true:=by kernel_rfl
theorem Ly:fnB Tryz.prog 23=true:=by kernel_rfl
theorem Lw:fnB Tryz.prog 24=true:=by kernel_rfl
theorem Oa:fnB Tryz.prog 25=true:=by kernel_rfl
theorem IY:fnB Tryz.prog 26=true:=by kernel_rfl
theorem IX:fnB Tryz.prog 27=true:=by kernel_rfl
theorem N9:fnB Tryz.prog 28=true:=by kernel_rfl
theorem N8:fnB Tryz.prog 29=true:=by kernel_rfl
theorem N7:fnB Tryz.prog 41=true:=by kernel_rfl
theorem KF:fnB Tryz.prog 42=true:=by kernel_rfl
theorem Lv:fnB Tryz.prog 43=true:=by kernel_rfl
theorem KE:fnB Tryz.prog 44=true:=by kernel_rfl
theorem Lu:fnB Tryz.prog 45=true:=by kernel_rfl
theorem Ls:fnB Tryz.prog 46=true:=by kernel_rfl
theorem AS:fnB Tryz.prog 47=true:=by kernel_rfl
theorem KD:fnB Tryz.prog 48=true:=by kernel_rfl
theorem Lr:fnB Tryz.prog 49=true:=by kernel_rfl
theorem N6:fnB Tryz.prog 50=true:=by kernel_rfl
theorem N5:fnB Tryz.prog 51=true:=by kernel_rfl
theorem N4:fnB Tryz.prog 55=true:=by kernel_rfl
theorem N3:fnB Tryz.prog 56=true:=by kernel_rfl
theorem N2:fnB Tryz.prog 57=true:=by kernel_rfl
theorem Lq:fnB Tryz.prog 59=true:=by kernel_rfl
theorem Lp:fnB Tryz.prog 60=true:=by kernel_rfl
theorem Ca:fnB Tryz.prog 61=true:=by kernel_rfl
theorem Lo:fnB Tryz.prog 62=true:=by kernel_rfl
theorem N1:fnB Tryz.prog 63=true:=by kernel_rfl
theorem N0:fnB Tryz.prog 64=true:=by kernel_rfl
theorem NZ:fnB Tryz.prog 65=true:=by kernel_rfl
theorem NY:fnB Tryz.prog 66=true:=by kernel_rfl
theorem NX:fnB Tryz.prog 67=true:=by kernel_rfl
theorem NW:fnB Tryz.prog 68=true:=by kernel_rfl
theorem NV:fnB Tryz.prog 69=true:=by kernel_rfl
theorem NU:fnB Tryz.prog 70=true:=by kernel_rfl
theorem NT:fnB Tryz.prog 71=true:=by kernel_rfl
theorem Ln:fnB Tryz.prog 72=true:=by kernel_rfl
theorem NS:fnB Tryz.prog 73=true:=by kernel_rfl
theorem NR:fnB Tryz.prog 74=true:=by kernel_rfl
theorem NQ:fnB Tryz.prog 75=true:=by kernel_rfl
theorem tH:fnB Tryz.prog 76=true:=by kernel_rfl
theorem yQ:fnB Tryz.prog 77=true:=by kernel_rfl
theorem IW:fnB Tryz.prog 78=true:=by kernel_rfl
theorem GL:fnB Tryz.prog 79=true:=by kernel_rfl
theorem NP:fnB Tryz.prog 80=true:=by kernel_rfl
theorem GK:fnB Tryz.prog 81=true:=by kernel_rfl
theorem NO:fnB Tryz.prog 82=true:=by kernel_rfl
theorem yP:fnB Tryz.prog 97=true:=by kernel_rfl
theorem NN:fnB Tryz.prog 98=true:=by kernel_rfl
theorem NM:fnB Tryz.prog 99=true:=by kernel_rfl
theorem Ml:fnB Tryz.prog 100=true:=by kernel_rfl
theorem Dx:fnB Tryz.prog 101=true:=by kernel_rfl
theorem Mk:fnB Tryz.prog 102=true:=by kernel_rfl
theorem Mj:fnB Tryz.prog 106=true:=by kernel_rfl
theorem GQ:fnB Tryz.prog 107=true:=by kernel_rfl
theorem Mi:fnB Tryz.prog 108=true:=by kernel_rfl
theorem Mh:fnB Tryz.prog 109=true:=by kernel_rfl
theorem Mg:fnB Tryz.prog 110=true:=by kernel_rfl
theorem Mf:fnB Tryz.prog 111=true:=by kernel_rfl
theorem Me:fnB Tryz.prog 114=true:=by kernel_rfl
theorem Md:fnB Tryz.prog 118=true:=by kernel_rfl
theorem Mc:fnB Tryz.prog 119=true:=by kernel_rfl
theorem Mb:fnB Tryz.prog 120=true:=by kernel_rfl
theorem Ma:fnB Tryz.prog 121=true:=by kernel_rfl
theorem JM:fnB Tryz.prog 122=true:=by kernel_rfl
theorem L8:fnB Tryz.prog 124=true:=by kernel_rfl
theorem L7:fnB Tryz.prog 125=true:=by kernel_rfl
theorem JL:fnB Tryz.prog 126=true:=by kernel_rfl
theorem JK:fnB Tryz.prog 127=true:=by kernel_rfl
theorem Dw:fnB Tryz.prog 128=true:=by kernel_rfl
theorem GP:fnB Tryz.prog 129=true:=by kernel_rfl
theorem L6:fnB Tryz.prog 130=true:=by kernel_rfl
theorem L5:fnB Tryz.prog 131=true:=by kernel_rfl
theorem L4:fnB Tryz.prog 132=true:=by kernel_rfl
theorem JJ:fnB Tryz.prog 147=true:=by kernel_rfl
theorem L3:fnB Tryz.prog 148=true:=by kernel_rfl
theorem L2:fnB Tryz.prog 149=true:=by kernel_rfl
theorem JI:fnB Tryz.prog 150=true:=by kernel_rfl
theorem lO:fnB Tryz.prog 151=true:=by kernel_rfl
theorem GO:fnB Tryz.prog 152=true:=by kernel_rfl
theorem L1:fnB Tryz.prog 153=true:=by kernel_rfl
theorem JH:fnB Tryz.prog 164=true:=by kernel_rfl
theorem L0:fnB Tryz.prog 167=true:=by kernel_rfl
theorem LZ:fnB Tryz.prog 168=true:=by kernel_rfl
theorem LY:fnB Tryz.prog 169=true:=by kernel_rfl
theorem LX:fnB Tryz.prog 170=true:=by kernel_rfl
theorem LW:fnB Tryz.prog 171=true:=by kernel_rfl
theorem LV:fnB Tryz.prog 172=true:=by kernel_rfl
theorem LU:fnB Tryz.prog 173=true:=by kernel_rfl
theorem LS:fnB Tryz.prog 174=true:=by kernel_rfl
theorem GN:fnB Tryz.prog 175=true:=by kernel_rfl
theorem LR:fnB Tryz.prog 176=true:=by kernel_rfl
theorem LQ:fnB Tryz.prog 177=true:=by kernel_rfl
theorem LP:fnB Tryz.prog 178=true:=by kernel_rfl
theorem LO:fnB Tryz.prog 179=true:=by kernel_rfl
theorem LN:fnB Tryz.prog 180=true:=by kernel_rfl
theorem LM:fnB Tryz.prog 181=true:=by kernel_rfl
theorem LL:fnB Tryz.prog 182=true:=by kernel_rfl
theorem LK:fnB Tryz.prog 183=true:=by kernel_rfl
theorem LJ:fnB Tryz.prog 184=true:=by kernel_rfl
theorem LI:fnB Tryz.prog 185=true:=by kernel_rfl
theorem JG:fnB Tryz.prog 186=true:=by kernel_rfl
theorem JF:fnB Tryz.prog 187=true:=by kernel_rfl
theorem LH:fnB Tryz.prog 194=true:=by kernel_rfl
theorem JE:fnB Tryz.prog 195=true:=by kernel_rfl
theorem LG:fnB Tryz.prog 196=true:=by kernel_rfl
theorem LF:fnB Tryz.prog 210=true:=by kernel_rfl
theorem LD:fnB Tryz.prog 214=true:=by kernel_rfl
theorem LC:fnB Tryz.prog 215=true:=by kernel_rfl
theorem LB:fnB Tryz.prog 216=true:=by kernel_rfl
theorem LA:fnB Tryz.prog 217=true:=by kernel_rfl
theorem Lz:fnB Tryz.prog 228=true:=by kernel_rfl
theorem JD:fnB Tryz.prog 229=true:=by kernel_rfl
theorem Dv:fnB Tryz.prog 230=true:=by kernel_rfl
theorem Lx:fnB Tryz.prog 236=true:=by kernel_rfl
theorem GM:fnB Tryz.prog 237=true:=by kernel_rfl
theorem Lk:IbT Tryz.prog 231:=Rt Tryz.func231 (by kernel_rfl) (by kernel_rfl) (by kernel_rfl) (by kernel_rfl)
theorem aM:Tryz.prog.follows .mixedOrders=true:=by kernel_rfl
def inN(n:Nat):Value:=iV n
theorem Dn(x:Nat):(inN x).oneCell'=true:=rfl
theorem cP(x:UInt8):(b8 x).oneCell'=true:=rfl
theorem Nv{k k':IntKind}{a b c d:Int}(h1:a=c)(h2:b=d):Value.tuple #[.int k a,.int k' b]=Value.tuple #[.int k c,.int k' d]:=by rw[h1,h2]
theorem aD{H:Array Obj}{p:Nat}{cs:List Value}{T:TypeId}{fr:Nat×Nat}(h:H[p]?=some (.cells cs.toArray T fr)){i:Nat}{v:Value}(hi:cs[i]?=some v):aS H ((⟨p,0,none⟩:Addr).add i)=some v:=by
 rw[Addr.add_lit,S3];simp[aS,h,hi]
theorem aY{H:Array Obj}{p:Nat}{cs:List Value}{T:TypeId}{fr:Nat×Nat}(h:H[p]?=some (.cells cs.toArray T fr)){i:Nat}{v:Value}(hi:cs[i]?=some v):aS H (⟨p,i,none⟩:Addr)=some v:=by
 simp[aS,h,hi]
structure Hd where
 a:Option Addr
 n:Nat
 c:Nat
def hd(h:Hd):Value:=.slice h.a h.n h.c
theorem B7(h:Hd):(hd h).oneCell'=true:=rfl
def cG(D:Nat→Prop)(H:Array Obj)(hs:List Hd)(L:List By):Prop:=
 hs.length=L.length∧∀ (i:Nat) (h:Hd) (xs:By),hs[i]?=some h→L[i]?=some xs→h.n=xs.length∧Vw b8 H h.a h.c xs∧(xs≠[]→∀ k,blk h.a k→D k)
theorem Vw.keep'{α:Type}{enc:α→Value}{ao:Option Addr}{cap:Nat}{xs:List α}{w w':World}{S:Nat→Prop}(h:Vw enc w.heap ao cap xs)(f:aA S w w')(hs:xs≠[]→∀ a,ao=some a→¬ S a.block):Vw enc w'.heap ao cap xs:=by
 by_cases he:xs=[]
 ·subst he;exact Rq cap h.max
 ·exact h.RZ f (hs he)
theorem cG.RZ{D S:Nat→Prop}{w w':World}{hs:List Hd}{L:List By}(h:cG D w.heap hs L)(f:aA S w w')(hS:∀ k,D k→¬ S k):cG D w'.heap hs L:=
 ⟨h.1,fun i x xs hx hxs=>by
  obtain⟨h1,h2,h3⟩:=h.2 i x xs hx hxs;exact⟨h1,h2.keep' f (fun hne a ha=>hS _ (h3 hne _ ⟨a,ha,rfl⟩)),h3⟩⟩
theorem Rw{D:Nat→Prop}{H:Array Obj}:cG D H [] []:=⟨rfl,fun i h xs hh=>by simp at hh⟩
theorem cG.mono{D D':Nat→Prop}{H:Array Obj}{hs:List Hd}{L:List By}(h:cG D H hs L)(hd:∀ k,D k→D' k):cG D' H hs L:=
 ⟨h.1,fun i x xs hx hxs=>by obtain⟨h1,h2,h3⟩:=h.2 i x xs hx hxs;exact⟨h1,h2,fun hne k hk=>hd k (h3 hne k hk)⟩⟩
theorem cG.snoc{D:Nat→Prop}{H:Array Obj}{hs:List Hd}{L:List By}(h:cG D H hs L){x:Hd}{xs:By}(h1:x.n=xs.length)(h2:Vw b8 H x.a x.c xs)(h3:xs≠[]→∀ k,blk x.a k→D k):cG D H (hs++[x]) (L++[xs]):=by
 refine⟨by simp[h.1],fun i y ys hy hys=>?_⟩;by_cases hi:i<hs.length
 · rw[Tx hi] at hy
   rw[Tx (by rw[←h.1];exact hi)] at hys;exact h.2 i y ys hy hys
 · have hi':i=hs.length:=by
    have:=(R9.1 hy).1;simp at this;omega
   subst hi';simp at hy;rw[h.1] at hys;simp at hys;subst hy;subst hys;exact⟨h1,h2,h3⟩
theorem cG.at{D:Nat→Prop}{H:Array Obj}{hs:List Hd}{L:List By}(h:cG D H hs L){i:Nat}(hi:i<L.length) :
 ∃ x:Hd,hs[i]?=some x∧x.n=(L.getD i []).length∧Vw b8 H x.a x.c (L.getD i [])∧(L.getD i []≠[]→∀ k,blk x.a k→D k):=by
 have hi2:i<hs.length:=by rw[h.1];exact hi
 refine⟨hs[i],R7 hi2,?_⟩;have:=h.2 i hs[i] L[i] (R7 hi2) (R7 hi);simpa[Sj,hi] using this
theorem vY(n:Nat):Fr n (some (⟨n,0,none⟩:Addr)):=fun a ha=>by cases ha;exact Sa _
theorem kZ{B n:Nat}{ao bo:Option Addr}(h:Fr B ao)(hr:∀ a,bo=some a→ao=some a∨n≤a.block)(hn:B≤n):Fr B bo:=fun a ha=>by
 rcases hr a ha with h1|h1
 ·exact h a h1
 ·omega
theorem aA.fresh{S:Nat→Prop}{w w':World}(h:aA S w w')(hs:∀ k,S k→w.heap.size≤k):aA nob w w':=
 ⟨h.os,h.tape,h.output,h.size,fun k hk _=>h.same k hk (fun h'=>by have:=hs k h';omega)⟩
theorem aA.any{S:Nat→Prop}{w w':World}(h:aA nob w w'):aA S w w':=h.mono (fun _ h=>h.elim)
theorem kF{D:Nat→Prop}{S:Nat→Prop}{w w':World}(h:aA S w w')(hD:∀ k,w.heap.size≤k→D k):∀ k,w'.heap.size≤k→D k:=fun k hk=>hD k (SM h.size hk)
theorem Fx(s:By)(c:Int)(W:World):CA 216 [.string (bs s),.int .u8 c] W fun v w'=>v=iV (Lib.indexByte s c.toNat.toUInt8)∧w'=W:=by
 refine cS 8 [(0,_),(1,_)] Tryz.func216 ?_;refine Gz 9 ?_;refine cL (PV Lk rfl rfl) ?_;refine Gz 5 ?_;exact⟨_,rfl,rfl,rfl⟩
theorem B0(s:By)(c:Int)(W:World):CA 175 [.string (bs s),.int .u8 c] W fun v w'=>v=iV (Lib.indexByte s c.toNat.toUInt8)∧w'=W:=by
 refine cS 8 [(0,_),(1,_)] Tryz.func175 ?_;refine cA 9 LB (Fx s c W) ?_;rintro _ w1 ⟨rfl,hw1⟩;subst w1;refine Gz 5 ?_;exact⟨_,rfl,rfl,rfl⟩
theorem mZ{s:By}(h:Lib.indexByte s (0:Int).toNat.toUInt8<0):(0:UInt8)∉s:=(lN s 0).1 h
theorem mY{s:By}(h:0≤Lib.indexByte s (0:Int).toNat.toUInt8):(0:UInt8)∈s:=by
 apply Se;intro hn;have:=(lN s 0).2 hn;have h2:Lib.indexByte s (0:Int).toNat.toUInt8=Lib.indexByte s 0:=rfl;omega
theorem fO:∀ a b:By,(Su a b || a == b) = !Su b a
|[],[]=>rfl
|[],_::_=>rfl
|_::_,[]=>rfl
|x::a,y::b=>by
   have ih:=fO a b;unfold Su;rcases Ta x.toNat y.toNat with h|h|h
   · have h1:x<y:=To.2 h
     have h2:¬ y<x:=by rw[To];omega
     have h3:x≠y:=by intro e;subst e;omega
     simp[h1,h2,Ne.symm h3]
   · have h1:x=y:=TK.1 h
     subst h1;have h2:¬ x<x:=by rw[To];omega
     simpa[h2] using ih
   · have h1:y<x:=To.2 h
     have h2:¬ x<y:=by rw[To];omega
     have h3:x≠y:=by intro e;subst e;omega
     simp[h1,h2,h3]
theorem II{a b:By}(h:Su a b=true):b≠[]:=by intro e;subst e;cases a<;>simp[Su] at h
abbrev Xa:=By×By
def x0:Xa:=([],[])
def eP(x:By×Hd):List Value:=[.string (bs x.1),hd x.2]
theorem bM:iP 2 eP:=fun x=>⟨rfl,by simp[eP,Value.oneCell',hd]⟩
def XaV(H:Array Obj)(ao:Option Addr)(cap:Nat)(X:List Xa):Prop:=
 ∃ xs:List (By×Hd),VwM 2 eP H ao cap xs∧xs.length=X.length∧∀ (i:Nat) (x:By×Hd) (y:Xa),xs[i]?=some x→X[i]?=some y→x.1=y.1∧x.2.n=y.2.length∧Vw b8 H x.2.a x.2.c y.2∧y.1.length≤maxLen
theorem XaV.RY{w w':World}{ao:Option Addr}{cap:Nat}{X:List Xa}(h:XaV w.heap ao cap X)(f:aA nob w w'):XaV w'.heap ao cap X:=by
 obtain⟨xs,h1,h2,h3⟩:=h;exact⟨xs,h1.RY f,h2,fun i x y hx hy=>⟨(h3 i x y hx hy).1,(h3 i x y hx hy).2.1,(h3 i x y hx hy).2.2.1.RY f,(h3 i x y hx hy).2.2.2⟩⟩
theorem XaV.non{H:Array Obj}{ao:Option Addr}{cap:Nat}{X:List Xa}(h:XaV H ao cap X):X.length≠0→ao≠none:=by
 obtain⟨xs,h1,h2,h3⟩:=h;rw[←h2];exact h1.non
theorem XaV.RX{H:Array Obj}{ao:Option Addr}{cap:Nat}{X:List Xa}(h:XaV H ao cap X):(X.length:Int)≤9223372036854775807:=by
 obtain⟨xs,h1,h2,h3⟩:=h;rw[←h2];exact h1.RX
theorem XaV.at{H:Array Obj}{ao:Option Addr}{cap:Nat}{X:List Xa}(h:XaV H ao cap X){i:Nat}{z:Int}(hz:z=i)(hi:i<X.length) :
 ∃ xa xc,(∀ j v,[Value.string (bs (X.getD i x0).1),.slice xa (X.getD i x0).2.length xc][j]?=some v→aS H ((adr ao (z.toNat*2)).add j)=some v)∧Vw b8 H xa xc (X.getD i x0).2∧(X.getD i x0).1.length≤maxLen:=by
 obtain⟨xs,h1,h2,h3⟩:=h;have hi2:i<xs.length:=by omega
 have e:X.getD i x0=X[i]:=by simp[Sj,hi]
 rw[e];obtain⟨e1,e2,e3,e4⟩:=h3 i xs[i] X[i] (R7 hi2) (R7 hi);have hrow:=h1.rowZ i hz (R7 hi2);refine⟨xs[i].2.a,xs[i].2.c,fun j v hv=>hrow j v ?_,e3,e4⟩;rw[←hv,←e1,←e2];rfl
def pR(X:List Xa):Nat→By
|0=>[]
|i+1=>(X.getD i x0).1
def AN(X:List Xa)(i:Nat):Prop:=Su (pR X i) (X.getD i x0).1=true∧(X.getD i x0).1.length≤40∧(0:UInt8)∉(X.getD i x0).1∧(X.getD i x0).2.length≤200
instance (X:List Xa)(i:Nat):Decidable (AN X i):=by unfold AN;exact inferInstance
def eC(X:List Xa):Prop:=(∀ i,i<X.length→AN X i)∧X.length≤8
instance (X:List Xa):Decidable (eC X):=by unfold eC;exact inferInstance
structure Nd where
 names:List By
 ino:Int
 kind:Int
 md:Int
 ud:Int
 gd:Int
 data:By
 tgt:By
 xs:List Xa
 opq:Bool
structure NdH where
 names:Hd
 data:Hd
 xs:Hd
def hd0:Hd:=⟨none,0,0⟩
def nd0:Nd:=⟨[],0,0,0,0,0,[],[],[],false⟩
def yC:NdH:=⟨hd0,hd0,hd0⟩
def aH(p:NdH×Nd):List Value:=[hd p.1.names,iV p.2.ino,iV p.2.kind,iV p.2.md,iV p.2.ud,iV p.2.gd,hd p.1.data,.string (bs p.2.tgt),hd p.1.xs,.bool p.2.opq]
theorem aB:iP 10 aH:=fun p=>⟨rfl,by
 intro v hv;simp only[aH,St,SD,or_false] at hv;rcases hv with rfl|rfl|rfl|rfl|rfl|rfl|rfl|rfl|rfl|rfl<;>rfl⟩
def iK(s:By):Value:=.string (bs s)
theorem Fp:∀ s,(iK s).oneCell'=true:=fun _=>rfl
section
variable {D D':Nat→Prop}{H:Array Obj}
def NmV(D:Nat→Prop)(H:Array Obj)(h:Hd)(l:List By):Prop:=h.n=l.length∧Vw iK H h.a h.c l∧(l≠[]→∀ k,blk h.a k→D k)
def ByV(D:Nat→Prop)(H:Array Obj)(h:Hd)(l:By):Prop:=h.n=l.length∧Vw b8 H h.a h.c l∧(l≠[]→∀ k,blk h.a k→D k)
def XsV(D:Nat→Prop)(H:Array Obj)(h:Hd)(X:List Xa):Prop:=
 h.n=X.length∧∃ ys:List (By×Hd),VwM 2 eP H h.a h.c ys∧ys.length=X.length∧(ys≠[]→∀ k,blk h.a k→D k)∧∀ (i:Nat) (x:By×Hd) (y:Xa),ys[i]?=some x→X[i]?=some y→x.1=y.1∧ByV D H x.2 y.2
def NdV(D:Nat→Prop)(H:Array Obj)(p:NdH×Nd):Prop:=NmV D H p.1.names p.2.names∧ByV D H p.1.data p.2.data∧XsV D H p.1.xs p.2.xs
def bD(D:Nat→Prop)(H:Array Obj)(ao:Option Addr)(cap:Nat)(ps:List (NdH×Nd)):Prop:=VwM 10 aH H ao cap ps∧∀ p∈ps,NdV D H p
theorem VwM.keep'{α:Type}{k:Nat}{enc:α→List Value}{ao:Option Addr}{cap:Nat}{xs:List α}{w w':World}{S:Nat→Prop}(h:VwM k enc w.heap ao cap xs)(f:aA S w w')(hs:xs≠[]→∀ a,ao=some a→¬ S a.block):VwM k enc w'.heap ao cap xs:=by
 by_cases hx:xs=[]
 ·subst hx;exact⟨h.le,h.max,h.non,fun i x hx=>by simp at hx⟩
 ·exact h.RZ f (hs hx)
theorem NmV.RZ{S:Nat→Prop}{w w':World}{h:Hd}{l:List By}(v:NmV D w.heap h l)(f:aA S w w')(hS:∀ k,D k→¬ S k):NmV D w'.heap h l:=
 ⟨v.1,v.2.1.keep' f (fun hne a ha=>hS _ (v.2.2 hne _ ⟨a,ha,rfl⟩)),v.2.2⟩
theorem ByV.RZ{S:Nat→Prop}{w w':World}{h:Hd}{l:By}(v:ByV D w.heap h l)(f:aA S w w')(hS:∀ k,D k→¬ S k):ByV D w'.heap h l:=
 ⟨v.1,v.2.1.keep' f (fun hne a ha=>hS _ (v.2.2 hne _ ⟨a,ha,rfl⟩)),v.2.2⟩
theorem XsV.RZ{S:Nat→Prop}{w w':World}{h:Hd}{X:List Xa}(v:XsV D w.heap h X)(f:aA S w w')(hS:∀ k,D k→¬ S k):XsV D w'.heap h X:=by
 obtain⟨h1,ys,h2,h3,h4,h5⟩:=v;exact⟨h1,ys,h2.keep' f (fun hne a ha=>hS _ (h4 hne _ ⟨a,ha,rfl⟩)),h3,h4,fun i x y hx hy=>⟨(h5 i x y hx hy).1,(h5 i x y hx hy).2.RZ f hS⟩⟩
theorem NdV.RZ{S:Nat→Prop}{w w':World}{p:NdH×Nd}(v:NdV D w.heap p)(f:aA S w w')(hS:∀ k,D k→¬ S k):NdV D w'.heap p:=⟨v.1.RZ f hS,v.2.1.RZ f hS,v.2.2.RZ f hS⟩
theorem NdV.RY{w w':World}{p:NdH×Nd}(v:NdV D w.heap p)(f:aA nob w w'):NdV D w'.heap p:=v.RZ f (fun _ _=>id)
theorem NmV.mono{h:Hd}{l:List By}(v:NmV D H h l)(hd:∀ k,D k→D' k):NmV D' H h l:=⟨v.1,v.2.1,fun hne k hk=>hd k (v.2.2 hne k hk)⟩
theorem ByV.mono{h:Hd}{l:By}(v:ByV D H h l)(hd:∀ k,D k→D' k):ByV D' H h l:=⟨v.1,v.2.1,fun hne k hk=>hd k (v.2.2 hne k hk)⟩
theorem XsV.mono{h:Hd}{X:List Xa}(v:XsV D H h X)(hd:∀ k,D k→D' k):XsV D' H h X:=by
 obtain⟨h1,ys,h2,h3,h4,h5⟩:=v;exact⟨h1,ys,h2,h3,fun hne k hk=>hd k (h4 hne k hk),fun i x y hx hy=>⟨(h5 i x y hx hy).1,(h5 i x y hx hy).2.mono hd⟩⟩
theorem NdV.mono{p:NdH×Nd}(v:NdV D H p)(hd:∀ k,D k→D' k):NdV D' H p:=⟨v.1.mono hd,v.2.1.mono hd,v.2.2.mono hd⟩
theorem bD.RZ{S:Nat→Prop}{w w':World}{ao:Option Addr}{cap:Nat}{ps:List (NdH×Nd)}(v:bD D w.heap ao cap ps)(f:aA S w w')(hS:∀ k,D k→¬ S k)(ha:ps≠[]→∀ a,ao=some a→¬ S a.block):bD D w'.heap ao cap ps:=
 ⟨v.1.keep' f ha,fun p hp=>(v.2 p hp).RZ f hS⟩
theorem bD.RY{w w':World}{ao:Option Addr}{cap:Nat}{ps:List (NdH×Nd)}(v:bD D w.heap ao cap ps)(f:aA nob w w'):bD D w'.heap ao cap ps:=v.RZ f (fun _ _=>id) (fun _ _ _=>id)
theorem XsV.xav{h:Hd}{X:List Xa}(v:XsV D H h X)(hl:∀ x∈X,x.1.length≤maxLen):XaV H h.a h.c X:=by
 obtain⟨h1,ys,h2,h3,h4,h5⟩:=v;exact⟨ys,h2,h3,fun i x y hx hy=>⟨(h5 i x y hx hy).1,(h5 i x y hx hy).2.1,(h5 i x y hx hy).2.2.1,hl y (Sd hy)⟩⟩
def okN(n:Nd):Prop:=∀ z∈[n.ino,n.kind,n.md,n.ud,n.gd],-9223372036854775808≤z∧z≤9223372036854775807
def smN(n:Nd):Prop:=n.tgt.length≤maxLen∧(∀ s∈n.names,s.length≤maxLen)∧∀ x∈n.xs,x.1.length≤maxLen
end
section
open Go Go.RowKit Go.ChangeShapes Go.WideShapes Go.ChangeAt Go.Deep
theorem MK{n:Int}(h:(Lit.int .u8 n).wf=true):Value.int .u8 n=b8 (Ss n.toNat):=by
 have hb:0≤n∧n≤255:=by simpa[Lit.wf,IntKind.min,IntKind.max,IntKind.signed,IntKind.bits] using h
 have:((Ss n.toNat).toNat:Int)=n:=by
  rw[S6];omega
 rw[b8,this]
section
variable {H:Type}{enc:TypeId×Value→H}{P:Program}{w:World}{t e:TypeId}{d:DataW H}{p:List MemPlace}
theorem qF(ht:P.underlying t=some (.slice e))(he:P.underlying e=some (.int .u8))(hc:P.cellsOf e=1){fuel:Nat}{v:Value}{x:DataW H×List MemPlace}(h:DataW.trod enc P w 0 (fun _=>true) true fuel t [v]=some x) :
 ∃ (a:Option Addr) (cap:Nat) (xs:By),v=.slice a xs.length cap∧Vw b8 w.heap a cap xs:=by
 rcases open_ints ht he hc h with⟨hcs,_⟩|⟨x,l,c,zs,hcs,_,hl,hm,hz,_,hcell,hwz⟩
 ·refine⟨none,0,[],by simpa using hcs,Rq 0 (Sf _)⟩
 · have hz':zs.length=c:=by simpa using hz
   refine⟨some x,c,(zs.take l).map (fun n=>Ss n.toNat),?_,by simp;omega,hm,fun _=>by simp,fun i u hu=>?_⟩
   · have:v=.slice (some x) l c:=by simpa using hcs
     rw[this];congr 1;simp;omega
   · rw[SU] at hu
     obtain⟨n,hn,rfl⟩:=Sn.1 hu;rw[SZ] at hn
     split at hn
     · have hi:i<zs.length:=(R9.1 hn).1
       have:=hcell i hi;rw[show zs.getD i 0=n from by simp[Sj,hn]] at this;rw[←MK (hwz n (Sd hn))];exact this
     ·cases hn
theorem BQ(ht:P.underlying t=some (.slice e))(he:P.underlying e=some (.int .u8))(hc:P.cellsOf e=1){v:Value}(h:DataW.Trod enc P w 0 (fun _=>true) true t v d p)(hv:∃ a n c,v=.slice a n c) :
 ∃ (a:Option Addr) (cap:Nat) (xs:By),v=.slice a xs.length cap∧Vw b8 w.heap a cap xs:=by
 obtain⟨fuel,hf⟩:=h;obtain⟨a,n,c,rfl⟩:=hv;exact qF ht he hc hf
end
theorem FF{W w':World}{e:Ending}(h:Ret (fun v w'=>v=.bool true∧aA nob W w') e w'):e=.returned (.bool true)∧Below W.heap.size W w':=by
 obtain⟨v,rfl,rfl,hf⟩:=h;exact⟨rfl,hf.below⟩
end
section
variable {P:Program}{N:Nat}{l:SF}{w:World}{fn:Func}{R:Ending→World→Prop}
theorem pP{t:TypeId}{cs:List Value}{ad:Addr}(ht:fV P t cs.length=true)(hc:∀ j v,cs[j]?=some v→aS w.heap (ad.add j)=some v):(loadVar t ad).run P w=.ok (.agg cs.toArray) w:=by
 have hl:=run_loadCells_list (P:=P) w ad cs hc;simp only[Sem.run_bind,loadVar,uF ht w,pF ht w,Result.andThen_ok,Sem.run_pure,if_true,hl]
theorem Q9{a u:Nat}{t:TypeId}{x:Value}{cs:List Value}{ad:Addr}(hr:fn.results=#[.cell a t,.tmp u])(ht:fV P t cs.length=true)(ha:lk l a=some (.pointer (some ad)))(hx:lk l u=some x)
 (hc:∀ j v,cs[j]?=some v→aS w.heap (ad.add j)=some v)(h:R (.returned (.tuple #[.agg cs.toArray,x])) w) :
 At ⟨N,[]⟩ .ret (bodyPost P fn R) l w:=fun act ha'=>by
 refine⟨ha'.dfr,_,?_,h⟩;have h1:=ha'.has a _ ha;have h2:=ha'.has u _ hx;have h3:=pP (P:=P) (w:=w) ht hc;simp[results,hr,h1,h2,asAddr,h3,Result.andThen]
theorem rC {a u:Nat} {t:TypeId} {x:Value} {cs:List Value} {p:Nat} {T:TypeId} {fr:Nat×Nat} (hg:w.heap[p]?=some (.cells cs.toArray T fr)) (ht:fV P t cs.length=true) (h:R (.returned (.tuple #[.agg cs.toArray,x])) w) (hr:fn.results=#[.cell a t,.tmp u]:=by rfl) (ha:lk l a=some (pT p):=by rfl) (hx:lk l u=some x:=by rfl):At ⟨N,[]⟩ .ret (bodyPost P fn R) l w:=Q9 hr ht ha hx (fun j v hj=>nZ hg hj) h
theorem PN{Q:Program}{N:Nt}{l:SF}{ty:TypeId}{pos:String}{aft:Array Edge}{CH:Array Obj→Prop}{x:Operand}{t e:TypeId}{g:Option (Nat×Bool)}{dd:Option Nat}{n:Nat}
 {ao:Option Addr}{c i len cap:Nat}(ht:Q.underlying t=some (.array n e))(hx:evL l x=some (.slice (aU ao c i 1) len cap))(hn:ao≠none)(hl:n≤len)(hi:i<c) :
 Cm Q N CH l ⟨dd,.sliceToArrayPointer t x,ty,pos,aft,g⟩ (.pointer (some (adr ao i))):=fun a w ha _=>by
 obtain⟨a0,rfl⟩:=Ui.1 hn;have e1:aU (some a0) c i 1=some (adr (some a0) i):=by unfold aU;rw[R3 (by omega)];simp[adr]
 rw[e1] at hx;simp only[execOp,ha.ev hx,Instr.arrayAt,Sem.run_bind,run_underlying ht,Result.andThen_ok];rw[R3 (by omega)];simp
end
theorem rN{x:Int}(h:0≤x):IntKind.u8.wrap x=((Ss x.toNat).toNat:Int):=by
 have h1:IntKind.u8.wrap x=x%256:=by
  show IntKind.wrap .u8 x=_;simp[IntKind.wrap,IntKind.signed,IntKind.bits]
 rw[h1,S6];omega
def Cy(W:World)(r:By×Int):Value→World→Prop:=fun v w'=>∃ ao c,v=.tuple #[.slice ao r.1.length c,iV r.2]∧Own b8 5 w'.heap ao c r.1∧Fr W.heap.size ao∧aA nob W w'
def On(W:World)(x:By)(e:Int):Value→World→Prop:=fun v w'=>∃ ao c,v=.tuple #[.slice ao x.length c,iV e]∧Own b8 5 w'.heap ao c x∧Fr W.heap.size ao∧aA nob W w'
section
variable {P:Program}{N:Nt}{Q:Exit→Act→World→Prop}{l:SF}{w:World}{ops:Array Oper}{rest:List Oper}
variable {ty:TypeId}{pos:String}{aft:Array Edge}{d:Nat}{CH:Array Obj→Prop}
variable {x y:Operand}{t t' e:TypeId}{gd:Option (Nat×Bool)}{dd:Option Nat}
theorem JS{n:Nat}(h:n<256):IntKind.u8.wrap (n:Int)=n:=by
 show IntKind.wrap .u8 n=_;simp[IntKind.wrap,IntKind.signed,IntKind.bits];omega
theorem qL{n:Nat}(h:n<4294967296):IntKind.u32.wrap (n:Int)=n:=by
 show IntKind.wrap .u32 n=_;simp[IntKind.wrap,IntKind.signed,IntKind.bits];omega
theorem JQ{a:Nat}(h:a<256):(BitVec.ofInt 8 (a:Int)).toNat=a:=by simp;omega
theorem zC{a:Nat}(h:a<4294967296):(BitVec.ofInt 32 (a:Int)).toNat=a:=by simp;omega
theorem mN{a b:Nat}(ha:a<256)(hb:b<256):a ^^^ b<256:=Nat.xor_lt_two_pow (n:=8) ha hb
theorem jW{a b:Nat}(ha:a<4294967296)(hb:b<4294967296):a ^^^ b<4294967296:=Nat.xor_lt_two_pow (n:=32) ha hb
theorem Af{a b:Nat}(ha:a<256)(hb:b<256)(w:World):(Op.intBits .xor .u8 (a:Int) (b:Int)).run P w=.ok (.int .u8 ((a ^^^ b:Nat):Int)) w:=by
 have h2:(BitVec.ofInt 8 (a:Int) ^^^ BitVec.ofInt 8 (b:Int)).toNat=a ^^^ b:=by rw[BitVec.toNat_xor,JQ ha,JQ hb]
 show (pure (Value.int .u8 (IntKind.u8.wrap ((BitVec.ofInt 8 (a:Int) ^^^ BitVec.ofInt 8 (b:Int)).toNat:Int))):Sem Value).run P w=_;rw[h2,JS (mN ha hb)];rfl
theorem vI{a b:Nat}(ha:a<4294967296)(hb:b<4294967296)(w:World):(Op.intBits .xor .u32 (a:Int) (b:Int)).run P w=.ok (.int .u32 ((a ^^^ b:Nat):Int)) w:=by
 have h2:(BitVec.ofInt 32 (a:Int) ^^^ BitVec.ofInt 32 (b:Int)).toNat=a ^^^ b:=by rw[BitVec.toNat_xor,zC ha,zC hb]
 show (pure (Value.int .u32 (IntKind.u32.wrap ((BitVec.ofInt 32 (a:Int) ^^^ BitVec.ofInt 32 (b:Int)).toNat:Int))):Sem Value).run P w=_;rw[h2,qL (jW ha hb)];rfl
theorem Qr{a b:Nat}(hx:evL l x=some (.int .u8 a))(hy:evL l y=some (.int .u8 b))(ha:a<256)(hb:b<256):Cm P N CH l ⟨dd,.binOp .xor t x y t',ty,pos,aft,gd⟩ (.int .u8 ((a ^^^ b:Nat):Int)):=fun c w hc _=>by
 simp[execOp,hc.ev hx,hc.ev hy,binOp,eqGuard];rw[Af ha hb];rfl
theorem P3{a b:Nat}(hx:evL l x=some (.int .u32 a))(hy:evL l y=some (.int .u32 b))(ha:a<4294967296)(hb:b<4294967296):Cm P N CH l ⟨dd,.binOp .xor t x y t',ty,pos,aft,gd⟩ (.int .u32 ((a ^^^ b:Nat):Int)):=fun c w hc _=>by
 simp[execOp,hc.ev hx,hc.ev hy,binOp,eqGuard];rw[vI ha hb];rfl
theorem QL{a b:Nat}(hx:evL l x=some (.int .u32 a))(hy:evL l y=some (.int .u32 b))(ha:a<4294967296)(hb:b<4294967296):Cm P N CH l ⟨dd,.binOp .and t x y t',ty,pos,aft,gd⟩ (.int .u32 ((a &&& b:Nat):Int)):=fun c w hc _=>by
 have h1:(a &&& b)<4294967296:=Nat.lt_of_le_of_lt Nat.and_le_left ha;have h2:(BitVec.ofInt 32 (a:Int) &&& BitVec.ofInt 32 (b:Int)).toNat=a &&& b:=by rw[BitVec.toNat_and,zC ha,zC hb]
 have h3:(Op.intBits .and .u32 (a:Int) (b:Int)).run P w=.ok (.int .u32 ((a &&& b:Nat):Int)) w:=by
  show (pure (Value.int .u32 (IntKind.u32.wrap ((BitVec.ofInt 32 (a:Int) &&& BitVec.ofInt 32 (b:Int)).toNat:Int))):Sem Value).run P w=_;rw[h2,qL h1];rfl
 simp[execOp,hc.ev hx,hc.ev hy,binOp,eqGuard];rw[h3];rfl
theorem Ra{a:Nat}(hx:evL l x=some (.int .u8 a))(ha:a<256):Cm P N CH l ⟨dd,.unOp .xor t x,ty,pos,aft,gd⟩ (.int .u8 ((255 ^^^ a:Nat):Int)):=fun c w hc _=>by
 have h:=Af (P:=P) (show 255<256 by decide) ha w;have h2:(if IntKind.u8.signed=true then (-1:Int) else IntKind.u8.max)=((255:Nat):Int):=rfl;simp only[execOp,hc.ev hx,Op.unary,h2,Sem.run_bind,h,Result.andThen_ok,Sem.run_pure]
theorem P4{a:Nat}(hx:evL l x=some (.int .u32 a))(ha:a<4294967296):Cm P N CH l ⟨dd,.unOp .xor t x,ty,pos,aft,gd⟩ (.int .u32 ((4294967295 ^^^ a:Nat):Int)):=fun c w hc _=>by
 have h:=vI (P:=P) (show 4294967295<4294967296 by decide) ha w;have h2:(if IntKind.u32.signed=true then (-1:Int) else IntKind.u32.max)=((4294967295:Nat):Int):=rfl;simp only[execOp,hc.ev hx,Op.unary,h2,Sem.run_bind,h,Result.andThen_ok,Sem.run_pure]
theorem P5{a n:Nat}{k':IntKind}{m:Int}(hm:m=n)(hx:evL l x=some (.int .u32 a))(hy:evL l y=some (.int k' m))(hn:n≤32):Cm P N CH l ⟨dd,.binOp .shr t x y t',ty,pos,aft,gd⟩ (.int .u32 ((a/2 ^ n:Nat):Int)):=fun c w hc _=>by
 subst hm;have h1:¬ ((n:Int)<0):=by omega
 have h2:min (n:Int).toNat 32=n:=by omega
 have h3:(a:Int).fdiv (2 ^ n)=((a/2 ^ n:Nat):Int):=by rw[Uq _ (Int.pow_nonneg (by decide))];simp
 have h4:∀ w,(Uz .shr .u32 a k' n).run P w=.ok (.int .u32 ((a/2 ^ n:Nat):Int)) w:=fun w=>by
  unfold Uz;rw[R3 h1];show (pure (Value.int .u32 ((a:Int).fdiv (2 ^ min (n:Int).toNat 32))):Sem Value).run P w=_;rw[h2,h3];rfl
 have h5:∀ w:World,(if (!false)=true then (pure ():Sem Unit) else pure ()).run P w=.ok () w:=fun w=>rfl;simp only[execOp,hc.ev hx,hc.ev hy,eqGuard,binOp,Sem.run_bind,h5,h4,Result.andThen_ok,Sem.run_pure]
structure CB (P:Program)(t e:TypeId)(n size:Nat):Prop where
 und:P.underlying t=some (.array n e)
 size:(P.info? e).map (·.size)=some size
theorem CB.run_size{n size:Nat}(h:CB P t e n size)(w:World):(sizeOf e).run P w=.ok size w:=by
 obtain⟨i,hi,h1⟩:=Sn.1 h.size;simp[sizeOf,typeInfo,hi,h1]
theorem Ph{n size:Nat}{ad:Addr}{k:IntKind}{z:Int}(ht:CB P t e n size)(hx:evL l x=some (.pointer (some ad)))(hy:evL l y=some (.int k z))(h:0≤z∧z<n) :
 Cm P N CH l ⟨dd,.indexAddr t x y,ty,pos,aft,gd⟩ (.pointer (some (ad.add (z.toNat*size)))):=fun a w ha _=>by
 simp only[execOp,ha.ev hx,ha.ev hy,Instr.indexAt,asIntOf,Instr.sureAddr,Sem.run_bind,run_underlying ht.und,Result.andThen_ok,Sem.run_pure,ht.run_size w,R4 h]
theorem P6{n size b:Nat}(ht:CB P t e n size)(hx:evL l x=some (pT b)):Cm P N CH l ⟨dd,.slice t x none none none,ty,pos,aft,gd⟩ (.slice (some ⟨b,0,none⟩) n n):=fun a w ha _=>by
 simp[execOp,ha.ev hx,Instr.sliceAt,run_underlying ht.und,Instr.sureAddr,ht.run_size w,Instr.sliceBounds,Addr.add_lit]
theorem P7{n size:Nat}{parts:List (Nat×Operand)}{vs:List (Nat×Value)}{zc cs:Array Value}(ht:CB P t e n size)(hz:(P.info? t).map (fun i=>i.zero.map (·.cells))=some (some zc))
 (hx:evPs l parts=some vs)(hf:Instr.fill (fun i=>some (i*size,size)) zc vs=some cs):Cm P N CH l ⟨dd,.build t parts.toArray,ty,pos,aft,gd⟩ (.agg cs):=fun a w ha _=>by
 obtain⟨i,hi,h1⟩:=Sn.1 hz;obtain⟨z,hz',rfl⟩:=Sn.1 h1;have hv:=ha.evPs hx;simp only[execOp,Instr.build,Sem.run_bind,zeroValue,typeInfo,run_program,Result.andThen_ok,hi,hz',run_underlying ht.und,Sem.run_pure,ht.run_size w,UC,hv];rw[hf];simp
theorem Po{f:Fn}{cs:List Operand}{vs:List Value}(hx:oX l cs=some vs):Cm P N CH l ⟨dd,.makeFunc f #[] cs.toArray,ty,pos,aft,gd⟩ (.func f #[] vs.toArray):=fun a w ha _=>by
 have:=ha.evs hx;simp[execOp,Instr.makeFunc];rw[←this]
theorem O9{f:FuncId}{xs:List Operand}{vs cs:List Value}{ts:Array TypeId}(hf:fnB P f=true)(hc0:evL l x=some (.func (.func f) #[] cs.toArray))(hx:oX l xs=some vs){R:Value→World→Prop}(hc:Calls P f (vs++cs).toArray w (Ret R))(hd:SH d N.n=true)
 (h:∀ v w',R v w'→Sl P N ops Q rest ((d,v)::l) w') :
 Sl P N ops Q (⟨some d,.call ⟨.value x,xs.toArray,ts⟩,ty,pos,aft,none⟩::rest) l w:=fun a ha=>by
 unfold wpList;rw[R4 (by simp[Region.wanted])];refine .inl ?_;unfold Oper.wp;have h1:=ha.ev hc0;have h2:(execOp a.eval ⟨some d,.call ⟨.value x,xs.toArray,ts⟩,ty,pos,aft,none⟩).run P w=.ok (.enter f (vs++cs).toArray) w:=by
  have h3:=ha.evs hx;simp[execOp,resolve,h1,Deferred.ofValue,invoke,dH hf];rw[←h3]
 rw[h2];refine hc.mono ?_;rintro e w' ⟨v,rfl,hR⟩;exact h v w' hR _ (ha.put hd v)
theorem PJ{M:Nat}{fn:Func}{R:Ending→World→Prop}{a:Nat}{cs:List Value}{ad:Addr}(hr:fn.results=#[.cell a t])(ht:fV P t cs.length=true)(ha:lk l a=some (.pointer (some ad)))
 (hc:∀ j v,cs[j]?=some v→aS w.heap (ad.add j)=some v)(h:R (.returned (.agg cs.toArray)) w) :
 At ⟨M,[]⟩ .ret (bodyPost P fn R) l w:=fun act ha'=>by
 refine⟨ha'.dfr,_,?_,h⟩;have h1:=ha'.has a _ ha;have h3:=pP (P:=P) (w:=w) ht hc;simp[results,hr,h1,asAddr,h3]
end
def e1(r:Nat):Nat:=(r/2) ^^^ (if r%2=1 then 3988292384 else 0)
def eN(r:Nat):Nat→Nat
|0=>r
|k+1=>e1 (eN r k)
def ent(i:Nat):Nat:=eN i 8
def KO(r:Nat)(c:UInt8):Nat:=(r/256) ^^^ ent ((r%256) ^^^ c.toNat)
def Bh(r:Nat)(b:By):Nat:=b.foldl KO r
def iB(b:By):Nat:=4294967295 ^^^ Bh 4294967295 b
theorem MI{r:Nat}(h:r<4294967296):e1 r<4294967296:=jW (by omega) (by split<;>decide)
theorem G6{r:Nat}(h:r<4294967296):∀ k,eN r k<4294967296
|0=>h
|k+1=>MI (G6 h k)
theorem G2{i:Nat}(h:i<4294967296):ent i<4294967296:=G6 h 8
theorem Gx(r:Nat)(c:UInt8):(r%256) ^^^ c.toNat<256:=mN (by omega) c.toNat_lt
theorem Jg{r:Nat}(h:r<4294967296)(c:UInt8):KO r c<4294967296:=jW (by omega) (G2 (by have:=Gx r c;omega))
theorem rH:∀ (b:By) {r:Nat},r<4294967296→Bh r b<4294967296
|[],_,h=>h
|c::b,r,h=>rH b (Jg h c)
theorem qO(b:By):iB b<4294967296:=jW (by decide) (rH b (by decide))
theorem EI(r:Nat)(b:By)(c:UInt8):Bh r (b++[c])=KO (Bh r b) c:=by unfold Bh;rw[Tb];rfl
theorem DN{b:By}{i:Nat}(h:i<b.length):b.take (i+1)=b.take i++[b.getD i 0]:=by
 rw[Sv h,Sj,R7 h];rfl
def mQ(i:Nat):List Value:=(Tw 256).map (fun j=>.int .u32 ((if j<i then ent j else 0:Nat):Int))
def tab:List Value:=(Tw 256).map (fun j=>.int .u32 ((ent j:Nat):Int))
theorem rR(i:Nat):(mQ i).length=256:=by simp[mQ]
theorem mP:tab.length=256:=by simp[tab]
theorem Fg{i:Nat}(h:i<256):(mQ i).set i (.int .u32 ((ent i:Nat):Int))=mQ (i+1):=by
 apply Tj;intro q;rw[TD,rR];by_cases hq:i=q
 · subst hq
   rw[R4 rfl,R4 h];simp[mQ,h]
 · rw[R3 hq]
   unfold mQ;rw[SU,SU];by_cases hq2:q<256
   · rw[List.getElem?_range hq2]
     simp only[map_some];congr 3;by_cases h3:q<i
     ·rw[R4 h3,R4 (by omega)]
     ·rw[R3 h3,R3 (by omega)]
   ·rw[SY (by simp;omega)];rfl
theorem Fh:mQ 256=tab:=by
 unfold mQ tab;apply Ue;intro j hj;rw[R4 (Uo.1 hj)]
theorem uZ:(Sy 256 (.int .u32 0):List Value)=mQ 0:=by kernel_rfl
theorem HT{i:Nat}(h:i<256):tab[i]?=some (.int .u32 ((ent i:Nat):Int)):=by simp[tab,h]
theorem qN:∀ v∈tab,v.oneCell'=true:=by
 intro v hv;obtain⟨j,_,rfl⟩:=SN.1 hv;rfl
theorem E0:(Tryz.prog.info? 41).map (fun i=>i.zero.map (·.cells))=some (some (Sy 256 (.int .u32 0)).toArray):=by kernel_rfl
theorem ML:CB Tryz.prog 41 39 256 1:=⟨by kernel_rfl,by kernel_rfl⟩
theorem pE:fV Tryz.prog 41 tab.length=true:=by rw[mP];exact MM
def TbV(H:Array Obj)(p:Nat):Prop:=H[p]?=some (.cells tab.toArray 41 (0,0))
theorem HC(q i:Nat):(⟨q,0,none⟩:Addr).add (((i:Nat):Int).toNat*1)=⟨q,i,none⟩:=by rw[Addr.add_lit];simp
theorem GC{x:Nat}(h:x<4294967296):IntKind.u32.wrap (((x &&& 1:Nat):Int)*3988292384)=((if x%2=1 then 3988292384 else 0:Nat):Int):=by
 have e:x &&& 1=x%2:=Nat.and_one_is_mod x;rw[e];by_cases h1:x%2=1
 ·rw[R4 h1,h1];rfl
 ·rw[R3 h1,show x%2=0 by omega];rfl
theorem pC(W:World):CA 13 [] W fun v w'=>v=.agg tab.toArray∧aA nob W w':=by
 refine cS 23 [] Tryz.func13 ?_;refine Gz 2 ?_;refine Ov E0 rfl ?_;intro w1 hg1 hs1 hf1;have hg1:w1.heap[W.heap.size]?=some (.cells (mQ 0).toArray 41 (0,0)):=by rw[←uZ];exact hg1
 refine Gz 4 ?_;refine Ov E0 rfl ?_;intro w2 hg2 hs2 hf2;have hg2:w2.heap[w1.heap.size]?=some (.cells (mQ 0).toArray 41 (0,0)):=by rw[←uZ];exact hg2
 have hg12:=hf2.obj hg1 id;obtain⟨q,hq⟩:∃ q,q=w1.heap.size:=⟨_,rfl⟩
 rw[←hq] at hg2 ⊢;have hF2:=hf1.trans hf2;refine Gz 9 ?_;refine Oy (β:=Nat) (fun i=>[(0,pT W.heap.size),(1,pT q),(4,iV i)]) (fun i w=>i≤256∧w.heap[q]?=some (.cells (mQ i).toArray 41 (0,0))∧w.heap[W.heap.size]?=some (.cells (mQ 0).toArray 41 (0,0))∧aA nob W w) (fun i=>256-i) 0 ⟨rfl,rfl,rfl,trivial⟩ ⟨by decide,hg2,hg12,hF2⟩ ?_;rintro i w3 ⟨hi,hgq,hgr,hF3⟩;refine fK 2 ?_ ?_<;>intro h5
 ·refine Gz 17 ?_;refine cL (OH (n:=(i:Int)) is3 K6 rfl (qL (by omega))) ?_;refine Gz 10 ?_;refine Oy (β:=Nat) (fun k=>[(0,pT W.heap.size),(1,pT q),(2,iV i),(3,.int .u32 ((eN i k:Nat):Int)),(4,iV i),(9,iV k)]) (fun k w=>k≤8∧w=w3) (fun k=>8-k) 0 ⟨rfl,rfl,rfl,rfl,rfl,rfl,trivial⟩ ⟨by decide,rfl⟩ ?_;rintro k wq ⟨hk,hwq⟩;subst wq;refine fK 2 ?_ ?_<;>intro h10
  ·refine Gz 10 ?_;have hlt:=G6 (r:=i) (by omega) k;refine cL (P5 (n:=1) rfl rfl rfl (by decide)) ?_;refine Gz 1 ?_;refine cL (QL (b:=1) rfl rfl hlt (by decide)) ?_;refine cL (Ox (u:=.int .u32 ((if eN i k%2=1 then 3988292384 else 0:Nat):Int)) (Qn rfl rfl) (by rw[GC hlt])) ?_;refine cL (P3 rfl rfl (by omega) (by split<;>decide)) ?_;refine Gz 8 ?_;exact aG (k+1) ⟨by omega,rfl⟩ (by show 8-(k+1)<8-k;omega)
  refine Gz 12 ?_;refine cL (Ox (u:=.pointer (some ⟨q,i,none⟩)) (Ph ML rfl rfl (by omega)) (by rw[HC])) ?_;have hk8:k=8:=by omega
  subst hk8;refine OF FA rfl rfl rfl hgq (by rw[Tp,rR];omega) ?_;intro w4 hg4 hs4 hf4;have hg4:w4.heap[q]?=some (.cells (mQ (i+1)).toArray 41 (0,0)):=by rw[hg4];congr 2;rw[←Fg (by omega)];rfl
  refine Gz 7 ?_;exact aG (i+1) ⟨by omega,hg4,hf4.obj hgr (by omega),hF3.tw hf4⟩ (by show 256-(i+1)<256-i;omega)
 refine Gz 11 ?_;have hi2:i=256:=by omega
 subst hi2;rw[Fh] at hgq;refine cL (OG (cs:=tab) pE rfl (fun j v hj=>aD hgq hj)) ?_;refine OD (vs:=tab) pE rfl rfl qN hgr (by rw[mP,rR]) ?_;intro w5 hg5 hs5 hf5;refine Gz 3 ?_;refine PJ (cs:=tab) rfl pE rfl (fun j v hj=>aD hg5 hj) ?_;exact⟨_,rfl,rfl,hF3.tw hf5⟩
theorem Bt(n:Nat):IntKind.u8.wrap (n:Int)=((n%256:Nat):Int):=by
 show IntKind.wrap .u8 n=_;simp[IntKind.wrap,IntKind.signed,IntKind.bits]
theorem Iv(p:Nat)(s:Nat)(ao:Option Addr)(c:Nat)(b:By)(W:World)(ht:TbV W.heap p)(hv:Vw b8 W.heap ao c b)(hs:s<4294967296) :
 CA 98 [pT p,.int .u32 (s:Nat),.slice ao b.length c] W fun v w'=>v=.int .u32 ((4294967295 ^^^ Bh (4294967295 ^^^ s) b:Nat):Int)∧w'=W:=by
 have hs2:=jW (show 4294967295<4294967296 by decide) hs;have hl:=hv.RX;refine cS 32 [(0,_),(1,_),(2,_)] Tryz.func98 ?_;refine Gz 8 ?_;refine cL (P4 rfl hs) ?_;refine Gz 12 ?_;refine Oy (β:=Nat) (fun i=>[(0,pT p),(7,.int .u32 ((Bh (4294967295 ^^^ s) (b.take i):Nat):Int)),(12,.slice ao b.length c),(13,iV b.length),(14,iV i)]) (fun i w=>i≤b.length∧w=W) (fun i=>b.length-i) 0 ⟨rfl,rfl,rfl,rfl,rfl,trivial⟩ ⟨Sf _,rfl⟩ ?_;rintro i wq ⟨hi,hwq⟩;subst wq;refine fK 2 ?_ ?_<;>intro h15
 ·refine Gz 10 ?_;refine cL (Ou aP rfl rfl hv.non (by omega)) ?_;refine cL (Ow uL rfl (hv.gz 0 i rfl (by omega))) ?_;obtain⟨r,hr⟩:∃ r,r=Bh (4294967295 ^^^ s) (b.take i):=⟨_,rfl⟩
  have hrl:r<4294967296:=by rw[hr];exact rH _ hs2
  rw[←hr];have hix:=Gx r (b.getD i 0);refine Gz 5 ?_;refine cL (P5 (n:=8) rfl rfl rfl (by decide)) ?_;refine Gz 2 ?_;refine cL (OH (n:=((r%256:Nat):Int)) Kq ty5 rfl (Bt r)) ?_;refine Gz 1 ?_;refine cL (Qr rfl rfl (by omega) (b.getD i 0).toNat_lt) ?_;refine Gz 1 ?_;refine cL (Ox (u:=.pointer (some ⟨p,(r%256) ^^^ (b.getD i 0).toNat,none⟩)) (Ph ML rfl rfl (by omega)) (by rw[HC])) ?_;refine cL (Ow FA rfl (aY ht (HT hix))) ?_;refine cL (P3 rfl rfl (by omega) (G2 (by omega))) ?_;refine Gz 8 ?_;refine ON (i+1) ⟨rfl,?_,rfl,rfl,rfl,trivial⟩ ⟨by omega,rfl⟩ (by show b.length-(i+1)<b.length-i;omega);rw[DN (by omega),EI,←hr];rfl
 refine Gz 12 ?_;refine cL (P4 rfl (rH _ hs2)) ?_;refine Gz 5 ?_;rw[So (by omega)];exact⟨_,rfl,rfl,rfl⟩
theorem BA(p:Nat)(ao:Option Addr)(c:Nat)(b:By)(W:World)(ht:TbV W.heap p)(hv:Vw b8 W.heap ao c b) :
 CA 48 [pT p,.slice ao b.length c] W fun v w'=>v=.int .u32 ((iB b:Nat):Int)∧w'=W:=by
 refine cS 8 [(0,_),(1,_)] Tryz.func48 ?_;refine Gz 9 ?_;refine Ot NN rfl (Iv p 0 ao c b W ht hv (by decide)) rfl ?_;rintro _ w1 ⟨rfl,hw1⟩;subst w1;refine Gz 5 ?_;exact⟨_,rfl,rfl,rfl⟩
def CL(b:By)(a o i:Nat):Prop:=i<130∧a+i<b.length∧b.getD (a+i) 0=b.getD (o+i) 0
instance (b:By)(a o i:Nat):Decidable (CL b a o i):=by unfold CL;exact inferInstance
def Gk(b:By)(a o:Nat):Nat→Nat→Nat
|0,n=>n
|f+1,n=>if CL b a o n then Gk b a o f (n+1) else n
def lik(b:By)(a o:Nat):Nat:=Gk b a o 131 0
theorem vU(b:By)(a o:Nat):∀ f n,131≤n+f→(∀ i,i<n→CL b a o i)→(∀ i,i<Gk b a o f n→CL b a o i)∧¬ CL b a o (Gk b a o f n)
|0,n,h,hc=>by have:=(hc (n-1) (by omega)).1;omega
|f+1,n,h,hc=>by
   unfold Gk
   split
   · rename_i hn
     exact vU b a o f (n+1) (by omega) (fun i hi=>by by_cases h2:i=n;rw[h2];exact hn;exact hc i (by omega))
   ·rename_i hn;exact⟨hc,hn⟩
theorem sS(b:By)(a o:Nat):(∀ i,i<lik b a o→CL b a o i)∧¬ CL b a o (lik b a o):=vU b a o 131 0 (by decide) (by intro i hi;omega)
theorem BV{b:By}{a o n:Nat}(h1:∀ i,i<n→CL b a o i)(h2:¬ CL b a o n):n=lik b a o:=by
 obtain⟨g1,g2⟩:=sS b a o;rcases Ta n (lik b a o) with h|h|h
 ·exact absurd (g1 n h) h2
 ·exact h
 ·exact absurd (h1 _ h) g2
theorem Gj(b:By)(a o:Nat):lik b a o≤130∧(0<lik b a o→a+lik b a o≤b.length):=by
 obtain⟨g1,_⟩:=sS b a o;refine⟨?_,fun h=>?_⟩
 · by_cases h:0<lik b a o
   ·have:=(g1 (lik b a o-1) (by omega)).1;omega
   ·omega
 ·have:=(g1 (lik b a o-1) (by omega)).2.1;omega
theorem IG(b:By)(a o:Nat):lik b a o≤b.length-a:=by
 have:=Gj b a o;omega
def stp(b:By)(a:Nat)(s:Nat×Nat)(i:Nat):Nat×Nat:=if s.1<lik b a i then (lik b a i,a-i) else s
def thr(s:Nat×Nat):Nat×Nat:=if s.1<3 then (0,0) else s
def bst(b:By)(a k:Nat):Nat×Nat:=((Tu (a-k) k).reverse).foldl (stp b a) (0,0)
def mt(b:By)(a:Nat):Nat×Nat:=if a<b.length then thr (bst b a (min 256 a)) else (0,0)
theorem Hv(b:By){a k:Nat}(h:k+1≤a):bst b a (k+1)=stp b a (bst b a k) (a-(k+1)):=by
 unfold bst;rw[range'_succ,List.reverse_cons,Tb,show a-(k+1)+1=a-k by omega];rfl
theorem uC(b:By)(a:Nat):∀ k,k≤a→(∀ j,1≤j→j≤k→lik b a (a-j)≤(bst b a k).1) ∧
 ((bst b a k).1=0∧(bst b a k).2=0∨1≤(bst b a k).2∧(bst b a k).2≤k∧0<(bst b a k).1∧lik b a (a-(bst b a k).2)=(bst b a k).1∧∀ j,1≤j→j<(bst b a k).2→lik b a (a-j)<(bst b a k).1)
|0,_=>⟨fun j h1 h2=>by omega,.inl ⟨rfl,rfl⟩⟩
|k+1,h=>by
   obtain⟨h1,h2⟩:=uC b a k (by omega);rw[Hv b h];generalize bst b a k=s at h1 h2 ⊢;unfold stp;by_cases hs:s.1<lik b a (a-(k+1))
   · rw[R4 hs]
     refine⟨fun j j1 j2=>?_,.inr ⟨by simp only;omega,by simp only;omega,by simp only;omega,?_,fun j j1 j2=>?_⟩⟩
     · by_cases e:j=k+1
       ·rw[e];exact Sa _
       ·exact Nat.le_of_lt (Nat.lt_of_le_of_lt (h1 j j1 (by omega)) hs)
     · simp only
       rw[show a-(a-(k+1))=k+1 by omega]
     ·exact Nat.lt_of_le_of_lt (h1 j j1 (by simp only at j2;omega)) hs
   · rw[R3 hs]
     refine⟨fun j j1 j2=>?_,?_⟩
     · by_cases e:j=k+1
       ·rw[e];omega
       ·exact h1 j j1 (by omega)
     · rcases h2 with h2|⟨c1,c2,c3,c4,c5⟩
       ·exact .inl h2
       ·exact .inr ⟨c1,by omega,c3,c4,c5⟩
theorem KR(b:By)(a k:Nat)(h:k≤a):(bst b a k).1≤130∧(bst b a k).1≤b.length-a:=by
 rcases(uC b a k h).2 with⟨e,_⟩|⟨_,_,_,e,_⟩
 ·omega
 ·rw[←e];exact⟨(Gj _ _ _).1,IG _ _ _⟩
theorem yD{b:By}{a:Nat}(h:(mt b a).1≠0):a<b.length∧3≤(mt b a).1∧(mt b a).1≤130∧a+(mt b a).1≤b.length∧1≤(mt b a).2∧(mt b a).2≤256∧(mt b a).2≤a ∧
 lik b a (a-(mt b a).2)=(mt b a).1∧∀ j,1≤j→j<(mt b a).2→lik b a (a-j)<(mt b a).1:=by
 unfold mt at h ⊢;by_cases hb:a<b.length
 · rw[R4 hb] at h ⊢
   unfold thr at h ⊢;by_cases h3:(bst b a (min 256 a)).1<3
   ·rw[R4 h3] at h;exact absurd rfl h
   · rw[R3 h3] at h ⊢
     have hl:=KR b a (min 256 a) (by omega);rcases(uC b a (min 256 a) (by omega)).2 with⟨e,_⟩|⟨c1,c2,c3,c4,c5⟩
     ·omega
     ·exact⟨hb,by omega,hl.1,by omega,c1,by omega,by omega,c4,c5⟩
 ·rw[R3 hb] at h;exact absurd rfl h
theorem Iu{b:By}{a:Nat}(h:(mt b a).1=0):mt b a=(0,0):=by
 unfold mt thr at h ⊢
 split
 · rename_i hb
   rw[R4 hb] at h
   split
   ·rfl
   ·rename_i h3;rw[R3 h3] at h;omega
 ·rfl
theorem Gc{b:By}{a:Nat}(h:b.length<a+3):mt b a=(0,0):=by
 apply Iu;apply Se;intro hn;have:=yD hn;omega
def st3(b:By)(i:Nat):UInt8×UInt8×UInt8:=(b.getD i 0,b.getD (i+1) 0,b.getD (i+2) 0)
def gB(b:By)(lo hi:Nat)(a:UInt8×UInt8×UInt8):List Nat:=(Tu lo (hi-lo)).filter (fun i=>decide (i+3≤b.length∧st3 b i=a))
theorem Ep{b:By}{a i:Nat}(h:a+3≤b.length):3≤lik b a i↔st3 b i=st3 b a:=by
 obtain⟨g1,g2⟩:=sS b a i;constructor
 · intro h3
   have c0:=(g1 0 (by omega)).2.2;have c1:=(g1 1 (by omega)).2.2;have c2:=(g1 2 (by omega)).2.2;unfold st3;rw[T2,T2] at c0;rw[c0,c1,c2]
 · intro e
   unfold st3 at e;simp only[Prod.mk.injEq] at e;apply Se;intro hn;apply g2;refine⟨by omega,by omega,?_⟩;have:lik b a i=0∨lik b a i=1∨lik b a i=2:=by omega
   rcases this with e1|e1|e1<;>rw[e1]
   ·exact e.1.symm
   ·exact e.2.1.symm
   ·exact e.2.2.symm
theorem zQ{b:By}{a:Nat}{p:Nat→Bool}:∀ (L:List Nat) (s:Nat×Nat),(∀ i∈L,p i=true↔3≤lik b a i)→thr (L.foldl (stp b a) s)=(L.filter p).foldl (stp b a) (thr s)
|[],s,_=>rfl
|i::r,s,h=>by
   have ih:=zQ r (stp b a s i) (fun j hj=>h j (by simp[hj]));have hi:=h i (by simp);rw[Tm,ih];by_cases hp:3≤lik b a i
   · rw[TG (hi.2 hp),Tm]
     congr 1;have e:thr (lik b a i,a-i)=(lik b a i,a-i):=by unfold thr;rw[R3 (by show ¬ lik b a i<3;omega)]
     by_cases h3:s.1<3
     · have e1:stp b a s i=(lik b a i,a-i):=by unfold stp;rw[R4 (by omega)]
       have e2:thr s=(0,0):=by unfold thr;rw[R4 h3]
       rw[e1,e2,e];unfold stp;rw[R4 (by show 0<lik b a i;omega)]
     · have e2:thr s=s:=by unfold thr;rw[R3 h3]
       rw[e2];by_cases h4:s.1<lik b a i
       · have e1:stp b a s i=(lik b a i,a-i):=by unfold stp;rw[R4 h4]
         rw[e1,e]
       · have e1:stp b a s i=s:=by unfold stp;rw[R3 h4]
         rw[e1,e2]
   · rw[T0 (fun e=>hp (hi.1 e))]
     congr 1;by_cases h3:s.1<lik b a i
     · have e1:stp b a s i=(lik b a i,a-i):=by unfold stp;rw[R4 h3]
       rw[e1];unfold thr;rw[R4 (by show lik b a i<3;omega),R4 (by omega)]
     · have e1:stp b a s i=s:=by unfold stp;rw[R3 h3]
       rw[e1]
theorem Am(b:By)(lo hi:Nat)(a:UInt8×UInt8×UInt8):(gB b lo hi a).Pairwise (· < ·):=(List.pairwise_lt_range' (s:=lo) (n:=hi-lo)).filter _
theorem FO{b:By}{lo hi i:Nat}{a:UInt8×UInt8×UInt8}:i∈gB b lo hi a↔lo≤i∧i<hi∧i+3≤b.length∧st3 b i=a:=by
 unfold gB;rw[mem_filter,T4];simp only[decide_eq_true_eq];constructor
 ·rintro⟨⟨h1,h2⟩,h3⟩;exact⟨h1,by omega,h3⟩
 ·rintro⟨h1,h2,h3⟩;exact⟨⟨h1,by omega⟩,h3⟩
theorem sG(b:By)(lo hi:Nat)(a:UInt8×UInt8×UInt8):(gB b lo hi a).length≤hi-lo:=by
 have:=List.length_filter_le (fun i=>decide (i+3≤b.length∧st3 b i=a)) (Tu lo (hi-lo));unfold gB;simpa using this
theorem Kk{b:By}{lo a:Nat}(h:a+3≤b.length)(hlo:lo≤a-256) :
 mt b a=(((gB b lo a (st3 b a)).filter (fun i=>decide (a-i≤256))).reverse).foldl (stp b a) (0,0):=by
 have e1:mt b a=thr (bst b a (min 256 a)):=by unfold mt;rw[R4 (by omega)]
 rw[e1];unfold bst;rw[zQ (p:=fun i=>decide (i+3≤b.length∧st3 b i=st3 b a)) _ _ (fun i hi=>by
  rw[List.mem_reverse,T4] at hi;rw[decide_eq_true_iff,Ep h];exact⟨fun g=>g.2,fun g=>⟨by omega,g⟩⟩)]
 rw[List.filter_reverse];have e2:(Tu (a-min 256 a) (min 256 a)).filter (fun i=>decide (i+3≤b.length∧st3 b i=st3 b a))=(gB b lo a (st3 b a)).filter (fun i=>decide (a-i≤256)):=by
  unfold gB;have e3:Tu lo (a-lo)=Tu lo (a-256-lo)++Tu (a-min 256 a) (min 256 a):=by
   have:=List.range'_append (s:=lo) (m:=a-256-lo) (n:=min 256 a) (step:=1);rw[Tl,show lo+(a-256-lo)=a-min 256 a by omega,show a-256-lo+min 256 a=a-lo by omega] at this;exact this.symm
  rw[e3,Tf,Tf];have e4:((Tu lo (a-256-lo)).filter (fun i=>decide (i+3≤b.length∧st3 b i=st3 b a))).filter (fun i=>decide (a-i≤256))=[]:=by
   rw[List.filter_eq_nil_iff];intro i hi;have:=T4.1 (mem_filter.1 hi).1;simp only[decide_eq_true_eq];omega
  rw[e4,S2]
  symm
  rw[TE];intro i hi;have:=T4.1 (mem_filter.1 hi).1;simp only[decide_eq_true_eq];omega
 rw[e2];simp[thr]
theorem lT{l:List Nat}{a j:Nat}(hs:l.Pairwise (· < ·))(hj:j<l.length)(hbad:256<a-l.getD j 0)(hok:∀ i∈l.drop (j+1),a-i≤256):l.filter (fun i=>decide (a-i≤256))=l.drop (j+1):=by
 conv=>lhs;rw[←List.take_append_drop (j+1) l]
 rw[Tf]
 have e1:(l.take (j+1)).filter (fun i=>decide (a-i≤256))=[]:=by
  rw[List.filter_eq_nil_iff];intro i hi;obtain⟨k,hk⟩:=Sr hi;rw[SZ] at hk
  split at hk
  · rename_i hkj
    have hkl:=(R9.1 hk).1;have hle:i≤l.getD j 0:=by
     rw[Sj,R7 hj,Option.getD_some];rw[R7 hkl] at hk;have hk2:=Option.some.inj hk;by_cases e:k=j
     ·subst e;omega
     ·have:=List.pairwise_iff_getElem.1 hs k j hkl hj (by omega);omega
    simp only[decide_eq_true_eq];omega
  ·cases hk
 rw[e1,S2,TE];intro i hi;simp only[decide_eq_true_eq];exact hok i hi
theorem vN{b:By}{lo i:Nat}(a:UInt8×UInt8×UInt8)(hlo:lo≤i)(h:i+3≤b.length):gB b lo (i+1) a=if a=st3 b i then gB b lo i a++[i] else gB b lo i a:=by
 unfold gB;rw[show i+1-lo=(i-lo)+1 by omega,List.range'_concat,Tf,show lo+1*(i-lo)=i by omega];by_cases e:a=st3 b i
 ·rw[R4 e,TG (by simp[h,e])];rfl
 ·rw[R3 e,T0 (by simp;intro _ e2;exact e e2.symm)];simp
theorem An{b:By}{lo i j:Nat}(a:UInt8×UInt8×UInt8)(hlo:lo≤i)(h:b.length<i+3)(hij:i≤j):gB b lo j a=gB b lo i a:=by
 unfold gB;have:=List.range'_append (s:=lo) (m:=i-lo) (n:=j-i) (step:=1);rw[Tl,show lo+(i-lo)=i by omega,show i-lo+(j-i)=j-lo by omega] at this;rw[←this,Tf];have e:(Tu i (j-i)).filter (fun i=>decide (i+3≤b.length∧st3 b i=a))=[]:=by
  rw[List.filter_eq_nil_iff];intro k hk;have:=T4.1 hk;simp only[decide_eq_true_eq];omega
 rw[e,TA]
def rn(out l:By):By:=
 if h:l.length=0 then out else rn (out++(Ss (min l.length 128-1)::l.take (min l.length 128))) (l.drop (min l.length 128))
termination_by l.length
decreasing_by simp;omega
theorem FE(out:By):rn out []=out:=by rw[rn];rfl
theorem C0{out l:By}(h:0<l.length):rn out l=rn (out++(Ss (min l.length 128-1)::l.take (min l.length 128))) (l.drop (min l.length 128)):=by
 rw[rn,dif_neg (by omega)]
def pk(b:By)(a:Nat)(run out:By):By:=
 if h:a<b.length then
  if hn:(mt b a).1=0 then pk b (a+1) (run++[b.getD a 0]) out
  else pk b (a+(mt b a).1) [] (rn out run++[Ss ((mt b a).1+125),Ss ((mt b a).2-1)])
 else rn out run
termination_by b.length-a
def pkS(b:By):By:=pk b 0 [] []
theorem J9{b:By}{a:Nat}(h:¬ a<b.length)(run out:By):pk b a run out=rn out run:=by rw[pk,dif_neg h]
theorem J8{b:By}{a:Nat}(h:a<b.length)(hn:(mt b a).1=0)(run out:By):pk b a run out=pk b (a+1) (run++[b.getD a 0]) out:=by rw[pk,dif_pos h,dif_pos hn]
theorem Ih{b:By}{a:Nat}(hn:(mt b a).1≠0)(run out:By):pk b a run out=pk b (a+(mt b a).1) [] (rn out run++[Ss ((mt b a).1+125),Ss ((mt b a).2-1)]):=by
 rw[pk,dif_pos (yD hn).1,dif_neg hn]
def cp(out:By)(back:Nat):Nat→By
|0=>out
|n+1=>cp (out++[out.getD (out.length-back) 0]) back n
def up(most:Int)(b out:By):By×Int:=
 match b with
|[]=>(out,0)
|t::r=>
   if t.toNat<128 then
    if r.length<t.toNat+1 then ([],2)
    else if most-out.length<t.toNat+1 then ([],3)
    else up most (r.drop (t.toNat+1)) (out++r.take (t.toNat+1))
   else match r with
   |[]=>([],2)
   |c::r'=>if out.length<c.toNat+1 then ([],2) else if most-out.length<(t.toNat:Int)-125 then ([],3) else up most r' (cp out (c.toNat+1) (t.toNat-125))
termination_by b.length
decreasing_by
 ·simp;omega
 ·simp;omega
structure En (x o0 o1:By):Prop where
 pre:∃ l,o1=o0++l
 yes:∀ (p rest:By) (most:Int),(p.length:Int)+o1.length≤most→up most (x++rest) (p++o0)=up most rest (p++o1)
 big:∀ (p rest:By) (most:Int),(p.length:Int)+o0.length≤most→most<(p.length:Int)+o1.length→up most (x++rest) (p++o0)=([],3)
 cut:∀ (p:By) (most:Int) (n:Nat),(p.length:Int)+o1.length≤most→n<x.length→up most (x.take n) (p++o0)=([],2)∨∃ o l,o1=o++l∧up most (x.take n) (p++o0)=(p++o,0)
theorem J0:∀ (k:Nat) (l out:By),l.length=k→(rn out l).length=out.length+l.length+(l.length+127)/128:=by
 intro k
 induction k using Nat.strongRecOn with
|ind k ih=>
   intro l out hk;by_cases h0:l.length=0
   · have:l=[]:=SB h0
     subst this;rw[FE];simp
   · rw[C0 (by omega),ih _ (by omega) _ _ (Sm ..)]
     simp only[R6,Sq,Sh,Sm];omega
def le(x:Int)(n:Nat):By:=(Tw n).map (fun i=>Ss (x/256 ^ i).toNat)
theorem bE(x:Int)(n:Nat):(le x n).length=n:=by simp[le]
theorem le_succ(x:Int)(i:Nat):le x (i+1)=le x i++[Ss (x/256 ^ i).toNat]:=by simp[le,TV]
def eO(x n:Int):Prop:=n<1∨4<n∨x<0∨x/2 ^ (8*n).toNat≠0
instance (x n:Int):Decidable (eO x n):=by unfold eO;exact inferInstance
def dW(E x n:Int):Int:=if E≠0 then E else if eO x n then 1 else 0
def lI(E:Int)(xs:By)(x n:Int):By:=if E≠0∨eO x n then xs else xs++le x n.toNat
def BN(E:Int)(xs ys:By):By:=if E=0 then xs++ys else xs
def lG(E:Int)(s:By):Int:=if E≠0 then E else if 255<s.length then 3 else 0
def lS(E:Int)(xs s:By):By:=if E≠0∨255<s.length then xs else xs++Ss s.length::s
theorem DL{E:Int}{s:By}(h:E≠0∨¬ 255<s.length):lG E s=E:=by
 unfold lG;by_cases hE:E=0
 ·rw[R3 (by omega),R3 (by omega),hE]
 ·rw[R4 hE]
theorem Av{E x n:Int}(h:E≠0∨eO x n):dW E x n≠0:=by unfold dW;split;assumption;rw[R4 (h.resolve_left (by assumption))];decide
theorem Ei{E x n:Int}(h:¬ (E≠0∨eO x n)):dW E x n=0:=by
 unfold dW;rw[R3 (fun h'=>h (.inl h')),R3 (fun h'=>h (.inr h'))]
theorem F6{E x n:Int}{xs:By}(h:dW E x n≠0):lI E xs x n=xs:=by
 unfold lI;rw[R4 (by apply Se;intro h';exact h (Ei h'))]
theorem gG{E x n:Int}{xs:By}(h:dW E x n=0):lI E xs x n=xs++le x n.toNat:=by
 unfold lI;rw[R3 (fun h'=>Av h' h)]
theorem Eh{E x n:Int}(h:dW E x n=0):E=0∧¬ eO x n:=by
 have:¬ (E≠0∨eO x n):=fun h'=>Av h' h;exact⟨Se fun h'=>this (.inl h'),fun h'=>this (.inr h')⟩
theorem DR(x:Int)(i:Nat):x/2 ^ (8*(i:Int)).toNat=x/256 ^ i:=by
 rw[show (8*(i:Int)).toNat=8*i from by omega,Int.pow_mul];rfl
theorem kQ{n:Nat}(h:n≤255):¬ eO n 1:=by
 unfold eO;have h2:((n:Int)/2 ^ (8*(1:Int)).toNat)=0:=by
  show (n:Int)/256=0;omega
 omega
theorem Gl(n:Nat):le n 1=[Ss n]:=by
 simp[le,TV]
theorem Jq{x:Int}(h:0≤x):Value.int .u8 (IntKind.u8.wrap x)=b8 (Ss x.toNat):=by
 have h1:IntKind.u8.wrap x=x%256:=by
  show IntKind.wrap .u8 x=_;simp[IntKind.wrap,IntKind.signed,IntKind.bits]
 rw[h1,b8,S6];congr 1;omega
theorem DH{x:Int}(h:0≤x):IntKind.u8.wrap x=((Ss x.toNat).toNat:Int):=by
 have:=Jq h;simpa[b8] using this
theorem fJ{E x n:Int}(h:eO x n):dW E x n=if E=0 then 1 else E:=by
 unfold dW;by_cases hE:E=0<;>simp[hE,h]
theorem bB{E x n:Int}(h:¬ eO x n):dW E x n=E:=by
 unfold dW;by_cases hE:E=0<;>simp[hE,h]
theorem qU{E x n:Int}{xs:By}{i:Nat}(h1:dW E x n≠0→i=0)(h2:dW E x n=0→i=n.toNat):xs++le x i=lI E xs x n:=by
 by_cases h:dW E x n=0
 ·rw[gG h,h2 h]
 ·rw[F6 h,h1 h];simp[le]
theorem IJ{xs:By}{x:Int}{i:Nat}:xs++le x (i+1)=(xs++le x i)++[Ss (x/256 ^ i).toNat]:=by rw[le_succ,SI]
def csL(E:Int)(s:Value):List Value:=[iV E,s]
def WrO(cs:Int→Value→List Value)(T:TypeId)(D:Nat→Prop)(H:Array Obj)(p:Nat)(E:Int)(xs:By):Prop:=
 ∃ ao c,H[p]?=some (.cells (cs E (.slice ao xs.length c)).toArray T (0,0))∧Own b8 5 H ao c xs∧¬ blk ao p∧D p∧∀ k,blk ao k→D k
abbrev WrL:=WrO csL 143
section
variable {cs:Int→Value→List Value}{T:TypeId}{D:Nat→Prop}{p:Nat}{E:Int}{xs:List UInt8}
theorem WrO.lt{H:Array Obj}(h:WrO cs T D H p E xs):p<H.size:=by obtain⟨ao,c,hg,_⟩:=h;exact(Sb.1 hg).1
theorem WrO.RZ{S:Nat→Prop}{w w':World}(h:WrO cs T D w.heap p E xs)(f:aA S w w')(hs:∀ k,D k→¬ S k):WrO cs T D w'.heap p E xs:=by
 obtain⟨ao,c,hg,ho,h1,h2,h3⟩:=h;exact⟨ao,c,f.obj hg (hs p h2),ho.RZ f (fun a ha=>hs _ (h3 _ ⟨a,ha,rfl⟩)),h1,h2,h3⟩
theorem WrO.RY{w w':World}(h:WrO cs T D w.heap p E xs)(f:aA nob w w'):WrO cs T D w'.heap p E xs:=h.RZ f (fun _ _=>id)
theorem WrO.shrink{w w':World}(h:WrO cs T D w.heap p E xs)(f:aA nob w w'):WrO cs T (fun k=>D k∧(k<w.heap.size∨w'.heap.size≤k)) w'.heap p E xs:=by
 have h':=h.RY f;have hl:=h.lt;obtain⟨ao,c,hg,ho,h1,h2,h3⟩:=h;refine⟨ao,c,f.obj hg id,ho.RY f,h1,⟨h2,.inl hl⟩,fun k hk=>⟨h3 k hk,.inl ?_⟩⟩;obtain⟨a,ha,rfl⟩:=hk;exact ho.lt a ha
theorem WrO.mono{D':Nat→Prop}{H:Array Obj}(h:WrO cs T D H p E xs)(hd:∀ k,D k→D' k):WrO cs T D' H p E xs:=by
 obtain⟨ao,c,hg,ho,h1,h2,h3⟩:=h;exact⟨ao,c,hg,ho,h1,hd _ h2,fun k hk=>hd k (h3 k hk)⟩
theorem CE{W w1 w2 w3:World}{ys:By}{ao ao2:Option Addr}{c2:Nat}(hD:∀ k,W.heap.size≤k→D k)(hap:¬ blk ao p)(hDp:D p)(hDa:∀ k,blk ao k→D k)(hpW:p<W.heap.size)
 (hf1:aA nob W w1)(ho2:Own b8 5 w2.heap ao2 c2 (xs++ys))(hf2:aA (blk ao) w1 w2)(hr2:∀ a,ao2=some a→ao=some a∨w1.heap.size≤a.block)
 (hg3:w3.heap[p]?=some (.cells (cs E (.slice ao2 (xs++ys).length c2)).toArray T (0,0)))(hf3:aA (· = p) w2 w3) :
 WrO cs T D w3.heap p E (xs++ys)∧aA D W w3:=by
 have h1:=hf1.size;have hap2:¬ blk ao2 p:=fun⟨a,ha,hb⟩=>by
  rcases hr2 a ha with h|h
  ·exact hap ⟨a,h,hb⟩
  ·omega
 refine⟨⟨ao2,c2,hg3,ho2.RZ hf3 (fun a ha h=>hap2 ⟨a,ha,h⟩),hap2,hDp,fun k hk=>?_⟩,?_⟩
 · obtain⟨a,ha,rfl⟩:=hk
   rcases hr2 a ha with h|h
   ·exact hDa _ ⟨a,h,rfl⟩
   ·exact hD _ (by omega)
 ·exact((hf1.mono (fun _ h=>h.elim)).trans (hf2.mono (fun k h=>hDa k h))).trans (hf3.mono (fun k h=>by subst h;exact hDp))
end
theorem nU(D:Nat→Prop)(p:Nat)(E:Int)(xs:By)(e:Int)(W:World)(hP:WrL D W.heap p E xs) :
 CA 97 [pT p,iV e] W fun v w'=>WrL D w'.heap p (if E=0 then e else E) xs∧aA D W w':=by
 have hPP:=hP;obtain⟨ao,c,hobj,hown,hap,hDp,hDa⟩:=hP;refine cS 13 [(0,_),(1,_)] Tryz.func97 ?_;refine fK 6 ?_ ?_<;>intro h8
 ·refine Gz 8 ?_;refine OF FB rfl rfl rfl hobj rfl ?_;intro w1 hg1 hs1 hf1;refine Gz 1 ?_;refine OQ rfl ?_;exact⟨_,rfl,by rw[R4 h8];exact⟨ao,c,hg1,hown.RZ hf1 (fun a ha h=>hap ⟨a,ha,h⟩),hap,hDp,hDa⟩,hf1.mono (fun k h=>by subst h;exact hDp)⟩
 refine Gz 4 ?_;refine OQ rfl ?_;exact⟨_,rfl,by rw[R3 h8];exact hPP,Rk _ _⟩
theorem mH(D:Nat→Prop)(p:Nat)(E:Int)(xs:By)(W:World)(hP:WrL D W.heap p E xs) :
 CA 47 [pT p] W fun v w'=>v=iV E∧w'=W:=by
 obtain⟨ao,c,hobj,hown,hap,hDp,hDa⟩:=hP;refine cS 7 [(0,_)] Tryz.func47 ?_;refine Gz 16 ?_;exact⟨_,rfl,rfl,rfl⟩
theorem lY(D:Nat→Prop)(p:Nat)(E:Int)(xs:By)(x n:Int)(W:World)(hP:WrL D W.heap p E xs)(hD:∀ k,W.heap.size≤k→D k)(hb:xs.length≤1099511627776) :
 CA 76 [pT p,iV x,iV n] W fun v w'=>WrL D w'.heap p (dW E x n) (lI E xs x n)∧aA D W w':=by
 refine cS 55 [(0,_),(1,_),(2,_)] Tryz.func76 ?_;refine O1 (β:=Unit) (fun _u=>[(0,pT p),(1,iV x),(2,iV n)]) (fun _u w=>WrL D w.heap p (dW E x n) xs∧aA D W w) ?_ ?_
 ·refine fK 3 ?_ ?_<;>intro h8
  ·refine cA 22 yP (nU D p E xs 1 W hP) ?_;rintro _ w1 hw1;refine Gz 1 ?_;refine aC () ?_
   first
   |exact⟨by rw[fJ (by first|exact .inl h8|exact .inr (.inl h11)|exact .inr (.inr (.inl h15))|exact .inr (.inr (.inr h22)))];exact hw1.1,hw1.2⟩
   |exact⟨by rw[bB (by rintro(h|h|h|h);exact h8 h;exact h11 h;exact h15 h;exact h22 h)];exact hP,Rk _ _⟩
  refine fW 2 ?_ ?_<;>intro h11
  ·refine cA 19 yP (nU D p E xs 1 W hP) ?_;rintro _ w1 hw1;refine Gz 1 ?_;refine aC () ?_
   first
   |exact⟨by rw[fJ (by first|exact .inl h8|exact .inr (.inl h11)|exact .inr (.inr (.inl h15))|exact .inr (.inr (.inr h22)))];exact hw1.1,hw1.2⟩
   |exact⟨by rw[bB (by rintro(h|h|h|h);exact h8 h;exact h11 h;exact h15 h;exact h22 h)];exact hP,Rk _ _⟩
  refine fW 3 ?_ ?_<;>intro h15
  ·refine cA 15 yP (nU D p E xs 1 W hP) ?_;rintro _ w1 hw1;refine Gz 1 ?_;refine aC () ?_
   first
   |exact⟨by rw[fJ (by first|exact .inl h8|exact .inr (.inl h11)|exact .inr (.inr (.inl h15))|exact .inr (.inr (.inr h22)))];exact hw1.1,hw1.2⟩
   |exact⟨by rw[bB (by rintro(h|h|h|h);exact h8 h;exact h11 h;exact h15 h;exact h22 h)];exact hP,Rk _ _⟩
  refine Gz 4 ?_;refine cW (Pc rfl rfl (by omega)) ?_;refine cW (Qg rfl rfl (by omega)) ?_;refine fW 0 ?_ ?_<;>intro h22
  ·refine cA 8 yP (nU D p E xs 1 W hP) ?_;rintro _ w1 hw1;refine Gz 1 ?_;refine aC () ?_
   first
   |exact⟨by rw[fJ (by first|exact .inl h8|exact .inr (.inl h11)|exact .inr (.inr (.inl h15))|exact .inr (.inr (.inr h22)))];exact hw1.1,hw1.2⟩
   |exact⟨by rw[bB (by rintro(h|h|h|h);exact h8 h;exact h11 h;exact h15 h;exact h22 h)];exact hP,Rk _ _⟩
  refine Gz 5 ?_;refine aC () ?_
  first
  |exact⟨by rw[fJ (by first|exact .inl h8|exact .inr (.inl h11)|exact .inr (.inr (.inl h15))|exact .inr (.inr (.inr h22)))];exact hw1.1,hw1.2⟩
  |exact⟨by rw[bB (by rintro(h|h|h|h);exact h8 h;exact h11 h;exact h15 h;exact h22 h)];exact hP,Rk _ _⟩
 rintro _ w2 ⟨hP2,hF2⟩;refine Gz 6 ?_;refine Oy (β:=Nat) (fun i=>[(0,pT p),(1,iV x),(2,iV n),(6,iV i)]) (fun i w=>(dW E x n≠0→i=0)∧(dW E x n=0→i≤n.toNat)∧WrL D w.heap p (dW E x n) (xs++le x i)∧aA D W w) (fun i=>n.toNat-i) 0 ⟨rfl,rfl,rfl,rfl,trivial⟩ ⟨fun _=>rfl,fun _=>Sf _,by simpa[le] using hP2,hF2⟩ ?_;rintro i w3 ⟨hi0,hi1,hP3,hF3⟩;refine fK 5 ?_ ?_<;>intro h30
 ·refine Gz 5 ?_;have hP2:=hP3;obtain⟨ao,c,hobj,hown,hap,hDp,hDa⟩:=hP3;refine fW 1 ?_ ?_<;>intro h37
  ·refine Gz 8 ?_;have hn4:1≤n∧n≤4∧0≤x:=by have:=(Eh h37).2;unfold eO at this;omega
   refine OI 14 (fun H=>H[p]?=some (.cells (csL (dW E x n) (.slice ao (xs++le x i).length c)).toArray 143 (0,0))) [10,11,14] [0,1,2,3,4,5,6,7,8,9,10,11,12,13,14] aM (by kernel_rfl) (hobj) ?_;refine Gz 7 ?_;refine xC rfl (Pc rfl rfl (by omega)) ?_;refine xC rfl (Qg rfl rfl (by omega)) ?_;refine xC rfl (OH (n:=((Ss (x/256 ^ i).toNat).toNat:Int)) is3 ty5 rfl (by rw[DR];exact DH (Int.ediv_nonneg hn4.2.2 (Int.pow_nonneg (by decide))))) ?_;refine OE rfl rfl (Pd (enc:=b8) (u:=Ss (x/256 ^ i).toNat) aP rfl rfl rfl ?_);intro w4 ho4 hs4 hf4;refine OK (by exact hf4.obj hobj (fun h=>h)) ?_;refine OE rfl rfl (OJ cP aP rfl rfl (hown.RY hf4.RW) ho4.vw (by simp only[Sw,R6,bE];omega) (by simp only[Sw,R6,bE];unfold maxLen;omega) rfl ?_);intro ao5 c5 w5 ho5 hf5 hr5 hn5;refine OK (by exact hf5.obj (hf4.obj hobj (fun h=>h)) hap) ?_;refine Gz 2 ?_;refine OE rfl rfl (OF aT rfl rfl rfl (hf5.obj (hf4.obj hobj (fun h=>h)) hap) rfl ?_);intro w6 hg6 hs6 hf6;refine O8 rfl ?_;refine Gz 8 ?_;obtain⟨hP6,hF6⟩:=CE (cs:=csL) (E:=dW E x n) (kF hF3 hD) hap hDp hDa hP2.lt hf4.RW ho5 hf5 hr5 hg6 hf6;refine aG (i+1) ?_ (by show n.toNat-(i+1)<n.toNat-i;omega);exact⟨fun h=>absurd h37 h,fun _=>by omega,by rw[IJ];exact hP6,hF3.trans hF6⟩
  refine Gz 8 ?_;refine OQ rfl ?_
  first
  |exact⟨_,rfl,by rw[←qU (i:=i) hi0 (fun h=>by have:=hi1 h;omega)];exact hP3,hF3⟩
  |exact⟨_,rfl,by rw[←qU (i:=i) hi0 (fun h=>absurd h h37)];exact hP2,hF3⟩
 refine Gz 15 ?_;refine OQ rfl ?_
 first
 |exact⟨_,rfl,by rw[←qU (i:=i) hi0 (fun h=>by have:=hi1 h;omega)];exact hP3,hF3⟩
 |exact⟨_,rfl,by rw[←qU (i:=i) hi0 (fun h=>absurd h h37)];exact hP2,hF3⟩
theorem kN(D:Nat→Prop)(p:Nat)(E:Int)(xs:By)(yo:Option Addr)(yc:Nat)(ys:By)(W:World)(hP:WrL D W.heap p E xs)(hD:∀ k,W.heap.size≤k→D k)(hv:Vw b8 W.heap yo yc ys)(hb:xs.length≤1099511627776)(hb2:ys.length≤1099511627776) :
 CA 81 [pT p,.slice yo ys.length yc] W fun v w'=>WrL D w'.heap p E (BN E xs ys)∧aA D W w':=by
 have hP0:=hP;obtain⟨ao,c,hobj,hown,hap,hDp,hDa⟩:=hP;refine cS 19 [(0,_),(1,_)] Tryz.func81 ?_;refine fK 7 ?_ ?_<;>intro h9
 ·refine Gz 10 ?_;refine OJ cP aP rfl rfl hown hv (by omega) (by unfold maxLen;omega) rfl ?_;intro ao5 c5 w5 ho5 hf5 hr5 hn5;refine Gz 2 ?_;refine OF aT rfl rfl rfl (hf5.obj hobj hap) rfl ?_;intro w6 hg6 hs6 hf6;refine Gz 1 ?_;refine OQ rfl ?_;obtain⟨hP6,hF6⟩:=CE (cs:=csL) (E:=E) hD hap hDp hDa hP0.lt (Rk _ _) ho5 hf5 hr5 hg6 hf6;exact⟨_,rfl,by unfold BN;rw[R4 h9];exact hP6,hF6⟩
 refine Gz 4 ?_;refine OQ rfl ?_;exact⟨_,rfl,by unfold BN;rw[R3 h9];exact hP0,Rk _ _⟩
theorem Au(E:Int)(xs:By)(x n:Int)(h:¬ eO x n):(lI E xs x n).length≤xs.length+4:=by
 unfold lI;split
 ·omega
 ·simp only[R6,bE];unfold eO at h;omega
theorem E8{E:Int}{xs s:By}(h:¬ 255<s.length):dW E s.length 1=lG E s∧BN (dW E s.length 1) (lI E xs s.length 1) s=lS E xs s:=by
 have hb:=kQ (n:=s.length) (by omega);rw[bB hb];unfold lG lS BN lI;by_cases hE:E=0
 ·simp[hE,h,hb,Gl]
 ·simp[hE]
theorem mO(D:Nat→Prop)(p:Nat)(E:Int)(xs s:By)(W:World)(hP:WrL D W.heap p E xs)(hD:∀ k,W.heap.size≤k→D k)(hb:xs.length≤549755813888) :
 CA 128 [pT p,.string (bs s)] W fun v w'=>WrL D w'.heap p (lG E s) (lS E xs s)∧aA D W w':=by
 refine cS 19 [(0,_),(1,_)] Tryz.func128 ?_;refine Gz 4 ?_;refine cL (Pg ty9 rfl) ?_;refine fK 0 ?_ ?_<;>intro h6
 ·refine cA 8 yP (nU D p E xs 3 W hP) ?_;rintro _ w1 ⟨hP1,hF1⟩;refine Gz 5 ?_;refine⟨_,rfl,?_,hF1⟩;have h7:255<s.length:=by omega
  have e1:lG E s=if E=0 then 3 else E:=by unfold lG;by_cases hE:E=0<;>simp[hE,h7]
  have e2:lS E xs s=xs:=by unfold lS;rw[R4 (.inr h7)]
  rw[e1,e2];exact hP1
 refine Gz 9 ?_;refine cL (Pg ty9 rfl) ?_;have hs:¬ 255<s.length:=by omega
 obtain⟨e1,e2⟩:=E8 (E:=E) (xs:=xs) hs;have hl1:=Au E xs s.length 1 (kQ (by omega));refine Ot tH rfl (lY D p E xs s.length 1 W hP hD (by omega)) rfl ?_;rintro _ w1 ⟨hP1,hF1⟩;refine Gz 5 ?_;refine Qh ty9 aP ty5 rfl (by unfold maxLen;omega) rfl ?_;intro w2 c2 hv2 hs2 hf2;refine Ot GK rfl (kN D p _ _ _ c2 s w2 (hP1.RY hf2) (kF hf2 (kF hF1 hD)) hv2 (by omega) (by omega)) rfl ?_;rintro _ w3 ⟨hP3,hF3⟩;refine Gz 1 ?_;refine OQ rfl ?_;rw[e2] at hP3;rw[e1] at hP3;exact⟨_,rfl,hP3,(hF1.trans (hf2.mono (fun _ h=>h.elim))).trans hF3⟩
def kM(W:World)(xs:By):Value→World→Prop:=fun v w'=>∃ ao' cap',v=.slice ao' xs.length cap'∧Own b8 5 w'.heap ao' cap' xs∧Fr W.heap.size ao'∧aA nob W w'
theorem BH(cap:Nat)(xs:By)(W:World)(hv:Vw b8 W.heap none cap xs):CA 79 [.slice none xs.length cap] W (kM W xs):=by
 have hx:xs=[]:=SB (by
  rcases Uj xs.length with h|h
  ·exact h
  ·exact absurd rfl (hv.non (by omega)))
 subst hx;refine cS 8 [(0,_)] Tryz.func79 ?_;refine Gz 9 ?_;refine cL (OU aP rfl rfl) ?_;refine Gz 11 ?_;exact⟨_,rfl,none,0,rfl,Rr,Rp,Rk _ _⟩
theorem Ae(a:Addr)(cap:Nat)(xs:By)(W:World)(hv:Vw b8 W.heap (some a) cap xs)(hb:xs.length≤140737488355328):CA 79 [.slice (some a) xs.length cap] W (kM W xs):=by
 have hl:=hv.RX;refine cS 8 [(0,_)] Tryz.func79 ?_;refine Gz 9 ?_;refine cL (OU aP rfl rfl) ?_;refine Gz 7 ?_;refine Py b8 aP rfl ?_;intro w1 ho1 hs1 hf1;refine Gz 1 ?_;refine OJ cP aP rfl rfl ho1 (hv.RY hf1) (by simp only[SL];omega) (by simp only[SL];unfold maxLen;omega) rfl ?_;intro ao2 c2 w2 ho2 hf2 hr2 hn2;refine Gz 5 ?_;have hfr:=vY W.heap.size;refine⟨_,rfl,ao2,c2,rfl,ho2,fun a ha=>?_,hf1.RV hf2 hfr.step⟩;rcases hr2 a ha with h|h
 ·exact hfr a h
 ·have:=hf1.size;omega
theorem iR(ao:Option Addr)(cap:Nat)(xs:By)(W:World)(hv:Vw b8 W.heap ao cap xs)(hb:xs.length≤140737488355328):CA 79 [.slice ao xs.length cap] W (kM W xs):=by
 cases ao with
|none=>exact BH cap xs W hv
|some a=>exact Ae a cap xs W hv hb
def iJ(E:Int)(xs:By):By:=if E≠0 then [] else xs
theorem eF(D:Nat→Prop)(p:Nat)(E:Int)(xs:By)(W:World)(hP:WrL D W.heap p E xs)(hb:xs.length≤1099511627776) :
 CA 77 [pT p] W (kM W (iJ E xs)):=by
 obtain⟨ao,c,hobj,hown,hap,hDp,hDa⟩:=hP;refine cS 14 [(0,_)] Tryz.func77 ?_;refine fK 13 ?_ ?_<;>intro h8
 ·refine Gz 11 ?_;refine⟨_,rfl,?_⟩;unfold iJ;rw[R4 h8];exact⟨none,0,rfl,Rr,Rp,Rk _ _⟩
 refine Gz 11 ?_;refine Ot GL rfl (iR ao c xs W hown.vw (by omega)) rfl ?_;rintro _ w1 ⟨ao1,c1,rfl,ho1,hfr1,hf1⟩;refine Gz 5 ?_;refine⟨_,rfl,?_⟩;unfold iJ;rw[R3 h8];exact⟨ao1,c1,rfl,ho1,hfr1,hf1⟩
theorem Rx{H:Array Obj}{p:Nat}(h:H[p]?=some (.cells #[iV 0,sN] 143 (0,0))){D:Nat→Prop}(hD:D p):WrL D H p 0 []:=
 ⟨none,0,h,Rr,(fun⟨a,h,_⟩=>by cases h),hD,(fun k ⟨a,h,_⟩=>by cases h)⟩
section
def cY(E:Int)(ys:By)(n:Int):Int:=if E≠0 then E else if n<0 then 1 else if (ys.length:Int)<n then 2 else 0
def fR(E:Int)(ys:By)(n:Int):By:=if cY E ys n≠0 then [] else ys.take n.toNat
def nX(E:Int)(ys:By)(n:Int):By:=if cY E ys n≠0 then ys else ys.drop n.toNat
def bX:By→Nat
|[]=>0
|b::r=>b.toNat+256*bX r
def bZ(E n:Int):Int:=if E≠0 then E else if n<1∨4<n then 1 else 0
theorem Aw(E n:Int):bZ E n=if E=0∧(n<1∨4<n) then 1 else E:=by
 unfold bZ;by_cases hE:E=0
 ·simp[hE]
 ·simp[hE]
theorem sM{n:Int}(h1:1≤n)(h4:n≤4)(E:Int):bZ E n=E:=by rw[Aw,R3 (by omega)]
theorem pB{E:Int}{ys:By}{n:Int}(h:E≠0):cY E ys n=E:=by unfold cY;rw[R4 h]
theorem Hg{E:Int}{ys:By}{n:Int}(h:n<0):cY E ys n=if E=0 then 1 else E:=by
 unfold cY;by_cases hE:E=0<;>simp[hE,h]
theorem tT{E:Int}{ys:By}{n:Int}(h:¬ n<0)(h2:(ys.length:Int)<n):cY E ys n=if E=0 then 2 else E:=by
 unfold cY;by_cases hE:E=0<;>simp[hE,h,h2]
theorem gJ{E:Int}{ys:By}{n:Int}(h:¬ n<0)(h2:¬ (ys.length:Int)<n):cY E ys n=E:=by
 unfold cY;by_cases hE:E=0<;>simp[hE,h,h2]
theorem Bg{E:Int}{ys:By}{n:Int}(h:cY E ys n≠0):fR E ys n=[]∧nX E ys n=ys:=by unfold fR nX;rw[R4 h,R4 h];exact⟨rfl,rfl⟩
theorem eA{E:Int}{ys:By}{n:Int}(h:cY E ys n=0):fR E ys n=ys.take n.toNat∧nX E ys n=ys.drop n.toNat:=by unfold fR nX;rw[R3 (by omega),R3 (by omega)];exact⟨rfl,rfl⟩
theorem lB{E:Int}{ys:By}{n:Int}(h:cY E ys n=0):E=0∧0≤n∧n≤ys.length:=by
 unfold cY at h
 split at h
 ·contradiction
 · split at h
   ·cases h
   · split at h
     ·cases h
     ·rename_i h1 h2 h3;exact⟨by omega,by omega,by omega⟩
theorem Hh(E:Int)(ys:By)(n:Int):(fR E ys n).length≤n.toNat:=by unfold fR;split<;>simp;omega
theorem tS(E:Int)(ys:By)(n:Int):(nX E ys n).length≤ys.length:=by unfold nX;split<;>simp
theorem pK:∀ (a b:By),bX (a++b)=bX a+256 ^ a.length*bX b
|[],b=>by simp[bX]
|x::a,b=>by
   simp only[Th,bX,pK a b,Sq,Nat.pow_succ];rw[Nat.mul_add,Nat.mul_assoc (256 ^ a.length) 256,Nat.mul_left_comm 256];omega
theorem qM:∀ a:By,bX a<256 ^ a.length
|[]=>by simp[bX]
|x::a=>by
   have h1:=qM a;have h2:=x.toNat_lt;simp only[bX,Sq,Nat.pow_succ];omega
theorem DI(bs:By)(i:Nat)(h:i<bs.length):bX (bs.take (i+1))=bX (bs.take i) ||| ((bs.getD i 0).toNat*2 ^ (8*i)):=by
 have e:bs.take (i+1)=bs.take i++[bs.getD i 0]:=by rw[Sv h];simp[Sj,h]
 have hl:(bs.take i).length=i:=by rw[Sh];omega
 rw[e,pK,hl];have hlt:=qM (bs.take i);rw[hl] at hlt;have h3:=Nat.shiftLeft_add_eq_or_of_lt (show bX (bs.take i)<2 ^ (8*i) by rw[Nat.pow_mul];exact hlt) (bs.getD i 0).toNat;rw[Nat.shiftLeft_eq] at h3;rw[Nat.or_comm,←h3,Nat.pow_mul,show (2:Nat) ^ 8=256 from rfl];simp only[bX,Nat.mul_zero,T2];rw[TB (256 ^ i)];omega
theorem yH:∀ bs:By,le (bX bs) bs.length=bs
|[]=>rfl
|b::r=>by
   have ih:=yH r;have h2:=b.toNat_lt;unfold le at *;simp only[Sq,List.range_succ_eq_map,SV,TQ];congr 1
   · apply TK.1
     rw[S6];show ((((bX (b::r):Nat):Int)/256 ^ 0).toNat)%2 ^ 8=b.toNat;simp only[bX,Int.pow_zero,Int.ediv_one];omega
   · conv=>rhs;rw[←ih]
     apply Ue;intro i _;simp only[Function.comp];have e1:((bX (b::r):Nat):Int)/256 ^ (i+1)=((bX (b::r)/256 ^ (i+1):Nat):Int):=by rw[Int.natCast_ediv];simp
     have e2:((bX r:Nat):Int)/256 ^ i=((bX r/256 ^ i:Nat):Int):=by rw[Int.natCast_ediv];simp
     have e3:bX (b::r)/256 ^ (i+1)=bX r/256 ^ i:=by
      rw[Nat.pow_succ,TB (256 ^ i) 256,←Nat.div_div_eq_div_mul];simp only[bX];congr 1;omega
     rw[Tk,e1,e2,e3]
theorem IK(x:Int)(n:Nat):le x (n+1)=Ss x.toNat::le (x/256) n:=by
 unfold le;rw[List.range_succ_eq_map,SV,TQ];congr 1
 ·simp
 · apply Ue
   intro i _;simp only[Function.comp,Tk];rw[Int.pow_succ,Int.mul_comm (256 ^ i),Int.ediv_ediv_of_nonneg (by decide)]
theorem xL:∀ (n:Nat) (x:Int),0≤x→x<256 ^ n→((bX (le x n):Nat):Int)=x
|0,x,h0,h1=>by simp at h1;simp[le,bX];omega
|n+1,x,h0,h1=>by
   rw[IK];have h2:x/256<256 ^ n:=by
    rw[Int.pow_succ] at h1;exact Int.ediv_lt_of_lt_mul (by decide) h1
   have ih:=xL n (x/256) (Int.ediv_nonneg h0 (by decide)) h2;simp only[bX];rw[S6];omega
def ApD(D:Nat→Prop)(ao:Option Addr)(p n:Nat):Prop:=D p∧(0<n→¬ blk ao p∧∀ k,blk ao k→D k)
theorem Gt{w w':World}{S:Nat→Prop}{ao:Option Addr}{c:Nat}{ys:By}(h:Vw b8 w.heap ao c ys)(f:aA S w w')(hs:0<ys.length→∀ a,ao=some a→¬ S a.block):Vw b8 w'.heap ao c ys:=by
 by_cases h0:0<ys.length
 ·exact h.RZ f (hs h0)
 · have:ys=[]:=SB (by omega)
   subst this;exact Rq c h.max
def RdO(cs:Int→Value→List Value)(T:TypeId)(D:Nat→Prop)(H:Array Obj)(p:Nat)(E:Int)(ys:By):Prop:=
 ∃ ao c,H[p]?=some (.cells (cs E (.slice ao ys.length c)).toArray T (0,0))∧Vw b8 H ao c ys∧ApD D ao p ys.length
abbrev RdL:=RdO csL 108
section
variable {cs:Int→Value→List Value}{T:TypeId}{D:Nat→Prop}{p:Nat}{E:Int}{ys:List UInt8}
theorem RdO.lt{H:Array Obj}(h:RdO cs T D H p E ys):p<H.size:=by obtain⟨ao,c,hg,_⟩:=h;exact(Sb.1 hg).1
theorem RdO.RY{w w':World}(h:RdO cs T D w.heap p E ys)(f:aA nob w w'):RdO cs T D w'.heap p E ys:=by
 obtain⟨ao,c,hg,hv,h1⟩:=h;exact⟨ao,c,f.obj hg id,hv.RY f,h1⟩
end
section
variable {cs:Int→Value→List Value}{T:TypeId}{D:Nat→Prop}{p:Nat}{E:Int}{ys:List UInt8}
theorem RdO.RZ{S:Nat→Prop}{w w':World}(h:RdO cs T D w.heap p E ys)(f:aA S w w')(hs:∀ k,D k→¬ S k):RdO cs T D w'.heap p E ys:=by
 obtain⟨ao,c,hg,hv,h1⟩:=h;exact⟨ao,c,f.obj hg (hs p h1.1),Gt hv f (fun hn a ha=>hs _ ((h1.2 hn).2 _ ⟨a,ha,rfl⟩)),h1⟩
end
variable {D:Nat→Prop}
theorem xB{D:Nat→Prop}{ao:Option Addr}{m l s p n n2:Nat}(h:ApD D ao p n)(hn:n2≤n):ApD D (aU ao m l s) p n2:=⟨h.1,fun h0=>⟨fun h2=>(h.2 (by omega)).1 (jO h2),fun k hk=>(h.2 (by omega)).2 k (jO hk)⟩⟩
theorem mV(p:Nat)(E:Int)(ys:By)(e:Int)(W:World)(hP:RdL D W.heap p E ys) :
 CA 97 [pT p,iV e] W fun v w'=>RdL D w'.heap p (if E=0 then e else E) ys∧aA (· = p) W w':=by
 have hPP:=hP;obtain⟨ao,c,hobj,hv,hap⟩:=hP;refine cS 13 [(0,_),(1,_)] Tryz.func97 ?_;refine fK 6 ?_ ?_<;>intro h8
 ·refine Gz 8 ?_;refine OF FB rfl rfl rfl hobj rfl ?_;intro w1 hg1 hs1 hf1;refine Gz 1 ?_;refine OQ rfl ?_;exact⟨_,rfl,by rw[R4 h8];exact⟨ao,c,hg1,Gt hv hf1 (fun hn a ha h=>(hap.2 hn).1 ⟨a,ha,h⟩),hap⟩,hf1⟩
 refine Gz 4 ?_;refine OQ rfl ?_;exact⟨_,rfl,by rw[R3 h8];exact hPP,Rk _ _⟩
def RdP(cs:Int→Value→List Value)(T:TypeId)(D:Nat→Prop)(W:World)(p:Nat)(E:Int)(ys:By)(n:Int):Value→World→Prop:=fun v w'=>
 ∃ ao c,v=.slice ao (fR E ys n).length c∧Own b8 5 w'.heap ao c (fR E ys n)∧Fr W.heap.size ao∧RdO cs T D w'.heap p (cY E ys n) (nX E ys n)∧aA (· = p) W w'
theorem Bb{H:Array Obj}{ao:Option Addr}{c:Nat}{ys:By}(h:Vw b8 H ao c ys){n:Int}(h0:0≤n)(h1:n≤ys.length):Vw b8 H (aU ao c n.toNat 1) (c-n.toNat) (ys.drop n.toNat):=by
 have:=h.cut (l:=n.toNat) (h:=ys.length) (m:=c) (by omega) (Sa _) h.le (Sa _);rwa[So (by simp)] at this
theorem xX(p:Nat)(E:Int)(ys:By)(n:Int)(W:World)(hP:RdL D W.heap p E ys)(hb:ys.length≤1099511627776) :
 CA 42 [pT p,iV n] W (RdP csL 108 D W p E ys n):=by
 have hP0:=hP;obtain⟨ao0,c0,hobj0,hv0,hap0⟩:=hP0;refine cS 48 [(0,_),(1,_)] Tryz.func42 ?_;refine Gz 5 ?_;refine O1 (β:=Unit) (fun _u=>[(0,pT p),(1,iV n)]) (fun _u w=>RdL D w.heap p (cY E ys n) ys∧aA (· = p) W w) ?_ ?_
 ·refine fK 4 ?_ ?_<;>intro h8
  ·refine cA 8 yP (mV p E ys 1 W hP) ?_;rintro _ w1 ⟨hP1,hF1⟩;refine Gz 2 ?_;refine aC () ?_;exact⟨by rw[Hg h8];exact hP1,hF1⟩
  refine fK 12 ?_ ?_<;>intro h20
  ·refine cA 8 yP (mV p E ys 2 W hP) ?_;rintro _ w1 ⟨hP1,hF1⟩;refine Gz 2 ?_;refine aC () ?_;exact⟨by rw[tT h8 h20];exact hP1,hF1⟩
  refine Gz 6 ?_;refine aC () ?_;exact⟨by rw[gJ h8 h20];exact hP,Rk _ _⟩
 rintro _ w2 ⟨hP2,hF2⟩;obtain⟨ao,c,hobj,hv,hap⟩:=hP2;have hlt:=(RdO.lt hP)
 refine fK 8 ?_ ?_<;>intro h30
 ·refine Gz 11 ?_;have hbad:cY E ys n≠0:=h30;obtain⟨e1,e2⟩:=Bg hbad;exact⟨_,rfl,none,0,by rw[e1];rfl,by rw[e1];exact Rr,Rp,by rw[e2];exact⟨ao,c,hobj,hv,hap⟩,hF2⟩
 refine Gz 10 ?_;obtain⟨z0,z1,z2⟩:=lB (show cY E ys n=0 by omega);have hvc:=hv.le;refine Gz 2 ?_;refine cL (OV aP rfl rfl (by omega)) ?_;have hvt:=hv.take n.toNat;have htl:(ys.take n.toNat).length=n.toNat:=by rw[Sh];omega
 refine Ot GL rfl (by rw[bN,←htl];exact iR ao c (ys.take n.toNat) w2 hvt (by omega)) rfl ?_;rintro _ w3 ⟨ao3,c3,rfl,ho3,hfr3,hf3⟩;refine Gz 9 ?_;refine cL (Ow aT rfl (aD (hf3.obj hobj id) rfl)) ?_;refine Gz 1 ?_;refine cL (O7 aP rfl rfl (by omega)) ?_;refine Gz 2 ?_;refine OF aT rfl rfl rfl (hf3.obj hobj id) rfl ?_;intro w4 hg4 hs4 hf4;refine Gz 10 ?_;obtain⟨e1,e2⟩:=eA (show cY E ys n=0 by omega);have hs2:=hF2.size;have hlt2:p<w2.heap.size:=by omega
 refine⟨_,rfl,ao3,c3,by rw[e1],by rw[e1];exact ho3.RZ hf4 (fun a ha h=>by have:=hfr3 a ha;have h2:a.block=p:=h;omega),hfr3.mono hs2,?_,(hF2.trans (hf3.mono (fun _ h=>h.elim))).trans hf4⟩;rw[e2];refine⟨_,_,by rw[Sm];exact hg4,?_,xB hap (by rw[Sm];omega)⟩;exact Gt (Bb (hv.RY hf3) z1 z2) hf4 (fun hn a ha h=>((xB (n2:=(ys.drop n.toNat).length) hap (by rw[Sm];omega)).2 hn).1 ⟨a,ha,h⟩)
def Om(cs:Int→Value→List Value)(T:TypeId)(D:Nat→Prop)(W:World)(p:Nat)(E:Int)(ys:By)(n:Int):Value→World→Prop:=fun v w'=>
 v=iV (bX (fR (bZ E n) ys n))∧RdO cs T D w'.heap p (cY (bZ E n) ys n) (nX (bZ E n) ys n)∧aA (· = p) W w'
theorem Ax(E:Int)(ys:By)(n:Int):(fR (bZ E n) ys n).length≤4:=by
 have h1:=Hh (bZ E n) ys n;by_cases h:cY (bZ E n) ys n=0
 · have h2:=(lB h).1
   unfold bZ at h2
   split at h2
   ·omega
   · split at h2
     ·cases h2
     ·omega
 ·rw[(Bg h).1];simp
theorem DY{i:Nat}(h:i<4):2 ^ (8*i)≤16777216:=SM (Nat.pow_le_pow_right (by decide) (show 8*i≤24 by omega)) (by decide)
theorem DQ(c:UInt8){i:Nat}(h:i<4):(c.toNat:Int)*2 ^ (8*(i:Int)).toNat=((c.toNat*2 ^ (8*i):Nat):Int)∧c.toNat*2 ^ (8*i)<4294967296:=by
 refine⟨by rw[show (8*(i:Int)).toNat=8*i by omega];simp,?_⟩;have h1:=c.toNat_lt;have h2:=DY h;have:=Nat.mul_le_mul (show c.toNat≤255 by omega) h2;omega
theorem Bu{bs:By}(h:bs.length≤4):bX bs<4294967296:=
 Te (qM bs) (SM (Nat.pow_le_pow_right (by decide) h) (by decide))
theorem Ai(p:Nat)(E:Int)(ys:By)(n:Int)(W:World)(hP:RdL D W.heap p E ys)(hb:ys.length≤1099511627776) :
 CA 44 [pT p,iV n] W (Om csL 108 D W p E ys n):=by
 have hbl:=Ax E ys n;refine cS 36 [(0,_),(1,_)] Tryz.func44 ?_;refine Gz 5 ?_;refine O1 (β:=Unit) (fun _u=>[(0,pT p),(1,iV n)]) (fun _u w=>RdL D w.heap p (bZ E n) ys∧aA (· = p) W w) ?_ ?_
 ·refine fK 3 ?_ ?_<;>intro h9
  ·refine cA 11 yP (mV p E ys 1 W hP) ?_;rintro _ w1 ⟨hP1,hF1⟩;refine Gz 1 ?_;refine aC () ?_;exact⟨by rw[show bZ E n=if E=0 then 1 else E by unfold bZ;by_cases hE:E=0;rw[R3 (by omega),R4 (by omega),R4 hE];rw[R4 hE,R3 hE]];exact hP1,hF1⟩
  refine fW 2 ?_ ?_<;>intro h12
  ·refine cA 8 yP (mV p E ys 1 W hP) ?_;rintro _ w1 ⟨hP1,hF1⟩;refine Gz 1 ?_;refine aC () ?_;exact⟨by rw[show bZ E n=if E=0 then 1 else E by unfold bZ;by_cases hE:E=0;rw[R3 (by omega),R4 (by omega),R4 hE];rw[R4 hE,R3 hE]];exact hP1,hF1⟩
  refine Gz 5 ?_;refine aC () ?_;exact⟨by rw[show bZ E n=E by rw[Aw,R3 (by omega)]];exact hP,Rk _ _⟩
 rintro _ w2 ⟨hP2,hF2⟩;refine Gz 10 ?_;refine Ot KF rfl (xX p _ ys n w2 hP2 hb) rfl ?_;rintro _ w3 ⟨ao3,c3,rfl,ho3,hfr3,hP3,hF3⟩;obtain⟨bs3,hbs⟩:∃ l,l=fR (bZ E n) ys n:=⟨_,rfl⟩
 rw[←hbs] at ho3 hbl ⊢;refine Gz 5 ?_;refine Oy (β:=Nat) (fun k=>[(5,iV (bX (bs3.take k))),(20,.slice ao3 bs3.length c3),(21,iV bs3.length),(22,iV k)]) (fun k w=>k≤bs3.length∧w=w3) (fun k=>bs3.length-k) 0 ⟨rfl,rfl,rfl,rfl,trivial⟩ ⟨Sf _,rfl⟩ ?_;rintro k w4 ⟨hk,hw4⟩;subst hw4;refine fK 2 ?_ ?_<;>intro h23
 ·refine Gz 11 ?_;refine cL (Ou aP rfl rfl ho3.vw.non (by omega)) ?_;refine cL (Ow uL rfl (ho3.vw.gz 0 k rfl (by omega))) ?_;refine Gz 7 ?_;refine cL (OH (n:=((bs3.getD k 0).toNat:Int)) is5 ty3 rfl (cI (by have:=(bs3.getD k 0).toNat_lt;omega))) ?_;refine Gz 1 ?_;refine cL (Pc rfl rfl (by omega)) ?_;obtain⟨s1,s2⟩:=DQ (bs3.getD k 0) (i:=k) (by omega);refine cL (Ox (u:=iV (((bs3.getD k 0).toNat*2 ^ (8*k):Nat):Int)) (QH rfl rfl (by omega) (by rw[s1];omega)) (by rw[s1])) ?_;refine cL (Ri rfl rfl (by have:=Bu (bs:=bs3.take k) (by rw[Sh];omega);omega) (by omega)) ?_;refine Gz 8 ?_;refine ON (k+1) ⟨by rw[DI bs3 k (by omega)];rfl,rfl,rfl,rfl,trivial⟩ ⟨by omega,rfl⟩ (by show bs3.length-(k+1)<bs3.length-k;omega)
 refine Gz 17 ?_;rw[So (by omega)];exact⟨_,rfl,by rw[hbs],hP3,hF2.trans hF3⟩
def tE(E:Int)(ys:By):Int:=cY (bZ E 1) ys 1
def tR(E:Int)(ys:By):By:=nX (bZ E 1) ys 1
def tN(E:Int)(ys:By):Int:=bX (fR (bZ E 1) ys 1)
theorem FJ(ao:Option Addr)(c:Nat)(ys:By)(W:World)(hv:Vw b8 W.heap ao c ys)(hb:ys.length≤140737488355328) :
 CA 41 [.slice ao ys.length c] W fun v w'=>∃ p,v=pT p∧W.heap.size≤p∧RdL (fun k=>W.heap.size≤k∧k<w'.heap.size) w'.heap p 0 ys∧aA nob W w':=by
 refine cS 7 [(0,_)] Tryz.func41 ?_;refine cA 8 GL (iR ao c ys W hv hb) ?_;rintro _ w1 ⟨ao1,c1,rfl,ho1,hfr1,hf1⟩;refine cL (Pq (cs:=#[iV 0,.slice ao1 ys.length c1]) J7 K4 rfl (by kernel_rfl)) ?_;refine OR rfl rfl ?_;intro w2 hg2 hs2 hf2;refine Gz 5 ?_;have z1:=hf1.size;have z2:=hf2.size;exact⟨_,rfl,_,rfl,hf1.size,⟨ao1,c1,hg2,(ho1.RY hf2).vw,⟨by omega,by omega⟩,fun _=>⟨fun⟨a,ha,hb⟩=>by have h3:=ho1.lt a ha;have h4:a.block=w1.heap.size:=hb;omega,fun k ⟨a,ha,hb⟩=>by have h3:=ho1.lt a ha;have h4:=hfr1 a ha;omega⟩⟩,hf1.trans hf2⟩
end
def hdN(n:Nat):List Nat:=[n%256,n/256%256,255 ^^^ ((n%256) ^^^ (n/256%256))]
def hdB(n:Nat):By:=(hdN n).map Ss
theorem qY(n:Nat):(hdB n).length=3:=rfl
theorem Kx{n x:Nat}(h:x∈hdN n):x<256:=by
 simp only[hdN,St,SD,or_false] at h;rcases h with rfl|rfl|rfl
 ·omega
 ·omega
 ·exact mN (by decide) (mN (by omega) (by omega))
def frS(x:By)(mark:Nat):By:=hdB (x.length+mark)++(if x.length=0 then [] else le (iB x:Nat) 4++x)
def cN(b:By):By×Int:=
 if 128<b.length then ([],3) else if b.length=0 then (frS [] 0,0) else if (pkS b).length<b.length then (frS (pkS b) 0,0) else (frS b 32768,0)
def Oj(r:By):Option (By×Nat×Bool):=
 if r.length<3 then none else
 if r.take 3≠hdB ((r.getD 0 0).toNat+256*(r.getD 1 0).toNat) then none else
 if 128<((r.getD 0 0).toNat+256*(r.getD 1 0).toNat)%32768∨(((r.getD 0 0).toNat+256*(r.getD 1 0).toNat)%32768=0∧32768≤(r.getD 0 0).toNat+256*(r.getD 1 0).toNat) then none else
 if ((r.getD 0 0).toNat+256*(r.getD 1 0).toNat)%32768=0 then some ([],0,false) else
 if r.length<7+((r.getD 0 0).toNat+256*(r.getD 1 0).toNat)%32768 then none else
 some ((r.drop 7).take (((r.getD 0 0).toNat+256*(r.getD 1 0).toNat)%32768),bX ((r.drop 3).take 4),decide (32768≤(r.getD 0 0).toNat+256*(r.getD 1 0).toNat))
def Oi(im:By)(a:Int):Option (By×Nat×Bool):=if a<0∨(im.length:Int)<a then none else Oj (im.drop a.toNat)
def Es(x:By):Nat:=if x.length=0 then 3 else 7+x.length
theorem qZ(x:By)(mark:Nat):(frS x mark).length=Es x:=by
 unfold frS Es;rw[R6,qY]
 split
 ·rfl
 ·rw[R6,bE];omega
theorem fF{b:By}(h:b.length≤128):(cN b).1.length≤b.length+7∧3≤(cN b).1.length:=by
 unfold cN;rw[R3 (by omega)]
 split
 ·simp only[qZ,Es];simp
 · split
   ·simp only[qZ,Es];split<;>omega
   ·simp only[qZ,Es];split<;>omega
theorem Jl{b:By}{a o k:Nat}(h:((b.getD (a+k) 0).toNat:Int)=((b.getD (o+k) 0).toNat:Int)):b.getD (a+k) 0=b.getD (o+k) 0:=TK.1 (by omega)
theorem IF(ao:Option Addr)(cap:Nat)(b:By)(a o:Nat)(W:World)(hv:Vw b8 W.heap ao cap b)(h1:a≤b.length)(h2:o<a)(hb:b.length≤1073741824) :
 CA 217 [.slice ao b.length cap,iV a,iV o] W fun v w'=>v=iV (lik b a o)∧∃ n,w'=W.drewN n:=by
 refine cS 36 [(0,_),(1,_),(2,_)] Tryz.func217 ?_;refine Gz 12 ?_;refine Oy (β:=Nat) (fun k=>[(0,.slice ao b.length cap),(1,iV a),(2,iV o),(7,iV k)]) (fun k w=>k≤130∧a+k≤b.length∧(∀ i,i<k→CL b a o i)∧∃ n,w=W.drewN n) (fun k=>131-k) 0 ⟨rfl,rfl,rfl,rfl,trivial⟩ ⟨by omega,by omega,fun i hi=>by omega,0,rfl⟩ ?_;rintro k _ ⟨hk,hk2,hk3,n,rfl⟩;refine Gz 2 ?_;refine Pe 25 [0,1,2,3,4,5,6,7,8,9,10,11,12,13,14,15,16,17,18,19,20,21,22,23,24] aM (by kernel_rfl) ?_;refine xK 1 ?_ ?_<;>intro h9
 ·refine xW 6 ?_ ?_<;>intro h16
  ·refine Gz 6 ?_;refine xV rfl (Ou aP rfl rfl hv.non (by omega)) ?_;refine xV rfl (Ow uL rfl (hv.gz 0 (a+k) (by omega) (by omega))) ?_;refine Gz 4 ?_;refine xV rfl (Ou aP rfl rfl hv.non (by omega)) ?_;refine xV rfl (Ow uL rfl (hv.gz 0 (o+k) (by omega) (by omega))) ?_;refine xW 0 ?_ ?_<;>intro h31
   ·refine Gz 13 ?_;refine aG (k+1) ⟨by omega,by omega,fun i hi=>?_,n+1,rfl⟩ (by show 131-(k+1)<131-k;omega);by_cases hik:i=k
    ·subst hik;exact⟨by omega,by omega,Jl h31⟩
    ·exact hk3 i (by omega)
   refine Gz 17 ?_;have e:k=lik b a o:=BV hk3 (fun hc=>by
    obtain⟨c1,c2,c3⟩:=hc
    first
    |omega
    |exact h31 (by rw[c3]))
   exact⟨_,rfl,by rw[e],n+1,rfl⟩
  refine Gz 32 ?_;have e:k=lik b a o:=BV hk3 (fun hc=>by
   obtain⟨c1,c2,c3⟩:=hc
   first
   |omega
   |exact h31 (by rw[c3]))
  exact⟨_,rfl,by rw[e],n+1,rfl⟩
 refine Gz 39 ?_;have e:k=lik b a o:=BV hk3 (fun hc=>by
  obtain⟨c1,c2,c3⟩:=hc
  first
  |omega
  |exact h31 (by rw[c3]))
 exact⟨_,rfl,by rw[e],n+1,rfl⟩
def RnP(W:World)(o:Option Addr)(xs:By):Value→World→Prop:=fun v w'=>∃ o' c',v=.slice o' xs.length c'∧Own b8 5 w'.heap o' c' xs∧aA (blk o) W w'∧∀ a,o'=some a→o=some a∨W.heap.size≤a.block
theorem Dl{w w':World}{o ao:Option Addr}{c:Nat}{l:By}(hv:Vw b8 w.heap ao c l)(f:aA (blk o) w w')(h:∀ k,blk o k→¬ blk ao k):Vw b8 w'.heap ao c l:=hv.RZ f (fun a ha hb=>h _ hb ⟨a,ha,rfl⟩)
theorem zO{H:Array Obj}{ao:Option Addr}{c:Nat}{l:By}(hv:Vw b8 H ao c l)(h:0<l.length):∀ k,blk ao k→k<H.size:=fun k ⟨a,ha,hk⟩=>hk ▸ hv.lt (Sk.1 h) a ha
theorem Iy{n:Nat}(h:0<n):IntKind.u8.wrap (((min n 128:Nat):Int)-1)=((Ss (min n 128-1)).toNat:Int):=by
 rw[rN (by omega)];congr 3;omega
theorem CZ(o:Option Addr)(co:Nat)(xs:By)(ao:Option Addr)(c:Nat)(l:By)(W:World)(ho:Own b8 5 W.heap o co xs)(hv:Vw b8 W.heap ao c l)(hap:0<l.length→∀ k,blk o k→¬ blk ao k)(hb:xs.length+2*l.length≤1099511627776) :
 CA 187 [.slice o xs.length co,.slice ao l.length c] W (RnP W o (rn xs l)):=by
 refine cS 26 [(0,_),(1,_)] Tryz.func187 ?_;refine Gz 7 ?_;refine Oy (β:=(By×Option Addr×Nat)×(By×Option Addr×Nat)) (fun⟨⟨ys,o1,c1⟩,⟨r,a1,c2⟩⟩=>[(0,.slice o1 ys.length c1),(1,.slice a1 r.length c2)]) (fun⟨⟨ys,o1,c1⟩,⟨r,a1,c2⟩⟩ w=>rn ys r=rn xs l∧Own b8 5 w.heap o1 c1 ys∧Vw b8 w.heap a1 c2 r∧(0<l.length→∀ k,blk o1 k→¬ blk ao k)∧r.length≤l.length∧(∀ k,blk a1 k→blk ao k)∧aA (blk o) W w∧(∀ a,o1=some a→o=some a∨W.heap.size≤a.block)∧ys.length+2*r.length≤1099511627776) (fun⟨⟨ys,o1,c1⟩,⟨r,a1,c2⟩⟩=>r.length) ⟨⟨xs,o,co⟩,⟨l,ao,c⟩⟩ ⟨rfl,rfl,trivial⟩ ⟨rfl,ho,hv,hap,Sa _,fun _ h=>h,Rk _ _,fun a ha=>.inl ha,hb⟩ ?_;rintro⟨⟨ys,o1,c1⟩,⟨r,a1,c2⟩⟩ w1 ⟨hrn,ho1,hv1,hapc,hrl,hsub,hF1,hr1,hb1⟩;have hle:=hv1.le;refine fK 5 ?_ ?_<;>intro h8
 ·have hl0:0<l.length:=by omega
  have hap1:=hapc hl0;have hlt:=zO hv hl0;refine Gz 10 ?_;refine cL (Ox (u:=iV ((min r.length 128:Nat):Int)) (PU rfl rfl) (by congr 1;split<;>omega)) ?_;refine Gz 4 ?_;refine OI 11 (fun _=>True) [4,5,9] [0,1,2,3,6,7,8,4,5,9,10] aM (by kernel_rfl) (trivial) ?_;refine Gz 3 ?_;refine xC rfl (OH (n:=((Ss (min r.length 128-1)).toNat:Int)) is3 ty5 rfl (Iy (by omega))) ?_;refine Gz 2 ?_;refine xC rfl (OV aP rfl rfl (by omega)) ?_;refine OE rfl rfl (Pd (enc:=b8) (u:=Ss (min r.length 128-1)) aP rfl rfl rfl ?_);intro w2 ho2 hs2 hf2;refine OK (by exact trivial) ?_;have hv2:=hv1.RY hf2.RW;have ho12:=ho1.RY hf2.RW;refine OE rfl rfl (OJ cP aP rfl rfl ho12 ho2.vw (by simp;omega) (by simp;unfold maxLen;omega) rfl ?_);intro a3 c3 w3 ho3 hf3 hr3 hn3;refine OK (by exact trivial) ?_;have hf2:=hf2.RW;have hs2:=hf2.size;have hz1:=hF1.size;have hv3:=Dl hv2 hf3 (fun k hk hk2=>hap1 k hk (hsub k hk2));refine OE rfl rfl (OJ cP aP (ys:=r.take (min r.length 128)) rfl (by show some (Value.slice (aU a1 c2 0 1) (min r.length 128) c2)=_;rw[bN,Sh,show min (min r.length 128) r.length=min r.length 128 by omega]) ho3 (hv3.take _) (by simp only[R6,Sh,Sw];omega) (by simp only[R6,Sh,Sw];unfold maxLen;omega) rfl ?_);intro a5 c5 w5 ho5 hf5 hr5a hn5;refine OK (by exact trivial) ?_;have hz3:=hf3.size;have hb3:∀ k,blk a3 k→¬ blk ao k:=fun k ⟨a,ha,hk⟩ hk2=>by rcases hr3 a ha with h|h;exact hap1 k ⟨a,h,hk⟩ hk2;have:=hlt k hk2;omega
  have hv5:=Dl hv3 hf5 (fun k hk hk2=>hb3 k hk (hsub k hk2));have hnew:∀ k,blk a5 k→¬ blk ao k:=fun k ⟨a,ha,hk⟩ hk2=>by rcases hr5a a ha with h|h;exact hb3 k ⟨a,h,hk⟩ hk2;have:=hlt k hk2;omega
  have hto3:∀ k,blk o1 k→blk o k∨W.heap.size≤k:=fun k ⟨a,ha,hk⟩=>by rcases hr1 a ha with h|h;exact .inl ⟨a,h,hk⟩;exact .inr (by omega)
  have hF3:aA (blk o) W w3:=(hF1.trans hf2.any).RV hf3 hto3;have hto5:∀ k,blk a3 k→blk o k∨W.heap.size≤k:=fun k ⟨a,ha,hk⟩=>by rcases hr3 a ha with h|h;exact hto3 k ⟨a,h,hk⟩;exact .inr (by omega)
  have hF5:aA (blk o) W w5:=hF3.RV hf5 hto5;have hr5:∀ a,a5=some a→o=some a∨W.heap.size≤a.block:=fun a ha=>by rcases hr5a a ha with h|h;rcases hr3 a h with h2|h2;exact hr1 a h2;exact .inr (by omega);exact .inr (by omega)
  refine Gz 6 ?_;refine cL (O7 aP rfl rfl (by omega)) ?_;refine Gz 3 ?_;have hm:(r.take (min r.length 128)).length=min r.length 128:=by rw[Sh];omega
  have hrs:=C0 (out:=ys) (l:=r) (by omega);refine ON ⟨⟨ys++[Ss (min r.length 128-1)]++r.take (min r.length 128),a5,c5⟩,⟨r.drop (min r.length 128),aU a1 c2 (min r.length 128) 1,c2-min r.length 128⟩⟩ ⟨rfl,?_,trivial⟩ ?_ (by show (r.drop (min r.length 128)).length<r.length;rw[Sm];omega)
  · show some (Value.slice (aU a1 c2 (min r.length 128) 1) _ _)=some (Value.slice _ _ _)
    rw[Sm];rfl
  · refine⟨?_,ho5,?_,?_,by rw[Sm];omega,fun k hk=>hsub k (jO hk),?_,?_,?_⟩
    ·rw[←hrn,hrs];simp
    ·have:=hv5.cut (l:=min r.length 128) (h:=r.length) (m:=c2) (by omega) (Sa _) hle (Sa _);rwa[So (by simp)] at this
    ·intro _ k hk hk2;exact hnew k hk hk2
    ·exact hF5
    ·exact hr5
    ·simp only[R6,Sh,Sm,Sw];omega
 refine Gz 16 ?_;have hr0:r=[]:=SB (by omega);subst hr0;rw[FE] at hrn;rw[←hrn];exact⟨_,rfl,o1,c1,rfl,ho1,hF1,hr1⟩
structure pH (P:Program)(t k e:TypeId)(z:Value):Prop where
 und:P.underlying t=some (.map k e)
 zero:(P.info? e).map (·.zero)=some (some z)
structure iO (P:Program)(k:TypeId){α:Type}(enc:α→Value):Prop where
 keyed:Go.Maps.Keyed P k
 reads:∀ a,∃ l,keyOf P k (enc a)=some l
 inj:∀ a b,enc a=enc b→a=b
section
variable {α:Type}{enc:α→Value}
def aV(enc:α→Value)(l:List (α×Value)):List MapEntry:=l.mapIdx fun i p=>⟨enc p.1,p.2,i⟩
def cC(enc:α→Value)(H:Array Obj)(g:Nat)(l:List (α×Value)):Prop:=H[g]?=some (.map (aV enc l).toArray l.length)∧(l.map (·.1)).Nodup
theorem DA{l:List (α×Value)}{j:Nat}{e:MapEntry}(h:(aV enc l)[j]?=some e):∃ p,l[j]?=some p∧e=⟨enc p.1,p.2,j⟩:=by
 unfold aV at h;rw[TO,Sn] at h;obtain⟨p,hp,rfl⟩:=h;exact⟨p,hp,rfl⟩
theorem A2{l:List (α×Value)}{e:MapEntry}(h:e∈aV enc l):∃ p∈l,e.key=enc p.1∧e.val=p.2:=by
 obtain⟨j,hj⟩:=Sr h;obtain⟨p,hp,rfl⟩:=DA hj;exact⟨p,Sd hp,rfl,rfl⟩
theorem I7{l:List (α×Value)}{p:α×Value}(h:p∈l):∃ e∈aV enc l,e.key=enc p.1∧e.val=p.2:=by
 obtain⟨j,hj⟩:=Sr h;have:(aV enc l)[j]?=some ⟨enc p.1,p.2,j⟩:=by unfold aV;rw[TO,hj];rfl
 exact⟨_,Sd this,rfl,rfl⟩
theorem wS(l:List (α×Value))(p:α×Value):aV enc (l++[p])=aV enc l++[⟨enc p.1,p.2,l.length⟩]:=by
 simp[aV,List.mapIdx_append]
theorem A1(l:List (α×Value))(j:Nat)(p:α×Value):aV enc (l.set j p)=(aV enc l).set j ⟨enc p.1,p.2,j⟩:=by
 simp[aV,List.mapIdx_set]
theorem G4(l:List (α×Value)):(aV enc l).length=l.length:=by simp[aV]
variable [DecidableEq α]
def bL:List (α×Value)→α→Option Value
|[],_=>none
|p::r,a=>if p.1=a then some p.2 else bL r a
theorem vW{a:α}:∀ {l:List (α×Value)},(∀ p∈l,p.1≠a)→bL l a=none
|[],_=>rfl
|p::r,h=>by
   unfold bL;rw[R3 (h p (by simp))];exact vW (fun q hq=>h q (by simp[hq]))
theorem vV{a:α}{v:Value}:∀ {l:List (α×Value)} {j:Nat},(l.map (·.1)).Nodup→l[j]?=some (a,v)→bL l a=some v
|[],j,_,h=>by simp at h
|p::r,0,_,h=>by
   simp at h;subst h;unfold bL;rw[R4 rfl]
|p::r,j+1,hn,h=>by
   rw[SV,List.nodup_cons] at hn;have hm:(a,v)∈r:=Sd (by simpa using h);unfold bL;rw[R3 (fun e:p.1=a=>hn.1 (e ▸ SN.2 ⟨_,hm,rfl⟩))];exact vV hn.2 (by simpa using h)
def bV(l:List (α×Value))(a:α)(v:Value):List (α×Value):=match l with
|[]=>[(a,v)]
|p::r=>if p.1=a then (a,v)::r else p::bV r a v
theorem fA{a:α}(v:Value):∀ {l:List (α×Value)},bL l a=none→bV l a v=l++[(a,v)]
|[],_=>rfl
|p::r,h=>by
   unfold bL at h
   split at h
   ·cases h
   ·rename_i hne;unfold bV;rw[R3 hne,fA v h];rfl
theorem iQ{a:α}{v0:Value}(v:Value):∀ {l:List (α×Value)} {j:Nat},(l.map (·.1)).Nodup→l[j]?=some (a,v0)→bV l a v=l.set j (a,v)
|[],j,_,h=>by simp at h
|p::r,0,_,h=>by
   simp at h;subst h;unfold bV;rw[R4 rfl];rfl
|p::r,j+1,hn,h=>by
   rw[SV,List.nodup_cons] at hn;have hm:(a,v0)∈r:=Sd (by simpa using h);have hne:p.1≠a:=fun e=>hn.1 (e ▸ SN.2 ⟨_,hm,rfl⟩);unfold bV;rw[R3 hne,iQ v hn.2 (j:=j) (by simpa using h)];rfl
theorem gM(l:List (α×Value))(a:α)(v:Value)(x:α):bL (bV l a v) x=if x=a then some v else bL l x:=by
 induction l with
|nil=>simp[bV,bL,eq_comm]
|cons p r ih=>
   unfold bV;by_cases hp:p.1=a
   · rw[R4 hp]
     simp only[bL];by_cases hx:a=x
     ·rw[R4 hx,R4 hx.symm]
     ·rw[R3 hx,R3 (fun e=>hx e.symm),R3 (by rw[hp];exact hx)]
   · rw[R3 hp]
     simp only[bL];by_cases hx:p.1=x
     ·rw[R4 hx,R4 hx,R3 (fun e=>hp (by rw[hx,e]))]
     ·rw[R3 hx,R3 hx];exact ih
theorem jI{l:List (α×Value)}(h:(l.map (·.1)).Nodup)(a:α)(v:Value):((bV l a v).map (·.1)).Nodup:=by
 have key:∀ l:List (α×Value),(bV l a v).map (·.1)=if a∈l.map (·.1) then l.map (·.1) else l.map (·.1)++[a]:=by
  intro l
  induction l with
 |nil=>simp[bV]
 |cons p r ih=>
    unfold bV;by_cases hp:p.1=a
    ·rw[R4 hp];simp[hp]
    · rw[R3 hp]
      simp only[SV,ih];by_cases hm:a∈r.map (·.1)
      ·rw[R4 hm,R4 (List.mem_cons_of_mem _ hm)]
      ·rw[R3 hm,R3 (fun e=>by rcases St.1 e with e|e;exact hp e.symm;exact hm e)];rfl
 rw[key]
 split
 ·exact h
 · rename_i hm
   exact List.nodup_append.2 ⟨h,by simp,by simp only[SE];rintro x hx y rfl rfl;exact hm hx⟩
theorem kR{w:World}{g:Nat}{o o':Obj}(hg:w.heap[g]?=some o):(ChangeMaps.setBlock w g o').heap[g]?=some o'∧(ChangeMaps.setBlock w g o').heap.size=w.heap.size∧aA (· = g) w (ChangeMaps.setBlock w g o'):=by
 have hlt:=(Sb.1 hg).1;refine⟨by simp[ChangeMaps.setBlock,hlt],by simp[ChangeMaps.setBlock],rfl,rfl,rfl,by simp[ChangeMaps.setBlock],fun k hk hn=>?_⟩;show (w.heap.setIfInBounds g o')[k]?=_;rw[Array.getElem?_setIfInBounds_ne (fun e=>hn e.symm)]
end
section
variable {P:Program}{N:Nt}{Q:Exit→Act→World→Prop}{l:SF}{w:World}{ops:Array Oper}{rest:List Oper}
variable {ty:TypeId}{pos:String}{aft:Array Edge}{d:Nat}{CH:Array Obj→Prop}
variable {x y u:Operand}{t k e:TypeId}{z:Value}{gd:Option (Nat×Bool)}{dd:Option Nat}
variable {α:Type}{enc:α→Value}{g:Nat}{m:List (α×Value)}{a:α}
theorem gI(K:iO P k enc)(w:World)(em:Bool)(a:α):(Instr.checkKey em 10000 k (enc a)).run P w=.ok () w:=by
 obtain⟨la,hla⟩:=K.reads a;exact K.keyed.check w em hla
theorem vT(K:iO P k enc)(w:World)(a:α):(Instr.keyThatStays (enc a) (enc a)).run P w=.ok (enc a) w:=by
 obtain⟨la,hla⟩:=K.reads a;exact K.keyed.stays w hla
theorem O2{t:TypeId}(hd:SH d N.n=true)(h:∀ w',cC enc w'.heap w.heap.size []→w'.heap.size=w.heap.size+1→aA nob w w'→Sl P N ops Q rest ((d,.map (some w.heap.size))::l) w') :
 Sl P N ops Q (⟨some d,.makeMap t none,ty,pos,aft,none⟩::rest) l w:=by
 refine OY (w':=w.alloc (.map #[] 0)) (fun a ha=>?_) hd (h _ ⟨heap_alloc_new w _,by simp⟩ (by simp) (aA.alloc _ _ _));simp[execOp,Instr.makeMap,newObj];rfl
theorem EA{m:List (α×Value)}{j:Nat}(hj:j<m.length):(aV enc m).findIdx? (fun e=>(e.born:Int) == (j:Int))=some j:=by
 rw[List.findIdx?_eq_some_iff_getElem];refine⟨by simpa[aV] using hj,by simp[aV],fun i hi=>?_⟩;simp[aV];omega
theorem cC.obj{H:Array Obj}(h:cC enc H g m):g<H.size:=(Sb.1 h.1).1
theorem cC.RZ{S:Nat→Prop}{w w':World}(h:cC enc w.heap g m)(f:aA S w w')(hs:¬ S g):cC enc w'.heap g m:=⟨f.obj h.1 hs,h.2⟩
variable [DecidableEq α]
theorem sB{T:TypeId}(hz:(P.info? T).map (·.zero)=some (some z))(w:World):(zeroValue T).run P w=.ok z w:=by
 obtain⟨i,hi,h1⟩:=Sn.1 hz;simp[zeroValue,typeInfo,hi,h1]
theorem nE(K:iO P k enc)(w:World)(m:List (α×Value))(hn:(m.map (·.1)).Nodup)(a:α) :
 ((Instr.findKey k (enc a) (aV enc m)).run P w=.ok none w∧bL m a=none)∨∃ j v,(Instr.findKey k (enc a) (aV enc m)).run P w=.ok (some (j,v)) w∧m[j]?=some (a,v)∧bL m a=some v:=by
 obtain⟨la,hla⟩:=K.reads a;rcases K.keyed.find w hla (aV enc m) (fun e he=>by obtain⟨p,_,h,_⟩:=A2 he;rw[h];exact K.reads _) with⟨h1,h2⟩|⟨j,e,h1,h2,h3⟩
 · refine .inl ⟨h1,vW fun p hp hpa=>?_⟩
   obtain⟨e,he,hk,_⟩:=I7 (enc:=enc) hp;exact h2 e he (by rw[hk,hpa])
 · obtain⟨p,hp,rfl⟩:=DA h2
   have hpa:p.1=a:=K.inj _ _ h3;subst hpa;exact .inr ⟨j,p.2,h1,hp,vV hn hp⟩
theorem Pu(ht:pH P t k e z)(K:iO P k enc)(hx:evL l x=some (.map (some g)))(hy:evL l y=some (enc a))(hm:∀ H,CH H→cC enc H g m) :
 Cm P N CH l ⟨dd,.lookup t x y false,ty,pos,aft,gd⟩ ((bL m a).getD z):=fun b w hb hw=>by
 obtain⟨h1,hn⟩:=hm _ hw;have hg:=MapKept.run_getObj_map (P:=P) h1;simp only[execOp,hb.ev hx,hb.ev hy,Instr.lookup,Sem.run_bind,run_underlying ht.und,hg,Result.andThen_ok,Sem.run_pure,gI K];rcases nE K w m hn a with⟨h2,h3⟩|⟨j,v,h2,h3,h4⟩
 ·simp[h2,h3,sB ht.zero]
 ·simp[h2,h4]
theorem O6(ht:pH P t k e z)(K:iO P k enc)(hx:evL l x=some (.map (some g)))(hy:evL l y=some (enc a))(hm:∀ H,CH H→cC enc H g m) :
 Cm P N CH l ⟨dd,.lookup t x y true,ty,pos,aft,gd⟩ (.tuple [(bL m a).getD z,.bool (decide ((bL m a).isSome=true))].toArray):=fun b w hb hw=>by
 obtain⟨h1,hn⟩:=hm _ hw;have hg:=MapKept.run_getObj_map (P:=P) h1;simp only[execOp,hb.ev hx,hb.ev hy,Instr.lookup,Sem.run_bind,run_underlying ht.und,hg,Result.andThen_ok,Sem.run_pure,gI K];rcases nE K w m hn a with⟨h2,h3⟩|⟨j,v,h2,h3,h4⟩
 ·simp[h2,h3,sB ht.zero]
 ·simp[h2,h4]
theorem PO(ht:pH P t k e z)(hx:evL l x=some (.map (some g)))(hm:∀ H,CH H→cC enc H g m):Cm P N CH l ⟨dd,.call ⟨.builtin .len,#[x],#[t]⟩,ty,pos,aft,gd⟩ (iV m.length):=fun b w hb hw=>by
 obtain⟨h1,hn⟩:=hm _ hw;have hg:=MapKept.run_getObj_map (P:=P) h1;simp[execOp,hb.ev hx,resolve,invoke,builtin,Builtin.len_,run_underlying ht.und,hg,goInt,G4]
theorem OS{v:Value}(ht:pH P t k e z)(K:iO P k enc)(hx:evL l x=some (.map (some g)))(hy:evL l y=some (enc a))(hu:evL l u=some v)(hm:cC enc w.heap g m)
 (h:∀ w',cC enc w'.heap g (bV m a v)→w'.heap.size=w.heap.size→aA (· = g) w w'→Sl P N ops Q rest l w') :
 Sl P N ops Q (⟨none,.mapUpdate t x y u,ty,pos,aft,none⟩::rest) l w:=by
 have hm':=hm;obtain⟨h1,hn⟩:=hm;have hg:=MapKept.run_getObj_map (P:=P) h1;rcases nE K w m hn a with⟨h2,h3⟩|⟨j,v0,h2,h3,h4⟩
 · obtain⟨s1,s2,s3⟩:=kR (o':=.map ((aV enc m).toArray.push ⟨enc a,v,m.length⟩) (m.length+1)) h1
   refine Pk (w':=ChangeMaps.setBlock w g (.map ((aV enc m).toArray.push ⟨enc a,v,m.length⟩) (m.length+1))) (fun b hb=>?_) (h _ ⟨?_,jI hn a v⟩ s2 s3)
   ·simp[execOp,hb.ev hx,hb.ev hy,hb.ev hu,Instr.mapUpdate,run_underlying ht.und,hg,gI K,h2,MapKept.run_setObj_map _ h1,Result.andThen,ChangeMaps.setBlock]
   ·rw[s1,fA v h3,wS];simp
 · have he:(aV enc m)[j]?=some ⟨enc a,v0,j⟩:=by
    simp[aV,TO,h3]
   have hmod:(aV enc m).modify j (fun e'=>{ e' with key:=enc a,val:=v })=aV enc (bV m a v):=by
    rw[iQ v hn h3,A1,ChangeMaps.modify_eq_set _ _ _ _ he]
   obtain⟨s1,s2,s3⟩:=kR (o':=.map (aV enc (bV m a v)).toArray m.length) h1;refine Pk (w':=ChangeMaps.setBlock w g (.map (aV enc (bV m a v)).toArray m.length)) (fun b hb=>?_) (h _ ⟨?_,jI hn a v⟩ s2 s3)
   ·simp[execOp,hb.ev hx,hb.ev hy,hb.ev hu,Instr.mapUpdate,run_underlying ht.und,hg,gI K,h2,he,vT K,MapKept.run_setObj_map _ h1,Result.andThen,ChangeMaps.setBlock,hmod]
   ·rw[s1];congr 2;rw[iQ v hn h3];simp
def AZ(m:List (α×Value))(a:α)(z:Value):List (α×Value):=if (bL m a).isSome then m else m++[(a,z)]
theorem P8(ht:pH P t k e z)(K:iO P k enc)(hx:evL l x=some (.map (some g)))(hy:evL l y=some (enc a))(hm:cC enc w.heap g m)(hd:SH d N.n=true)
 (h:∀ w' j,cC enc w'.heap g (AZ m a z)→(AZ m a z)[j]?=some (a,(bL m a).getD z)→w'.heap.size=w.heap.size→aA (· = g) w w'→Sl P N ops Q rest ((d,.tuple [(bL m a).getD z,iV (j:Nat)].toArray)::l) w') :
 Sl P N ops Q (⟨some d,.mapEntry t x y,ty,pos,aft,none⟩::rest) l w:=by
 obtain⟨h1,hn⟩:=hm;have hg:=MapKept.run_getObj_map (P:=P) h1;rcases nE K w m hn a with⟨h2,h3⟩|⟨j,v0,h2,h3,h4⟩
 · have e1:AZ m a z=m++[(a,z)]:=by unfold AZ;rw[h3];rfl
   have e2:(bL m a).getD z=z:=by rw[h3];rfl
   obtain⟨s1,s2,s3⟩:=kR (o':=.map ((aV enc m).toArray.push ⟨enc a,z,m.length⟩) (m.length+1)) h1;refine OY (w':=ChangeMaps.setBlock w g (.map ((aV enc m).toArray.push ⟨enc a,z,m.length⟩) (m.length+1))) (fun b hb=>?_) hd (h _ m.length ⟨?_,?_⟩ ?_ s2 s3)
   ·simp[execOp,hb.ev hx,hb.ev hy,Instr.mapEntry,run_underlying ht.und,hg,gI K,h2,MapKept.run_setObj_map _ h1,Result.andThen,ChangeMaps.setBlock,sB ht.zero,e2,goInt]
   ·rw[s1,e1,wS];simp
   ·rw[e1,←fA z h3];exact jI hn a z
   ·rw[e1,e2];simp
 · have e1:AZ m a z=m:=by unfold AZ;rw[h4];rfl
   have e2:(bL m a).getD z=v0:=by rw[h4];rfl
   have he:(aV enc m)[j]?=some ⟨enc a,v0,j⟩:=by
    simp[aV,TO,h3]
   have hmod:(aV enc m).modify j (fun e'=>{ e' with key:=enc a })=aV enc m:=by
    rw[ChangeMaps.modify_eq_set _ _ _ _ he];apply Tj;intro i;rw[TD]
    split
    · rename_i hij;subst hij
      rw[R4 (R9.1 he).1];exact he.symm
    ·rfl
   obtain⟨s1,s2,s3⟩:=kR (o':=.map (aV enc m).toArray m.length) h1;refine OY (w':=ChangeMaps.setBlock w g (.map (aV enc m).toArray m.length)) (fun b hb=>?_) hd (h _ j ⟨?_,?_⟩ ?_ s2 s3)
   ·simp[execOp,hb.ev hx,hb.ev hy,Instr.mapEntry,run_underlying ht.und,hg,gI K,h2,he,vT K,MapKept.run_setObj_map _ h1,Result.andThen,ChangeMaps.setBlock,hmod,e2,goInt]
   ·rw[s1,e1]
   ·rw[e1];exact hn
   ·rw[e1,e2];exact h3
theorem PM{v v0:Value}{j:Nat}(hx:evL l x=some (.map (some g)))(hy:evL l y=some (iV (j:Nat)))(hu:evL l u=some v)(hm:cC enc w.heap g m)(hj:m[j]?=some (a,v0))
 (h:∀ w',cC enc w'.heap g (bV m a v)→w'.heap.size=w.heap.size→aA (· = g) w w'→Sl P N ops Q rest l w') :
 Sl P N ops Q (⟨none,.entryStore t x y u,ty,pos,aft,none⟩::rest) l w:=by
 obtain⟨h1,hn⟩:=hm;have hg:=MapKept.run_getObj_map (P:=P) h1;have hlt:=(R9.1 hj).1;have he:(aV enc m)[j]?=some ⟨enc a,v0,j⟩:=by simp[aV,TO,hj]
 have hmod:(aV enc m).modify j (fun e'=>{ e' with val:=v })=aV enc (bV m a v):=by
  rw[iQ v hn hj,A1,ChangeMaps.modify_eq_set _ _ _ _ he]
 obtain⟨s1,s2,s3⟩:=kR (o':=.map (aV enc (bV m a v)).toArray m.length) h1;refine Pk (w':=ChangeMaps.setBlock w g (.map (aV enc (bV m a v)).toArray m.length)) (fun b hb=>?_) (h _ ⟨?_,jI hn a v⟩ s2 s3)
 ·simp[execOp,hb.ev hx,hb.ev hy,hb.ev hu,Instr.entryStore,hg,asInt,asIntOf,EA hlt,MapKept.run_setObj_map _ h1,Result.andThen,ChangeMaps.setBlock,hmod]
 ·rw[s1];congr 2;rw[iQ v hn hj];simp
theorem G3(m:List (α×Value))(a:α)(z v:Value):bV (AZ m a z) a v=bV m a v:=by
 unfold AZ
 split
 ·rfl
 · rename_i h
   have hn:bL m a=none:=by simpa using h
   rw[fA v hn]
   induction m with
  |nil=>simp[bV]
  |cons p r ih=>
     unfold bL at hn
     split at hn
     ·cases hn
     · rename_i hp
       simp only[Th,bV,R3 hp];rw[ih (by simpa using hn) hn]
end
def cs3(a:UInt8×UInt8×UInt8):List Value:=[b8 a.1,b8 a.2.1,b8 a.2.2]
def Ba(a:UInt8×UInt8×UInt8):Value:=.agg (cs3 a).toArray
def nV(n:Nat):Value:=iV n
theorem Ki:∀ x,(nV x).oneCell'=true:=fun _=>rfl
theorem Bn:WideMaps.ArrKey Tryz.prog 270 5 3:=⟨by kernel_rfl,by kernel_rfl,by kernel_rfl,by kernel_rfl⟩
theorem K5(x:UInt8):(Lit.int .u8 x.toNat).wf=true:=by
 have:=x.toNat_lt;have h1:IntKind.u8.min=0:=rfl;have h2:IntKind.u8.max=255:=rfl;simp only[Lit.wf,h1,h2,SA,decide_eq_true_eq];omega
theorem Lj:iO Tryz.prog 270 Ba:=by
 refine⟨Maps.Keyed.of_law Bn.law,fun a=>?_,fun a b h=>?_⟩
 · refine⟨.string (keyBytes [.int .u8 a.1.toNat,.int .u8 a.2.1.toNat,.int .u8 a.2.2.toNat]),?_⟩
   have hsz:∃ m,Tryz.prog.types.size=m+1:=⟨Tryz.prog.types.size-1,by kernel_rfl⟩
   have hkt:=Bn.keyType hsz;obtain⟨m,hm⟩:=hsz;unfold keyOf;simp only[Bn.hu];rw[R4 (by simp[hkt,Value.formed,Bn.hu,Bn.size,Ba,cs3]),hm];unfold Program.keyLits;simp only[Bn.hu,Value.cells,Ba];rw[R4 (by rw[Bn.size];rfl),show Tw 3=[0,1,2] from rfl,Up,Up,Up,List.mapM_nil];simp[Bn.one,Program.keyLits,K5,cs3,b8]
 · simp only[Ba,cs3,Value.agg.injEq] at h
   have h2:=congrArg Array.toList h;simp only[b8,T1.injEq,Value.int.injEq,true_and,and_true] at h2;obtain⟨e1,e2,e3⟩:=h2;have f:∀ x y:UInt8,(x.toNat:Int)=y.toNat→x=y:=fun x y e=>TK.1 (by omega);exact Uh (f _ _ e1) (Uh (f _ _ e2) (f _ _ e3))
theorem mp3:pH Tryz.prog 236 270 31 sN:=⟨by kernel_rfl,z31⟩
structure ChC (D:Nat→Prop)(H:Array Obj)(g:Nat)(b:By)(lo hi:Nat)(m:List ((UInt8×UInt8×UInt8)×Value))(A:UInt8×UInt8×UInt8→Option Addr)(C:UInt8×UInt8×UInt8→Nat):Prop where
 map:cC Ba H g m
 mine:D g
 val:∀ a,(bL m a).getD sN=.slice (A a) (gB b lo hi a).length (C a)
 own:∀ a,Own nV 3 H (A a) (C a) (gB b lo hi a)
 dom:∀ a k,blk (A a) k→D k∧k≠g
 apart:∀ a a',a≠a'→∀ k,blk (A a) k→¬ blk (A a') k
def ChM(D:Nat→Prop)(H:Array Obj)(g:Nat)(b:By)(lo hi:Nat):Prop:=∃ m A C,ChC D H g b lo hi m A C
theorem ChM.RZ{D S:Nat→Prop}{w w':World}{g:Nat}{b:By}{lo hi:Nat}(h:ChM D w.heap g b lo hi)(f:aA S w w')(hs:∀ k,D k→¬ S k):ChM D w'.heap g b lo hi:=by
 obtain⟨m,A,C,h1,h2,h3,h4,h5,h6⟩:=h;exact⟨m,A,C,h1.RZ f (hs _ h2),h2,h3,fun a=>(h4 a).RZ f (fun x hx=>hs _ (h5 a _ ⟨x,hx,rfl⟩).1),h5,h6⟩
theorem ChM.new{D:Nat→Prop}{H:Array Obj}{g:Nat}(h:cC Ba H g [])(hD:D g)(b:By)(lo:Nat):ChM D H g b lo lo:=by
 have e:∀ a,gB b lo lo a=[]:=fun a=>by unfold gB;simp
 exact⟨[],fun _=>none,fun _=>0,h,hD,fun a=>by rw[e];rfl,fun a=>by rw[e];exact Rr,fun a k ⟨x,hx,_⟩=>(by cases hx),fun a a' _ k ⟨x,hx,_⟩=>(by cases hx)⟩
theorem ChM.end{D:Nat→Prop}{H:Array Obj}{g:Nat}{b:By}{lo i j:Nat}(h:ChM D H g b lo i)(hlo:lo≤i)(hl:b.length<i+3)(hij:i≤j):ChM D H g b lo j:=by
 obtain⟨m,A,C,h1,h2,h3,h4,h5,h6⟩:=h;exact⟨m,A,C,h1,h2,fun a=>by rw[An a hlo hl hij];exact h3 a,fun a=>by rw[An a hlo hl hij];exact h4 a,h5,h6⟩
theorem ChC.note{D:Nat→Prop}{H H':Array Obj}{g:Nat}{b:By}{lo i:Nat}{m:List ((UInt8×UInt8×UInt8)×Value)}{A:UInt8×UInt8×UInt8→Option Addr}{C:UInt8×UInt8×UInt8→Nat}
 (h:ChC D H g b lo i m A C)(hlo:lo≤i)(hi:i+3≤b.length){ao:Option Addr}{c:Nat}(hm:cC Ba H' g (bV m (st3 b i) (.slice ao (gB b lo i (st3 b i)++[i]).length c)))(ho:Own nV 3 H' ao c (gB b lo i (st3 b i)++[i]))
 (hd:∀ k,blk ao k→D k∧k≠g∧∀ a,a≠st3 b i→¬ blk (A a) k)(hk:∀ a,a≠st3 b i→Own nV 3 H' (A a) (C a) (gB b lo i a)):ChM D H' g b lo (i+1):=by
 obtain⟨h1,h2,h3,h4,h5,h6⟩:=h;refine⟨_,fun a=>if a=st3 b i then ao else A a,fun a=>if a=st3 b i then c else C a,hm,h2,fun a=>?_,fun a=>?_,fun a k hb=>?_,fun a a' hne k hb hb'=>?_⟩
 · rw[gM,vN a hlo hi]
   by_cases e:a=st3 b i
   ·rw[R4 e,R4 e,R4 e,R4 e,e];rfl
   ·rw[R3 e,R3 e,R3 e,R3 e];exact h3 a
 · rw[vN a hlo hi]
   by_cases e:a=st3 b i
   ·rw[R4 e,R4 e,R4 e,e];exact ho
   ·rw[R3 e,R3 e,R3 e];exact hk a e
 · by_cases e:a=st3 b i
   ·rw[R4 e] at hb;exact⟨(hd k hb).1,(hd k hb).2.1⟩
   ·rw[R3 e] at hb;exact h5 a k hb
 · by_cases e:a=st3 b i
   · rw[R4 e] at hb
     rw[R3 (fun e'=>hne (by rw[e,e']))] at hb';exact(hd k hb).2.2 a' (fun e'=>hne (by rw[e,e'])) hb'
   · rw[R3 e] at hb
     by_cases e':a'=st3 b i
     ·rw[R4 e'] at hb';exact(hd k hb').2.2 a e hb
     ·rw[R3 e'] at hb';exact h6 a a' hne k hb hb'
theorem Hp{H:Array Obj}{ao:Option Addr}{cap:Nat}{b:By}(hv:Vw b8 H ao cap b){i:Nat}(hi:i+3≤b.length):∀ j v,(cs3 (st3 b i))[j]?=some v→aS H ((adr ao i).add j)=some v:=by
 intro j v hj;have e:∀ q,q<3→aS H ((adr ao i).add q)=some (b8 (b.getD (i+q) 0)):=fun q hq=>by
  have:=hv.gd 0 (i:=i+q) (by omega);unfold adr at this ⊢;rwa[zG]
 match j with
|0=>simp[cs3,st3] at hj;rw[←hj];exact e 0 (by decide)
|1=>simp[cs3,st3] at hj;rw[←hj];exact e 1 (by decide)
|2=>simp[cs3,st3] at hj;rw[←hj];exact e 2 (by decide)
|j+3=>simp[cs3] at hj
theorem Dd(D:Nat→Prop)(g:Nat)(ao:Option Addr)(cap:Nat)(b:By)(lo i hi:Nat)(W:World)(hv:Vw b8 W.heap ao cap b)(hap:∀ k,blk ao k→¬ D k)(hc:ChM D W.heap g b lo i)(hD:∀ k,W.heap.size≤k→D k)(hlo:lo≤i)(hih:i≤hi)(hhi:hi≤b.length)(hb:b.length≤1073741824) :
 CA 186 [.map (some g),.slice ao b.length cap,iV i,iV hi] W fun v w'=>ChM D w'.heap g b lo hi∧aA D W w':=by
 refine cS 36 [(0,_),(1,_),(2,_),(3,_)] Tryz.func186 ?_;refine Gz 7 ?_;refine Oy (β:=Nat) (fun j=>[(0,.map (some g)),(1,.slice ao b.length cap),(3,iV hi),(8,iV j)]) (fun j w=>i≤j∧j≤hi∧ChM D w.heap g b lo j∧aA D W w) (fun j=>hi-j) i ⟨rfl,rfl,rfl,rfl,trivial⟩ ⟨Sa _,hih,hc,Rk _ _⟩ ?_;rintro j w1 ⟨hij,hjh,hc1,hF1⟩;have hv1:=hv.RZ hF1 (fun a ha h=>hap _ ⟨a,ha,rfl⟩ h);have hz1:=hF1.size;refine fK 5 ?_ ?_<;>intro h13
 ·refine fW 5 ?_ ?_<;>intro h19
  ·refine Gz 12 ?_;refine cL (O7 aP rfl rfl (by omega)) ?_;refine cL (PN Tryz.underlying270 rfl (hv1.non (by omega)) (by omega) (by have:=hv1.le;omega)) ?_;refine cL (OG (cs:=cs3 (st3 b j)) zD rfl (Hp hv1 (by omega))) ?_;refine Ov KV rfl ?_;intro w2 hg2 hs2 hf2;refine sA rfl zD (by simp[cs3,b8,Value.oneCell']) hg2 ?_;intro w3 hg3 hs3 hf3;have hf13:aA nob w1 w3:=hf2.tw hf3;have hz13:=hf13.size;refine Gz 4 ?_;refine cL (OG (cs:=cs3 (st3 b j)) zD rfl (fun j v hj=>aD hg3 hj)) ?_;refine Gz 1 ?_;refine Pd (enc:=nV) (u:=j) bP rfl rfl rfl ?_;intro w4 ho4 hs4 hf4;have hf14:=hf13.trans hf4;obtain⟨m,A,C,hC⟩:=hc1;have hmap4:=hC.map.RZ hf14 id;have hgl:=hC.map.obj;have hz4:=hf14.size;refine P8 mp3 Lj rfl rfl hmap4 rfl ?_;intro w5 j5 hm5 hj5 hs5 hf5;rw[hC.val];refine Gz 1 ?_;refine OJ Ki bP rfl rfl (((hC.own (st3 b j)).RY hf14).RZ hf5 (fun a ha h=>(hC.dom _ _ ⟨a,ha,rfl⟩).2 h)) ((ho4.RZ hf5 (fun a ha h=>by cases ha;have h:w3.heap.size=g:=h;omega)).vw) (by have:=sG b lo j (st3 b j);simp only[Sw];omega) (by have:=sG b lo j (st3 b j);simp only[Sw];unfold maxLen;omega) rfl ?_;intro a6 c6 w6 ho6 hf6 hr6 hn6;have hm6:=hm5.RZ hf6 (fun h=>(hC.dom _ _ h).2 rfl);refine Gz 1 ?_;refine PM rfl rfl rfl hm6 hj5 ?_;intro w7 hm7 hs7 hf7;rw[G3] at hm7;refine Gz 8 ?_;have hz5:=hf5.size;have hz6:=hf6.size;have hlt:∀ a k,blk (A a) k→k<w1.heap.size:=fun a k ⟨x,hx,hk⟩=>hk ▸ (hC.own a).lt x hx;have hblk:∀ k,blk a6 k→blk (A (st3 b j)) k∨w4.heap.size≤k:=fun k ⟨x,hx,hk⟩=>by rcases hr6 x hx with h|h;exact .inl ⟨x,h,hk⟩;exact .inr (by omega)
   have hfx:∀ a,a≠st3 b j→Own nV 3 w7.heap (A a) (C a) (gB b lo j a):=fun a hne=>((((hC.own a).RY hf14).RZ hf5 (fun x hx h=>(hC.dom a _ ⟨x,hx,rfl⟩).2 h)).RZ hf6 (fun x hx h=>hC.apart a _ hne _ ⟨x,hx,rfl⟩ h)).RZ hf7 (fun x hx h=>(hC.dom a _ ⟨x,hx,rfl⟩).2 h);have hnew:ChM D w7.heap g b lo (j+1):=hC.note (by omega) (by omega) hm7 (ho6.RZ hf7 (fun x hx h=>by rcases hblk _ ⟨x,hx,rfl⟩ with h2|h2;exact(hC.dom _ _ h2).2 h;have h:x.block=g:=h;omega)) (fun k hk=>by rcases hblk k hk with h2|h2;exact⟨(hC.dom _ _ h2).1,(hC.dom _ _ h2).2,fun a hne h3=>hC.apart a _ hne k h3 h2⟩;exact⟨hD k (by omega),by omega,fun a hne h3=>by have:=hlt a k h3;omega⟩) hfx;have hF7:aA D W w7:=(((hF1.trans hf14.any).trans (hf5.mono (fun k h=>by subst h;exact hC.mine))).trans (hf6.mono (fun k h=>(hC.dom _ _ h).1))).trans (hf7.mono (fun k h=>by subst h;exact hC.mine));exact aG (j+1) ⟨by omega,by omega,hnew,hF7⟩ (by show hi-(j+1)<hi-j;omega)
  refine Gz 8 ?_;refine OQ rfl ?_
  first
  |(have e:j=hi:=by omega
    subst e;exact⟨_,rfl,hc1,hF1⟩)
  |exact⟨_,rfl,hc1.end (by omega) (by omega) hjh,hF1⟩
 refine Gz 14 ?_;refine OQ rfl ?_
 first
 |(have e:j=hi:=by omega
   subst e;exact⟨_,rfl,hc1,hF1⟩)
 |exact⟨_,rfl,hc1.end (by omega) (by omega) hjh,hF1⟩
def tG(b:By)(a:Nat)(L:List Nat):Nat×Nat:=L.reverse.foldl (stp b a) (0,0)
theorem B9(b:By)(a i:Nat)(L:List Nat):tG b a (i::L)=stp b a (tG b a L) i:=by
 unfold tG;rw[List.reverse_cons,Tb];rfl
theorem G9{L:List Nat}{j:Nat}(h:j<L.length):L.drop j=L.getD j 0::L.drop (j+1):=by
 rw[List.drop_eq_getElem_cons h,Sj,R7 h];rfl
theorem oZ(W:World)(n k:Nat):(W.drewN n).drewN k=W.drewN (n+k):=by simp[World.drewN,Uw]
theorem nVw{H:Array Obj}{ao:Option Addr}{c:Nat}{L:List Nat}(h:Own nV 3 H ao c L):Vw nV H ao c L:=h.vw
theorem Gf(D:Nat→Prop)(g:Nat)(ao:Option Addr)(cap:Nat)(b:By)(lo a:Nat)(W:World)(hv:Vw b8 W.heap ao cap b)(hc:ChM D W.heap g b lo a)(hlo:lo≤a-256)(ha:a≤b.length)(hb:b.length≤1073741824) :
 CA 185 [.map (some g),.slice ao b.length cap,iV a] W fun v w'=>v=.tuple [iV (mt b a).1,iV (mt b a).2].toArray∧∃ n,w'=W.drewN n:=by
 obtain⟨m,A,C,hC⟩:=hc;refine cS 60 [(0,_),(1,_),(2,_)] Tryz.func185 ?_;refine fK 10 ?_ ?_<;>intro h12
 ·exact absurd h12 (by omega)
 refine fW 5 ?_ ?_<;>intro h18
 ·have e:mt b a=(0,0):=Gc (by omega);refine Gz 13 ?_
  first
  |(rw[e];exact⟨_,rfl,rfl,0,rfl⟩)
  |(have hj1:j=0:=by omega
    subst hj1;rw[drop_zero] at hall ⊢;have e2:L.filter (fun i=>decide (a-i≤256))=L:=TE.2 (fun i hi=>by simpa using hall i hi);rw[e2] at hmp;rw[hmp];exact⟨_,rfl,rfl,n,rfl⟩)
  |(have e2:=lT hLs hj.1 (a:=a) (by rw[←hp];omega) (by rw[show j-1+1=j by omega];exact hall)
    rw[show j-1+1=j by omega] at e2;rw[e2] at hmp;rw[hmp,hs];exact⟨_,rfl,rfl,n,rfl⟩)
 have hmp:=Kk (b:=b) (lo:=lo) (a:=a) (by omega) hlo;obtain⟨L,hL⟩:∃ L,L=gB b lo a (st3 b a):=⟨_,rfl⟩
 have hLs:L.Pairwise (· < ·):=by rw[hL];exact Am b lo a _
 have hLm:∀ i∈L,i<a:=fun i hi=>by rw[hL] at hi;exact(FO.1 hi).2.1
 have hLl:L.length≤a-lo:=by rw[hL];exact sG b lo a _
 have hLo:=nVw (hC.own (st3 b a));have hLv:=hC.val (st3 b a);rw[←hL] at hmp hLo hLv;obtain⟨la,hla⟩:∃ x,x=A (st3 b a):=⟨_,rfl⟩
 obtain⟨lc,hlc⟩:∃ x,x=C (st3 b a):=⟨_,rfl⟩
 rw[←hla,←hlc] at hLo hLv;refine Gz 11 ?_;refine cL (O7 aP rfl rfl (by omega)) ?_;refine cL (PN Tryz.underlying270 rfl (hv.non (by omega)) (by omega) (by have:=hv.le;omega)) ?_;refine cL (OG (cs:=cs3 (st3 b a)) zD rfl (Hp hv (by omega))) ?_;refine cL (Ox (u:=.slice la L.length lc) (Pu mp3 Lj rfl rfl (fun _ e=>by rw[e];exact hC.map)) hLv) ?_;refine Gz 13 ?_;refine Oy (β:=Nat) (fun j=>[(1,.slice ao b.length cap),(2,iV a),(6,iV (tG b a (L.drop j)).1),(7,iV (tG b a (L.drop j)).2),(8,.slice la L.length lc),(9,iV ((j:Int)-1))]) (fun j w=>j≤L.length∧(∀ i∈L.drop j,a-i≤256)∧∃ n,w=W.drewN n) (fun j=>j) L.length ⟨rfl,rfl,(by rw[drop_length];rfl),(by rw[drop_length];rfl),rfl,rfl,trivial⟩ ⟨Sa _,by rw[drop_length];simp,0,rfl⟩ ?_;rintro j _ ⟨hj0,hall,n,rfl⟩;refine fK 4 ?_ ?_<;>intro h31
 ·have hj:j-1<L.length∧0<j:=by omega
  have hget:L.getD (j-1) 0<a:=hLm _ (by rw[Sj,R7 hj.1];exact Tv hj.1);have hdr:=G9 hj.1;rw[show j-1+1=j by omega] at hdr;obtain⟨p,hp⟩:∃ p,p=L.getD (j-1) 0:=⟨_,rfl⟩
  rw[←hp] at hget hdr;obtain⟨s,hs⟩:∃ s,s=tG b a (L.drop j):=⟨_,rfl⟩
  have hs2:tG b a (L.drop (j-1))=stp b a s p:=by rw[hdr,B9,hs]
  rw[←hs];refine Gz 13 ?_;refine cL (Ou bP rfl rfl hLo.non (by omega)) ?_;refine cL (Ox (u:=iV (p:Nat)) (Ow aL rfl (hLo.gz 0 (j-1) (by omega) (by omega))) (by rw[←hp];rfl)) ?_;refine fK 1 ?_ ?_<;>intro h40
  ·refine Gz 5 ?_;refine PL rfl ?_;refine Gz 14 ?_
   first
   |(rw[e];exact⟨_,rfl,rfl,0,rfl⟩)
   |(have hj1:j=0:=by omega
     subst hj1;rw[drop_zero] at hall ⊢;have e2:L.filter (fun i=>decide (a-i≤256))=L:=TE.2 (fun i hi=>by simpa using hall i hi);rw[e2] at hmp;rw[hmp];exact⟨_,rfl,rfl,n,rfl⟩)
   |(have e2:=lT hLs hj.1 (a:=a) (by rw[←hp];omega) (by rw[show j-1+1=j by omega];exact hall)
     rw[show j-1+1=j by omega] at e2;rw[e2] at hmp;rw[hmp,hs];exact⟨_,rfl,rfl,n,rfl⟩)
  refine Gz 11 ?_;refine cL (Ou bP rfl rfl hLo.non (by omega)) ?_;refine cL (Ox (u:=iV (p:Nat)) (Ow aL rfl (hLo.gz 0 (j-1) (by omega) (by omega))) (by rw[←hp];rfl)) ?_;refine Ot LA rfl (IF ao cap b a p _ hv ha hget hb) rfl ?_;rintro _ _ ⟨rfl,n2,rfl⟩;refine fK 7 ?_ ?_<;>intro h50
  ·have hst:stp b a s p=(lik b a p,a-p):=by unfold stp;rw[R4 (by omega)]
   refine Gz 3 ?_;refine Pe 9 [0,1,2,3,4,5,6,7,8] aM (by kernel_rfl) ?_;refine Gz 4 ?_;refine xC rfl (Ou bP rfl rfl hLo.non (by omega)) ?_;refine xC rfl (Ox (u:=iV (p:Nat)) (Ow aL rfl (hLo.gz 0 (j-1) (by omega) (by omega))) (by rw[←hp];rfl)) ?_;refine Gz 11 ?_;refine ON (j-1) ⟨rfl,rfl,?_,?_,rfl,?_,trivial⟩ ⟨by omega,?_,n+n2+1,by rw[oZ,oZ,Uw]⟩ (by show j-1<j;omega)
   ·show some (Value.int .i64 _)=some (Value.int .i64 _);rw[hs2,hst]
   ·show some (Value.int .i64 _)=some (Value.int .i64 _);rw[hs2,hst];congr 2;omega
   ·show some (Value.int .i64 _)=some (Value.int .i64 _);congr 2;omega
   ·rw[hdr];intro i hi;rcases St.1 hi with h|h;rw[h];omega;exact hall i h
  have hst:stp b a s p=s:=by unfold stp;rw[R3 (by omega)]
  refine Gz 11 ?_;refine ON (j-1) ⟨rfl,rfl,?_,?_,rfl,?_,trivial⟩ ⟨by omega,?_,n+n2,oZ _ _ _⟩ (by show j-1<j;omega)
  ·show some (Value.int .i64 _)=some (Value.int .i64 _);rw[hs2,hst]
  ·show some (Value.int .i64 _)=some (Value.int .i64 _);rw[hs2,hst]
  ·show some (Value.int .i64 _)=some (Value.int .i64 _);congr 2;omega
  ·rw[hdr];intro i hi;rcases St.1 hi with h|h;rw[h];omega;exact hall i h
 refine Gz 18 ?_
 first
 |(rw[e];exact⟨_,rfl,rfl,0,rfl⟩)
 |(have hj1:j=0:=by omega
   subst hj1;rw[drop_zero] at hall ⊢;have e2:L.filter (fun i=>decide (a-i≤256))=L:=TE.2 (fun i hi=>by simpa using hall i hi);rw[e2] at hmp;rw[hmp];exact⟨_,rfl,rfl,n,rfl⟩)
 |(have e2:=lT hLs hj.1 (a:=a) (by rw[←hp];omega) (by rw[show j-1+1=j by omega];exact hall)
   rw[show j-1+1=j by omega] at e2;rw[e2] at hmp;rw[hmp,hs];exact⟨_,rfl,rfl,n,rfl⟩)
theorem ChM.mono{D D':Nat→Prop}{H:Array Obj}{g:Nat}{b:By}{lo hi:Nat}(h:ChM D H g b lo hi)(hd:∀ k,D k→D' k):ChM D' H g b lo hi:=by
 obtain⟨m,A,C,h1,h2,h3,h4,h5,h6⟩:=h;exact⟨m,A,C,h1,hd _ h2,h3,h4,fun a k hk=>⟨hd _ (h5 a k hk).1,(h5 a k hk).2⟩,h6⟩
theorem ChM.low{D:Nat→Prop}{H:Array Obj}{g:Nat}{b:By}{lo hi:Nat}(h:ChM D H g b lo hi):ChM (fun k=>D k∧k<H.size) H g b lo hi:=by
 obtain⟨m,A,C,h1,h2,h3,h4,h5,h6⟩:=h;exact⟨m,A,C,h1,⟨h2,h1.obj⟩,h3,h4,fun a k hk=>⟨⟨(h5 a k hk).1,by obtain⟨x,hx,e⟩:=hk;rw[←e];exact(h4 a).lt x hx⟩,(h5 a k hk).2⟩,h6⟩
def pkR(b:By):By×Int:=if 4096<b.length then ([],3) else (pkS b,0)
theorem Ii{b:By}(h:b.length≤4096):pkR b=(pkS b,0):=by unfold pkR;rw[R3 (by omega)]
theorem Ea{b:By}{a f:Nat}(hf:f≤a)(h:a<b.length):(b.take a).drop f++[b.getD a 0]=(b.take (a+1)).drop f:=by
 rw[Sv h,List.drop_append_of_le_length (by rw[Sh];omega),Sj,R7 h];rfl
theorem FV{b:By}{a f:Nat}(h:a≤b.length):((b.take a).drop f).length=a-f:=by rw[Sm,Sh];omega
theorem C6{H:Array Obj}{ao:Option Addr}{cap:Nat}{b:By}(hv:Vw b8 H ao cap b){a f:Nat}(hf:f≤a)(ha:a≤b.length):Vw b8 H (aU ao cap f 1) (cap-f) ((b.take a).drop f):=by
 have h:=hv.cut (l:=f) (h:=a) (m:=cap) hf ha (by have:=hv.le;omega) (Sa _);rwa[List.drop_take]
theorem Aq{x:Int}{n:Nat}(h:x=n):IntKind.u8.wrap x=((Ss n).toNat:Int):=by rw[rN (by omega),h];rfl
theorem Ij(ao:Option Addr)(cap:Nat)(b:By)(W:World)(hv:Vw b8 W.heap ao cap b) :
 CA 131 [.slice ao b.length cap] W (Cy W (pkR b)):=by
 have hle:=hv.le;refine cS 65 [(0,_)] Tryz.func131 ?_;refine fK 11 ?_ ?_<;>intro h12
 ·have e:pkR b=([],3):=by unfold pkR;rw[R4 (by omega)]
  refine Gz 12 ?_
  first
  |(rw[e];exact⟨_,rfl,none,0,rfl,Rr,Rp,Rk _ _⟩)
  |(rw[e,←hpk];exact⟨_,rfl,o3,c3,rfl,ho3,kZ hfr1 hr3 hz1,hF1.RV hf3 hfr1.step⟩)
 have e:pkR b=(pkS b,0):=by unfold pkR;rw[R3 (by omega)]
 refine Gz 7 ?_;refine O2 (enc:=Ba) rfl ?_;intro w0 hm0 hs0 hf0;refine Gz 20 ?_;refine Oy (β:=Nat×Nat×By×Option Addr×Nat) (fun⟨a,f,out,o1,c1⟩=>[(0,.slice ao b.length cap),(4,.map (some W.heap.size)),(5,.slice o1 out.length c1),(6,iV f),(7,iV a)]) (fun⟨a,f,out,o1,c1⟩ w=>f≤a∧a≤b.length∧pk b a ((b.take a).drop f) out=pkS b∧ChM (fun k=>W.heap.size≤k∧¬ blk o1 k) w.heap W.heap.size b 0 a∧Own b8 5 w.heap o1 c1 out∧Fr W.heap.size o1∧out.length≤3*f∧aA nob W w) (fun⟨a,f,out,o1,c1⟩=>b.length-a) ⟨0,0,[],none,0⟩ ⟨rfl,rfl,rfl,rfl,rfl,trivial⟩ ⟨Sa _,Sf _,rfl,ChM.new hm0 ⟨Sa _,fun⟨x,hx,_⟩=>by cases hx⟩ b 0,Rr,Rp,Sa _,hf0⟩ ?_;rintro⟨a,f,out,o1,c1⟩ w1 ⟨hf,ha,hpk,hc1,ho1,hfr1,hol,hF1⟩;have hv1:=hv.RY hF1;have hz1:=hF1.size;refine fK 6 ?_ ?_<;>intro h17
 ·have hltA:=zO hv (show 0<b.length by omega);refine Gz 11 ?_;refine Ot LI rfl (Gf _ W.heap.size ao cap b 0 a w1 hv1 hc1 (Sf _) ha (by omega)) rfl ?_;rintro _ _ ⟨rfl,d1,rfl⟩;obtain⟨n,hn⟩:∃ n,n=(mt b a).1:=⟨_,rfl⟩
  obtain⟨bk,hbk⟩:∃ x,x=(mt b a).2:=⟨_,rfl⟩
  rw[←hn,←hbk];refine fK 11 ?_ ?_<;>intro h26
  ·have hn0:(mt b a).1=0:=by omega
   refine Gz 10 ?_;rw[show ((a:Int)+1)=((a+1:Nat):Int) by omega];refine Ot JG rfl (Dd _ W.heap.size ao cap b 0 a (a+1) _ hv1 (fun k hk h=>by have:=hltA k hk;have:=h.1;omega) hc1 (fun k hk=>⟨SM hz1 hk,fun⟨x,hx,e⟩=>by have:=ho1.lt x hx;have h:w1.heap.size≤k:=hk;omega⟩) (Sf _) (by omega) (by omega) (by omega)) rfl ?_;rintro _ w2 ⟨hc2,hf2⟩;have hf2:=hf2.RW;refine Gz 12 ?_;have hF2:aA nob W w2:=hF1.RV hf2 (fun k h=>.inr h.1);exact aG ⟨a+1,f,out,o1,c1⟩ ⟨by omega,by omega,by rw[←hpk,J8 (by omega) hn0,Ea hf (by omega)],hc2,ho1.RZ hf2 (fun x hx h=>h.2 ⟨x,hx,rfl⟩),hfr1,hol,hF2⟩ (by show b.length-(a+1)<b.length-a;omega)
  have hn1:(mt b a).1≠0:=by omega
  obtain⟨m1,m2,m3,m4,m5,m6,m7,m8,m9⟩:=yD hn1;rw[←hn] at m2 m3 m4 m8 m9;rw[←hbk] at m5 m6 m7 m8 m9;have hpl:=FV (b:=b) (a:=a) (f:=f) ha;refine Gz 11 ?_;refine cL (Ox (u:=.slice (aU ao cap f 1) ((b.take a).drop f).length (cap-f)) (Qf aP rfl rfl rfl (by omega) (by omega)) (by rw[hpl];rfl)) ?_;refine Ot JF rfl (CZ o1 c1 out (aU ao cap f 1) (cap-f) ((b.take a).drop f) _ ho1 (C6 hv1 hf ha) (fun _ k hk hk2=>by have:=hltA k (jO hk2);obtain⟨x,hx,e⟩:=hk;have:=hfr1 x hx;omega) (by rw[hpl];omega)) rfl ?_;rintro _ w3 ⟨o3,c3,rfl,ho3,hf3,hr3⟩;have hf3:=hf3.RW;have hz3:=hf3.size;have hrl:=J0 _ ((b.take a).drop f) out rfl;rw[hpl] at hrl;have hfr3:Fr W.heap.size o3:=kZ hfr1 hr3 hz1;refine Gz 2 ?_;refine cL (OH (n:=((Ss (n+125)).toNat:Int)) is3 ty5 rfl (Aq (by omega))) ?_;refine Gz 2 ?_;refine cL (OH (n:=((Ss (bk-1)).toNat:Int)) is3 ty5 rfl (Aq (by omega))) ?_;refine Qo (enc:=b8) (u:=Ss (n+125)) (u':=Ss (bk-1)) aP cP rfl rfl rfl ?_;intro w4 ho4 hs4 hf4;have hz4:=hf4.size;refine OJ cP aP rfl rfl (ho3.RY hf4) ho4.vw (by simp only[Sq,SL];omega) (by simp only[Sq,SL];unfold maxLen;omega) rfl ?_;intro o5 c5 w5 ho5 hf5 hr5 hn5;have hz5:=hf5.size;have hfr5:Fr W.heap.size o5:=kZ hfr3 hr5 (by omega);have hto3:∀ k,blk o3 k→blk o1 k∨w1.heap.size≤k:=fun k ⟨x,hx,hk⟩=>by rcases hr3 x hx with h|h;exact .inl ⟨x,h,hk⟩;exact .inr (by have h:w1.heap.size≤x.block:=h;omega)
  have hto5:∀ k,blk o5 k→blk o1 k∨w1.heap.size≤k:=fun k ⟨x,hx,hk⟩=>by rcases hr5 x hx with h|h;exact hto3 k ⟨x,h,hk⟩;exact .inr (by omega)
  have hF15:aA (blk o1) w1 w5:=(hf3.trans hf4.any).RV hf5 hto3;have hF5:aA nob W w5:=hF1.RV hF15 hfr1.step;have hc5:ChM (fun k=>W.heap.size≤k∧¬ blk o5 k) w5.heap W.heap.size b 0 a:=(hc1.low.RZ hF15 (fun k hk=>hk.1.2)).mono (fun k hk=>⟨hk.1.1,fun h=>by rcases hto5 k h with h2|h2;exact hk.1.2 h2;have:=hk.2;omega⟩);refine Gz 11 ?_;rw[show ((a:Int)+n)=((a+n:Nat):Int) by omega];refine Ot JG rfl (Dd _ W.heap.size ao cap b 0 a (a+n) w5 (hv.RY hF5) (fun k hk h=>by have:=hltA k hk;have:=h.1;omega) hc5 (fun k hk=>⟨SM hF5.size hk,fun⟨x,hx,e⟩=>by have:=ho5.lt x hx;omega⟩) (Sf _) (by omega) (by omega) (by omega)) rfl ?_;rintro _ w6 ⟨hc6,hf6⟩;refine Gz 15 ?_;have hF6:aA nob W w6:=hF5.RV hf6 (fun k h=>.inr h.1);refine aG ⟨a+n,a+n,rn out ((b.take a).drop f)++[Ss (n+125),Ss (bk-1)],o5,c5⟩ ⟨Sa _,by omega,?_,hc6,ho5.RZ hf6 (fun x hx h=>h.2 ⟨x,hx,rfl⟩),hfr5,by rw[R6,hrl];simp only[Sq,SL];omega,hF6⟩ (by show b.length-(a+n)<b.length-a;omega);rw[←hpk,Ih hn1,←hn,←hbk,List.drop_of_length_le (by rw[Sh];omega)]
 refine Gz 13 ?_;have haf:a=b.length:=by omega
 rw[haf,S1,J9 (Nat.lt_irrefl _)] at hpk;refine cL (Ox (u:=.slice (aU ao cap f 1) (b.drop f).length (cap-f)) (O7 aP rfl rfl (by omega)) (by rw[Sm];rfl)) ?_;have hvd:=C6 hv1 (show f≤b.length by omega) (Sa _);rw[S1] at hvd;refine Ot JF rfl (CZ o1 c1 out (aU ao cap f 1) (cap-f) (b.drop f) _ ho1 hvd (fun h k hk hk2=>by have hltA:=zO hv (show 0<b.length by rw[Sm] at h;omega);have:=hltA k (jO hk2);obtain⟨x,hx,e⟩:=hk;have:=hfr1 x hx;omega) (by rw[Sm];omega)) rfl ?_;rintro _ w3 ⟨o3,c3,rfl,ho3,hf3,hr3⟩;refine Gz 6 ?_
 first
 |(rw[e];exact⟨_,rfl,none,0,rfl,Rr,Rp,Rk _ _⟩)
 |(rw[e,←hpk];exact⟨_,rfl,o3,c3,rfl,ho3,kZ hfr1 hr3 hz1,hF1.RV hf3 hfr1.step⟩)
def hdV(n:Nat):List Value:=[.int .u8 ((n%256:Nat):Int),.int .u8 ((n/256%256:Nat):Int),.int .u8 ((255 ^^^ ((n%256) ^^^ (n/256%256)):Nat):Int)]
theorem Do(n:Nat):∀ v∈hdV n,v.oneCell'=true:=by simp[hdV,Value.oneCell']
theorem Kw(n:Nat):hdV n=(hdB n).map b8:=by
 have h:=fun x (hx:x∈hdN n)=>Kx hx;simp only[hdN,St,SD,or_false,forall_eq_or_imp,forall_eq] at h;obtain⟨h1,h2,h3⟩:=h;simp only[hdV,hdB,hdN,SV,TC,b8,S6];rw[UA h1,UA h2,UA h3]
theorem HD:CB Tryz.prog 201 5 3 1:=⟨by kernel_rfl,by kernel_rfl⟩
theorem Kv(n:Nat):((n:Nat):Int)/2 ^ (8:Int).toNat=((n/256:Nat):Int):=rfl
theorem IT(n:Nat)(W:World)(hn:n<65536):CA 130 [iV n] W fun v w'=>v=.agg (hdV n).toArray∧aA nob W w':=by
 refine cS 18 [(0,_)] Tryz.func130 ?_;refine Gz 2 ?_;refine Ov CC rfl ?_;intro w1 hg1 hs1 hf1;have hg1:w1.heap[W.heap.size]?=some (.cells [.int .u8 0,.int .u8 0,.int .u8 0].toArray 201 (0,0)):=hg1;refine Gz 5 ?_;refine cL (OH (n:=((n%256:Nat):Int)) is3 ty5 rfl (Bt n)) ?_;refine Gz 1 ?_;refine cL (Ox (u:=iV ((n/256:Nat):Int)) (Qg rfl rfl (by omega)) (by rw[Kv])) ?_;refine cL (OH (n:=((n/256%256:Nat):Int)) is3 ty5 rfl (Bt _)) ?_;refine cL (P7 (cs:=[.int .u8 ((n%256:Nat):Int),.int .u8 ((n/256%256:Nat):Int),.int .u8 0].toArray) HD CC rfl (by kernel_rfl)) ?_;refine Ov CC rfl ?_;intro w2 hg2 hs2 hf2;have hg12:=hf2.obj hg1 id;obtain⟨q,hq⟩:∃ q,q=w1.heap.size:=⟨_,rfl⟩
 rw[←hq] at hg2 ⊢;refine sA rfl uG (by simp[Value.oneCell']) hg2 ?_;intro w3 hg3 hs3 hf3;have hg13:=hf3.obj hg12 (by omega);refine Gz 4 ?_;refine cL (Ox (u:=pT q) (Ph HD rfl rfl (by omega)) (by rw[Addr.add_lit];rfl)) ?_;refine cL (Ow uL rfl (aY hg3 rfl)) ?_;refine cL (Ox (u:=.pointer (some ⟨q,1,none⟩)) (Ph HD rfl rfl (by omega)) (by rw[Addr.add_lit];rfl)) ?_;refine cL (Ow uL rfl (aY hg3 rfl)) ?_;refine cL (Qr rfl rfl (by omega) (by omega)) ?_;refine cL (Ra rfl (mN (by omega) (by omega))) ?_;refine cL (Ox (u:=.pointer (some ⟨q,2,none⟩)) (Ph HD rfl rfl (by omega)) (by rw[Addr.add_lit];rfl)) ?_;refine OF uL rfl rfl rfl hg3 rfl ?_;intro w4 hg4 hs4 hf4;have hg4:w4.heap[q]?=some (.cells (hdV n).toArray 201 (0,0)):=hg4;have hg14:=hf4.obj hg13 (by omega);refine Gz 4 ?_;refine cL (OG (cs:=hdV n) uG rfl (fun j v hj=>aD hg4 hj)) ?_;refine sA rfl uG (by exact Do n) hg14 ?_;intro w5 hg5 hs5 hf5;refine Gz 3 ?_;refine PJ (cs:=hdV n) rfl uG rfl (fun j v hj=>aD hg5 hj) ?_;exact⟨_,rfl,rfl,((((hf1.trans hf2).tw hf3).tw hf4)).tw hf5⟩
theorem Ll{H:Array Obj}{q n:Nat}{T:TypeId}(h:H[q]?=some (.cells (hdV n).toArray T (0,0))):Vw b8 H (some ⟨q,0,none⟩) 3 (hdB n):=by
 refine⟨Sa _,by unfold maxLen;decide,fun _=>by simp,fun i x hx=>?_⟩;have e1:adr (some (⟨q,0,none⟩:Addr)) i=⟨q,i,none⟩:=by
  show (⟨q,0,none⟩:Addr).add _=_;rw[Addr.add_lit,S3]
 rw[e1];refine aY h ?_;rw[Kw,SU,hx];rfl
theorem F5{x:Nat}(h:x<4294967296):¬ eO x 4:=by
 unfold eO;have h2:((x:Int)/2 ^ (8*(4:Int)).toNat)=0:=by
  show (x:Int)/4294967296=0;omega
 omega
theorem DX{E:Int}(xs:By){x:Nat}(h:x<4294967296)(hE:E=0):dW E x 4=0∧lI E xs x 4=xs++le x 4:=by
 have h1:dW E x 4=0:=by rw[bB (F5 h),hE]
 exact⟨h1,gG h1⟩
theorem FM(xs ys:By):BN 0 xs ys=xs++ys:=by unfold BN;rw[R4 rfl]
theorem Jc(xs:By):iJ 0 xs=xs:=by unfold iJ;rw[R3 (by decide)]
theorem lW(D:Nat→Prop)(pw tb p:Nat)(xo:Option Addr)(xc:Nat)(x:By)(mark:Nat)(W:World)(hP:WrL D W.heap pw 0 [])(hD:∀ k,W.heap.size≤k→D k)(hb:W.heap[tb]?=some (.cells [pT p].toArray 47 (0,0)))(ht:TbV W.heap p)
 (hv:Vw b8 W.heap xo xc x)(hDb:¬ D tb)(hDp:¬ D p)(hDx:∀ k,blk xo k→¬ D k)(hx:x.length≤128)(hm:mark≤32768) :
 CA 129 [.slice xo x.length xc,iV mark,pT pw,pT tb] W fun v w'=>∃ ao c,v=.tuple #[.slice ao (frS x mark).length c,iV 0]∧Own b8 5 w'.heap ao c (frS x mark)∧Fr W.heap.size ao∧aA D W w':=by
 have hs:=qO x;refine cS 29 [(0,_),(1,_),(2,_),(3,_)] Tryz.func129 ?_;refine Gz 12 ?_;rw[show ((x.length:Int)+mark)=((x.length+mark:Nat):Int) by omega];refine Ot L6 rfl (IT (x.length+mark) W (by omega)) rfl ?_;rintro _ w1 ⟨rfl,hf1⟩;refine Ov CC rfl ?_;intro w2 hg2 hs2 hf2;refine sA rfl uG (by exact Do _) hg2 ?_;intro w3 hg3 hs3 hf3;have hF3:aA nob W w3:=(hf1.trans hf2).RV hf3 (fun k hk=>.inr (by have h:k=w1.heap.size:=hk;have:=hf1.size;omega));have hz3:=hF3.size;have hz1:=hf1.size;have hP3:=hP.shrink hF3;have hvh:=Ll hg3;obtain⟨D3,hD3⟩:∃ D3:Nat→Prop,D3=fun k=>D k∧(k<W.heap.size∨w3.heap.size≤k):=⟨_,rfl⟩
 have hD3a:∀ k,w3.heap.size≤k→D3 k:=fun k hk=>by rw[hD3];exact⟨hD k (by omega),.inr hk⟩
 have hD3b:∀ k,D3 k→D k:=fun k hk=>by rw[hD3] at hk;exact hk.1
 have hD3c:¬ D3 w1.heap.size:=fun h=>by rw[hD3] at h;have:=h.2;omega
 rw[←hD3] at hP3;refine Gz 4 ?_;refine cL (P6 HD rfl) ?_;refine Ot GK rfl (kN D3 pw 0 [] (some ⟨w1.heap.size,0,none⟩) 3 (hdB (x.length+mark)) w3 hP3 hD3a hvh (by simp) (by simp[qY])) rfl ?_;rintro _ w4 ⟨hP4,hf4⟩;rw[FM,S2] at hP4;have hF4:aA D W w4:=hF3.any.trans (hf4.mono hD3b);have hv4:=hv.RZ hF4 (fun a ha h=>hDx _ ⟨a,ha,rfl⟩ h);have ht4:TbV w4.heap p:=hF4.obj ht hDp;have hb4:=hF4.obj hb hDb;have hz4:=hf4.size;refine Gz 2 ?_;refine O1 (β:=Unit) (fun _u=>[(2,pT pw)]) (fun _u w=>WrL D3 w.heap pw 0 (frS x mark)∧aA D W w) ?_ ?_
 ·refine fK 4 ?_ ?_<;>intro h18
  ·refine Gz 5 ?_;refine cL (Ow Jy rfl (aY hb4 rfl)) ?_;refine cA 1 KD (BA p xo xc x w4 ht4 hv4) ?_;rintro _ wq ⟨rfl,hwq⟩;subst wq;refine cL (OH (n:=((iB x:Nat):Int)) Kq ty3 rfl (cI (by omega))) ?_;refine Ot tH rfl (lY D3 pw 0 (hdB (x.length+mark)) (iB x:Nat) 4 w4 hP4 (fun k hk=>hD3a k (by omega)) (by rw[qY];decide)) rfl ?_;rintro _ w5 ⟨hP5,hf5⟩;obtain⟨s1,s2⟩:=DX (E:=0) (hdB (x.length+mark)) hs rfl;rw[s1,s2] at hP5;have hz5:=hf5.size;have hF5:aA D W w5:=hF4.trans (hf5.mono hD3b);have hv5:=hv.RZ hF5 (fun a ha h=>hDx _ ⟨a,ha,rfl⟩ h);refine Gz 4 ?_;refine Ot GK rfl (kN D3 pw 0 _ xo xc x w5 hP5 (fun k hk=>hD3a k (by omega)) hv5 (by simp only[R6,qY,bE];omega) (by omega)) rfl ?_;rintro _ w6 ⟨hP6,hf6⟩;rw[FM] at hP6;have hF6:aA D W w6:=hF5.trans (hf6.mono hD3b);refine Gz 1 ?_;exact aC () ⟨by unfold frS;rw[R3 (by omega),←SI];exact hP6,hF6⟩
  refine Gz 4 ?_;exact aC () ⟨by unfold frS;rw[R4 (by omega),TA];exact hP4,hF4⟩
 rintro _ w7 ⟨hP7,hF7⟩;refine Gz 2 ?_;refine Ot yQ rfl (eF D3 pw 0 (frS x mark) w7 hP7 (by rw[qZ];unfold Es;split<;>omega)) rfl ?_;rintro _ w8 ⟨ao8,c8,rfl,ho8,hfr8,hf8⟩;rw[Jc] at ho8 ⊢;refine Gz 1 ?_;refine Ot AS rfl (mH D3 pw 0 _ w8 (hP7.RY hf8)) rfl ?_;rintro _ wq ⟨rfl,hwq⟩;subst wq;refine Gz 6 ?_;exact⟨_,rfl,ao8,c8,rfl,ho8,hfr8.mono hF7.size,hF7.trans hf8.any⟩
theorem rA(p:Nat)(ao:Option Addr)(c:Nat)(b:By)(W:World)(ht:TbV W.heap p)(hv:Vw b8 W.heap ao c b) :
 CA 78 [pT p,.slice ao b.length c] W (Cy W (cN b)):=by
 refine cS 45 [(0,_),(1,_)] Tryz.func78 ?_;refine Gz 2 ?_;refine OR rfl rfl ?_;intro w1 hg1 hs1 hf1;have hg1:w1.heap[W.heap.size]?=some (.cells [pT p].toArray 47 (0,0)):=hg1;refine fK 9 ?_ ?_<;>intro h12
 ·have e:cN b=([],3):=by unfold cN;rw[R4 (by omega)]
  refine Gz 12 ?_
  first
  |(rw[e];exact⟨_,rfl,none,0,rfl,Rr,Rp,hf1⟩)
  |(rw[e];exact⟨_,rfl,ao9,c9,rfl,ho9,hfr9.mono hF2.size,hF2.RV hf9 (fun k hk=>.inr (by omega))⟩)
  |(rw[e];exact⟨_,rfl,ao9,c9,rfl,ho9,hfr9.mono hF3.size,hF3.RV hf9 (fun k hk=>.inr (by have:=hk.1;omega))⟩)
 refine Gz 7 ?_;refine Ov uV rfl ?_;intro w2 hg2 hs2 hf2;have hF2:=hf1.trans hf2;have hP2:WrL (fun k=>k=w1.heap.size∨w2.heap.size≤k) w2.heap w1.heap.size 0 []:=Rx hg2 (.inl rfl);have hb2:=hf2.obj hg1 id;have ht2:TbV w2.heap p:=hF2.obj ht id;have hplt:=(Sb.1 ht).1;refine Gz 4 ?_;refine cL (Po rfl) ?_;refine fK 8 ?_ ?_<;>intro h16
 ·have e:cN b=(frS [] 0,0):=by unfold cN;rw[R3 (by omega),R4 (by omega)]
  refine Gz 6 ?_;refine O9 GP rfl rfl (lW (fun k=>k=w1.heap.size∨w2.heap.size≤k) w1.heap.size W.heap.size p none 0 [] 0 w2 hP2 (fun k hk=>.inr hk) hb2 ht2 (Rq 0 (Sf _)) (by omega) (by omega) (fun k ⟨a,ha,_⟩=>by cases ha) (by simp) (by decide)) rfl ?_;intro v9 w9 hR9;obtain⟨ao9,c9,rfl,ho9,hfr9,hf9⟩:=hR9;refine Gz 9 ?_
  first
  |(rw[e];exact⟨_,rfl,none,0,rfl,Rr,Rp,hf1⟩)
  |(rw[e];exact⟨_,rfl,ao9,c9,rfl,ho9,hfr9.mono hF2.size,hF2.RV hf9 (fun k hk=>.inr (by omega))⟩)
  |(rw[e];exact⟨_,rfl,ao9,c9,rfl,ho9,hfr9.mono hF3.size,hF3.RV hf9 (fun k hk=>.inr (by have:=hk.1;omega))⟩)
 have hltA:=zO hv (show 0<b.length by omega);refine cA 9 L5 (Ij ao c b w2 (hv.RY hF2)) ?_;rw[Ii (by omega)];intro _ w3 hP;have hP:On _ (pkS b) 0 _ w3:=hP;obtain⟨o3,c3,rfl,ho3,hfr3,hf3⟩:=hP;have hP3:=hP2.shrink hf3;have hb3:=hf3.obj hb2 id;have ht3:TbV w3.heap p:=hf3.obj ht2 id;have hF3:=hF2.trans hf3;have hz3:=hf3.size;refine Gz 10 ?_;refine cL (O5 (OX rfl rfl) rfl) ?_;refine fW 5 ?_ ?_<;>intro h33
 ·have e:cN b=(frS (pkS b) 0,0):=by unfold cN;rw[R3 (by omega),R3 (by omega),R4 (by omega)]
  refine Gz 8 ?_;refine O9 GP rfl rfl (lW _ w1.heap.size W.heap.size p o3 c3 (pkS b) 0 w3 hP3 (fun k hk=>⟨.inr (by omega),.inr hk⟩) hb3 ht3 ho3.vw (by omega) (by omega) (fun k ⟨a,ha,hk⟩ h=>by have:=hfr3 a ha;have:=ho3.lt a ha;omega) (by omega) (by decide)) rfl ?_;intro v9 w9 hR9;obtain⟨ao9,c9,rfl,ho9,hfr9,hf9⟩:=hR9;refine Gz 9 ?_
  first
  |(rw[e];exact⟨_,rfl,none,0,rfl,Rr,Rp,hf1⟩)
  |(rw[e];exact⟨_,rfl,ao9,c9,rfl,ho9,hfr9.mono hF2.size,hF2.RV hf9 (fun k hk=>.inr (by omega))⟩)
  |(rw[e];exact⟨_,rfl,ao9,c9,rfl,ho9,hfr9.mono hF3.size,hF3.RV hf9 (fun k hk=>.inr (by have:=hk.1;omega))⟩)
 have e:cN b=(frS b 32768,0):=by unfold cN;rw[R3 (by omega),R3 (by omega),R3 (by omega)]
 refine Gz 10 ?_;refine O9 GP rfl rfl (lW _ w1.heap.size W.heap.size p ao c b 32768 w3 hP3 (fun k hk=>⟨.inr (by omega),.inr hk⟩) hb3 ht3 (hv.RY hF3) (by omega) (by omega) (fun k hk h=>by have:=hltA k hk;omega) (by omega) (by decide)) rfl ?_;intro v9 w9 hR9;obtain⟨ao9,c9,rfl,ho9,hfr9,hf9⟩:=hR9;refine Gz 8 ?_
 first
 |(rw[e];exact⟨_,rfl,none,0,rfl,Rr,Rp,hf1⟩)
 |(rw[e];exact⟨_,rfl,ao9,c9,rfl,ho9,hfr9.mono hF2.size,hF2.RV hf9 (fun k hk=>.inr (by omega))⟩)
 |(rw[e];exact⟨_,rfl,ao9,c9,rfl,ho9,hfr9.mono hF3.size,hF3.RV hf9 (fun k hk=>.inr (by have:=hk.1;omega))⟩)
def cO(f t:By):By×By:=if 128≤t.length then cO (f++(cN (t.take 128)).1) (t.drop 128) else (f,t)
termination_by t.length
decreasing_by rw[Sm];omega
def tP(f t:By):By:=if t.length=0 then f else f++(cN t).1
theorem fC{f t:By}(h:t.length<128):cO f t=(f,t):=by unfold cO;rw[R3 (by omega)]
theorem jD{f t:By}(h:128≤t.length):cO f t=cO (f++(cN (t.take 128)).1) (t.drop 128):=by rw[cO,R4 h]
theorem wU(f t:By):(cO f t).2.length<128:=by
 by_cases h:128≤t.length
 ·rw[jD h];exact wU _ _
 ·rw[fC (by omega)];show t.length<128;omega
termination_by t.length
decreasing_by rw[Sm];omega
theorem Be(f t b:By):cO f (t++b)=cO (cO f t).1 ((cO f t).2++b):=by
 by_cases h:128≤t.length
 · rw[jD h,jD (t:=t++b) (by rw[R6];omega),TH h,List.drop_append_of_le_length h]
   exact Be _ _ _
 ·rw[fC (t:=t) (by omega)]
termination_by t.length
decreasing_by rw[Sm];omega
theorem kA{t:By}(h:128≤t.length):(t.take 128).length=128:=by rw[Sh];omega
theorem Bc(f t:By):(cO f t).1.length+2*(cO f t).2.length≤f.length+2*t.length:=by
 by_cases h:128≤t.length
 · have h1:=Bc (f++(cN (t.take 128)).1) (t.drop 128)
   have h2:=fF (b:=t.take 128) (by rw[kA h];omega);rw[kA h] at h2;rw[R6,Sm] at h1;rw[jD h];omega
 ·rw[fC (by omega)];exact Sa _
termination_by t.length
decreasing_by rw[Sm];omega
def chW(T:By)(q:Nat):By:=(T.drop (128*q)).take 128
def frW(T:By):Nat→By
|0=>[]
|q+1=>frW T q++(cN (chW T q)).1
def nF(T:By):Nat:=(T.length+127)/128
def bI(T:By)(o:Nat):Nat:=256*(frW T (o/128)).length+o%128
theorem Jn(T:By)(q:Nat):(chW T q).length=min 128 (T.length-128*q):=by unfold chW;rw[Sh,Sm]
theorem Cq(T:By)(q:Nat):(chW T q).length≤128:=by rw[Jn];omega
theorem Du(T:By)(q:Nat):∀ k,∃ z,frW T (q+k)=frW T q++z
|0=>⟨[],by simp⟩
|k+1=>by
   obtain⟨z,hz⟩:=Du T q k;exact⟨z++(cN (chW T (q+k))).1,by rw[←Uw];show frW T (q+k)++_=_;rw[hz,SI]⟩
theorem GJ{T:By}{q n:Nat}(h:q≤n):(frW T q).length≤(frW T n).length:=by
 obtain⟨z,hz⟩:=Du T q (n-q);rw[show q+(n-q)=n by omega] at hz;rw[hz,R6];omega
theorem oV(T:By):∀ q,(frW T q).length≤135*q
|0=>by simp[frW]
|q+1=>by
   have:=oV T q;have h1:=fF (Cq T q);have h2:=Cq T q;show (frW T q++_).length≤_;rw[R6];omega
theorem KC{T:By}(q:Nat):(frW T q).length<(frW T (q+1)).length:=by
 have h1:=fF (Cq T q);show _<(frW T q++_).length;rw[R6];omega
theorem Hn{T:By}{o q:Nat}(h:128*q+128≤o):chW (T.take o) q=chW T q:=by
 unfold chW;rw[List.drop_take,List.take_take,Td (by omega)]
theorem AP{T:By}{o:Nat}:∀ q,128*q≤o→frW (T.take o) q=frW T q
|0,_=>rfl
|q+1,h=>by
   show frW (T.take o) q++_=frW T q++_;rw[AP q (by omega),Hn (by omega)]
theorem Bd(T:By)(q:Nat)(h:128*q≤T.length):cO (frW T q) (T.drop (128*q))=(frW T (T.length/128),T.drop (128*(T.length/128))):=by
 by_cases h1:128≤(T.drop (128*q)).length
 · have h2:=h1
   rw[Sm] at h2;rw[jD h1,List.drop_drop];exact Bd T (q+1) (by omega)
 · rw[fC (by omega)]
   rw[Sm] at h1;rw[show T.length/128=q by omega]
termination_by T.length-128*q
decreasing_by rw[Sm] at h1;omega
theorem Bf(T:By):cO [] T=(frW T (T.length/128),T.drop (128*(T.length/128))):=Bd T 0 (by omega)
theorem EF(T:By):tP (cO [] T).1 (cO [] T).2=frW T (nF T):=by
 rw[Bf];unfold tP nF;simp only[Sm];by_cases h:T.length-128*(T.length/128)=0
 ·rw[R4 h,show (T.length+127)/128=T.length/128 by omega]
 · rw[R3 h,show (T.length+127)/128=T.length/128+1 by omega]
   show _=frW T _++_;unfold chW;rw[So (by rw[Sm];omega)]
theorem FG(T:By):bI T T.length=256*(cO [] T).1.length+(cO [] T).2.length:=by
 rw[Bf];unfold bI;simp only[Sm];omega
theorem vJ{T:By}{o:Nat}(h:o≤T.length):bI T o=bI (T.take o) (T.take o).length:=by
 unfold bI;rw[Sh,Td h,AP _ (by omega)]
theorem BJ{T:By}{o:Nat}(h:o≤1099511627776):bI T o≤1152921504606846976:=by
 have:=oV T (o/128);unfold bI;omega
def bG(F:Nat→Int)(T:By):List Value:=[iV (F 0),iV (F 1),iV (F 2),iV (F 3),iV (F 4),iV (F 5),iV (F 6),iV (F 7),iV (F 8),iV (F 9),.string (bs T)]
theorem tC(F:Nat→Int)(T:By):∀ v∈bG F T,v.oneCell'=true:=by simp[bG,Value.oneCell']
theorem nM(F:Nat→Int)(T:By){o:Nat}(h:o<10):(bG F T)[o]?=some (iV (F o)):=by
 match o,h with
|0,_|1,_|2,_|3,_|4,_|5,_|6,_|7,_|8,_|9,_=>rfl
def upd(F:Nat→Int)(o:Nat)(z:Int):Nat→Int:=fun q=>if q=o then z else F q
theorem AK(F:Nat→Int)(T:By){o:Nat}(h:o<10)(z:Int):(bG F T).set o (iV z)=bG (upd F o z) T:=by
 match o,h with
|0,_|1,_|2,_|3,_|4,_|5,_|6,_|7,_|8,_|9,_=>simp[bG,upd]
theorem Gv{F G:Nat→Int}{T U:By}(h:bG F T=bG G U):(∀ o,o<10→F o=G o)∧T=U:=by
 refine⟨fun o ho=>?_,?_⟩
 · have h1:=nM F T ho
   rw[h,nM G U ho] at h1;simpa using h1.symm
 · simp only[bG,T1.injEq,Value.string.injEq,and_true] at h
   exact Hw h.2.2.2.2.2.2.2.2.2.2
theorem IR{F G:Nat→Int}{T U:By}(h:∀ o,o<10→F o=G o)(h2:T=U):bG F T=bG G U:=by
 subst h2;simp only[bG,h 0 (by decide),h 1 (by decide),h 2 (by decide),h 3 (by decide),h 4 (by decide),h 5 (by decide),h 6 (by decide),h 7 (by decide),h 8 (by decide),h 9 (by decide)]
theorem Gw{F G:Nat→Int}{T U:By}(h:∀ o,o<11→(bG F T)[o]?=(bG G U)[o]?):bG F T=bG G U:=by
 apply Tj;intro i;by_cases hi:i<11
 ·exact h i hi
 ·rw[SY (by simp[bG];omega),SY (by simp[bG];omega)]
structure Fd where
 f:Nat
 o:Nat
 b:Int
 m:Int
def fdV(x:Fd):List Value:=[.func (.func x.f) #[] #[],iV x.b,iV x.m]
theorem dJ:iP 3 fdV:=fun x=>⟨rfl,by simp[fdV,Value.oneCell']⟩
def pD:List Fd:=[⟨176,1,2,511⟩,⟨177,2,2,2047⟩,⟨178,3,2,2047⟩,⟨179,4,2,1024⟩,⟨180,5,4,4294967295⟩]
def tL:List Fd:=[⟨181,6,4,4294967295⟩,⟨182,7,2,4096⟩,⟨183,8,2,1024⟩,⟨184,9,1,127⟩]
def pA:List Fd:=[⟨181,6,4,4294967295⟩,⟨182,7,4,1048576⟩]
def fP(k:Int):List Fd:=if k=2 then tL else if k=1 then pA else []
def aR(k:Int):List Fd:=pD++fP k
def fd0:Fd:=⟨176,1,2,511⟩
theorem GR{k:Int}{x:Fd}(h:x∈fP k):x∈tL∨x∈pA:=by
 unfold fP at h
 split at h
 ·exact .inl h
 · split at h
   ·exact .inr h
   ·cases h
theorem FH{k:Int}{x:Fd}(h:x∈aR k):x∈pD∨x∈tL∨x∈pA:=by
 rcases SO.1 h with h|h
 ·exact .inl h
 ·exact .inr (GR h)
theorem gQ(k:Int):(aR k).length≤9:=by
 unfold aR fP
 split
 ·decide
 ·split<;>decide
theorem xT{k:Int}{i:Nat}(h:i<(aR k).length):(aR k).getD i fd0∈aR k:=by
 rw[Sj,R7 h];exact Tv h
def uU(f o:Nat):Prop:=fnB Tryz.prog f=true∧o<10∧0<o∧∀ (b:Nat) (W:World),Calls Tryz.prog f [pT b].toArray W (Ret fun v w'=>v=.pointer (some ⟨b,o,none⟩)∧w'=W)
theorem gA(b o:Nat):Value.pointer (some ((⟨b,0,none⟩:Addr).add o))=.pointer (some ⟨b,o,none⟩):=by rw[Addr.add_lit,S3]
theorem Kg:uU 176 1:=by
 refine⟨LR,by decide,by decide,fun b W=>?_⟩;refine cS 6 [(0,_)] Tryz.func176 ?_;refine Gz 15 ?_;exact⟨_,rfl,gA b 1,rfl⟩
theorem Kf:uU 177 2:=by
 refine⟨LQ,by decide,by decide,fun b W=>?_⟩;refine cS 6 [(0,_)] Tryz.func177 ?_;refine Gz 15 ?_;exact⟨_,rfl,gA b 2,rfl⟩
theorem Ke:uU 178 3:=by
 refine⟨LP,by decide,by decide,fun b W=>?_⟩;refine cS 6 [(0,_)] Tryz.func178 ?_;refine Gz 15 ?_;exact⟨_,rfl,gA b 3,rfl⟩
theorem Kd:uU 179 4:=by
 refine⟨LO,by decide,by decide,fun b W=>?_⟩;refine cS 6 [(0,_)] Tryz.func179 ?_;refine Gz 15 ?_;exact⟨_,rfl,gA b 4,rfl⟩
theorem Kc:uU 180 5:=by
 refine⟨LN,by decide,by decide,fun b W=>?_⟩;refine cS 6 [(0,_)] Tryz.func180 ?_;refine Gz 15 ?_;exact⟨_,rfl,gA b 5,rfl⟩
theorem FZ:uU 181 6:=by
 refine⟨LM,by decide,by decide,fun b W=>?_⟩;refine cS 6 [(0,_)] Tryz.func181 ?_;refine Gz 15 ?_;exact⟨_,rfl,gA b 6,rfl⟩
theorem FY:uU 182 7:=by
 refine⟨LL,by decide,by decide,fun b W=>?_⟩;refine cS 6 [(0,_)] Tryz.func182 ?_;refine Gz 15 ?_;exact⟨_,rfl,gA b 7,rfl⟩
theorem Kb:uU 183 8:=by
 refine⟨LK,by decide,by decide,fun b W=>?_⟩;refine cS 6 [(0,_)] Tryz.func183 ?_;refine Gz 15 ?_;exact⟨_,rfl,gA b 8,rfl⟩
theorem Ka:uU 184 9:=by
 refine⟨LJ,by decide,by decide,fun b W=>?_⟩;refine cS 6 [(0,_)] Tryz.func184 ?_;refine Gz 15 ?_;exact⟨_,rfl,gA b 9,rfl⟩
theorem mW{k:Int}{x:Fd}(h:x∈aR k):uU x.f x.o∧1≤x.b∧x.b≤4∧0≤x.m∧x.m<2 ^ (8*x.b).toNat:=by
 rcases FH h with h|h|h
 · simp only[pD,St,SD,or_false] at h
   rcases h with rfl|rfl|rfl|rfl|rfl
   ·exact⟨Kg,by decide,by decide,by decide,by decide⟩
   ·exact⟨Kf,by decide,by decide,by decide,by decide⟩
   ·exact⟨Ke,by decide,by decide,by decide,by decide⟩
   ·exact⟨Kd,by decide,by decide,by decide,by decide⟩
   ·exact⟨Kc,by decide,by decide,by decide,by decide⟩
 · simp only[tL,St,SD,or_false] at h
   rcases h with rfl|rfl|rfl|rfl
   ·exact⟨FZ,by decide,by decide,by decide,by decide⟩
   ·exact⟨FY,by decide,by decide,by decide,by decide⟩
   ·exact⟨Kb,by decide,by decide,by decide,by decide⟩
   ·exact⟨Ka,by decide,by decide,by decide,by decide⟩
 · simp only[pA,St,SD,or_false] at h
   rcases h with rfl|rfl
   ·exact⟨FZ,by decide,by decide,by decide,by decide⟩
   ·exact⟨FY,by decide,by decide,by decide,by decide⟩
def FdP(W:World)(L:List Fd):Value→World→Prop:=fun v w'=>∃ ao c,v=.slice ao L.length c∧cH 3 fdV 196 w'.heap ao c L∧Fr W.heap.size ao∧aA nob W w'
theorem wV(W:World):CA 126 [] W (FdP W pD):=by
 refine cS 7 [] Tryz.func126 ?_;refine Gz 7 ?_;refine cL (bU (fdV ⟨176,1,2,511⟩) gT fX) ?_;refine cL (bU (fdV ⟨177,2,2,2047⟩) gT fX) ?_;refine cL (bU (fdV ⟨178,3,2,2047⟩) gT fX) ?_;refine cL (bU (fdV ⟨179,4,2,1024⟩) gT fX) ?_;refine cL (bU (fdV ⟨180,5,4,4294967295⟩) gT fX) ?_;refine Pa pM (cs:=(pD.flatMap fdV).toArray) fX rfl rfl rfl (by kernel_rfl) rfl ?_;intro w1 ho1 hs1 hf1;refine Gz 5 ?_;exact⟨_,rfl,_,_,rfl,fG dJ ho1 (by decide),vY _,hf1⟩
theorem wP(k:Int)(W:World):CA 127 [iV k] W (FdP W (fP k)):=by
 refine cS 22 [(0,_)] Tryz.func127 ?_;refine fK 24 ?_ ?_<;>intro h7
 ·refine Gz 7 ?_;refine cL (bU (fdV ⟨181,6,4,4294967295⟩) gT fX) ?_;refine Gz 1 ?_;refine cL (bU (fdV ⟨182,7,2,4096⟩) gT fX) ?_;refine cL (bU (fdV ⟨183,8,2,1024⟩) gT fX) ?_;refine cL (bU (fdV ⟨184,9,1,127⟩) gT fX) ?_;refine Pa pM (cs:=(tL.flatMap fdV).toArray) fX rfl rfl rfl (by kernel_rfl) rfl ?_;intro w1 ho1 hs1 hf1;refine Gz 7 ?_;have e:fP k=tL:=by unfold fP;rw[R4 h7]
  rw[e];exact⟨_,rfl,_,_,rfl,fG dJ ho1 (by decide),vY _,hf1⟩
 refine fK 6 ?_ ?_<;>intro h16
 ·refine Gz 7 ?_;refine cL (bU (fdV ⟨181,6,4,4294967295⟩) gT fX) ?_;refine Gz 1 ?_;refine cL (bU (fdV ⟨182,7,4,1048576⟩) gT fX) ?_;refine Pa pM (cs:=(pA.flatMap fdV).toArray) fX rfl rfl rfl (by kernel_rfl) rfl ?_;intro w1 ho1 hs1 hf1;refine Gz 7 ?_;have e:fP k=pA:=by unfold fP;rw[R3 h7,R4 h16]
  rw[e];exact⟨_,rfl,_,_,rfl,fG dJ ho1 (by decide),vY _,hf1⟩
 refine Gz 14 ?_;have e:fP k=[]:=by unfold fP;rw[R3 h7,R3 h16]
 rw[e];exact⟨_,rfl,none,0,rfl,Rv,Rp,Rk _ _⟩
def dL(wide:Int)(s:Int×By)(z:Int):Int×By:=(dW s.1 z wide,lI s.1 s.2 z wide)
def jR(l:List Int)(wide:Int):Int×By:=l.foldl (dL wide) (0,[])
theorem Io(E:Int)(xs:By)(x n:Int):(lI E xs x n).length≤xs.length+4:=by
 by_cases h:eO x n
 ·unfold lI;rw[R4 (.inr h)];omega
 ·exact Au E xs x n h
theorem vP(wide:Int):∀ (l:List Int) (s:Int×By),(l.foldl (dL wide) s).2.length≤s.2.length+4*l.length
|[],s=>by simp
|z::r,s=>by
   have h1:=vP wide r (dL wide s z);have h2:=Io s.1 s.2 z wide;simp only[Tm,Sq];have:(dL wide s z).2.length≤s.2.length+4:=h2;omega
theorem BR(l:List Int)(wide:Int)(k:Nat)(h:k<l.length):jR (l.take (k+1)) wide=dL wide (jR (l.take k) wide) (l.getD k 0):=by
 unfold jR;rw[Sv h,Tb];simp[Sj,h]
theorem F1(l:List Int)(wide:Int)(k:Nat):(jR (l.take k) wide).2.length≤4*l.length:=by
 have:=vP wide (l.take k) (0,[]);simp only[SL,Sh] at this;unfold jR;omega
def aK(l:List Int)(wide:Int):By×Int:=
 if wide=2∨wide=4 then (iJ (jR l wide).1 (jR l wide).2,(jR l wide).1) else ([],1)
theorem I1(wide:Int)(W:World):CA 75 [iV wide] W fun v w'=>v=.bool (decide (wide=2∨wide=4))∧w'=W:=by
 refine cS 9 [(0,_)] Tryz.func75 ?_;refine fK 8 ?_ ?_<;>intro h4
 ·refine Gz 9 ?_;exact⟨_,rfl,by congr 1;symm;first|exact R8 (by omega)|exact R5 (by omega),rfl⟩
 refine fW 2 ?_ ?_<;>intro h7
 ·refine Gz 6 ?_;exact⟨_,rfl,by congr 1;symm;first|exact R8 (by omega)|exact R5 (by omega),rfl⟩
 refine Gz 6 ?_;exact⟨_,rfl,by congr 1;symm;first|exact R8 (by omega)|exact R5 (by omega),rfl⟩
theorem Dz{α:Type}{l:List α}{k:Nat}(h1:k≤l.length)(h2:¬ ((k:Int)<(l.length:Int))):l.take k=l:=So (by omega)
theorem BO(lo:Option Addr)(lc:Nat)(l:List Int)(wide:Int)(W:World)(hv:Vw i64 W.heap lo lc l)(hb:l.length≤137438953472) :
 CA 25 [.slice lo l.length lc,iV wide] W (Cy W (aK l wide)):=by
 have hlen:=F1 l wide;refine cS 25 [(0,_),(1,_)] Tryz.func25 ?_;refine cA 10 NQ (I1 wide W) ?_;rintro _ w0 ⟨rfl,hw0⟩;subst w0;refine OZ (Pz rfl) rfl (fun h11=>?_) (fun h11=>?_)
 ·have hw:¬ (wide=2∨wide=4):=by simpa using h11
  refine Gz 12 ?_;have e:aK l wide=([],1):=by unfold aK;rw[R3 hw]
  rw[e];exact⟨_,rfl,none,0,rfl,Rr,Rp,Rk _ _⟩
 have hw:wide=2∨wide=4:=Se fun h=>h11 (R5 h);refine Gz 7 ?_;refine Ov uV rfl ?_;intro w1 hg1 hs1 hf1;refine Gz 11 ?_;refine Oy (β:=Nat) (fun k=>[(1,iV wide),(6,pT W.heap.size),(12,.slice lo l.length lc),(13,iV l.length),(14,iV k)]) (fun k w=>k≤l.length∧WrL (fun k=>W.heap.size≤k) w.heap W.heap.size (jR (l.take k) wide).1 (jR (l.take k) wide).2∧aA nob W w) (fun k=>l.length-k) 0 ⟨rfl,rfl,rfl,rfl,rfl,trivial⟩ ⟨Sf _,Rx hg1 (Sa _),hf1⟩ ?_;rintro k w2 ⟨hk,hP2,hF2⟩;refine fK 2 ?_ ?_<;>intro h15
 ·refine Gz 10 ?_;refine cL (Ou bP rfl rfl hv.non (by omega)) ?_;refine cL (Ow aL rfl ((hv.RY hF2).gz 0 k rfl (by omega))) ?_;refine Gz 6 ?_;refine Ot tH rfl (lY (fun k=>W.heap.size≤k) W.heap.size _ _ (l.getD k 0) wide w2 hP2 (fun k hk=>SM hF2.size hk) (by have:=hlen k;omega)) rfl ?_;rintro _ w3 ⟨hP3,hF3⟩;refine Gz 7 ?_;refine aG (k+1) ?_ (by show l.length-(k+1)<l.length-k;omega);exact⟨by omega,by rw[BR l wide k (by omega)];exact hP3,(hF2.any.trans hF3).fresh (fun k hk=>hk)⟩
 refine Gz 11 ?_;refine Ot yQ rfl (eF _ W.heap.size _ _ w2 hP2 (by have:=hlen k;omega)) rfl ?_;rintro _ w3 ⟨ao3,c3,rfl,ho3,hfr3,hf3⟩;refine Gz 1 ?_;refine Ot AS rfl (mH _ W.heap.size _ _ w3 (hP2.RY hf3)) rfl ?_;rintro _ w4 ⟨rfl,hw4⟩;subst w4;refine Gz 6 ?_;rw[Dz hk (by assumption)] at *;exact⟨_,rfl,ao3,c3,by unfold aK;rw[R4 hw],by unfold aK;rw[R4 hw];exact ho3,hfr3.mono hF2.size,hF2.trans hf3⟩
theorem IA(xo:Option Addr)(xc:Nat)(X:List Xa)(W:World)(hv:XaV W.heap xo xc X) :
 CA 174 [.slice xo X.length xc] W fun v w'=>v=.bool (decide (eC X))∧aA nob W w':=by
 have hl:=hv.RX;refine cS 40 [(0,_)] Tryz.func174 ?_;refine Gz 19 ?_;refine Oy (β:=Nat) (fun k=>[(0,.slice xo X.length xc),(3,.string (bs (pR X k))),(6,.slice xo X.length xc),(7,iV X.length),(8,iV k)]) (fun k w=>k≤X.length∧(∀ i,i<k→AN X i)∧aA nob W w) (fun k=>X.length-k) 0 ⟨rfl,rfl,rfl,rfl,rfl,trivial⟩ ⟨Sf _,by intro i hi;omega,Rk _ _⟩ ?_;rintro k w2 ⟨hk,hgood,hF2⟩;refine fK 2 ?_ ?_<;>intro h9
 ·refine Gz 10 ?_;obtain⟨xa,xc2,hrow,hxv,hnl⟩:=(hv.RY hF2).at (i:=k) rfl (by omega);refine cL (OA oJ rfl rfl hv.non (by omega)) ?_;refine cL (OG (cs:=[.string (bs (X.getD k x0).1),.slice xa (X.getD k x0).2.length xc2]) dM rfl hrow) ?_;refine Ov rL rfl ?_;intro w3 hg3 hs3 hf3;refine sA rfl dM (by simp[Value.oneCell']) hg3 ?_;intro w4 hg4 hs4 hf4;have hF4:aA nob W w4:=hF2.trans (hf3.RV hf4 (fun k hk=>.inr (by omega)));refine Gz 8 ?_;refine OZ (OP (P0 rfl rfl)) rfl (fun h15=>?_) (fun h15=>?_)
  ·have hbad:¬ eC X:=fun h=>by have:=(h.1 k (by omega)).1;rw[fO] at h15;rw[this] at h15;cases h15
   refine Gz 34 ?_;exact⟨_,rfl,by rw[R5 hbad],hF4⟩
  have g1:Su (pR X k) (X.getD k x0).1=true:=by rw[fO] at h15;revert h15;cases Su (pR X k) (X.getD k x0).1<;>simp
  refine Gz 3 ?_;refine cW (Pg ty9 rfl) ?_;refine fW 0 ?_ ?_<;>intro h20
  ·have hbad:¬ eC X:=fun h=>by have:=(h.1 k (by omega)).2.1;omega
   refine Gz 29 ?_;exact⟨_,rfl,by rw[R5 hbad],hF4⟩
  refine Gz 4 ?_;refine OC rfl rfl GN rfl (B0 _ 0 w4) rfl ?_;rintro _ w5 ⟨rfl,hw5⟩;subst w5;refine fW 0 ?_ ?_<;>intro h26
  ·have hbad:¬ eC X:=fun h=>(h.1 k (by omega)).2.2.1 (mY h26);refine Gz 23 ?_;exact⟨_,rfl,by rw[R5 hbad],hF4⟩
  have g3:=mZ (Int.not_le.1 h26);refine fW 5 ?_ ?_<;>intro h32
  ·have hbad:¬ eC X:=fun h=>by have:=(h.1 k (by omega)).2.2.2;omega
   refine Gz 17 ?_;exact⟨_,rfl,by rw[R5 hbad],hF4⟩
  refine Gz 17 ?_;refine aG (k+1) ?_ (by show X.length-(k+1)<X.length-k;omega);refine⟨by omega,fun i hi=>?_,hF4⟩;by_cases hik:i=k
  ·subst hik;exact⟨g1,by omega,g3,by omega⟩
  ·exact hgood i (by omega)
 refine Gz 13 ?_;refine cL (Pv rfl rfl) ?_;refine Gz 5 ?_;refine⟨_,rfl,?_,hF2⟩;have hk2:k=X.length:=by omega
 subst hk2;congr 1;exact decide_eq_decide.2 ⟨fun h=>⟨hgood,by omega⟩,fun h=>by have:=h.2;omega⟩
def iL(F:Nat→Int)(n:Nat):Prop:=
 0≤F 1∧F 1≤511∧0≤F 2∧F 2≤2047∧0≤F 3∧F 3≤2047∧1≤F 4∧F 4≤1024∧0≤F 5∧F 5≤4294967295 ∧
 ((F 0=2∧0≤F 7∧F 7≤4096∧0≤F 8∧F 8≤1024∧(0<F 8↔0<F 7%128)∧0≤F 6∧F 6≤4294967295∧0≤F 9∧F 9<128∧(0<F 8∨F 9=0)∧n=0) ∨
  (F 0=1∧0≤F 6∧F 6≤4294967295∧0≤F 7∧F 7≤1048576∧F 4=1∧F 8=0∧F 9=0∧n=0) ∨
  (F 0=3∧1≤n∧n≤200∧F 6=0∧F 7=0∧F 8=0∧F 9=0))
def iW(F:Nat→Int)(T:By):Prop:=iL F T.length∧(F 0=3→(0:UInt8)∉T)
instance (F:Nat→Int)(T:By):Decidable (iW F T):=by unfold iW iL;exact inferInstance
def okF(F:Nat→Int)(x:Fd):Prop:=0≤F x.o∧F x.o≤x.m
theorem Ib{F:Nat→Int}(h:∀ x∈aR (F 0),okF F x) :
 (0≤F 1∧F 1≤511∧0≤F 2∧F 2≤2047∧0≤F 3∧F 3≤2047∧0≤F 4∧F 4≤1024∧0≤F 5∧F 5≤4294967295) ∧
 (F 0=2→0≤F 6∧F 6≤4294967295∧0≤F 7∧F 7≤4096∧0≤F 8∧F 8≤1024∧0≤F 9∧F 9≤127) ∧
 (F 0=1→0≤F 6∧F 6≤4294967295∧0≤F 7∧F 7≤1048576):=by
 refine⟨?_,fun e=>?_,fun e=>?_⟩
 · have h2:∀ x∈pD,okF F x:=fun x hx=>h x (SO.2 (.inl hx))
   simp only[pD,TP,okF] at h2;omega
 · have h2:∀ x∈tL,okF F x:=fun x hx=>h x (SO.2 (.inr (by unfold fP;rw[R4 e];exact hx)))
   simp only[tL,TP,okF] at h2;omega
 · have h2:∀ x∈pA,okF F x:=fun x hx=>h x (SO.2 (.inr (by unfold fP;rw[R3 (by omega),R4 e];exact hx)))
   simp only[pA,TP,okF] at h2;omega
theorem xS{F:Nat→Int}{T:By}(h:iW F T):∀ x∈aR (F 0),okF F x:=by
 intro x hx;have h1:=h.1;unfold iL at h1;unfold okF;rcases SO.1 hx with hx|hx
 · simp only[pD,St,SD,or_false] at hx
   rcases hx with rfl|rfl|rfl|rfl|rfl<;>(simp only;omega)
 · unfold fP at hx
   split at hx
   · simp only[tL,St,SD,or_false] at hx
     rcases hx with rfl|rfl|rfl|rfl<;>(simp only;omega)
   · split at hx
     · simp only[pA,St,SD,or_false] at hx
       rcases hx with rfl|rfl<;>(simp only;omega)
     ·cases hx
def eI(F:Nat→Int)(L:List Fd):Nat→Int:=fun o=>if o∈L.map (·.o) then F o else 0
def rZ(G:Nat→Int)(U:By)(F:Nat→Int)(T:By):Prop:=(∀ o,o<10→G o=F o)∧U=T
instance (G:Nat→Int)(U:By)(F:Nat→Int)(T:By):Decidable (rZ G U F T):=by unfold rZ;exact inferInstance
theorem AH(F:Nat→Int)(L:List Fd)(x:Fd):upd (eI F L) x.o (F x.o)=eI F (L++[x]):=by
 funext q;unfold upd eI;by_cases h:q=x.o
 ·subst h;simp
 · by_cases h2:q∈L.map (·.o)
   ·rw[R3 h,R4 h2,R4 (by simp at h2 ⊢;exact .inl h2)]
   ·rw[R3 h,R3 h2,R3 (by simp at h2 ⊢;exact⟨h2,h⟩)]
theorem BZ(F:Nat→Int):eI F []=fun _=>0:=by funext q;simp[eI]
theorem sW(F:Nat→Int)(U T:By):rZ (upd (eI F (aR (F 0))) 0 (F 0)) U F T↔(F 0≠2→F 8=0∧F 9=0)∧(F 0≠2→F 0≠1→F 6=0∧F 7=0)∧U=T:=by
 unfold rZ;have hcom:∀ o,(o=1∨o=2∨o=3∨o=4∨o=5)→eI F (aR (F 0)) o=F o:=fun o ho=>by
  unfold eI aR;rw[R4];rw[Uc,SO];left;simp[pD];omega
 have hval:∀ o,6≤o→(eI F (aR (F 0)) o=if o∈(fP (F 0)).map (·.o) then F o else 0):=fun o ho=>by
  unfold eI aR;congr 1;rw[Uc,SO];simp[pD];omega
 constructor
 · rintro⟨h,hU⟩
   have g:∀ o,6≤o→o<10→(if o∈(fP (F 0)).map (·.o) then F o else 0)=F o:=fun o h6 h10=>by
    have:=h o h10;unfold upd at this;rw[R3 (by omega),hval o h6] at this;exact this
   have g6:=g 6 (by decide) (by decide);have g7:=g 7 (by decide) (by decide);have g8:=g 8 (by decide) (by decide);have g9:=g 9 (by decide) (by decide);refine⟨fun h2=>?_,fun h2 h1=>?_,hU⟩
   · by_cases h1:F 0=1
     ·simp[fP,h1,pA] at g8 g9;omega
     ·simp[fP,h1,h2] at g8 g9;omega
   ·simp[fP,h1,h2] at g6 g7;omega
 · rintro⟨h8,h6,hU⟩
   refine⟨fun o ho=>?_,hU⟩;unfold upd;by_cases h0:o=0
   ·rw[R4 h0,h0]
   · rw[R3 h0]
     by_cases h5:o<6
     ·exact hcom o (by omega)
     · rw[hval o (by omega)]
       by_cases h2:F 0=2
       ·rw[R4];simp[fP,h2,tL];omega
       · have h8':=h8 h2
         by_cases h1:F 0=1
         · by_cases h7:o<8
           ·rw[R4];simp[fP,h1,pA];omega
           · rw[R3 (by simp[fP,h1,pA];omega)]
             have:o=8∨o=9:=by omega
             rcases this with rfl|rfl<;>omega
         · have h6':=h6 h2 h1
           rw[R3 (by simp[fP,h1,h2])];have:o=6∨o=7∨o=8∨o=9:=by omega
           rcases this with rfl|rfl|rfl|rfl<;>omega
section
variable {N:Nt}{l:SF}{ty:TypeId}{pos:String}{aft:Array Edge}{CH:Array Obj→Prop}{x y:Operand}{t':TypeId}{g:Option (Nat×Bool)}{dd:Option Nat}
theorem Kr(G:Nat→Int)(U:By)(F:Nat→Int)(T:By)(w:World):(Op.equalIn 10000 88 (.agg (bG G U).toArray) (.agg (bG F T).toArray)).run Tryz.prog w=.ok (decide (rZ G U F T)) w:=by
 have h0:=run_equalIn_struct (P:=Tryz.prog) w 9999 88 (bG G U).toArray (bG F T).toArray (by kernel_rfl) (by kernel_rfl);refine h0.trans ?_;obtain⟨r,hr,hr2⟩:=pY (P:=Tryz.prog) w (d:=9998) (d1:=9999) rfl (xs:=(bG G U).toArray) (ys:=(bG F T).toArray) (Tryz.prog.fieldsOf 88).toList (by
  unfold Program.fieldsOf;rw[Tryz.underlying88];simp only[TP];refine⟨⟨by decide,_,_,rfl,rfl,?_,?_⟩,⟨by decide,_,_,rfl,rfl,?_,?_⟩,⟨by decide,_,_,rfl,rfl,?_,?_⟩,⟨by decide,_,_,rfl,rfl,?_,?_⟩,⟨by decide,_,_,rfl,rfl,?_,?_⟩,⟨by decide,_,_,rfl,rfl,?_,?_⟩,⟨by decide,_,_,rfl,rfl,?_,?_⟩,⟨by decide,_,_,rfl,rfl,?_,?_⟩,⟨by decide,_,_,rfl,rfl,?_,?_⟩,⟨by decide,_,_,rfl,rfl,?_,?_⟩,⟨by decide,_,_,rfl,rfl,?_,?_⟩,by simp⟩<;>first|(unfold okV;rw[ty3];exact(rfl:IntKind.i64=IntKind.i64))|(unfold okV;rw[ty9];exact trivial))
 suffices hsf:r=decide (rZ G U F T) by rw[←hsf];exact hr
 rw[Bool.eq_iff_iff,hr2,decide_eq_true_iff];unfold Program.fieldsOf;rw[Tryz.underlying88];constructor
 · intro h
   have h2:bG G U=bG F T:=by
    simp only[TP] at h;obtain⟨a0,a1,a2,a3,a4,a5,a6,a7,a8,a9,a10,_⟩:=h;apply Gw;intro o ho
    match o,ho with
   |0,_=>simpa using a0
   |1,_=>simpa using a1
   |2,_=>simpa using a2
   |3,_=>simpa using a3
   |4,_=>simpa using a4
   |5,_=>simpa using a5
   |6,_=>simpa using a6
   |7,_=>simpa using a7
   |8,_=>simpa using a8
   |9,_=>simpa using a9
   |10,_=>simpa using a10
   exact Gv h2
 · rintro⟨h1,h2⟩ f _
   rw[IR h1 h2]
theorem QB{G F:Nat→Int}{U T:By}(hx:evL l x=some (.agg (bG G U).toArray))(hy:evL l y=some (.agg (bG F T).toArray)):Cm Tryz.prog N CH l ⟨dd,.binOp .neq 88 x y t',ty,pos,aft,g⟩ (.bool (decide (¬ rZ G U F T))):=fun a w ha _=>by
 have h1:=run_eqGuard_agg (P:=Tryz.prog) w .neq 88 x y (bG G U).toArray (bG F T).toArray (by kernel_rfl);have h2:=run_neq_struct (P:=Tryz.prog) w 88 (bG G U).toArray (bG F T).toArray;rw[Kr] at h2;simp only[execOp,ha.ev hx,ha.ev hy,Sem.run_bind,h1,h2,Result.andThen_ok,Sem.run_pure];simp
end
theorem yT{L:List Fd}{k:Nat}(h:k<L.length):L.take (k+1)=L.take k++[L.getD k fd0]:=by
 rw[Sv h];simp[Sj,h]
theorem G0{H:Array Obj}{ao:Option Addr}{c:Nat}{L:List Fd}(h:VwM 3 fdV H ao c L){k:Nat}{z:Int}(hz:z=k)(hk:k<L.length) :
 ∀ j v,(fdV (L.getD k fd0))[j]?=some v→aS H ((adr ao (z.toNat*3)).add j)=some v:=by
 have e:L[k]?=some (L.getD k fd0):=by simp[Sj,hk]
 exact h.rowZ k hz e
theorem qG{p:Prop}[Decidable p](h:¬ p):Value.bool false=.bool (decide p):=by rw[R5 h]
theorem HI{p:Prop}[Decidable p](h:p):Value.bool true=.bool (decide p):=by rw[R8 h]
theorem Km(F:Nat→Int)(T:By)(W:World)(hT:T.length≤maxLen) :
 CA 125 [.agg (bG F T).toArray] W fun v w'=>v=.bool (decide (iW F T))∧aA nob W w':=by
 refine cS 100 [(0,_)] Tryz.func125 ?_;refine Gz 2 ?_;refine OR rfl rfl ?_;intro w1 hg1 hs1 hf1;have hg1:w1.heap[W.heap.size]?=some (.cells (bG F T).toArray 88 (0,0)):=hg1;refine Gz 4 ?_;refine OI 6 (fun H=>H[W.heap.size]?=some (.cells (bG F T).toArray 88 (0,0))) [0,3,4] [1,2,0,3,4,5] aM (by kernel_rfl) (hg1) ?_;refine Gz 2 ?_;refine OE rfl rfl (Ot JL rfl (wV _) rfl ?_);rintro _ w2 ⟨ao2,c2,rfl,ho2,hfr2,hf2⟩;refine OK (by exact hf2.obj hg1 id) ?_;refine OE rfl rfl (Ot JK rfl (wP (F 0) w2) rfl ?_);rintro _ w3 ⟨ao3,c3,rfl,ho3,hfr3,hf3⟩;refine OK (by exact hf3.obj (hf2.obj hg1 id) id) ?_;refine OE rfl rfl (Pn dJ rfl pM rfl rfl (ho2.RY hf3) (ho3.vw dJ) (by have:=gQ (F 0);unfold aR at this;rw[R6] at this;omega) (by have:=gQ (F 0);unfold aR at this;rw[R6] at this;unfold maxLen;omega) rfl ?_);intro ao4 c4 w4 ho4 hf4 hr4 hn4;have hfr2:Fr w1.heap.size ao2:=hfr2;have hg4:=hf4.obj (hf3.obj (hf2.obj hg1 id) id) (fun⟨a,ha,hb⟩=>by have:=hfr2 a ha;omega);have hF3:aA nob W w3:=(hf1.trans hf2.RW).trans hf3;have hF4:aA nob W w4:=hF3.RV hf4 (fun k ⟨a,ha,hb⟩=>.inr (by have:=hfr2 a ha;omega));refine OK (by exact hg4) ?_;refine Gz 5 ?_;refine Ov EZ rfl ?_;intro w5 hg5 hs5 hf5;have hg5:w5.heap[w4.heap.size]?=some (.cells (bG (fun _=>0) []).toArray 88 (0,0)):=hg5;have hlt4:W.heap.size<w4.heap.size:=by have:=hf2.size;have:=hf3.size;have:=hf4.size;have:w1.heap.size≤w2.heap.size:=hf2.RW.size;omega
 have hF5:=hF4.trans hf5;have hp5:=hf5.obj hg4 id;have hL5:VwM 3 fdV w5.heap ao4 c4 (aR (F 0)):=(ho4.vw dJ).RY hf5;have hLlen:=gQ (F 0);have hne4:∀ a,ao4=some a→a.block<w4.heap.size:=fun a ha=>ho4.lt a ha;refine Gz 11 ?_;refine Oy (β:=Nat) (fun k=>[(1,pT W.heap.size),(4,pT w4.heap.size),(14,.slice ao4 (aR (F 0)).length c4),(15,iV (aR (F 0)).length),(16,iV k)]) (fun k w=>k≤(aR (F 0)).length∧w.heap[w4.heap.size]?=some (.cells (bG (eI F ((aR (F 0)).take k)) []).toArray 88 (0,0))∧(∀ x∈(aR (F 0)).take k,okF F x)∧w.heap[W.heap.size]?=some (.cells (bG F T).toArray 88 (0,0))∧VwM 3 fdV w.heap ao4 c4 (aR (F 0))∧w4.heap.size<w.heap.size∧aA nob W w) (fun k=>(aR (F 0)).length-k) 0 ⟨rfl,rfl,rfl,rfl,rfl,trivial⟩ ⟨Sf _,by rw[List.take_zero,BZ];exact hg5,by simp,hp5,hL5,by omega,hF5⟩ ?_;rintro k w6 ⟨hk,hq,hall,hp,hL,hlt6,hF6⟩;refine fK 2 ?_ ?_<;>intro h17
 ·refine Gz 10 ?_;have hkL:k<(aR (F 0)).length:=by omega
  have hrow:=G0 hL (k:=k) rfl hkL;have hmem:=xT hkL;obtain⟨⟨hfn,ho10,ho0,hcall⟩,hb1,hb4,hm0,hmb⟩:=mW hmem;obtain⟨x,hx⟩:∃ x,x=(aR (F 0)).getD k fd0:=⟨_,rfl⟩
  rw[←hx] at hrow hmem hfn ho10 ho0 hcall hb1 hb4 hm0;refine cL (OA pM rfl rfl hL.non (by omega)) ?_;refine cL (OG (cs:=fdV x) zE rfl hrow) ?_;refine Ov fX rfl ?_;intro w7 hg7 hs7 hf7;refine sA rfl zE (by simp[fdV,Value.oneCell']) hg7 ?_;intro w8 hg8 hs8 hf8;have hF8:aA nob w6 w8:=hf7.RV hf8 (fun k hk=>.inr (by omega));have hp8:=hF8.obj hp id;have hq8:=hF8.obj hq id;refine Gz 6 ?_;refine Pt hfn rfl rfl (hcall W.heap.size w8) rfl ?_;rintro _ w9 ⟨rfl,hw9⟩;subst w9;refine Gz 1 ?_;refine cL (Ow aL rfl (aY hp8 (nM F T ho10))) ?_;refine fK 7 ?_ ?_<;>intro h26
  ·have hbad:¬ iW F T:=fun h=>by have:=xS h x hmem;unfold okF at this;omega
   refine Gz 22 ?_;exact⟨_,rfl,qG hbad,(hF6.trans hF8)⟩
  refine fW 4 ?_ ?_<;>intro h31
  ·have hbad:¬ iW F T:=fun h=>by have:=xS h x hmem;unfold okF at this;omega
   refine Gz 17 ?_;exact⟨_,rfl,qG hbad,(hF6.trans hF8)⟩
  refine Gz 9 ?_;refine Pt hfn rfl rfl (hcall w4.heap.size w8) rfl ?_;rintro _ w9 ⟨rfl,hw9⟩;subst w9;refine Gz 2 ?_;refine OF aL rfl rfl rfl hq8 (by simp[bG];omega) ?_;intro w10 hg10 hs10 hf10;rw[AK _ _ ho10,AH,hx,←yT hkL] at hg10;refine Gz 7 ?_;refine aG (k+1) ?_ (by show (aR (F 0)).length-(k+1)<(aR (F 0)).length-k;omega);have hF10:aA (· = w4.heap.size) w6 w10:=(hF8.mono (fun _ h=>h.elim)).trans hf10;refine⟨by omega,hg10,fun y hy=>?_,hF10.obj hp (by omega),hL.RZ hF10 (fun a ha e=>by have:=hne4 a ha;omega),by have:=hF10.size;omega,(hF6.trans hF8).RV hf10 (fun k hk=>.inr (by omega))⟩;rw[yT hkL,←hx] at hy;rcases SO.1 hy with hy|hy
  ·exact hall y hy
  ·rw[SE] at hy;subst hy;unfold okF;omega
 refine Gz 12 ?_;have hfin:=Dz hk (by assumption);rw[hfin] at hq hall;obtain⟨k0,k2,k1⟩:=Ib hall;refine Gz 2 ?_;refine OF aL rfl rfl rfl hq rfl ?_;intro w11 hg11 hs11 hf11;have hg11:w11.heap[w4.heap.size]?=some (.cells (bG (upd (eI F (aR (F 0))) 0 (F 0)) []).toArray 88 (0,0)):=by rw[←AK _ _ (by decide)];exact hg11
 have hp11:=hf11.obj hp (by omega);have hF11:aA nob W w11:=hF6.RV hf11 (fun k hk=>.inr (by omega));refine Gz 2 ?_;refine O1 (β:=By) (fun U=>[(1,pT W.heap.size),(4,pT w4.heap.size)]) (fun U w=>(if F 0=3 then T else [])=U∧w.heap[w4.heap.size]?=some (.cells (bG (upd (eI F (aR (F 0))) 0 (F 0)) U).toArray 88 (0,0))∧w.heap[W.heap.size]?=some (.cells (bG F T).toArray 88 (0,0))∧aA nob W w) ?_ ?_
 ·refine fK 4 ?_ ?_<;>intro h44
  ·refine Gz 7 ?_;refine OF lV rfl rfl rfl hg11 rfl ?_;intro w12 hg12 hs12 hf12;have hp12:=hf12.obj hp11 (show ¬ (W.heap.size=w4.heap.size) by omega);have hF12:aA nob W w12:=hF11.tw hf12;refine Gz 1 ?_;refine aC (if F 0=3 then T else []) ?_;exact⟨rfl,by rw[R4 h44];exact hg12,hp12,hF12⟩
  refine Gz 4 ?_;refine aC (if F 0=3 then T else []) ?_;exact⟨rfl,by rw[R3 h44];exact hg11,hp11,hF11⟩
 rintro U w13 ⟨hU,hqz,hpz,hFz⟩;refine Gz 3 ?_;refine cL (OG (cs:=bG (upd (eI F (aR (F 0))) 0 (F 0)) U) qB rfl (fun j v hj=>aD hqz hj)) ?_;refine cL (OG (cs:=bG F T) qB rfl (fun j v hj=>aD hpz hj)) ?_;refine OZ (QB rfl rfl) rfl (fun h50=>?_) (fun h50=>?_)
 ·rw[sW,←hU] at h50;have hbad:¬ iW F T:=fun h=>by have:=h.1;unfold iL at this;apply h50;refine⟨fun _=>by omega,fun _ _=>by omega,?_⟩;by_cases h3:F 0=3;rw[R4 h3];rw[R3 h3];exact(SB (by omega)).symm
  refine Gz 16 ?_;exact⟨_,rfl,qG hbad,hFz⟩
 have hsame:=(sW F U T).1 (Decidable.not_not.1 h50);obtain⟨s8,s6,sU⟩:=hsame;have sT:F 0≠3→T.length=0:=fun h3=>by rw[←sU,←hU,R3 h3];rfl
 refine fW 3 ?_ ?_<;>intro h54
 ·have hbad:¬ iW F T:=fun h=>by have:=h.1;unfold iL at this;omega
  refine Gz 12 ?_;exact⟨_,rfl,qG hbad,hFz⟩
 refine fK 16 ?_ ?_<;>intro h59
 ·refine Gz 8 ?_;refine cL (QF rfl rfl (by omega) (by decide)) ?_;refine fK 0 ?_ ?_<;>intro h63
  ·refine fK 7 ?_ ?_<;>intro h66
   ·refine Gz 1 ?_;refine cL (Pm ty4 rfl rfl) ?_;refine Gz 15 ?_;exact⟨_,rfl,HI ⟨by unfold iL;omega,fun h3=>by first|exact hnul|omega⟩,hFz⟩
   refine Gz 1 ?_;refine cL (Pm ty4 rfl rfl) ?_;refine Gz 15 ?_;exact⟨_,rfl,qG (fun h=>by have:=h.1;unfold iL at this;omega),hFz⟩
  refine fK 7 ?_ ?_<;>intro h66
  ·refine Gz 1 ?_;refine cL (Pm ty4 rfl rfl) ?_;refine Gz 15 ?_;exact⟨_,rfl,qG (fun h=>by have:=h.1;unfold iL at this;omega),hFz⟩
  refine Gz 1 ?_;refine cL (Pm ty4 rfl rfl) ?_;refine fW 5 ?_ ?_<;>intro h74
  ·refine Gz 9 ?_;exact⟨_,rfl,HI ⟨by unfold iL;omega,fun h3=>by first|exact hnul|omega⟩,hFz⟩
  refine Gz 9 ?_;exact⟨_,rfl,qG (fun h=>by have:=h.1;unfold iL at this;omega),hFz⟩
 refine fK 6 ?_ ?_<;>intro h78
 ·refine fK 8 ?_ ?_<;>intro h81
  ·refine Gz 7 ?_;exact⟨_,rfl,HI ⟨by unfold iL;omega,fun h3=>by first|exact hnul|omega⟩,hFz⟩
  refine Gz 7 ?_;exact⟨_,rfl,qG (fun h=>by have:=h.1;unfold iL at this;omega),hFz⟩
 refine fK 6 ?_ ?_<;>intro h83
 ·refine Gz 8 ?_;refine cL (Pg ty9 rfl) ?_;refine fK 0 ?_ ?_<;>intro h87
  ·refine Gz 3 ?_;refine cW (Pg ty9 rfl) ?_;refine fW 0 ?_ ?_<;>intro h92
   ·refine Gz 4 ?_;refine OC rfl rfl GN rfl (B0 _ 0 w13) rfl ?_;rintro _ w14 ⟨rfl,hw14⟩;subst w14;refine fW 0 ?_ ?_<;>intro h98
    ·have hnul:=mZ h98;refine Gz 8 ?_;exact⟨_,rfl,HI ⟨by unfold iL;omega,fun h3=>by first|exact hnul|omega⟩,hFz⟩
    have hnul:=mY (Int.not_lt.1 h98);refine Gz 8 ?_;exact⟨_,rfl,qG (fun h=>h.2 (by omega) hnul),hFz⟩
   refine Gz 14 ?_;exact⟨_,rfl,qG (fun h=>by have:=h.1;unfold iL at this;omega),hFz⟩
  refine Gz 19 ?_;exact⟨_,rfl,qG (fun h=>by have:=h.1;unfold iL at this;omega),hFz⟩
 refine Gz 14 ?_;exact⟨_,rfl,qG (fun h=>by have:=h.1;unfold iL at this;omega),hFz⟩
end Go.Proofs.YthmmmagklhiiiaaGreatDoor
