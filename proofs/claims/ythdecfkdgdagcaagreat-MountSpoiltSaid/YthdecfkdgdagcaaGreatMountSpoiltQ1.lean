/- lamella: what the law needs. No condition beyond the bounds that each states. -/
import Derived.WalkKit
import Derived.WalkSpells
import Derived.WalkLawsBesides
import Derived.Deep.Quiet
import Derived.Deep.LoopGhost
import Derived.Orders
import Derived.Test.YthdecfkdgdagcaaGreatRows
import Derived.IntWalk
import Derived.Laws.BytesArg
import Derived.StillTail
import Derived.KernelRfl
import Derived.Lib.Bytealg
import Derived.Lib.ConvBytes
import Derived.Laws.Small
import Derived.Laws.StructEq
import Derived.Laws.Rows
import Derived.ProofKit
import Derived.OpenShut
import Derived.ShutString
import Derived.ChangeOld
import Derived.Below
import Derived.Deep.Slices
import Derived.Deep.SlicePairs
import Derived.Deep.Fields
import Derived.ChangeKeysEq
import Derived.Maps.Keyed
import Derived.WideKeyArr2
namespace Go.Proofs.YthdecfkdgdagcaaGreat
open Go Go.RowKit
set_option linter.unusedVariables false
set_option linter.unusedSectionVars false
set_option maxHeartbeats 64000000
open List (append_assoc cons_append drop_drop drop_left' eq_nil_of_length_eq_zero ext_getElem? length_append length_cons length_drop length_nil length_pos_iff length_singleton length_take map_cons map_map map_nil map_toArray mem_cons mem_map mem_of_getElem? mem_range nil_append not_mem_nil range'_succ range_succ size_toArray take_append take_left' take_of_length_le)
open Classical (byContradiction)
open Option (map_some)
abbrev SF:=List (Nat×Value)
def lk:SF→Nat→Option Value
|[],_=>none
|(s,v)::r,t=>bif Nat.beq s t then some v else lk r t
theorem qG{d:Nat}{v:Value}{l:SF}:lk ((d,v)::l) d=some v:=by simp[lk]
theorem mZ{d t:Nat}{v:Value}{l:SF}(h:d≠t):lk ((d,v)::l) t=lk l t:=by
 have:Nat.beq d t=false:=by rw[←Bool.not_eq_true,Nat.beq_eq];exact h
 simp[lk,this]
def evL(l:SF):Operand→Option Value
|.tmp t=>lk l t
|.const v=>some v
|.global g=>some (.pointer (some ⟨g,0,none⟩))
|.func f=>some (.func (.func f) #[] #[])
structure Nt where
 n:Nat
 ds:List Deferred
structure cK (N:Nt)(l:SF)(a:Act):Prop where
 dfr:a.defers=N.ds
 siz:a.tmps.size=N.n
 has:∀ t v,lk l t=some v→a.tmps[t]?=some v
theorem cK.ev{N:Nt}{l:SF}{a:Act}(h:cK N l a){x:Operand}{v:Value}(hx:evL l x=some v):a.eval x=v:=by
 cases x with
|tmp t=>have:=h.has t v hx;simp[Act.eval,this]
|const u=>simpa[evL,Act.eval] using hx
|global g=>simpa[evL,Act.eval] using hx
|func f=>simpa[evL,Act.eval] using hx
theorem cK.put{N:Nt}{l:SF}{a:Act}(h:cK N l a){d:Nat}(hd:Nat.blt d N.n=true)(v:Value):cK N ((d,v)::l) (a.put (some d) v):=by
 have hd':d<N.n:=by simpa[Nat.blt_eq] using hd
 refine⟨h.dfr,by simp[Act.put,h.siz],fun t u ht=>?_⟩;by_cases e:d=t
 · subst e
   rw[qG] at ht;cases ht;simp[Act.put,h.siz,hd']
 · rw[mZ e] at ht
   have:=h.has t u ht;simp only[Act.put];rw[Array.getElem?_setIfInBounds_ne e];exact this
def Sub:SF→SF→Prop
|[],_=>True
|(t,v)::r,l=>lk l t=some v∧Sub r l
theorem Sub.lk:∀ {l' l:SF},Sub l' l→∀ t v,Go.Proofs.YthdecfkdgdagcaaGreat.lk l' t=some v→Go.Proofs.YthdecfkdgdagcaaGreat.lk l t=some v
|[],_,_,t,v,h=>by simp[Go.Proofs.YthdecfkdgdagcaaGreat.lk] at h
|(s,u)::r,l,hs,t,v,h=>by
   by_cases e:s=t
   ·subst e;rw[qG] at h;cases h;exact hs.1
   ·rw[mZ e] at h;exact Sub.lk hs.2 t v h
theorem cK.sub{N:Nt}{l l':SF}{a:Act}(h:cK N l a)(hs:Sub l' l):cK N l' a:=⟨h.dfr,h.siz,fun t v ht=>h.has t v (hs.lk t v ht)⟩
section
variable {P:Program}{N:Nt}{Q:Exit→Act→World→Prop}{l:SF}{w:World}
def Sc(P:Program)(N:Nt)(c:Code)(Q:Exit→Act→World→Prop)(l:SF)(w:World):Prop:=∀ a,cK N l a→c.wp P Q a w
def Sl(P:Program)(N:Nt)(ops:Array Oper)(Q:Exit→Act→World→Prop)(rest:List Oper)(l:SF)(w:World):Prop:=∀ a,cK N l a→wpList P ops Q rest a w
theorem Wm{x y:Code}(h:Sc P N x (Exit.then (y.wp P Q) Q) l w):Sc P N (.seq x y) Q l w:=fun a ha=>wp_seq (h a ha)
theorem VM{id:Nat}{c:Code}(h:Sc P N c (Exit.inBlock id Q) l w):Sc P N (.block id c) Q l w:=fun a ha=>wp_block (h a ha)
theorem VA{id:Nat}{ops:List Oper}(h:Sl P N ops.toArray Q ops l w):Sc P N (.region id ops.toArray false) Q l w:=fun a ha=>wp_region_lit (h a ha)
theorem VB{c:Operand}{x y:Code}(hc:evL l c=some (.bool true))(h:Sc P N x Q l w):Sc P N (.cond c x y) Q l w:=fun a ha=>wp_cond (ha.ev hc) (h a ha)
theorem VC{c:Operand}{x y:Code}(hc:evL l c=some (.bool false))(h:Sc P N y Q l w):Sc P N (.cond c x y) Q l w:=fun a ha=>wp_cond (ha.ev hc) (h a ha)
def At(N:Nt)(e:Exit)(Q:Exit→Act→World→Prop)(l:SF)(w:World):Prop:=∀ a,cK N l a→Q e a w
theorem V2(h:At N .normal Q l w):Sc P N .skip Q l w:=fun a ha=>wp_skip (h a ha)
theorem Wn(h:At N .ret Q l w):Sc P N .ret Q l w:=fun a ha=>wp_ret (h a ha)
theorem V3{id:Nat}(h:At N (.exit id) Q l w):Sc P N (.exit id) Q l w:=fun a ha=>wp_exit (h a ha)
theorem Wo{ops:Array Oper}(h:At N .normal Q l w):Sl P N ops Q [] l w:=fun a ha=>wpList_nil (h a ha)
theorem Ws{y:Code}(h:Sc P N y Q l w):At N .normal (Exit.then (y.wp P Q) Q) l w:=fun a ha=>h a ha
theorem Vb{K:Act→World→Prop}(h:At N .ret Q l w):At N .ret (Exit.then K Q) l w:=fun a ha=>h a ha
theorem U4{K:Act→World→Prop}{id:Nat}(h:At N (.exit id) Q l w):At N (.exit id) (Exit.then K Q) l w:=fun a ha=>h a ha
theorem U5{i:Nat}(h:At N .ret Q l w):At N .ret (Exit.inBlock i Q) l w:=fun a ha=>h a ha
theorem UQ{i:Nat}(h:At N .normal Q l w):At N .normal (Exit.inBlock i Q) l w:=fun a ha=>h a ha
theorem U6{i:Nat}(h:At N .normal Q l w):At N (.exit i) (Exit.inBlock i Q) l w:=fun a ha=>by
 show (if i=i then Q .normal a w else Q (.exit i) a w);rw[if_pos rfl];exact h a ha
theorem V4{e:Exit}(l':SF)(hs:Sub l' l)(h:At N e Q l' w):At N e Q l w:=fun a ha=>h a (ha.sub hs)
def LN(N:Nt){β:Type}(L:β→SF)(J:β→World→Prop)(μ:β→Nat)(b:β)(a':Act)(w':World):Prop:=∃ b',cK N (L b') a'∧J b' w'∧μ b'<μ b
theorem TA{β:Type}(L:β→SF)(J:β→World→Prop)(μ:β→Nat){c:Code}(b0:β)(hl:Sub (L b0) l)(h0:J b0 w)
 (round:∀ b w,J b w→Sc P N c (Exit.then (LN N L J μ b) Q) (L b) w):Sc P N (.loop c) Q l w:=by
 intro a ha;refine wp_loop_ghost (fun n a w=>∃ b,μ b=n∧cK N (L b) a∧J b w) (μ b0) ⟨b0,rfl,ha.sub hl,h0⟩ ?_;rintro n a w ⟨b,rfl,hL,hJ⟩;refine wp_mono (round b w hJ a hL) ?_;intro e a' w' hq;cases e with
|normal=>obtain⟨b',h1,h2,h3⟩:=hq;exact⟨μ b',h3,b',rfl,h1,h2⟩
|exit id=>exact hq
|goto l=>exact hq
|ret=>exact hq
|panic ch=>exact hq
|outgrown=>exact hq
theorem TO{β:Type}{L:β→SF}{J:β→World→Prop}{μ:β→Nat}{b:β}(b':β)(hl:Sub (L b') l)(hJ:J b' w)(hm:μ b'<μ b) :
 At N .normal (Exit.then (LN N L J μ b) Q) l w:=fun _ ha=>⟨b',ha.sub hl,hJ,hm⟩
theorem TY{x y:Code}{β:Type}(L:β→SF)(J:β→World→Prop)(h1:Sc P N x (Exit.then (fun a w=>∃ b,cK N (L b) a∧J b w) Q) l w)
 (h2:∀ b w,J b w→Sc P N y Q (L b) w):Sc P N (.seq x y) Q l w:=fun a ha=>
 wp_seq (wp_mono (h1 a ha) fun e a' w' hq=>by
  cases e with
 |normal=>obtain⟨b,h3,h4⟩:=hq;exact h2 b w' h4 a' h3
 |exit id=>exact hq
 |goto l=>exact hq
 |ret=>exact hq
 |panic ch=>exact hq
 |outgrown=>exact hq)
theorem T8{β:Type}{L:β→SF}{J:β→World→Prop}(b:β)(hl:Sub (L b) l)(hJ:J b w) :
 At N .normal (Exit.then (fun a w=>∃ b,cK N (L b) a∧J b w) Q) l w:=fun _ ha=>⟨b,ha.sub hl,hJ⟩
theorem DQ{P:Program}{f:FuncId}{fn:Func}{c:Code}{args:List Value}{w:World}{R:Ending→World→Prop}(N:Nat)(l:SF)
 (hf:P.funcs[f]?=some fn)(hb:fn.body=some c)(hN:fn.ntmps=N)(hle:Nat.ble args.length N=true)
 (hl:∀ t v,lk l t=some v→args[t]?=some v)
 (h:Sc P ⟨N,[]⟩ c (bodyPost P fn R) l w):Calls P f args.toArray w R:=by
 refine calls_of_wp hf hb (h _ ⟨rfl,?_,?_⟩)
 · have:args.length≤N:=by simpa[Nat.ble_eq] using hle
   simp[hN];omega
 · intro t v ht
   have:=hl t v ht;have hlt:t<args.length:=(List.getElem?_eq_some_iff.1 this).1;rw[List.getElem?_eq_getElem hlt] at this;simpa[Array.getElem?_append,hlt] using this
theorem uM{args:List Value}{l:SF}(h:Sub l ((List.range args.length).zip args)):∀ t v,lk l t=some v→args[t]?=some v:=by
 have key:∀ (vs:List Value) (k:Nat) t v,lk ((List.range' k vs.length).zip vs) t=some v→vs[t-k]?=some v:=by
  intro vs
  induction vs with
 |nil=>intro k t v h;simp[lk] at h
 |cons x xs ih=>
    intro k t v h;simp only[length_cons,range'_succ,List.zip_cons_cons] at h;by_cases e:k=t
    ·subst e;rw[qG] at h;cases h;simp
    · rw[mZ e] at h
      have h2:=ih (k+1) t v h;by_cases hlt:k<t
      ·rw[show t-k=(t-(k+1))+1 by omega];simpa using h2
      · have hnone:lk ((List.range' (k+1) xs.length).zip xs) t=none:=by
         have:∀ (ys:List Value) (m:Nat),t<m→lk ((List.range' m ys.length).zip ys) t=none:=by
          intro ys
          induction ys with
         |nil=>intro m _;simp[lk]
         |cons y ys ihy=>intro m hm;simp only[length_cons,range'_succ,List.zip_cons_cons];rw[mZ (by omega)];exact ihy (m+1) (by omega)
         exact this xs (k+1) (by omega)
        rw[hnone] at h;cases h
 intro t v ht;have h1:=h.lk t v ht;rw[List.range_eq_range'] at h1;simpa using key args 0 t v h1
theorem V5{P:Program}{N:Nat}{fn:Func}{R:Ending→World→Prop}{l:SF}{w:World}{t:Nat}{v:Value}(hr:fn.results=#[.tmp t])(hv:lk l t=some v)(h:R (.returned v) w) :
 At ⟨N,[]⟩ .ret (bodyPost P fn R) l w:=fun a ha=>⟨ha.dfr,v,by rw[results_tmp hr];simp[ha.has t v hv],h⟩
theorem V6{P:Program}{N:Nat}{fn:Func}{R:Ending→World→Prop}{l:SF}{w:World}{t u:Nat}{v x:Value}(hr:fn.results=#[.tmp t,.tmp u])(hv:lk l t=some v)(hx:lk l u=some x)
 (h:R (.returned (.tuple #[v,x])) w) :
 At ⟨N,[]⟩ .ret (bodyPost P fn R) l w:=fun a ha=>⟨ha.dfr,_,by rw[results_tmp2 hr],by simpa[ha.has t v hv,ha.has u x hx] using h⟩
theorem V7{P:Program}{N:Nat}{fn:Func}{R:Ending→World→Prop}{l:SF}{w:World}{t u s:Nat}{v x y:Value}(hr:fn.results=#[.tmp t,.tmp u,.tmp s])(hv:lk l t=some v)(hx:lk l u=some x)(hy:lk l s=some y)
 (h:R (.returned (.tuple #[v,x,y])) w) :
 At ⟨N,[]⟩ .ret (bodyPost P fn R) l w:=fun a ha=>⟨ha.dfr,_,by rw[results_tmp3 hr],by simpa[ha.has t v hv,ha.has u x hx,ha.has s y hy] using h⟩
theorem Uw{P:Program}{N:Nat}{fn:Func}{R:Ending→World→Prop}{l:SF}{w:World}(hr:fn.results=#[])(h:R (.returned (.tuple #[])) w) :
 At ⟨N,[]⟩ .normal (bodyPost P fn R) l w:=fun a ha=>⟨ha.dfr,_,by rw[results_none hr],h⟩
theorem V8{P:Program}{N:Nat}{fn:Func}{R:Ending→World→Prop}{l:SF}{w:World}(hr:fn.results=#[])(h:R (.returned (.tuple #[])) w) :
 At ⟨N,[]⟩ .ret (bodyPost P fn R) l w:=fun a ha=>⟨ha.dfr,_,by rw[results_none hr],h⟩
end
def bE(H:Array Obj)(a:Addr):Option Value:=
 match H[a.block]? with
|some (.cells c _ _)=>if a.spot.isSome then none else c[a.off]?
|_=>none
theorem cell?_eq(w:World)(a:Addr):w.cell? a=bE w.heap a:=rfl
def Cm(P:Program)(N:Nt)(CH:Array Obj→Prop)(l:SF)(o:Oper)(v:Value):Prop:=
 ∀ a w,cK N l a→CH w.heap→(execOp a.eval o).run P w=.ok (.value v) w
def zZ:Value→Bool→Bool
|.bool c,b=>c != b
|.tuple _,_=>true
|_,_=>false
section
variable {P:Program}{N:Nt}{Q:Exit→Act→World→Prop}{l:SF}{w:World}{ops:Array Oper}{rest:List Oper}
variable {op:Op}{ty:TypeId}{pos:String}{aft:Array Edge}{d:Nat}{v:Value}{CH:Array Obj→Prop}
theorem UR(hv:Cm P N (· = w.heap) l ⟨some d,op,ty,pos,aft,none⟩ v)(hd:Nat.blt d N.n=true)(h:Sl P N ops Q rest ((d,v)::l) w) :
 Sl P N ops Q (⟨some d,op,ty,pos,aft,none⟩::rest) l w:=fun a ha=>by
 unfold wpList;rw[if_pos (by simp[Region.wanted])];refine .inl ?_;unfold Oper.wp;rw[hv a w ha rfl];exact h _ (ha.put hd v)
theorem kE{a:Act}(ha:cK N l a){j s:Nat}{u:Value}(hj:(ops[j]?).bind (·.dst)=some s)(hs:lk l s=some u) :
 yielded ops a.tmps j=(match u with|.bool b=>some b|_=>none):=by
 unfold yielded;rw[hj];simp only[Option.bind_some,ha.has s u hs];cases u<;>rfl
theorem US{j s:Nat}{b:Bool}(hj:(ops[j]?).bind (·.dst)=some s)(hs:lk l s=some (.bool b))
 (hv:Cm P N (· = w.heap) l ⟨some d,op,ty,pos,aft,some (j,b)⟩ v)(hd:Nat.blt d N.n=true)(h:Sl P N ops Q rest ((d,v)::l) w) :
 Sl P N ops Q (⟨some d,op,ty,pos,aft,some (j,b)⟩::rest) l w:=fun a ha=>by
 unfold wpList;rw[if_pos (by simp[Region.wanted,kE ha hj hs])];refine .inl ?_;unfold Oper.wp;rw[hv a w ha rfl];exact h _ (ha.put hd v)
theorem TZ{p:Prop}[Decidable p](hv:Cm P N (· = w.heap) l ⟨some d,op,ty,pos,aft,none⟩ (.bool (decide p)))(hd:Nat.blt d N.n=true)
 (h1:p→Sl P N ops Q rest ((d,.bool true)::l) w)(h2:¬ p→Sl P N ops Q rest ((d,.bool false)::l) w) :
 Sl P N ops Q (⟨some d,op,ty,pos,aft,none⟩::rest) l w:=by
 by_cases h:p
 ·rw[decide_eq_true h] at hv;exact UR hv hd (h1 h)
 ·rw[decide_eq_false h] at hv;exact UR hv hd (h2 h)
theorem T5{p:Prop}[Decidable p]{j s:Nat}{b:Bool}(hj:(ops[j]?).bind (·.dst)=some s)(hs:lk l s=some (.bool b))
 (hv:Cm P N (· = w.heap) l ⟨some d,op,ty,pos,aft,some (j,b)⟩ (.bool (decide p)))(hd:Nat.blt d N.n=true)
 (h1:p→Sl P N ops Q rest ((d,.bool true)::l) w)(h2:¬ p→Sl P N ops Q rest ((d,.bool false)::l) w) :
 Sl P N ops Q (⟨some d,op,ty,pos,aft,some (j,b)⟩::rest) l w:=by
 by_cases h:p
 ·rw[decide_eq_true h] at hv;exact US hj hs hv hd (h1 h)
 ·rw[decide_eq_false h] at hv;exact US hj hs hv hd (h2 h)
theorem Uc{j s:Nat}{b:Bool}{u:Value}(hj:(ops[j]?).bind (·.dst)=some s)(hs:lk l s=some u)(hb:zZ u b=true)(hd:Nat.blt d N.n=true)
 (h:Sl P N ops Q rest ((d,undef)::l) w) :
 Sl P N ops Q (⟨some d,op,ty,pos,aft,some (j,b)⟩::rest) l w:=fun a ha=>by
 unfold wpList;rw[if_neg (by
  simp only[Region.wanted,kE ha hj hs];cases u<;>simp_all [zZ])]
 exact h _ (ha.put hd undef)
section
variable {x y:Operand}{t t':TypeId}{g:Option (Nat×Bool)}{dd:Option Nat}
variable {k k':IntKind}{m n:Int}
theorem TR(hx:evL l x=some v):Cm P N CH l ⟨dd,.move x,ty,pos,aft,g⟩ v:=fun a w ha _=>by simp[execOp,ha.ev hx]
theorem TW(hx:evL l x=some v):Cm P N CH l ⟨dd,.assign x,ty,pos,aft,g⟩ v:=fun a w ha _=>by simp[execOp,ha.ev hx]
theorem Ur{c:Operand}(hc:evL l c=some (.bool true))(hx:evL l x=some v):Cm P N CH l ⟨dd,.pick c x y,ty,pos,aft,g⟩ v:=fun a w ha _=>by
 simp[execOp,ha.ev hc,ha.ev hx,asBool]
theorem Uy{c:Operand}(hc:evL l c=some (.bool false))(hy:evL l y=some v):Cm P N CH l ⟨dd,.pick c x y,ty,pos,aft,g⟩ v:=fun a w ha _=>by
 simp[execOp,ha.ev hc,ha.ev hy,asBool]
theorem Vv(hx:evL l x=some (.int k m))(hy:evL l y=some (.int k n)):Cm P N CH l ⟨dd,.binOp .add t x y t',ty,pos,aft,g⟩ (.int k (k.wrap (m+n))):=fun a w ha _=>by
 simp[execOp,ha.ev hx,ha.ev hy,eqGuard,binOp,Op.intArith]
theorem Vx(hx:evL l x=some (.int k m))(hy:evL l y=some (.int k n)):Cm P N CH l ⟨dd,.binOp .sub t x y t',ty,pos,aft,g⟩ (.int k (k.wrap (m-n))):=fun a w ha _=>by
 simp[execOp,ha.ev hx,ha.ev hy,eqGuard,binOp,Op.intArith]
theorem Vy(hx:evL l x=some (.int k m))(hy:evL l y=some (.int k n)):Cm P N CH l ⟨dd,.binOp .mul t x y t',ty,pos,aft,g⟩ (.int k (k.wrap (m*n))):=fun a w ha _=>by
 simp[execOp,ha.ev hx,ha.ev hy,eqGuard,binOp,Op.intArith]
theorem bG{z:Int}(h : -9223372036854775808≤z∧z≤9223372036854775807):IntKind.i64.wrap z=z:=IntWalk.i64_in z (by omega)
theorem Us(hx:evL l x=some (.int .i64 m))(hy:evL l y=some (.int .i64 n))(hb : -9223372036854775808≤m+n∧m+n≤9223372036854775807) :
 Cm P N CH l ⟨dd,.binOp .add t x y t',ty,pos,aft,g⟩ (.int .i64 (m+n)):=by
 have:=@Vv P N l ty pos aft CH x y t t' g dd .i64 m n hx hy;rwa[bG hb] at this
theorem UY(hx:evL l x=some (.int .i64 m))(hy:evL l y=some (.int .i64 n))(hb : -9223372036854775808≤m-n∧m-n≤9223372036854775807) :
 Cm P N CH l ⟨dd,.binOp .sub t x y t',ty,pos,aft,g⟩ (.int .i64 (m-n)):=by
 have:=@Vx P N l ty pos aft CH x y t t' g dd .i64 m n hx hy;rwa[bG hb] at this
theorem Ue(hx:evL l x=some (.int .i64 m))(hy:evL l y=some (.int .i64 n))(hb : -9223372036854775808≤m*n∧m*n≤9223372036854775807) :
 Cm P N CH l ⟨dd,.binOp .mul t x y t',ty,pos,aft,g⟩ (.int .i64 (m*n)):=by
 have:=@Vy P N l ty pos aft CH x y t t' g dd .i64 m n hx hy;rwa[bG hb] at this
theorem U7(hx:evL l x=some (.int k m))(hy:evL l y=some (.int k n))(hn:n≠0):Cm P N CH l ⟨dd,.binOp .quo t x y t',ty,pos,aft,g⟩ (.int k (k.wrap (m.tdiv n))):=fun a w ha _=>by
 simp[execOp,ha.ev hx,ha.ev hy,eqGuard,binOp,Op.intDiv,hn]
theorem Uz(hx:evL l x=some (.int .i64 m))(hy:evL l y=some (.int .i64 n))(hm:0≤m∧m≤9223372036854775807)(hn:1≤n):Cm P N CH l ⟨dd,.binOp .quo t x y t',ty,pos,aft,g⟩ (.int .i64 (m/n)):=by
 have:=@U7 P N l ty pos aft CH x y t t' g dd .i64 m n hx hy (by omega);rw[Int.tdiv_eq_ediv_of_nonneg hm.1,bG ⟨by have:=Int.ediv_nonneg hm.1 (show 0≤n by omega);omega,Int.le_trans (Int.ediv_le_self n hm.1) hm.2⟩] at this;exact this
theorem Vz(hx:evL l x=some (.int k m))(hy:evL l y=some (.int k n))(hn:n≠0):Cm P N CH l ⟨dd,.binOp .rem t x y t',ty,pos,aft,g⟩ (.int k (m.tmod n)):=fun a w ha _=>by
 simp[execOp,ha.ev hx,ha.ev hy,eqGuard,binOp,Op.intDiv,hn]
theorem Ul(hx:evL l x=some (.int k m))(hy:evL l y=some (.int k n))(hm:0≤m)(hn:n≠0):Cm P N CH l ⟨dd,.binOp .rem t x y t',ty,pos,aft,g⟩ (.int k (m%n)):=by
 have:=@Vz P N l ty pos aft CH x y t t' g dd k m n hx hy hn;rw[Int.tmod_eq_emod_of_nonneg hm] at this;exact this
theorem Ut(hx:evL l x=some (.int k m))(hy:evL l y=some (.int k n)):Cm P N CH l ⟨dd,.binOp .lss t x y t',ty,pos,aft,g⟩ (.bool (decide (m<n))):=fun a w ha _=>by
 simp[execOp,ha.ev hx,ha.ev hy,eqGuard,binOp,Op.intCmp]
theorem UP(hx:evL l x=some (.int k m))(hy:evL l y=some (.int k n)):Cm P N CH l ⟨dd,.binOp .leq t x y t',ty,pos,aft,g⟩ (.bool (decide (m≤n))):=fun a w ha _=>by
 simp[execOp,ha.ev hx,ha.ev hy,eqGuard,binOp,Op.intCmp]
theorem UH(hx:evL l x=some (.int k m))(hy:evL l y=some (.int k n)):Cm P N CH l ⟨dd,.binOp .gtr t x y t',ty,pos,aft,g⟩ (.bool (decide (n<m))):=fun a w ha _=>by
 simp[execOp,ha.ev hx,ha.ev hy,eqGuard,binOp,Op.intCmp]
theorem UI(hx:evL l x=some (.int k m))(hy:evL l y=some (.int k n)):Cm P N CH l ⟨dd,.binOp .geq t x y t',ty,pos,aft,g⟩ (.bool (decide (n≤m))):=fun a w ha _=>by
 simp[execOp,ha.ev hx,ha.ev hy,eqGuard,binOp,Op.intCmp]
theorem Ud(hx:evL l x=some (.int k m))(hy:evL l y=some (.int k n)):Cm P N CH l ⟨dd,.binOp .eql t x y t',ty,pos,aft,g⟩ (.bool (decide (m=n))):=fun a w ha _=>by
 simp[execOp,ha.ev hx,ha.ev hy,eqGuard,binOp,Op.intCmp];rfl
theorem Ub(hx:evL l x=some (.int k m))(hy:evL l y=some (.int k n)):Cm P N CH l ⟨dd,.binOp .neq t x y t',ty,pos,aft,g⟩ (.bool (decide (m≠n))):=fun a w ha _=>by
 simp[execOp,ha.ev hx,ha.ev hy,eqGuard,binOp,Op.intCmp];by_cases h:m=n<;>simp[h]
theorem Ug{o:Oper}{p:Prop}[Decidable p](h:Cm P N CH l o (.bool (decide p)))(hp:p):Cm P N CH l o (.bool true):=by rwa[decide_eq_true hp] at h
theorem Um{o:Oper}{p:Prop}[Decidable p](h:Cm P N CH l o (.bool (decide p)))(hp:¬ p):Cm P N CH l o (.bool false):=by rwa[decide_eq_false hp] at h
theorem Tw{o:Oper}{u:Value}(h:Cm P N CH l o v)(e:v=u):Cm P N CH l o u:=e ▸ h
theorem T0{b:Bool}(hx:evL l x=some (.bool b)):Cm P N CH l ⟨dd,.unOp .not t x,ty,pos,aft,g⟩ (.bool (!b)):=fun a w ha _=>by
 simp[execOp,ha.ev hx,Op.unary]
theorem V9(hx:evL l x=some (.int k m)):Cm P N CH l ⟨dd,.unOp .neg t x,ty,pos,aft,g⟩ (.int k (k.wrap (0-m))):=fun a w ha _=>by
 simp[execOp,ha.ev hx,Op.unary,Op.intArith]
theorem VN(hx:evL l x=some (.int .i64 m))(hb : -9223372036854775807≤m∧m≤9223372036854775807):Cm P N CH l ⟨dd,.unOp .neg t x,ty,pos,aft,g⟩ (.int .i64 (-m)):=by
 have:=@V9 P N l ty pos aft CH x t g dd .i64 m hx;rw[bG (by omega),Int.zero_sub] at this;exact this
theorem VO(hs:(P.underlying t).isSome=true)(hd:P.underlying t'=some (.int k'))(hx:evL l x=some (.int k m)):Cm P N CH l ⟨dd,.convert t t' x,ty,pos,aft,g⟩ (.int k' (k'.wrap m)):=fun a w ha _=>by
 obtain⟨u,hu⟩:=Option.isSome_iff_exists.1 hs;simp only[execOp,ha.ev hx,convert,Sem.run_bind,run_underlying hu,run_underlying hd,Result.andThen_ok];cases u<;>simp[Conv.intToInt]
theorem TD(hs:(P.underlying t).isSome=true)(hd:P.underlying t'=some (.int k'))(hx:evL l x=some (.int k m))(hw:k'.wrap m=n):Cm P N CH l ⟨dd,.convert t t' x,ty,pos,aft,g⟩ (.int k' n):=by
 have:=@VO P N l ty pos aft CH x t t' g dd k k' m hs hd hx;rwa[hw] at this
theorem T9{vs:List Value}{i:Nat}(hx:evL l x=some (.tuple vs.toArray))(hi:vs[i]?=some v):Cm P N CH l ⟨dd,.extract x i,ty,pos,aft,g⟩ v:=fun a w ha _=>by
 simp[execOp,ha.ev hx,Instr.extract,hi]
theorem Vc{ad:Addr}(hx:evL l x=some (.pointer (some ad))):Cm P N CH l ⟨dd,.nilCheck x,ty,pos,aft,g⟩ (.pointer (some ad)):=fun a w ha _=>by
 simp[execOp,ha.ev hx]
structure aS (P:Program)(t e:TypeId)(size bytes:Nat):Prop where
 und:P.underlying t=some (.slice e)
 inf:(P.info? e).map (fun i=>(i.zero.map (·.cells.size),i.size,i.bytes))=some (some size,size,bytes)
theorem aS.parts{e:TypeId}{size bytes:Nat}(h:aS P t e size bytes):∃ i z,P.info? e=some i∧i.zero=some z∧z.cells.size=size∧i.size=size∧i.bytes=bytes:=by
 obtain⟨i,hi,h1⟩:=Option.map_eq_some_iff.1 h.inf;simp only[Prod.mk.injEq] at h1;obtain⟨z,hz,h2⟩:=Option.map_eq_some_iff.1 h1.1;exact⟨i,z,hi,hz,h2,h1.2.1,h1.2.2⟩
theorem aS.size{e:TypeId}{size bytes:Nat}(h:aS P t e size bytes)(w:World):(sizeOf e).run P w=.ok size w:=by
 obtain⟨i,z,hi,h1,hz,h2,h3⟩:=h.parts;simp[sizeOf,typeInfo,hi,h2]
theorem Vq{e:TypeId}{size bytes:Nat}(ht:aS P t e size bytes){ao:Option Addr}{c n:Nat}(hx:evL l x=some (.slice ao n c)) :
 Cm P N CH l ⟨dd,.call ⟨.builtin .len,#[x],#[t]⟩,ty,pos,aft,g⟩ (.int .i64 n):=fun a w ha _=>by
 simp[execOp,ha.ev hx,resolve,invoke,builtin,Builtin.len_,run_underlying ht.und,goInt]
theorem Wa(ht:P.underlying t=some .string){s:ByteArray}(hx:evL l x=some (.string s)) :
 Cm P N CH l ⟨dd,.call ⟨.builtin .len,#[x],#[t]⟩,ty,pos,aft,g⟩ (.int .i64 s.size):=fun a w ha _=>by
 simp[execOp,ha.ev hx,resolve,invoke,builtin,Builtin.len_,run_underlying ht,goInt]
theorem Ux{ts:Array TypeId}(hx:evL l x=some (.int k m))(hy:evL l y=some (.int k n)) :
 Cm P N CH l ⟨dd,.call ⟨.builtin .min,#[x,y],ts⟩,ty,pos,aft,g⟩ (.int k (if n<m then n else m)):=fun a w ha _=>by
 simp[execOp,ha.ev hx,ha.ev hy,resolve,invoke,builtin,Builtin.min_,Builtin.min2]
theorem UT{ts:Array TypeId}(hx:evL l x=some (.int k m))(hy:evL l y=some (.int k n)) :
 Cm P N CH l ⟨dd,.call ⟨.builtin .max,#[x,y],ts⟩,ty,pos,aft,g⟩ (.int k (if m<n then n else m)):=fun a w ha _=>by
 simp[execOp,ha.ev hx,ha.ev hy,resolve,invoke,builtin,Builtin.max_,Builtin.max2]
def adr(ao:Option Addr)(i:Nat):Addr:=(ao.getD ⟨0,0,none⟩).add i
theorem Tv{e:TypeId}{size bytes:Nat}(ht:aS P t e size bytes){ao:Option Addr}{c len:Nat}(hx:evL l x=some (.slice ao len c))(hy:evL l y=some (.int k n))
 (hao:len≠0→ao≠none)(hn:0≤n∧n<len) :
 Cm P N CH l ⟨dd,.indexAddr t x y,ty,pos,aft,g⟩ (.pointer (some (adr ao (n.toNat*size)))):=fun a w ha _=>by
 have:ao≠none:=hao (by omega);cases ao with
|none=>exact absurd rfl this
|some ad=>simp[execOp,ha.ev hx,ha.ev hy,Instr.indexAt,asIntOf,run_underlying ht.und,ht.size w,hn,adr]
theorem Tt{e:TypeId}{bytes:Nat}(ht:aS P t e 1 bytes){ao:Option Addr}{c len:Nat}(hx:evL l x=some (.slice ao len c))(hy:evL l y=some (.int k n))
 (hao:len≠0→ao≠none)(hn:0≤n∧n<len) :
 Cm P N CH l ⟨dd,.indexAddr t x y,ty,pos,aft,g⟩ (.pointer (some (adr ao n.toNat))):=by
 have:=@Tv P N l ty pos aft CH x y t g dd k n e 1 bytes ht ao c len hx hy hao hn;rwa[Nat.mul_one] at this
end
end
structure aA (S:Nat→Prop)(w w':World):Prop where
 os:w'.os=w.os
 tape:w'.tape=w.tape
 output:w'.output=w.output
 size:w.heap.size≤w'.heap.size
 same:∀ k,k<w.heap.size→¬ S k→w'.heap[k]?=w.heap[k]?
def nob:Nat→Prop:=fun _=>False
theorem Wt(S:Nat→Prop)(w:World):aA S w w:=⟨rfl,rfl,rfl,Nat.le_refl _,fun _ _ _=>rfl⟩
theorem aA.trans{S:Nat→Prop}{a b c:World}(h:aA S a b)(k:aA S b c):aA S a c:=
 ⟨k.os.trans h.os,k.tape.trans h.tape,k.output.trans h.output,Nat.le_trans h.size k.size,
  fun i hi hs=>(k.same i (Nat.lt_of_lt_of_le hi h.size) hs).trans (h.same i hi hs)⟩
theorem aA.step{S S':Nat→Prop}{a b c:World}(h:aA S a b)(k:aA S' b c)(hs:∀ i,S' i→S i∨a.heap.size≤i):aA S a c:=
 ⟨k.os.trans h.os,k.tape.trans h.tape,k.output.trans h.output,Nat.le_trans h.size k.size,
  fun i hi hn=>(k.same i (Nat.lt_of_lt_of_le hi h.size) (fun h'=>by rcases hs i h' with h1|h1;exact hn h1;omega)).trans (h.same i hi hn)⟩
theorem aA.WO{S S':Nat→Prop}{a b c:World}(h:aA S a b)(k:aA S' b c)(hs:∀ i,S' i→S i∨a.heap.size≤i):aA S a c:=h.step k hs
theorem aA.mono{S S':Nat→Prop}{a b:World}(h:aA S a b)(hs:∀ i,S i→S' i):aA S' a b:=
 ⟨h.os,h.tape,h.output,h.size,fun i hi hn=>h.same i hi (fun h'=>hn (hs i h'))⟩
theorem aA.draws{S:Nat→Prop}{a b:World}(h:aA S a b)(n:Nat):aA S a (b.drewN n):=⟨h.os,h.tape,h.output,h.size,h.same⟩
theorem aA.WP{S:Nat→Prop}{w w':World}{n:Nat}(h:aA S (w.drewN n) w'):aA S w w':=⟨h.os,h.tape,h.output,h.size,h.same⟩
theorem Wu{S:Nat→Prop}{w:World}(n:Nat):aA S w (w.drewN n):=(Wt S w).draws n
theorem aA.alloc(S:Nat→Prop)(w:World)(o:Obj):aA S w (w.alloc o):=⟨rfl,rfl,rfl,by simp,fun _ hk _=>Below.heap_alloc w o _ hk⟩
theorem Wv(S:Nat→Prop)(w:World)(o:Obj):aA S w (w.drew.alloc o):=⟨rfl,rfl,rfl,by simp,fun _ hk _=>Below.heap_alloc w.drew o _ hk⟩
theorem aA.below{w w':World}(h:aA nob w w'):Below w.heap.size w w':=⟨h.os,h.tape,h.output,h.size,fun k hk=>h.same k hk id⟩
theorem aA.obj{S:Nat→Prop}{w w':World}(h:aA S w w'){g:Nat}{o:Obj}(hg:w.heap[g]?=some o)(hs:¬ S g):w'.heap[g]?=some o:=
 (h.same g (Array.getElem?_eq_some_iff.1 hg).1 hs).trans hg
def blk(ao:Option Addr):Nat→Prop:=fun k=>∃ a,ao=some a∧a.block=k
def Fr(B:Nat)(ao:Option Addr):Prop:=∀ a,ao=some a→B≤a.block
def Lt(B:Nat)(ao:Option Addr):Prop:=∀ a,ao=some a→a.block<B
def Ap(ao bo:Option Addr):Prop:=∀ a b,ao=some a→bo=some b→a.block≠b.block
theorem Ww{b:Option Addr}:Ap none b:=fun _ _ h=>by cases h
theorem Wx{b:Option Addr}:Ap b none:=fun _ _ _ h=>by cases h
theorem Wy{B:Nat}:Fr B none:=fun _ h=>by cases h
theorem Fr.mono{B B':Nat}{a:Option Addr}(h:Fr B a)(hB:B'≤B):Fr B' a:=fun x hx=>Nat.le_trans hB (h x hx)
theorem Fr.step{B:Nat}{a:Option Addr}(h:Fr B a){S:Nat→Prop}:∀ i,blk a i→S i∨B≤i:=fun i ⟨x,hx,e⟩=>.inr (by have:=h x hx;omega)
theorem A0(a:Addr)(n:Nat):(a.add n).block=a.block:=by unfold Addr.add;split<;>rfl
theorem kD(a:Addr)(n:Nat):(adr (some a) n).block=a.block:=A0 a n
structure Vw {α:Type}(enc:α→Value)(H:Array Obj)(ao:Option Addr)(cap:Nat)(xs:List α):Prop where
 le:xs.length≤cap
 max:cap≤maxLen
 non:xs.length≠0→ao≠none
 get:∀ i x,xs[i]?=some x→bE H (adr ao i)=some (enc x)
def b8(x:UInt8):Value:=.int .u8 x.toNat
def i64(x:Int):Value:=.int .i64 x
section
variable {α:Type}{enc:α→Value}{H:Array Obj}{ao:Option Addr}{cap:Nat}{xs:List α}
theorem Vw.at(h:Vw enc H ao cap xs){i:Nat}(hi:i<xs.length):bE H (adr ao i)=some (enc xs[i]):=h.get i _ (List.getElem?_eq_getElem hi)
theorem Vw.gd(h:Vw enc H ao cap xs)(dflt:α){i:Nat}(hi:i<xs.length):bE H (adr ao i)=some (enc (xs.getD i dflt)):=by
 rw[h.at hi];simp[List.getD,hi]
theorem Vw.gz(h:Vw enc H ao cap xs)(dflt:α)(i:Nat){z:Int}(hz:z=i)(hi:i<xs.length):bE H (adr ao z.toNat)=some (enc (xs.getD i dflt)):=by
 subst hz;exact h.gd dflt hi
theorem Vw.WQ(h:Vw enc H ao cap xs):(xs.length:Int)≤9223372036854775807:=by have:=h.le;have:=h.max;unfold maxLen at this;omega
theorem Wz(c:Nat)(hc:c≤maxLen):Vw enc H ao c []:=⟨by simp,hc,by simp,by simp⟩
theorem Vw.lt(h:Vw enc H ao cap xs)(hne:xs≠[]):Lt H.size ao:=fun a ha=>by
 have hl:0<xs.length:=length_pos_iff.2 hne;have:=h.at hl;subst ha;unfold bE at this
 split at this
 ·rename_i hb;rw[kD] at hb;exact(Array.getElem?_eq_some_iff.1 hb).1
 ·cases this
theorem Vw.WS{w w':World}{S:Nat→Prop}(h:Vw enc w.heap ao cap xs)(f:aA S w w')(hs:∀ a,ao=some a→¬ S a.block):Vw enc w'.heap ao cap xs:=by
 refine⟨h.le,h.max,h.non,fun i x hx=>?_⟩;have h1:=h.get i x hx;have hne:xs.length≠0:=by intro e;have:xs=[]:=eq_nil_of_length_eq_zero e;subst this;simp at hx
 cases hao:ao with
|none=>exact absurd hao (h.non hne)
|some a=>
   rw[hao] at h1;rw[←h1];unfold bE;rw[kD,f.same a.block (h.lt (fun e=>hne (by simp[e])) a hao) (hs a hao)]
theorem Vw.WR{w w':World}(h:Vw enc w.heap ao cap xs)(f:aA nob w w'):Vw enc w'.heap ao cap xs:=h.WS f (fun _ _=>id)
theorem Vw.take(h:Vw enc H ao cap xs)(n:Nat):Vw enc H ao cap (xs.take n):=
 ⟨by have:=h.le;simp;omega,h.max,fun hn=>h.non (fun e=>hn (by have:xs=[]:=eq_nil_of_length_eq_zero e;simp[this])),fun i x hx=>h.get i x (by
  rw[List.getElem?_take] at hx
  split at hx
  ·exact hx
  ·cases hx)⟩
end
theorem sS(a:Addr)(i j:Nat):(a.add i).add j=a.add (i+j):=by
 unfold Addr.add;by_cases hi:i=0
 ·simp[hi]
 · by_cases hj:j=0
   ·simp[hj]
   ·simp[hi,hj,Nat.add_assoc]
def aP(ao:Option Addr)(m l size:Nat):Option Addr:=if m=l then ao else ao.map (·.add (l*size))
section
variable {α:Type}{enc:α→Value}{H:Array Obj}{ao:Option Addr}{cap:Nat}{xs:List α}
theorem Vw.cut(v:Vw enc H ao cap xs){l h m:Nat}(hl:l≤h)(hh:h≤xs.length)(hm:h≤m)(hmc:m≤cap) :
 Vw enc H (aP ao m l 1) (m-l) ((xs.drop l).take (h-l)):=by
 refine⟨by simp;omega,by have:=v.max;omega,fun hne=>?_,fun i x hx=>?_⟩
 · have h0:xs.length≠0:=by simp at hne;omega
   have:=v.non h0;unfold aP
   split
   ·exact this
   ·cases ao<;>simp_all
 · have hi:i<h-l:=by
    have:=(List.getElem?_eq_some_iff.1 hx).1;simp at this;omega
   have hx':xs[l+i]?=some x:=by
    rw[List.getElem?_take,if_pos hi,List.getElem?_drop] at hx;exact hx
   have h1:=v.get (l+i) x hx';rw[←h1];unfold aP;rw[if_neg (by omega)];cases ao with
  |none=>exact absurd rfl (v.non (by have:=(List.getElem?_eq_some_iff.1 hx').1;omega))
  |some a=>simp[adr,sS]
theorem aU(ao:Option Addr)(m s:Nat):aP ao m 0 s=ao:=by
 unfold aP;split
 ·rfl
 · cases ao with
  |none=>rfl
  |some a=>simp[Addr.add]
theorem vM{m l s k:Nat}(h:blk (aP ao m l s) k):blk ao k:=by
 obtain⟨a,ha,rfl⟩:=h;unfold aP at ha
 split at ha
 ·exact⟨a,ha,rfl⟩
 · cases ao with
  |none=>simp at ha
  |some b=>simp at ha;subst ha;exact⟨b,rfl,(A0 _ _).symm⟩
end
def Own{α:Type}(enc:α→Value)(e:TypeId)(H:Array Obj)(ao:Option Addr)(cap:Nat)(xs:List α):Prop:=
 (ao=none∧cap=0∧xs=[]) ∨
 ∃ g cur,ao=some ⟨g,0,none⟩∧H[g]?=some (.cells cur e (0,0))∧xs.length≤cap∧cap≤maxLen∧cur.size=cap∧cur.toList.take xs.length=xs.map enc
section
variable {α:Type}{enc:α→Value}{e:TypeId}{H:Array Obj}{ao:Option Addr}{cap:Nat}{xs:List α}
theorem WA:Own enc e H none 0 ([]:List α):=.inl ⟨rfl,rfl,rfl⟩
theorem Own.vw(h:Own enc e H ao cap xs):Vw enc H ao cap xs:=by
 rcases h with⟨rfl,rfl,rfl⟩|⟨g,cur,rfl,hg,h1,h2,h3,h4⟩
 ·exact Wz 0 (Nat.zero_le _)
 · refine⟨h1,h2,fun _=>by simp,fun i x hx=>?_⟩
   have hi:i<xs.length:=(List.getElem?_eq_some_iff.1 hx).1;have hadd:(adr (some ⟨g,0,none⟩) i)=⟨g,i,none⟩:=by
    show (⟨g,0,none⟩:Addr).add i=_;rw[Addr.add_lit,Nat.zero_add]
   rw[hadd];simp only[bE,hg];have h5:(cur.toList.take xs.length)[i]?=some (enc x):=by rw[h4,List.getElem?_map,hx];rfl
   rw[List.getElem?_take,if_pos hi] at h5;simpa using h5
theorem Own.lt(h:Own enc e H ao cap xs):Lt H.size ao:=by
 intro a ha;rcases h with⟨rfl,_⟩|⟨g,cur,rfl,hg,_⟩
 ·cases ha
 ·cases ha;exact(Array.getElem?_eq_some_iff.1 hg).1
theorem Own.WS{w w':World}{S:Nat→Prop}(h:Own enc e w.heap ao cap xs)(f:aA S w w')(hs:∀ a,ao=some a→¬ S a.block):Own enc e w'.heap ao cap xs:=by
 rcases h with h|⟨g,cur,rfl,hg,r⟩
 ·exact .inl h
 ·exact .inr ⟨g,cur,rfl,f.obj hg (hs _ rfl),r⟩
theorem Own.WR{w w':World}(h:Own enc e w.heap ao cap xs)(f:aA nob w w'):Own enc e w'.heap ao cap xs:=h.WS f (fun _ _=>id)
end
theorem kJ{P:Program}{w:World}{t ty e:TypeId}{i:TypeInfo}(ht:P.underlying t=some (.slice e))(hi:P.info? e=some i)
 {ao:Option Addr}{n cap:Nat}(hn:n≤cap){bo:Option Addr}{bcap:Nat} :
 (Builtin.append_ #[t,t] ty #[.slice ao n cap,.slice bo 0 bcap]).run P w=.ok (.slice ao n cap) w:=by
 cases ao<;>cases bo<;>simp[Builtin.append_,run_underlying ht,sizeOf,typeInfo,hi,Builtin.lenOf,Builtin.firstCells,hn,storeCells,loadCells,loadCellsFrom]
theorem uQ{α:Type}{enc:α→Value}(henc:∀ x,(enc x).oneCell'=true){P:Program}{w:World}{t ty e:TypeId}{bytes:Nat}(ht:aS P t e 1 bytes)
 {ao:Option Addr}{cap:Nat}{xs:List α}(ho:Own enc e w.heap ao cap xs){bo:Option Addr}{bcap:Nat}{ys:List α}(hy:Vw enc w.heap bo bcap ys)
 (hb:(xs.length+ys.length)*bytes≤140737488355328)(hm:xs.length+ys.length≤maxLen) :
 ∃ ao' cap' w',(Builtin.append_ #[t,t] ty #[.slice ao xs.length cap,.slice bo ys.length bcap]).run P w=.ok (.slice ao' (xs.length+ys.length) cap') w' ∧
  Own enc e w'.heap ao' cap' (xs++ys)∧aA (blk ao) w w'∧(∀ a,ao'=some a→ao=some a∨w.heap.size≤a.block)∧(ao'=none→ao=none∧ys=[]):=by
 obtain⟨i,z,hi,h1,hz,h2,h3⟩:=ht.parts;have hnews1:∀ u∈ys.map enc,u.oneCell'=true:=by intro u hu;obtain⟨x,_,rfl⟩:=mem_map.1 hu;exact henc x
 have hsmall:xs.length+ys.length≤9223372036854775807:=by unfold maxLen at hm;omega
 by_cases hys:ys=[]
 · subst hys
   refine⟨ao,cap,w,?_,by simpa using ho,Wt _ _,fun a ha=>.inl ha,fun h=>⟨h,rfl⟩⟩;exact kJ ht.und hi ho.vw.le
 · have hne:ys.length≠0:=fun e=>hys (eq_nil_of_length_eq_zero e)
   obtain⟨b,rfl⟩:∃ b,bo=some b:=Option.ne_none_iff_exists'.1 (hy.non hne);have hnews:∀ j u,(ys.map enc)[j]?=some u→w.cell? (b.add j)=some u:=by
    intro j u hu;rw[List.getElem?_map] at hu;obtain⟨x,hx,rfl⟩:=Option.map_eq_some_iff.1 hu;exact hy.get j x hx
   have hl:(ys.map enc).length=ys.length*i.size:=by simp[h2]
   have big:∀ (old:Nat),old<xs.length+ys.length→Own enc e (w.drew.alloc (.cells ((xs.map enc).toArray++(ys.map enc).toArray++Builtin.zeroCells z.cells (grownCap w (xs.length+ys.length) old e-(xs.length+ys.length))) e)).heap
    (some ⟨w.heap.size,0,none⟩) (grownCap w (xs.length+ys.length) old e) (xs++ys):=by
    intro old _;have hge:=grownCap_ge w (xs.length+ys.length) old e;refine .inr ⟨w.heap.size,_,rfl,heap_alloc_new w.drew _,by simpa using hge,grownCap_le_maxLen w _ old e hm,?_,?_⟩
    ·simp only[Array.size_append,size_toArray,List.length_map,size_zeroCells,hz];omega
    · simp[take_append]
      exact take_of_length_le (by simp)
   have hfoot:∀ (old:Nat),aA (blk ao) w (w.drew.alloc (.cells ((xs.map enc).toArray++(ys.map enc).toArray++Builtin.zeroCells z.cells (grownCap w (xs.length+ys.length) old e-(xs.length+ys.length))) e)):=fun old=>Wv _ _ _;rcases ho with⟨rfl,rfl,rfl⟩|⟨g,cur,rfl,hg,g1,g2,g3,g4⟩
   · have hr:=run_append_nil (P:=P) w t ty e i z ht.und hi h1 b ys.length bcap (ys.map enc) hl hnews (by omega) (by simp at hsmall;omega) (by simp at hb;rw[h3];omega)
     have hB:=big 0 (by simp;omega);have hF:=hfoot 0;simp only[length_nil,Nat.zero_add,map_nil,nil_append,Array.empty_append] at hB hF ⊢;exact⟨_,_,_,hr,hB,hF,fun a ha=>.inr (by cases ha;exact Nat.le_refl _),fun h=>by cases h⟩
   · have holds:∀ j v,(xs.map enc)[j]?=some v→w.cell? ((⟨g,0,none⟩:Addr).add j)=some v:=by
      intro j v hv;rw[List.getElem?_map] at hv;obtain⟨x,hx,rfl⟩:=Option.map_eq_some_iff.1 hv;exact(Own.vw (.inr ⟨g,cur,rfl,hg,g1,g2,g3,g4⟩:Own enc e w.heap (some ⟨g,0,none⟩) cap xs)).get j x hx
     by_cases hroom:xs.length+ys.length≤cap
     · have hr:=run_append_room (P:=P) w t ty e i ht.und hi g xs.length cap cur hg b ys.length bcap (ys.map enc) hl hnews hnews1 hroom (by simp[h2,g3];omega)
       refine⟨_,_,_,hr,.inr ⟨g,_,rfl,setRow_heap w g cur _ e _ hg,by simpa using hroom,g2,?_,?_⟩,?_,fun a ha=>.inl ha,fun h=>by cases h⟩
       ·simp[h2,g3];omega
       · rw[h2,Nat.mul_one,g4];simp[take_append]
         exact take_of_length_le (by simp)
       ·exact⟨rfl,rfl,rfl,by simp[World.setRow],fun k hk hn=>setRow_other w g k _ (fun e=>hn ⟨_,rfl,e.symm⟩)⟩
     · have hr:=run_append_grow (P:=P) w t ty e i z ht.und hi h1 ⟨g,0,none⟩ xs.length cap (xs.map enc) (by simp[h2]) holds b ys.length bcap (ys.map enc) hl hnews (by omega) (by omega)
        (by rw[h3];exact growslice_fits (by omega) hb)
       exact⟨_,_,_,hr,big cap (by omega),hfoot cap,fun a ha=>.inr (by cases ha;exact Nat.le_refl _),fun h=>by cases h⟩
def bs(xs:List UInt8):ByteArray:=⟨xs.toArray⟩
theorem gN(xs:List UInt8):(bs xs).toList=xs:=by rw[ByteArray.toList_eq];simp[bs]
theorem Pg{a b:List UInt8}(h:bs a=bs b):a=b:=by rw[←gN a,h,gN]
theorem nE(xs:List UInt8):(bs xs).size=xs.length:=by simp[bs,ByteArray.size]
def Ret(R:Value→World→Prop)(e:Ending)(w:World):Prop:=∃ v,e=.returned v∧R v w
def uT(l:SF):List Operand→Option (List Value)
|[]=>some []
|x::r=>match evL l x,uT l r with
  |some v,some vs=>some (v::vs)
  |_,_=>none
theorem cK.evs{N:Nt}{l:SF}{a:Act}(h:cK N l a):∀ {xs:List Operand} {vs:List Value},uT l xs=some vs→xs.map a.eval=vs
|[],vs,e=>by simp[uT] at e;simp[e]
|x::r,vs,e=>by
   unfold uT at e
   split at e
   · rename_i v us h1 h2
     cases e;simp[h.ev h1,h.evs h2]
   ·cases e
def fP(P:Program)(t:TypeId):Bool:=
 (match P.underlying t with|some (.struct _)|some (.array _ _)|none=>false|_=>true) && ((P.info? t).map (·.size) == some 1)
theorem L6{P:Program}{t:TypeId}(h:fP P t=true)(w:World):(isAgg t).run P w=.ok false w:=by
 simp only[fP,Bool.and_eq_true] at h;unfold isAgg;cases hu:P.underlying t with
|none=>simp[hu] at h
|some d=>rw[Sem.run_bind,run_underlying hu w];cases d<;>simp_all
theorem Jh{P:Program}{t:TypeId}(h:fP P t=true)(w:World):(sizeOf t).run P w=.ok 1 w:=by
 simp only[fP,Bool.and_eq_true,beq_iff_eq] at h;obtain⟨i,hi,h1⟩:=Option.map_eq_some_iff.1 h.2;simp[sizeOf,typeInfo,hi,h1]
def Pa(P:Program)(s f off:Nat):Bool:=
 match P.underlying s with
|some (.struct fs)=>match fs[f]? with
  |some fd=>fd.offset == off && (match (P.info? fd.type).map (·.size) with|some n=>n != 0|none=>false)
  |none=>false
|_=>false
def fnB (P:Program) (f:FuncId):Bool:=
 match P.funcs[f]? with
 | some fn => !(fn.name == "runtime.NumGoroutine") && fn.body.isSome
 | none=>false
theorem iN{P:Program}{f:FuncId}(h:fnB P f=true)(args:Array Value)(w:World):(callFunc f args).run P w=.ok (.enter f args) w:=by
 unfold fnB at h
 split at h
 · rename_i fn hf
   simp only[Bool.and_eq_true,Bool.not_eq_true'] at h;have hb:fn.body.isNone=false:=by cases hb:fn.body<;>simp_all
   unfold callFunc;rw[Sem.run_bind,run_program,Result.andThen_ok,hf];simp only[h.1,hb];rfl
 ·cases h
section
variable {P:Program}{N:Nt}{Q:Exit→Act→World→Prop}{l:SF}{w:World}{ops:Array Oper}{rest:List Oper}
variable {op:Op}{ty:TypeId}{pos:String}{aft:Array Edge}{d:Nat}{v:Value}{CH:Array Obj→Prop}
variable {x y:Operand}{t t':TypeId}{g:Option (Nat×Bool)}{dd:Option Nat}
theorem Ua{w':World}(hr:∀ a,cK N l a→(execOp a.eval ⟨some d,op,ty,pos,aft,none⟩).run P w=.ok (.value v) w')(hd:Nat.blt d N.n=true)(h:Sl P N ops Q rest ((d,v)::l) w') :
 Sl P N ops Q (⟨some d,op,ty,pos,aft,none⟩::rest) l w:=fun a ha=>by
 unfold wpList;rw[if_pos (by simp[Region.wanted])];refine .inl ?_;unfold Oper.wp;rw[hr a ha];exact h _ (ha.put hd v)
theorem UB{w':World}(hr:∀ a,cK N l a→(execOp a.eval ⟨none,op,ty,pos,aft,none⟩).run P w=.ok .skip w')(h:Sl P N ops Q rest l w') :
 Sl P N ops Q (⟨none,op,ty,pos,aft,none⟩::rest) l w:=fun a ha=>by
 unfold wpList;rw[if_pos (by simp[Region.wanted])];refine .inl ?_;unfold Oper.wp;rw[hr a ha];exact h _ ha
theorem CC{f:FuncId}{xs:List Operand}{vs:List Value}{ts:Array TypeId}{a:Act}(hf:fnB P f=true)(ha:cK N l a)(hx:uT l xs=some vs) :
 (execOp a.eval ⟨dd,.call ⟨.value (.func f),xs.toArray,ts⟩,ty,pos,aft,g⟩).run P w=.ok (.enter f vs.toArray) w:=by
 simp[execOp,resolve,Act.eval,Deferred.ofValue,invoke,iN hf];rw[←ha.evs hx]
theorem Ts{f:FuncId}{xs:List Operand}{vs:List Value}{ts:Array TypeId}(hf:fnB P f=true)(hx:uT l xs=some vs){R:Value→World→Prop}(hc:Calls P f vs.toArray w (Ret R))(hd:Nat.blt d N.n=true)
 (h:∀ v w',R v w'→Sl P N ops Q rest ((d,v)::l) w') :
 Sl P N ops Q (⟨some d,.call ⟨.value (.func f),xs.toArray,ts⟩,ty,pos,aft,none⟩::rest) l w:=fun a ha=>by
 unfold wpList;rw[if_pos (by simp[Region.wanted])];refine .inl ?_;unfold Oper.wp;rw[CC hf ha hx];refine hc.mono ?_;rintro e w' ⟨v,rfl,hR⟩;exact h v w' hR _ (ha.put hd v)
theorem TJ{f:FuncId}{xs:List Operand}{vs:List Value}{ts:Array TypeId}{j s:Nat}{b:Bool}(hj:(ops[j]?).bind (·.dst)=some s)(hs:lk l s=some (.bool b))(hf:fnB P f=true)(hx:uT l xs=some vs){R:Value→World→Prop}(hc:Calls P f vs.toArray w (Ret R))(hd:Nat.blt d N.n=true)
 (h:∀ v w',R v w'→Sl P N ops Q rest ((d,v)::l) w') :
 Sl P N ops Q (⟨some d,.call ⟨.value (.func f),xs.toArray,ts⟩,ty,pos,aft,some (j,b)⟩::rest) l w:=fun a ha=>by
 unfold wpList;rw[if_pos (by simp[Region.wanted,kE ha hj hs])];refine .inl ?_;unfold Oper.wp;rw[CC hf ha hx];refine hc.mono ?_;rintro e w' ⟨v,rfl,hR⟩;exact h v w' hR _ (ha.put hd v)
theorem TF{ad:Addr}(ht:fP P t=true)(hx:evL l x=some (.pointer (some ad)))(hc:∀ H,CH H→bE H ad=some v):Cm P N CH l ⟨dd,.load t x,ty,pos,aft,g⟩ v:=fun a w ha hw=>by
 have:=hc _ hw;simp[execOp,ha.ev hx,Instr.loadAt,Instr.sureAddr,loadVar,L6 ht,cell?_eq,this]
theorem Tu{H:Array Obj}{ad:Addr}(ht:fP P t=true)(hx:evL l x=some (.pointer (some ad)))(hc:bE H ad=some v):Cm P N (· = H) l ⟨dd,.load t x,ty,pos,aft,g⟩ v:=
 TF ht hx (fun _ e=>by rw[e];exact hc)
theorem UZ{ad:Addr}{s f off:Nat}(hs:Pa P s f off=true)(hx:evL l x=some (.pointer (some ad))):Cm P N CH l ⟨dd,.fieldAddr s x f,ty,pos,aft,g⟩ (.pointer (some (ad.add off))):=fun a w ha _=>by
 unfold Pa at hs
 split at hs
 · rename_i fs hu
   split at hs
   · rename_i fd hf
     simp only[Bool.and_eq_true,beq_iff_eq] at hs;obtain⟨h1,h2⟩:=hs
     split at h2
     · rename_i n hn
       obtain⟨i,hi,h3⟩:=Option.map_eq_some_iff.1 hn;have h4:i.size≠0:=by rw[h3];simpa using h2
       simp[execOp,ha.ev hx,Instr.fieldAt,run_underlying hu,hf,Instr.sureAddr,fieldPlace,sizeOf,typeInfo,hi,h4,h1]
     ·cases h2
   ·cases hs
 ·cases hs
theorem bV(k:IntKind){i:Int}{y:Nat}{code:BoundsCode}(w:World)(h:0≤i∧i≤y):(Instr.sliceBound (.int k i) y code).run P w=.ok i.toNat w:=by
 simp[Instr.sliceBound,asIntOf,h]
theorem T4{e:TypeId}{size bytes:Nat}(ht:aS P t e size bytes){ao:Option Addr}{len cap:Nat}{kl:IntKind}{n:Int}{lo:Operand}(hx:evL l x=some (.slice ao len cap))(hl:evL l lo=some (.int kl n))
 (hn:0≤n∧n≤len):Cm P N CH l ⟨dd,.slice t x (some lo) none none,ty,pos,aft,g⟩ (.slice (aP ao cap n.toNat size) (len-n.toNat) (cap-n.toNat)):=fun a w ha _=>by
 simp[execOp,ha.ev hx,ha.ev hl,Instr.sliceAt,Instr.slice,run_underlying ht.und,Instr.sliceBounds,bV _ _ hn,ht.size,aP]
theorem TP{e:TypeId}{size bytes:Nat}(ht:aS P t e size bytes){ao:Option Addr}{len cap:Nat}{kh:IntKind}{n:Int}{hi:Operand}(hx:evL l x=some (.slice ao len cap))(hh:evL l hi=some (.int kh n))
 (hn:0≤n∧n≤cap):Cm P N CH l ⟨dd,.slice t x none (some hi) none,ty,pos,aft,g⟩ (.slice (aP ao cap 0 size) n.toNat cap):=fun a w ha _=>by
 simp[execOp,ha.ev hx,ha.ev hh,Instr.sliceAt,Instr.slice,run_underlying ht.und,Instr.sliceBounds,bV _ _ hn,ht.size,aP]
theorem U0{e:TypeId}{size bytes:Nat}(ht:aS P t e size bytes){ao:Option Addr}{len cap:Nat}{kl kh:IntKind}{m n:Int}{lo hi:Operand}(hx:evL l x=some (.slice ao len cap))(hl:evL l lo=some (.int kl m))(hh:evL l hi=some (.int kh n))
 (hm:0≤m∧m≤n)(hn:n≤cap):Cm P N CH l ⟨dd,.slice t x (some lo) (some hi) none,ty,pos,aft,g⟩ (.slice (aP ao cap m.toNat size) (n.toNat-m.toNat) (cap-m.toNat)):=fun a w ha _=>by
 have h1:0≤n∧n≤(cap:Int):=⟨by omega,hn⟩
 have h2:0≤m∧m≤(n.toNat:Int):=⟨hm.1,by omega⟩
 simp only[execOp,ha.ev hx,ha.ev hl,ha.ev hh,Instr.sliceAt,Instr.slice,run_underlying ht.und,Instr.sliceBounds,map_some,Option.map_none,Sem.run_bind,Result.andThen_ok,Sem.run_pure,
  bV _ _ h1,bV _ _ h2,ht.size,aP]
theorem Vd{e:TypeId}{size bytes:Nat}(ht:aS P t e size bytes){ao:Option Addr}{len cap:Nat}{kl kh km:IntKind}{m n q:Int}{lo hi mx:Operand}(hx:evL l x=some (.slice ao len cap))(hl:evL l lo=some (.int kl m))(hh:evL l hi=some (.int kh n))(hq:evL l mx=some (.int km q))
 (hm:0≤m∧m≤n)(hn:n≤q)(hqc:q≤cap):Cm P N CH l ⟨dd,.slice t x (some lo) (some hi) (some mx),ty,pos,aft,g⟩ (.slice (aP ao q.toNat m.toNat size) (n.toNat-m.toNat) (q.toNat-m.toNat)):=fun a w ha _=>by
 have h0:0≤q∧q≤(cap:Int):=⟨by omega,hqc⟩
 have h1:0≤n∧n≤(q.toNat:Int):=⟨by omega,by omega⟩
 have h2:0≤m∧m≤(n.toNat:Int):=⟨hm.1,by omega⟩
 simp only[execOp,ha.ev hx,ha.ev hl,ha.ev hh,ha.ev hq,Instr.sliceAt,Instr.slice,run_underlying ht.und,Instr.sliceBounds,map_some,Sem.run_bind,Result.andThen_ok,Sem.run_pure,
  bV _ _ h0,bV _ _ h1,bV _ _ h2,ht.size,aP]
theorem U8{e:TypeId}{size bytes:Nat}(ht:aS P t e size bytes)(he:P.underlying e=some (.int .u8))(hd:P.underlying t'=some .string){ao:Option Addr}{cap:Nat}{xs:List UInt8}(hx:evL l x=some (.slice ao xs.length cap))(hv:∀ H,CH H→Vw b8 H ao cap xs) :
 Cm P N CH l ⟨dd,.convert t t' x,ty,pos,aft,g⟩ (.string (bs xs)):=fun a w ha hw=>by
 have hv:=hv _ hw;simp only[execOp,ha.ev hx,Sem.run_bind];cases hao:ao with
|none=>
   have hn:xs=[]:=by
    rcases Nat.eq_zero_or_pos xs.length with h0|h0
    ·exact eq_nil_of_length_eq_zero h0
    ·exact absurd hao (hv.non (by omega))
   subst hn;rw[run_convert_bytes_nil w t e ht.und he _ _ t' hd];rfl
|some b=>
   have hl:(loadCells b xs.length).run P w=.ok ((xs.map fun u=>((u.toNat:Int))).map (Value.int .u8)).toArray w:=by
    have:=run_loadCells_list (P:=P) w b (xs.map b8) (fun j u hj=>by
     rw[List.getElem?_map] at hj;obtain⟨q,hq,rfl⟩:=Option.map_eq_some_iff.1 hj;have:=hv.get j q hq;rw[hao] at this;exact this)
    rw[List.length_map] at this;rw[this,map_map];rfl
   rw[run_convert_bytes_string w t t' e _ xs.length cap ht.und he hd,run_bytesToString w b xs.length cap _ hl,foldl_push_bytes];simp[bs,ByteArray.empty,ByteArray.emptyWithCapacity,Function.comp_def];rfl
theorem Ui{H:Array Obj}{e:TypeId}{size bytes:Nat}(ht:aS P t e size bytes)(he:P.underlying e=some (.int .u8))(hd:P.underlying t'=some .string){ao:Option Addr}{cap:Nat}{xs:List UInt8}(hx:evL l x=some (.slice ao xs.length cap))(hv:Vw b8 H ao cap xs) :
 Cm P N (· = H) l ⟨dd,.convert t t' x,ty,pos,aft,g⟩ (.string (bs xs)):=U8 ht he hd hx (fun _ e=>by rw[e];exact hv)
theorem Wb{a b:ByteArray}(hx:evL l x=some (.string a))(hy:evL l y=some (.string b)):Cm P N CH l ⟨dd,.binOp .eql t x y t',ty,pos,aft,g⟩ (.bool (decide (a.toList=b.toList))):=fun c w ha _=>by
 simp[execOp,ha.ev hx,ha.ev hy,eqGuard,binOp,Op.stringOp];by_cases h:a.toList=b.toList<;>simp[h]
theorem Wc{a b:ByteArray}(hx:evL l x=some (.string a))(hy:evL l y=some (.string b)):Cm P N CH l ⟨dd,.binOp .neq t x y t',ty,pos,aft,g⟩ (.bool (decide (a.toList≠b.toList))):=fun c w ha _=>by
 simp[execOp,ha.ev hx,ha.ev hy,eqGuard,binOp,Op.stringOp];by_cases h:a.toList=b.toList<;>simp[h]
theorem UE{a b:List UInt8}(hx:evL l x=some (.string (bs a)))(hy:evL l y=some (.string (bs b))):Cm P N CH l ⟨dd,.binOp .eql t x y t',ty,pos,aft,g⟩ (.bool (decide (a=b))):=by
 have:=@Wb P N l ty pos aft CH x y t t' g dd (bs a) (bs b) hx hy;simpa only[gN] using this
theorem UK{a b:List UInt8}(hx:evL l x=some (.string (bs a)))(hy:evL l y=some (.string (bs b))):Cm P N CH l ⟨dd,.binOp .neq t x y t',ty,pos,aft,g⟩ (.bool (decide (a≠b))):=by
 have:=@Wc P N l ty pos aft CH x y t t' g dd (bs a) (bs b) hx hy;simpa only[gN] using this
def JS(P:Program)(t:TypeId):Bool:=match P.underlying t with|some (.pointer _)=>true|_=>false
theorem Mr{P:Program}{t:TypeId}(h:JS P t=true):P.underlying t=some (.pointer (P.pointee t)):=by
 unfold JS at h
 split at h
 ·rename_i e hu;simp[Program.pointee,hu]
 ·cases h
theorem Uq{p:Option Addr}(ht:JS P t=true)(hx:evL l x=some (.pointer p))(hy:evL l y=some (.pointer none)):Cm P N CH l ⟨dd,.binOp .eql t x y t',ty,pos,aft,g⟩ (.bool p.isNone):=fun c w ha _=>by
 have:=run_eql_pointer_nil (P:=P) w t p (Mr ht);simp only[execOp,ha.ev hx,ha.ev hy];cases p<;>simp[eqGuard,this]
theorem TB{α:Type}{enc:α→Value}(henc:∀ x,(enc x).oneCell'=true){e:TypeId}{bytes:Nat}(ht:aS P t e 1 bytes)
 {ao bo:Option Addr}{cap bcap:Nat}{xs ys:List α}(hx:evL l x=some (.slice ao xs.length cap))(hy:evL l y=some (.slice bo ys.length bcap))
 (ho:Own enc e w.heap ao cap xs)(hv:Vw enc w.heap bo bcap ys)
 (hb:(xs.length+ys.length)*bytes≤140737488355328)(hm:xs.length+ys.length≤maxLen)(hd:Nat.blt d N.n=true)
 (h:∀ ao' cap' w',Own enc e w'.heap ao' cap' (xs++ys)→aA (blk ao) w w'→(∀ a,ao'=some a→ao=some a∨w.heap.size≤a.block)→(ao'=none→ao=none∧ys=[]) →
   Sl P N ops Q rest ((d,.slice ao' (xs++ys).length cap')::l) w') :
 Sl P N ops Q (⟨some d,.call ⟨.builtin .append,#[x,y],#[t,t]⟩,ty,pos,aft,none⟩::rest) l w:=by
 obtain⟨ao',cap',w',hr,h1,h2,h3,h4⟩:=uQ henc (ty:=ty) ht ho hv hb hm;refine Ua (w':=w') (v:=.slice ao' (xs++ys).length cap') (fun a ha=>?_) hd (h ao' cap' w' h1 h2 h3 h4);simp[execOp,ha.ev hx,ha.ev hy,resolve,invoke,builtin,hr]
theorem T1{T:TypeId}(hx:evL l x=some v)(hd:Nat.blt d N.n=true)
 (h:∀ w',w'.heap[w.heap.size]?=some (.cells v.cells T (0,0))→w'.heap.size=w.heap.size+1→aA nob w w'→Sl P N ops Q rest ((d,.pointer (some ⟨w.heap.size,0,none⟩))::l) w') :
 Sl P N ops Q (⟨some d,.box T x,ty,pos,aft,none⟩::rest) l w:=by
 refine Ua (w':=w.alloc (.cells v.cells T)) (fun a ha=>?_) hd (h _ (heap_alloc_new w _) (by simp) (aA.alloc _ _ _));simp[execOp,ha.ev hx,Instr.box,newVar,newRow]
theorem lD{α:Type}{enc:α→Value}{e:TypeId}{H:Array Obj}{g:Nat}{xs:List α}(hg:H[g]?=some (.cells (xs.map enc).toArray e (0,0)))(hm:xs.length≤maxLen):Own enc e H (some ⟨g,0,none⟩) xs.length xs:=
 .inr ⟨g,_,rfl,hg,Nat.le_refl _,hm,by simp,by simp;exact take_of_length_le (by simp)⟩
theorem wP{f:Nat→Value}:(Array.range 0).map f=#[]:=by apply Array.ext';simp
theorem EL{f:Nat→Value}{u:Value}:((Array.range 1).map f).setIfInBounds 0 u=#[u]:=by apply Array.ext';simp[range_succ]
theorem EK{f:Nat→Value}{u u':Value}:(((Array.range 2).map f).setIfInBounds 0 u).setIfInBounds 1 u'=#[u,u']:=by apply Array.ext';simp[range_succ]
theorem T2{α:Type}(enc:α→Value){e:TypeId}{bytes:Nat}(ht:aS P t e 1 bytes)(hd:Nat.blt d N.n=true)
 (h:∀ w',Own enc e w'.heap (some ⟨w.heap.size,0,none⟩) 0 ([]:List α)→w'.heap.size=w.heap.size+1→aA nob w w'→Sl P N ops Q rest ((d,.slice (some ⟨w.heap.size,0,none⟩) 0 0)::l) w') :
 Sl P N ops Q (⟨some d,.buildSlice t 0 #[],ty,pos,aft,none⟩::rest) l w:=by
 refine Ua (w':=w.alloc (.cells #[] e)) (fun a ha=>?_) hd (h _ (lD (xs:=[]) (heap_alloc_new w _) (Nat.zero_le _)) (by simp) (aA.alloc _ _ _));simp[execOp,Instr.buildSlice,run_underlying ht.und,ht.size,Instr.fill,newRow];rw[wP]
theorem T3{α:Type}{enc:α→Value}{e:TypeId}{bytes:Nat}(ht:aS P t e 1 bytes){u:α}(hu:(enc u).oneCell'=true)(hx:evL l x=some (enc u))(hd:Nat.blt d N.n=true)
 (h:∀ w',Own enc e w'.heap (some ⟨w.heap.size,0,none⟩) 1 [u]→w'.heap.size=w.heap.size+1→aA nob w w'→Sl P N ops Q rest ((d,.slice (some ⟨w.heap.size,0,none⟩) 1 1)::l) w') :
 Sl P N ops Q (⟨some d,.buildSlice t 1 #[(0,x)],ty,pos,aft,none⟩::rest) l w:=by
 obtain⟨i,z,hi,h1,hz,h2,h3⟩:=ht.parts;have hc:(enc u).cells=#[enc u]:=by cases he:enc u<;>simp_all [Value.cells,Value.oneCell']
 refine Ua (w':=w.alloc (.cells #[enc u] e)) (fun a ha=>?_) hd (h _ (lD (xs:=[u]) (heap_alloc_new w _) (by simp[maxLen])) (by simp) (aA.alloc _ _ _));simp[execOp,Instr.buildSlice,run_underlying ht.und,ht.size,zeroValue,typeInfo,hi,h1,Instr.fill,ha.ev hx,hc,newRow];rw[EL]
theorem Wd{α:Type}{enc:α→Value}{e:TypeId}{bytes:Nat}(ht:aS P t e 1 bytes){u u':α}(hu:∀ x,(enc x).oneCell'=true)(hx:evL l x=some (enc u))(hy:evL l y=some (enc u'))(hd:Nat.blt d N.n=true)
 (h:∀ w',Own enc e w'.heap (some ⟨w.heap.size,0,none⟩) 2 [u,u']→w'.heap.size=w.heap.size+1→aA nob w w'→Sl P N ops Q rest ((d,.slice (some ⟨w.heap.size,0,none⟩) 2 2)::l) w') :
 Sl P N ops Q (⟨some d,.buildSlice t 2 #[(0,x),(1,y)],ty,pos,aft,none⟩::rest) l w:=by
 obtain⟨i,z,hi,h1,hz,h2,h3⟩:=ht.parts;have hc:∀ u,(enc u).cells=#[enc u]:=fun u=>by have:=hu u;cases he:enc u<;>simp_all [Value.cells,Value.oneCell']
 refine Ua (w':=w.alloc (.cells #[enc u,enc u'] e)) (fun a ha=>?_) hd (h _ (lD (xs:=[u,u']) (heap_alloc_new w _) (by simp[maxLen])) (by simp) (aA.alloc _ _ _));simp[execOp,Instr.buildSlice,run_underlying ht.und,ht.size,zeroValue,typeInfo,hi,h1,Instr.fill,ha.ev hx,ha.ev hy,hc,newRow];rw[EK]
theorem Tx{b o:Nat}{cur:List Value}{T:TypeId}(ht:fP P t=true)(hx:evL l x=some (.pointer (some ⟨b,o,none⟩)))(hy:evL l y=some v)(h1:v.oneCell'=true)
 (hg:w.heap[b]?=some (.cells cur.toArray T (0,0)))(ho:Nat.blt o cur.length=true)
 (h:∀ w',w'.heap[b]?=some (.cells (cur.set o v).toArray T (0,0))→w'.heap.size=w.heap.size→aA (· = b) w w'→Sl P N ops Q rest l w') :
 Sl P N ops Q (⟨none,.store t x y,ty,pos,aft,none⟩::rest) l w:=by
 have ho':o<cur.length:=by simpa[Nat.blt_eq] using ho
 have hc:v.cells=#[v]:=by cases v<;>simp_all [Value.cells,Value.oneCell']
 have hcell:w.cell? ((⟨b,o,none⟩:Addr).add 0)=some cur[o]:=by simp[Addr.add,World.cell?,hg,ho']
 have hfro:w.frozen? ((⟨b,o,none⟩:Addr).add 0)=false:=by simp[Addr.add,World.frozen?,hg]
 refine UB (w':=w.setCell ⟨b,o,none⟩ v) (fun a ha=>?_) (h _ ?_ ?_ ?_)
 · simp[execOp,ha.ev hx,ha.ev hy,Instr.storeAt,Instr.sureAddr,storeVar,Jh ht,hc,storeCells,run_store P w _ v _ h1,hcell,hfro]
   simp[Addr.add]
 ·simp[World.setCell,Array.getElem?_modify,hg]
 ·simp[World.setCell]
 ·exact⟨rfl,rfl,rfl,by simp[World.setCell],fun k hk hn=>Below.heap_setCell _ _ _ _ hn⟩
end
section
variable {P:Program}{ops:Array Oper}{md:Region.Mode}{CH:Array Obj→Prop}
def YC(P:Program)(ops:Array Oper)(CH:Array Obj→Prop)(o:Oper)(v:Value)(a:Act):Prop:=
 (Region.wanted o (yielded ops a.tmps)=true∧∀ w,CH w.heap→(execOp a.eval o).run P w=.ok (.value v) w) ∨
 (Region.wanted o (yielded ops a.tmps)=false∧v=undef)
theorem YC.of_same{o:Oper}{v:Value}{a a':Act}(hy:YC P ops CH o v a)(he:execOp a'.eval o=execOp a.eval o)
 (hw:Region.wanted o (yielded ops a'.tmps)=Region.wanted o (yielded ops a.tmps)):YC P ops CH o v a':=by
 unfold YC at *;rw[he,hw];exact hy
def lQ(K:Act→World→Prop):Exit→Act→World→Prop
|.normal,a,w=>K a w
|_,_,_=>False
theorem YC.wpOp{i:Nat}{o:Oper}{v:Value}{a:Act}{Q:Exit→Act→World→Prop}(hi:ops[i]?=some o)(hy:YC P ops CH o v a)
 {K:Act→World→Prop}{w:World}(hc:CH w.heap)(h:K (a.put o.dst v) w):wpOp P ops Q i K a w:=by
 unfold Go.wpOp;simp only[hi];rcases hy with⟨hw,hv⟩|⟨hw,rfl⟩
 ·simp only[hw,if_true,Oper.wp,hv w hc,Oper.upon];exact .inl h
 ·simp only[hw,Bool.false_eq_true,if_false];exact h
theorem GX{K0:Act→World→Prop}{j:Nat}{oi oj:Oper}{v:Value}(hj:ops[j]?=some oj)(hap:oi.apart ops oj=true)
 (hsi:∀ cs b,oi.op≠.select cs b)(hsj:∀ cs b,oj.op≠.select cs b){K:Act→World→Prop}{a:Act}{w:World}
 (hy:YC P ops CH oi v a)(h:wpOp P ops (lQ K0) j K (a.put oi.dst v) w) :
 wpOp P ops (lQ K0) j (fun a' w'=>YC P ops CH oi v a'∧K (a'.put oi.dst v) w') a w:=by
 obtain⟨h1,h2,h3⟩:=Oper.apart_spec hap;have keep:∀ (a:Act),YC P ops CH oi v a→∀ u,YC P ops CH oi v (a.put oj.dst u):=fun a hy u=>
  hy.of_same (execOp_put oi hsi a oj.dst u h3) (wanted_put oi a oj.dst u h3)
 have keepD:∀ d,YC P ops CH oi v { a with defers:=d::a.defers }:=fun d=>hy.of_same rfl rfl;unfold wpOp at *;simp only[hj] at *;rw[wanted_put oj a oi.dst v h1] at h
 split
 · rename_i hw
   simp only[hw,if_true] at h;rcases h with h|⟨hasks,hlets⟩
   case inr=>exact .inr ⟨by unfold Oper.asks at *;rw[execOp_put oj hsj a oi.dst v h1] at hasks;exact hasks,hlets⟩
   refine .inl ?_;unfold Oper.wp at *;rw[execOp_put oj hsj a oi.dst v h1] at h;generalize (execOp a.eval oj).run P w=r at *;cases r with
  |ok n w'=>
     cases n<;>simp only[Oper.upon] at h ⊢
     case value u=>exact⟨keep a hy u,by rw[←Act.put_comm a v u h2];exact h⟩
     case skip=>exact⟨keep a hy _,by rw[←Act.put_comm a v undef h2];exact h⟩
     case defer d=>
      refine⟨keep _ (keepD d) _,?_⟩;rw[←Act.put_comm _ v undef h2,←Act.put_defers];exact h
     case enter f args=>
      refine Calls.mono h fun e w'' he=>?_;cases e with
     |returned u=>exact⟨keep a hy u,by rw[←Act.put_comm a v u h2];exact he⟩
     |panicked c=>exact he
     |outgrown=>exact he
     case row row args=>exact Rows.mono h fun u w'' he=>⟨keep a hy u,by rw[←Act.put_comm a v u h2];exact he⟩
  |halt x w'=>
     cases x<;>simp only[Oper.upon] at h ⊢
     case panic u=>exact h
 · rename_i hw
   simp only[hw] at h;exact⟨keep a hy _,by rw[←Act.put_comm a v undef h2];exact h⟩
def bZ(P:Program)(md:Region.Mode)(ops:Array Oper)(n:Nat)(CH:Array Obj→Prop)(K0:Act→World→Prop):Nat→Array Bool→Act→World→Prop
|0,listed,a,w=>(listed.getD n false=false→CH w.heap)∧Region.ready md ops listed=[]∧K0 a w
|fuel+1,listed,a,w=>(listed.getD n false=false→CH w.heap) ∧
   (Region.ready md ops listed=[]→K0 a w) ∧
   ∀ i∈Region.ready md ops listed,wpOp P ops (lQ K0) i (bZ P md ops n CH K0 fuel (listed.setIfInBounds i true)) a w
theorem bZ.ch{n:Nat}{K0:Act→World→Prop}:∀ {fuel:Nat} {listed:Array Bool} {a:Act} {w:World},bZ P md ops n CH K0 fuel listed a w→listed.getD n false=false→CH w.heap
|0,_,_,_,h=>h.1
|_+1,_,_,_,h=>h.1
theorem bZ.any{n:Nat}{K0:Act→World→Prop}:∀ {fuel:Nat} {listed:Array Bool} {a:Act} {w:World},bZ P md ops n CH K0 fuel listed a w→wpAny P md ops (lQ K0) fuel listed a w
|0,_,_,_,h=>h.2
|_+1,_,_,_,h=>⟨h.2.1,fun i hi=>wpOp_mono (fun _ _ h'=>bZ.any h') (h.2.2 i hi)⟩
def rZ(ops:Array Oper)(n:Nat):Bool:=Nat.ble ops.size n || (Region.sinkB .any ops n && Region.chainB .any ops n)
theorem Ig{n:Nat}{listed:Array Bool}(hf:rZ ops n=true)(inv:HeadInv .any ops n listed){i j:Nat}(hi:i<n)(hun:listed.getD i true=false)(hj:j∈Region.ready .any ops listed):j<n:=by
 have hjs:j<ops.size:=by
  obtain⟨_,o,ho,_⟩:=mem_ready.1 hj;exact(Array.getElem?_eq_some_iff.1 ho).1
 simp only[rZ,Bool.or_eq_true,Bool.and_eq_true,Nat.ble_eq] at hf;rcases Nat.lt_or_ge n ops.size with hn|hn
 · rcases hf with hf|hf
   ·omega
   · rcases Nat.lt_or_ge j n with h|h
     ·exact h
     ·exact absurd hj (tail_waits hf.1 hf.2 hn inv _ i rfl hi hun j h)
 ·omega
theorem zC{n:Nat}{listed:Array Bool}(hf:rZ ops n=true)(inv:HeadInv .any ops n listed){j:Nat}(hj:j∈Region.ready .any ops listed)(h:n<j):False:=by
 obtain⟨_,o,ho,hall⟩:=mem_ready.1 hj;have hjs:j<ops.size:=(Array.getElem?_eq_some_iff.1 ho).1;simp only[rZ,Bool.or_eq_true,Bool.and_eq_true,Nat.ble_eq] at hf;rcases hf with hf|hf
 ·omega
 · have h1:=List.all_eq_true.1 hf.2 j (mem_range.2 hjs)
   simp only[Bool.or_eq_true,decide_eq_true_eq] at h1;rcases h1 with h1|h1
   ·omega
   · obtain⟨o',ho',e,he,hb,hon⟩:=Region.waitsFor_spec h1
     have:o'=o:=Option.some.inj (ho'.symm.trans ho);subst this;have h2:=hall e he hb;rw[hon,getD_both (inv.tail (j-1) (by omega) (by omega))] at h2;cases h2
theorem zB{n:Nat}{listed:Array Bool}(inv:HeadInv .any ops n listed):listed.getD n false=false:=by
 rcases Nat.lt_or_ge n ops.size with h|h
 ·exact getD_both (inv.tail n (Nat.le_refl _) h)
 · have:listed.size≤n:=by rw[inv.size];exact h
   simp[Array.getElem?_eq_none this]
theorem mR{n:Nat}{K0:Act→World→Prop}{i:Nat}{oi:Oper}{v:Value}(hi:ops[i]?=some oi)(hsel:∀ (j:Nat) (o:Oper) cs b,ops[j]?=some o→o.op≠.select cs b)(hf:rZ ops n=true)(hin:i<n) :
 ∀ (fuel:Nat) (listed:Array Bool) (a:Act) (w:World),HeadInv .any ops n listed→CH w.heap →
  (∀ j oj,ops[j]?=some oj→j≠i→listed.getD j true=false→(∀ e∈oj.after,Region.binds .any e=true→e.on≠i)→oi.apart ops oj=true) →
  i∈Region.ready .any ops listed→YC P ops CH oi v a →
  bZ P .any ops n CH K0 fuel (listed.setIfInBounds i true) (a.put oi.dst v) w→bZ P .any ops n CH K0 (fuel+1) listed a w:=by
 intro fuel
 induction fuel with
|zero=>
   intro listed a w _ hc _ hr hy H;refine⟨fun _=>hc,fun h=>(by rw[h] at hr;cases hr),fun j hj=>?_⟩;by_cases hji:j=i
   ·subst hji;exact hy.wpOp hi hc H
   · have:=ready_mono hj hji
     rw[H.2.1] at this;cases this
|succ fuel ih=>
   intro listed a w inv hc hfree hr hy H;refine⟨fun _=>hc,fun h=>(by rw[h] at hr;cases hr),fun j hj=>?_⟩;by_cases hji:j=i
   ·subst hji;exact hy.wpOp hi hc H
   · have h1:=H.2.2 j (ready_mono hj hji)
     obtain⟨hjun,oj,hoj,hall⟩:=mem_ready.1 hj;have hjn:j<n:=Ig hf inv hin (mem_ready.1 hr).1 hj;have inv':=inv.set hj hjn;have hnot:∀ e∈oj.after,Region.binds .any e=true→e.on≠i:=fun e he hb heq=>by
      have h1:=hall e he hb;have h0:=(mem_ready.1 hr).1;rw[heq] at h1;rcases Nat.lt_or_ge i listed.size with h'|h'
      ·simp[h'] at h0 h1;rw[h0] at h1;cases h1
      ·simp[Array.getElem?_eq_none h'] at h1
     have h2:=GX hoj (hfree j oj hoj hji hjun hnot) (fun cs b=>hsel i oi cs b hi) (fun cs b=>hsel j oj cs b hoj) hy h1;have hfree':∀ k ok,ops[k]?=some ok→k≠i→(listed.setIfInBounds j true).getD k true=false →
      (∀ e∈ok.after,Region.binds .any e=true→e.on≠i)→oi.apart ops ok=true:=fun k ok hk hki hun hno=>by
      refine hfree k ok hk hki ?_ hno;by_cases hjk:j=k
      ·subst hjk;exact hjun
      ·rw[getD_set_ne true hjk] at hun;exact hun
     have hstill:((listed.setIfInBounds i true).setIfInBounds j true).getD n false=false:=by
      rw[getD_set_ne false (by omega),getD_set_ne false (by omega)];exact zB inv
     refine wpOp_mono (fun a' w' h3=>ih (listed.setIfInBounds j true) a' w' inv' (h3.2.ch hstill) hfree' (ready_mono hr (Ne.symm hji)) h3.1 ?_) h2;rw[Array.setIfInBounds_comm _ _ hji];exact h3.2
def pV(ops:Array Oper)(n:Nat)(effs:List Nat):List Nat→Array Bool→Bool
|[],listed=>(Region.ready .any ops listed).isEmpty
|i::r,listed=>
   (bif effs.contains i then (match Region.ready .any ops listed with|[j]=>Nat.beq j i|_=>false) && (Nat.blt i n || r.isEmpty) else ((Region.ready .any ops listed).contains i && Region.free .any ops listed i && Nat.blt i n)) &&
   pV ops n effs r (listed.setIfInBounds i true)
def Sx(P:Program)(N:Nt)(ops:Array Oper)(n:Nat):(Array Obj→Prop)→List Nat→(Act→World→Prop)→List Nat→SF→World→Prop
|_,_,K0,[],l,w=>∀ a,cK N l a→K0 a w
|CH,effs,K0,i::r,l,w=>∃ o,ops[i]?=some o ∧
   (bif effs.contains i then Sl P N ops (lQ fun a w=>∃ l',cK N l' a∧∃ CH':Array Obj→Prop,(∀ H,CH' H→CH H)∧(Nat.blt i n=true→CH' w.heap)∧Sx P N ops n CH' effs K0 r l' w) [o] l w
    else ∃ v,(∀ a,cK N l a→YC P ops CH o v a)∧∃ l',(∀ a,cK N l a→cK N l' (a.put o.dst v))∧Sx P N ops n CH effs K0 r l' w)
theorem bZ.mono{n:Nat}{K0:Act→World→Prop}{CH CH':Array Obj→Prop}(hs:∀ H,CH' H→CH H):∀ {fuel:Nat} {listed:Array Bool} {a:Act} {w:World},bZ P md ops n CH' K0 fuel listed a w→bZ P md ops n CH K0 fuel listed a w
|0,_,_,_,h=>⟨fun h0=>hs _ (h.1 h0),h.2⟩
|_+1,_,_,_,h=>⟨fun h0=>hs _ (h.1 h0),h.2.1,fun i hi=>wpOp_mono (fun _ _ h'=>bZ.mono hs h') (h.2.2 i hi)⟩
theorem WB{o:Oper}{a:Act}{w:World}{K K':Act→World→Prop}{M M':Act→World→Prop}(h:∀ a w,K a w→K' a w)(hh:o.wp P a w K (lQ M)):o.wp P a w K' (lQ M'):=by
 unfold Oper.wp at *;generalize (execOp a.eval o).run P w=r at *;cases r with
|ok n w'=>
   cases n<;>simp only[Oper.upon] at hh ⊢ <;>
    first
    |exact h _ _ hh
    |exact Calls.mono hh (fun e w'' he=>by cases e<;>first|exact h _ _ he|exact he.elim|(obtain⟨_,_,hf⟩:=he;exact hf.elim))
    |exact Rows.mono hh (fun _ _ he=>h _ _ he)
|halt x w'=>cases x<;>simp only[Oper.upon] at hh ⊢;exact hh.elim
theorem nR{N:Nt}{n:Nat}{effs:List Nat}{K0:Act→World→Prop}(hsel:Region.noSelect ops=true)(hfin:rZ ops n=true):∀ (ord:List Nat) (CH:Array Obj→Prop) (fuel:Nat) (listed:Array Bool) (l:SF) (a:Act) (w:World),ord.length≤fuel→pV ops n effs ord listed=true →
 cK N l a→(HeadInv .any ops n listed∧CH w.heap)∨(ord=[]∧listed.getD n false=true)→Sx P N ops n CH effs K0 ord l w→bZ P .any ops n CH K0 fuel listed a w
|[],CH,fuel,listed,l,a,w,_,hm,ha,hc,h=>by
   have hr:Region.ready .any ops listed=[]:=by simpa[pV] using hm
   have hch:listed.getD n false=false→CH w.heap:=fun h0=>by
    rcases hc with hc|hc
    ·exact hc.2
    ·rw[hc.2] at h0;cases h0
   cases fuel with
  |zero=>exact⟨hch,hr,h a ha⟩
  |succ f=>exact⟨hch,fun _=>h a ha,by rw[hr];simp⟩
|i::r,CH,0,listed,l,a,w,hf,hm,ha,hc,h=>by simp at hf
|i::r,CH,f+1,listed,l,a,w,hf,hm,ha,hc,h=>by
   obtain⟨inv,hc⟩:=hc.resolve_right (fun hc=>by cases hc.1);obtain⟨o,ho,h⟩:=h;simp only[pV,Bool.and_eq_true] at hm;obtain⟨hm1,hm2⟩:=hm;cases he:effs.contains i with
  |true=>
     rw[he] at h hm1;simp only[cond_true,Bool.and_eq_true] at h hm1;obtain⟨hm1,hm3⟩:=hm1;have hr:Region.ready .any ops listed=[i]:=by
      split at hm1
      ·rename_i j hj;rw[hj,Nat.eq_of_beq_eq_true hm1]
      ·cases hm1
     refine⟨fun _=>hc,fun h0=>(by rw[hr] at h0;cases h0),fun j hj=>?_⟩;have hjr:=hj;rw[hr] at hj;obtain rfl:j=i:=by simpa using hj
     have h1:=h a ha;unfold wpList at h1;unfold wpOp;simp only[ho]
     have key:∀ a' w',wpList P ops (lQ fun a w=>∃ l',cK N l' a∧∃ CH':Array Obj→Prop,(∀ H,CH' H→CH H)∧(Nat.blt j n=true→CH' w.heap)∧Sx P N ops n CH' effs K0 r l' w) [] a' w'→bZ P .any ops n CH K0 f (listed.setIfInBounds j true) a' w':=by
      intro a' w' h2;obtain⟨l',h3,CH',hsub,h4,h5⟩:=h2;refine bZ.mono hsub (nR hsel hfin r CH' f _ l' a' w' (by simp at hf;omega) hm2 h3 ?_ h5);rcases Nat.lt_or_ge j n with hjn|hjn
      ·exact .inl ⟨inv.set hjr hjn,h4 (by simpa[Nat.blt_eq] using hjn)⟩
      · have hjs:j<ops.size:=(Array.getElem?_eq_some_iff.1 ho).1
        have hb:Nat.blt j n=false:=by rw[←Bool.not_eq_true,Nat.blt_eq];omega
        simp only[hb,Bool.false_or,List.isEmpty_iff] at hm3;have hr0:r=[]:=hm3
        · have hjn':j=n:=by
           rcases Nat.lt_or_ge n j with h6|h6
           ·have h7:=zC hfin inv hjr h6;exact h7.elim
           ·omega
          subst hjn';exact .inr ⟨hr0,by simp[inv.size,hjs]⟩
     split
     · rename_i hw
       rw[if_pos hw] at h1;rcases h1 with h1|⟨_,_,_,h1⟩
       ·exact .inl (WB key h1)
       ·exact h1.elim
     · rename_i hw
       rw[if_neg hw] at h1;exact key _ _ h1
  |false=>
     rw[he] at h hm1;simp only[cond_false,Bool.and_eq_true] at h hm1;obtain⟨v,hy,l',hl',hs⟩:=h;have hin:i<n:=by simpa[Nat.blt_eq] using hm1.2
     have hir:i∈Region.ready .any ops listed:=by simpa using hm1.1.1
     exact mR ho (Region.noSelect_spec hsel) hfin hin f listed a w inv hc (Region.free_spec ho hm1.1.2) hir (hy a ha) (nR hsel hfin r CH f _ l' _ w (by simp at hf;omega) hm2 (hl' a ha) (.inl ⟨inv.set hir hin,hc⟩) hs)
variable {N:Nt}{Q:Exit→Act→World→Prop}{l:SF}{w:World}
theorem rX{n:Nat}:HeadInv .any ops n (Array.replicate ops.size false):=
 ⟨by simp,(fun j oj hj hl=>by rw[getD_replicate_false] at hl;cases hl),(fun t _ ht=>by simp[ht])⟩
theorem TG{id:Nat}{lops:List Oper}(n:Nat)(CH:Array Obj→Prop)(effs ord:List Nat)(hm:P.follows .mixedOrders=true)(hs:(Region.noSelect lops.toArray && rZ lops.toArray n &&
 pV lops.toArray n effs ord (Array.replicate lops.length false) && Nat.ble ord.length lops.length)=true)(hc:CH w.heap)
 (h:Sx P N lops.toArray n CH effs (fun a w=>Q .normal a w) ord l (w.drewN 1)):Sc P N (.region id lops.toArray true) Q l w:=fun a ha=>by
 simp only[Bool.and_eq_true] at hs;obtain⟨⟨⟨hs,hfin⟩,hok⟩,hlen⟩:=hs;have h1:=nR (P:=P) (N:=N) (K0:=fun a w=>Q .normal a w) hs hfin ord CH lops.length _ l a (w.drewN 1) (by simpa[Nat.ble_eq] using hlen) hok ha
  (.inl ⟨by have:=rX (ops:=lops.toArray) (n:=n);simpa using this,hc⟩) h
 have h2:=wp_region_any (P:=P) (id:=id) (ops:=lops.toArray) (Q:=lQ fun a w=>Q .normal a w) (a:=a) (w:=w) hm (by
  have:=h1.any;simpa[World.drewN] using this)
 refine wp_mono h2 ?_;intro e a' w' hq;cases e<;>first|exact hq|exact hq.elim
variable {n:Nat}{effs:List Nat}{K0:Act→World→Prop}{r:List Nat}{i:Nat}{op:Op}{ty:TypeId}{pos:String}{aft:Array Edge}{d:Nat}{v:Value}
theorem UU(hi:ops[i]?=some ⟨some d,op,ty,pos,aft,none⟩)(he:effs.contains i=false)(hv:Cm P N CH l ⟨some d,op,ty,pos,aft,none⟩ v)(hd:Nat.blt d N.n=true)
 (h:Sx P N ops n CH effs K0 r ((d,v)::l) w):Sx P N ops n CH effs K0 (i::r) l w:=
 ⟨_,hi,by rw[he];exact⟨v,fun a ha=>.inl ⟨by simp[Region.wanted],fun w hw=>hv a w ha hw⟩,_,fun a ha=>ha.put hd v,h⟩⟩
theorem UV{j s:Nat}{b:Bool}(hi:ops[i]?=some ⟨some d,op,ty,pos,aft,some (j,b)⟩)(he:effs.contains i=false)(hj:(ops[j]?).bind (·.dst)=some s)(hs:lk l s=some (.bool b))
 (hv:Cm P N CH l ⟨some d,op,ty,pos,aft,some (j,b)⟩ v)(hd:Nat.blt d N.n=true)
 (h:Sx P N ops n CH effs K0 r ((d,v)::l) w):Sx P N ops n CH effs K0 (i::r) l w:=
 ⟨_,hi,by rw[he];exact⟨v,fun a ha=>.inl ⟨by simp[Region.wanted,kE ha hj hs],fun w hw=>hv a w ha hw⟩,_,fun a ha=>ha.put hd v,h⟩⟩
theorem We{p:Prop}[Decidable p](hi:ops[i]?=some ⟨some d,op,ty,pos,aft,none⟩)(he:effs.contains i=false)(hv:Cm P N CH l ⟨some d,op,ty,pos,aft,none⟩ (.bool (decide p)))(hd:Nat.blt d N.n=true)
 (h1:p→Sx P N ops n CH effs K0 r ((d,.bool true)::l) w)(h2:¬ p→Sx P N ops n CH effs K0 r ((d,.bool false)::l) w):Sx P N ops n CH effs K0 (i::r) l w:=by
 by_cases h:p
 ·rw[decide_eq_true h] at hv;exact UU hi he hv hd (h1 h)
 ·rw[decide_eq_false h] at hv;exact UU hi he hv hd (h2 h)
theorem Un{p:Prop}[Decidable p]{j s:Nat}{b:Bool}(hi:ops[i]?=some ⟨some d,op,ty,pos,aft,some (j,b)⟩)(he:effs.contains i=false)(hj:(ops[j]?).bind (·.dst)=some s)(hs:lk l s=some (.bool b))
 (hv:Cm P N CH l ⟨some d,op,ty,pos,aft,some (j,b)⟩ (.bool (decide p)))(hd:Nat.blt d N.n=true)
 (h1:p→Sx P N ops n CH effs K0 r ((d,.bool true)::l) w)(h2:¬ p→Sx P N ops n CH effs K0 r ((d,.bool false)::l) w):Sx P N ops n CH effs K0 (i::r) l w:=by
 by_cases h:p
 ·rw[decide_eq_true h] at hv;exact UV hi he hj hs hv hd (h1 h)
 ·rw[decide_eq_false h] at hv;exact UV hi he hj hs hv hd (h2 h)
theorem Wf{j s:Nat}{b:Bool}{u:Value}(hi:ops[i]?=some ⟨some d,op,ty,pos,aft,some (j,b)⟩)(he:effs.contains i=false)(hj:(ops[j]?).bind (·.dst)=some s)(hs:lk l s=some u)(hb:zZ u b=true)(hd:Nat.blt d N.n=true)
 (h:Sx P N ops n CH effs K0 r ((d,undef)::l) w):Sx P N ops n CH effs K0 (i::r) l w:=
 ⟨_,hi,by rw[he];exact⟨undef,fun a ha=>.inr ⟨by
  simp only[Region.wanted,kE ha hj hs];cases u<;>simp_all [zZ],rfl⟩,_,fun a ha=>ha.put hd undef,h⟩⟩
def KX(P:Program)(N:Nt)(ops:Array Oper)(n:Nat)(CH:Array Obj→Prop)(effs:List Nat)(K0:Act→World→Prop)(i:Nat)(r:List Nat):Exit→Act→World→Prop:=
 lQ fun a w=>∃ l',cK N l' a∧∃ CH':Array Obj→Prop,(∀ H,CH' H→CH H)∧(Nat.blt i n=true→CH' w.heap)∧Sx P N ops n CH' effs K0 r l' w
theorem Ty{o:Oper}(hi:ops[i]?=some o)(he:effs.contains i=true)(h:Sl P N ops (KX P N ops n CH effs K0 i r) [o] l w):Sx P N ops n CH effs K0 (i::r) l w:=
 ⟨_,hi,by rw[he];exact h⟩
theorem TE(hc:CH w.heap)(h:Sx P N ops n CH effs K0 r l w):Sl P N ops (KX P N ops n CH effs K0 i r) [] l w:=fun _ ha=>⟨l,ha,CH,fun _ h=>h,fun _=>hc,h⟩
theorem Wp(E:Array Obj→Prop)(hc:CH w.heap)(he:E w.heap)(h:Sx P N ops n (fun H=>CH H∧E H) effs K0 r l w):Sl P N ops (KX P N ops n CH effs K0 i r) [] l w:=fun _ ha=>⟨l,ha,_,fun _ h=>h.1,fun _=>⟨hc,he⟩,h⟩
theorem T6(hb:Nat.blt i n=false)(h:Sx P N ops n CH effs K0 r l w):Sl P N ops (KX P N ops n CH effs K0 i r) [] l w:=fun _ ha=>⟨l,ha,CH,fun _ h=>h,(fun h0=>by rw[hb] at h0;cases h0),h⟩
theorem Wq(h:At N .normal Q l w):Sx P N ops n CH effs (fun a w=>Q .normal a w) [] l w:=fun a ha=>h a ha
theorem TN{id:Nat}{lops:List Oper}(n:Nat)(ord:List Nat)(hm:P.follows .mixedOrders=true)(hs:(Region.noSelect lops.toArray && rZ lops.toArray n &&
 pV lops.toArray n [] ord (Array.replicate lops.length false) && Nat.ble ord.length lops.length)=true)
 (h:Sx P N lops.toArray n (· = w.heap) [] (fun a w=>Q .normal a w) ord l (w.drewN 1)):Sc P N (.region id lops.toArray true) Q l w:=
 TG n (· = w.heap) [] ord hm hs rfl h
end
inductive GoR:Nat→Prop→Prop→Prop
 |z {p:Prop}:GoR 0 p p
 |s {n:Nat} {p q r:Prop} (h:r→p) (k:GoR n r q):GoR (n+1) p q
theorem GoR.run{n:Nat}{p q:Prop}(h:GoR n p q):q→p:=by
  induction h with
 |z=>exact id
 |s f _ ih=>exact fun h=>f (ih h)
section
variable {P:Program}{N:Nt}{Q:Exit→Act→World→Prop}{l:SF}{w:World}{ops:Array Oper}{rest:List Oper}{k d:Nat}{z:Prop}{ty:TypeId}{pos:String}{aft:Array Edge}{v:Value}
theorem gA1{y:Code}(h:GoR k (Sc P N y Q l w) z):GoR (k+1) (At N .normal (Exit.then (y.wp P Q) Q) l w) z:=.s Ws h
theorem gA2{K:Act→World→Prop}(h:GoR k (At N .ret Q l w) z):GoR (k+1) (At N .ret (Exit.then K Q) l w) z:=.s Vb h
theorem gA3{K:Act→World→Prop}{id:Nat}(h:GoR k (At N (.exit id) Q l w) z):GoR (k+1) (At N (.exit id) (Exit.then K Q) l w) z:=.s U4 h
theorem gA4{i:Nat}(h:GoR k (At N .ret Q l w) z):GoR (k+1) (At N .ret (Exit.inBlock i Q) l w) z:=.s U5 h
theorem gA5{i:Nat}(h:GoR k (At N .normal Q l w) z):GoR (k+1) (At N .normal (Exit.inBlock i Q) l w) z:=.s UQ h
theorem gA6{i:Nat}(h:GoR k (At N .normal Q l w) z):GoR (k+1) (At N (.exit i) (Exit.inBlock i Q) l w) z:=.s U6 h
theorem gC1{x y:Code}(h:GoR k (Sc P N x (Exit.then (y.wp P Q) Q) l w) z):GoR (k+1) (Sc P N (.seq x y) Q l w) z:=.s Wm h
theorem gC2{id:Nat}{os:List Oper}(h:GoR k (Sl P N os.toArray Q os l w) z):GoR (k+1) (Sc P N (.region id os.toArray false) Q l w) z:=.s VA h
theorem gC3{c:Operand}{x y:Code}(hc:evL l c=some (.bool true))(h:GoR k (Sc P N x Q l w) z):GoR (k+1) (Sc P N (.cond c x y) Q l w) z:=.s (VB hc) h
theorem gC4{c:Operand}{x y:Code}(hc:evL l c=some (.bool false))(h:GoR k (Sc P N y Q l w) z):GoR (k+1) (Sc P N (.cond c x y) Q l w) z:=.s (VC hc) h
theorem gC5(h:GoR k (At N .normal Q l w) z):GoR (k+1) (Sc P N .skip Q l w) z:=.s V2 h
theorem gC6{id:Nat}{c:Code}(h:GoR k (Sc P N c (Exit.inBlock id Q) l w) z):GoR (k+1) (Sc P N (.block id c) Q l w) z:=.s VM h
theorem gC7{id:Nat}(h:GoR k (At N (.exit id) Q l w) z):GoR (k+1) (Sc P N (.exit id) Q l w) z:=.s V3 h
theorem gC8(h:GoR k (At N .ret Q l w) z):GoR (k+1) (Sc P N .ret Q l w) z:=.s Wn h
theorem gL0(h:GoR k (At N .normal Q l w) z):GoR (k+1) (Sl P N ops Q [] l w) z:=.s Wo h
theorem gL3{op:Op}{j s:Nat}{b:Bool}{u:Value}(hj:(ops[j]?).bind (·.dst)=some s)(hs:lk l s=some u)(hb:zZ u b=true)(hd:Nat.blt d N.n=true)(h:GoR k (Sl P N ops Q rest ((d,undef)::l) w) z):GoR (k+1) (Sl P N ops Q (⟨some d,op,ty,pos,aft,some (j,b)⟩::rest) l w) z:=.s (Uc hj hs hb hd) h
end
section
variable {P:Program}{N:Nt}{Q:Exit→Act→World→Prop}{l:SF}{w:World}{ops:Array Oper}{k i d n:Nat}{z:Prop}{ty:TypeId}{pos:String}{aft:Array Edge}{v:Value}{CH:Array Obj→Prop}{effs r:List Nat}{K0:Act→World→Prop}
theorem gX0(h:GoR k (At N .normal Q l w) z):GoR (k+1) (Sx P N ops n CH effs (fun a w=>Q .normal a w) [] l w) z:=.s Wq h
theorem gX3{op:Op}{j s:Nat}{b:Bool}{u:Value}(hi:ops[i]?=some ⟨some d,op,ty,pos,aft,some (j,b)⟩)(he:effs.contains i=false)(hj:(ops[j]?).bind (·.dst)=some s)(hs:lk l s=some u)(hb:zZ u b=true)(hd:Nat.blt d N.n=true)(h:GoR k (Sx P N ops n CH effs K0 r ((d,undef)::l) w) z):GoR (k+1) (Sx P N ops n CH effs K0 (i::r) l w) z:=.s (Wf hi he hj hs hb hd) h
end
class Fld (P:Program)(s f:Nat)(off:outParam Nat):Prop where h:Pa P s f off=true
class Sca (P:Program)(t:Nat):Prop where h:fP P t=true
class Slt (P:Program)(t:Nat):Prop where h:∃ e size bytes,aS P t e size bytes
theorem sP{H:Array Obj}{p:Nat}{cs:List Value}{T:TypeId}{fr:Nat×Nat}(h:H[p]?=some (.cells cs.toArray T fr)){i:Nat}{v:Value}(hi:cs[i]?=some v):bE H ((⟨p,0,none⟩:Addr).add i)=some v:=by
  rw[Addr.add_lit,Nat.zero_add];simp[bE,h,hi]
section
variable {P:Program}{N:Nt}{l:SF}{ty:TypeId}{pos:String}{aft:Array Edge}{v:Value}{CH:Array Obj→Prop}{x y:Operand}{t t':TypeId}{g:Option (Nat×Bool)}{dd:Option Nat}
theorem VD{ad:Addr}{s f off:Nat}[hs:Fld P s f off](hx:evL l x=some (.pointer (some ad))):Cm P N CH l ⟨dd,.fieldAddr s x f,ty,pos,aft,g⟩ (.pointer (some (ad.add off))):=UZ hs.h hx
theorem Wg[ht:Slt P t]{ao:Option Addr}{c n:Nat}(hx:evL l x=some (.slice ao n c)):Cm P N CH l ⟨dd,.call ⟨.builtin .len,#[x],#[t]⟩,ty,pos,aft,g⟩ (.int .i64 n):=by
  obtain⟨_,_,_,h⟩:=ht.h;exact Vq h hx
theorem Wr{H:Array Obj}{ad:Addr}[ht:Sca P t](hx:evL l x=some (.pointer (some ad)))(hc:bE H ad=some v):Cm P N (· = H) l ⟨dd,.load t x,ty,pos,aft,g⟩ v:=Tu ht.h hx hc
theorem Uu{ad:Addr}[ht:Sca P t](hx:evL l x=some (.pointer (some ad)))(hc:∀ H,CH H→bE H ad=some v):Cm P N CH l ⟨dd,.load t x,ty,pos,aft,g⟩ v:=TF ht.h hx hc
end
section
variable {P:Program}{N:Nt}{Q:Exit→Act→World→Prop}{l:SF}{w:World}{ops:Array Oper}{rest:List Oper}{k d i n:Nat}{ty:TypeId}{pos:String}{aft:Array Edge}{v:Value}{op:Op}{z:Prop}{CH:Array Obj→Prop}{effs r:List Nat}{K0:Act→World→Prop}
theorem gV1(hv:Cm P N (· = w.heap) l ⟨some d,op,ty,pos,aft,none⟩ v)(hd:Nat.blt d N.n=true)(h:GoR k (Sl P N ops Q rest ((d,v)::l) w) z):GoR (k+1) (Sl P N ops Q (⟨some d,op,ty,pos,aft,none⟩::rest) l w) z:=.s (UR hv hd) h
theorem gV2{j s:Nat}{b:Bool}(hj:(ops[j]?).bind (·.dst)=some s)(hs:lk l s=some (.bool b))(hv:Cm P N (· = w.heap) l ⟨some d,op,ty,pos,aft,some (j,b)⟩ v)(hd:Nat.blt d N.n=true)(h:GoR k (Sl P N ops Q rest ((d,v)::l) w) z):GoR (k+1) (Sl P N ops Q (⟨some d,op,ty,pos,aft,some (j,b)⟩::rest) l w) z:=.s (US hj hs hv hd) h
theorem gV3(hi:ops[i]?=some ⟨some d,op,ty,pos,aft,none⟩)(he:effs.contains i=false)(hv:Cm P N CH l ⟨some d,op,ty,pos,aft,none⟩ v)(hd:Nat.blt d N.n=true)(h:GoR k (Sx P N ops n CH effs K0 r ((d,v)::l) w) z):GoR (k+1) (Sx P N ops n CH effs K0 (i::r) l w) z:=.s (UU hi he hv hd) h
theorem gV4{j s:Nat}{b:Bool}(hi:ops[i]?=some ⟨some d,op,ty,pos,aft,some (j,b)⟩)(he:effs.contains i=false)(hj:(ops[j]?).bind (·.dst)=some s)(hs:lk l s=some (.bool b))(hv:Cm P N CH l ⟨some d,op,ty,pos,aft,some (j,b)⟩ v)(hd:Nat.blt d N.n=true)(h:GoR k (Sx P N ops n CH effs K0 r ((d,v)::l) w) z):GoR (k+1) (Sx P N ops n CH effs K0 (i::r) l w) z:=.s (UV hi he hj hs hv hd) h
end
section
variable {P:Program}{N k:Nat}{fn:Func}{R:Ending→World→Prop}{l:SF}{w:World}{z:Prop}{t u s:Nat}{v x y:Value}
theorem gR1(hr:fn.results=#[.tmp t])(hv:lk l t=some v)(h:GoR k (R (.returned v) w) z):GoR (k+1) (At ⟨N,[]⟩ .ret (bodyPost P fn R) l w) z:=.s (V5 hr hv) h
theorem gR2(hr:fn.results=#[.tmp t,.tmp u])(hv:lk l t=some v)(hx:lk l u=some x)(h:GoR k (R (.returned (.tuple #[v,x])) w) z):GoR (k+1) (At ⟨N,[]⟩ .ret (bodyPost P fn R) l w) z:=.s (V6 hr hv hx) h
theorem gR3(hr:fn.results=#[.tmp t,.tmp u,.tmp s])(hv:lk l t=some v)(hx:lk l u=some x)(hy:lk l s=some y)(h:GoR k (R (.returned (.tuple #[v,x,y])) w) z):GoR (k+1) (At ⟨N,[]⟩ .ret (bodyPost P fn R) l w) z:=.s (V7 hr hv hx hy) h
theorem gR0(hr:fn.results=#[])(h:GoR k (R (.returned (.tuple #[])) w) z):GoR (k+1) (At ⟨N,[]⟩ .ret (bodyPost P fn R) l w) z:=.s (V8 hr) h
end
theorem Gp (n : Nat) {p q : Prop} (h : GoR n p q := by
  repeat first
    | exact .z
    | with_reducible apply gA1
    | with_reducible apply gC1
    | with_reducible apply gC2
    | with_reducible apply gL0
    | ((with_reducible apply gL3); exact rfl; exact rfl; exact rfl; exact rfl)
    | ((with_reducible apply gC3); exact rfl)
    | ((with_reducible apply gC4); exact rfl)
    | with_reducible apply gC5
    | with_reducible apply gC6
    | with_reducible apply gC7
    | with_reducible apply gC8
    | with_reducible apply gA2
    | with_reducible apply gA3
    | with_reducible apply gA4
    | with_reducible apply gA5
    | with_reducible apply gA6
    | with_reducible apply gX0
    | ((with_reducible apply gX3); exact rfl; exact rfl; exact rfl; exact rfl; exact rfl; exact rfl)
    | ((first
        | with_reducible apply gV1
        | ((with_reducible apply gV2); exact rfl; exact rfl)
        | ((with_reducible apply gV3); exact rfl; exact rfl)
        | ((with_reducible apply gV4); exact rfl; exact rfl; exact rfl; exact rfl))
       (first
        | exact TR rfl
        | exact TW rfl
        | exact T9 rfl rfl
        | exact Ur rfl rfl
        | exact Uy rfl rfl
        | exact Vc rfl
        | exact VD rfl
        | exact Wg rfl
        | exact Us rfl rfl (by omega)
        | exact UY rfl rfl (by omega)
        | (apply Wr; exact rfl; apply sP; assumption; exact rfl)
        | exact Uu rfl (fun H hH => sP hH rfl)
        | exact Uu rfl (fun H hH => sP hH.1 rfl)
        | exact Uu rfl (fun H hH => sP hH.2 rfl)
        | exact Uu rfl (fun H hH => sP hH.1.1 rfl)
        | exact Uu rfl (fun H hH => sP hH.2.1 rfl)
        | exact Uu rfl (fun H hH => sP hH.2.2 rfl)
        | exact Uu rfl (fun H hH => sP hH.2.2.1 rfl))
       exact rfl)
    | ((with_reducible apply gR1); exact rfl; exact rfl)
    | ((with_reducible apply gR2); exact rfl; exact rfl; exact rfl)
    | ((with_reducible apply gR3); exact rfl; exact rfl; exact rfl; exact rfl)
    | ((with_reducible apply gR0); exact rfl)) : GoR n p q := h
theorem Gz(n:Nat){p q:Prop}(k:q)(h:GoR n p q:=by exact Gp _):p:=h.run k
section
variable {P:Program}{N:Nt}{Q:Exit→Act→World→Prop}{l:SF}{w:World}{ops:Array Oper}{rest:List Oper}{d i n:Nat}{ty:TypeId}{pos:String}{aft:Array Edge}{op:Op}{CH:Array Obj→Prop}{effs r:List Nat}{K0:Act→World→Prop}{p:Prop}[Decidable p]
theorem fK(m:Nat){z:Prop}(h1:p→Sl P N ops Q rest ((d,.bool true)::l) w)(h2:¬ p→Sl P N ops Q rest ((d,.bool false)::l) w)(hg:GoR m z (Sl P N ops Q (⟨some d,op,ty,pos,aft,none⟩::rest) l w):=by exact Gp _)(hv:Cm P N (· = w.heap) l ⟨some d,op,ty,pos,aft,none⟩ (.bool (decide p)):=by first|exact Ut rfl rfl|exact Ub rfl rfl|exact Ud rfl rfl|exact UH rfl rfl|exact UP rfl rfl|exact UI rfl rfl|exact UE rfl rfl|exact UK rfl rfl)(hd:Nat.blt d N.n=true:=by rfl):z:=hg.run (TZ hv hd h1 h2)
theorem fW(m:Nat){z:Prop}{j s:Nat}{b:Bool}(h1:p→Sl P N ops Q rest ((d,.bool true)::l) w)(h2:¬ p→Sl P N ops Q rest ((d,.bool false)::l) w)(hg:GoR m z (Sl P N ops Q (⟨some d,op,ty,pos,aft,some (j,b)⟩::rest) l w):=by exact Gp _)(hj:(ops[j]?).bind (·.dst)=some s:=by rfl)(hs:lk l s=some (.bool b):=by rfl)(hv:Cm P N (· = w.heap) l ⟨some d,op,ty,pos,aft,some (j,b)⟩ (.bool (decide p)):=by first|exact Ut rfl rfl|exact Ub rfl rfl|exact Ud rfl rfl|exact UH rfl rfl|exact UP rfl rfl|exact UI rfl rfl|exact UE rfl rfl|exact UK rfl rfl)(hd:Nat.blt d N.n=true:=by rfl):z:=hg.run (T5 hj hs hv hd h1 h2)
theorem xK(m:Nat){z:Prop}(h1:p→Sx P N ops n CH effs K0 r ((d,.bool true)::l) w)(h2:¬ p→Sx P N ops n CH effs K0 r ((d,.bool false)::l) w)(hg:GoR m z (Sx P N ops n CH effs K0 (i::r) l w):=by exact Gp _)(hi:ops[i]?=some ⟨some d,op,ty,pos,aft,none⟩:=by rfl)(he:effs.contains i=false:=by rfl)(hv:Cm P N CH l ⟨some d,op,ty,pos,aft,none⟩ (.bool (decide p)):=by first|exact Ut rfl rfl|exact Ub rfl rfl|exact Ud rfl rfl|exact UH rfl rfl|exact UP rfl rfl|exact UI rfl rfl|exact UE rfl rfl|exact UK rfl rfl)(hd:Nat.blt d N.n=true:=by rfl):z:=hg.run (We hi he hv hd h1 h2)
theorem xW(m:Nat){z:Prop}{j s:Nat}{b:Bool}(h1:p→Sx P N ops n CH effs K0 r ((d,.bool true)::l) w)(h2:¬ p→Sx P N ops n CH effs K0 r ((d,.bool false)::l) w)(hg:GoR m z (Sx P N ops n CH effs K0 (i::r) l w):=by exact Gp _)(hi:ops[i]?=some ⟨some d,op,ty,pos,aft,some (j,b)⟩:=by rfl)(he:effs.contains i=false:=by rfl)(hj:(ops[j]?).bind (·.dst)=some s:=by rfl)(hs:lk l s=some (.bool b):=by rfl)(hv:Cm P N CH l ⟨some d,op,ty,pos,aft,some (j,b)⟩ (.bool (decide p)):=by first|exact Ut rfl rfl|exact Ub rfl rfl|exact Ud rfl rfl|exact UH rfl rfl|exact UP rfl rfl|exact UI rfl rfl|exact UE rfl rfl|exact UK rfl rfl)(hd:Nat.blt d N.n=true:=by rfl):z:=hg.run (Un hi he hj hs hv hd h1 h2)
end
theorem cS{P:Program}{f:FuncId}{fn:Func}{c:Code}{args:List Value}{w:World}{R:Ending→World→Prop}(N:Nat)(l:SF)(hf:P.funcs[f]?=some fn)(h:Sc P ⟨N,[]⟩ c (bodyPost P fn R) l w)(hb:fn.body=some c:=by rfl)(hN:fn.ntmps=N:=by rfl)(hle:Nat.ble args.length N=true:=by rfl)(hl:Sub l ((List.range args.length).zip args):=by repeat first|exact trivial|refine⟨rfl,?_⟩):Calls P f args.toArray w R:=DQ N l hf hb hN hle (uM hl) h
section
variable {P:Program}{N:Nt}{Q:Exit→Act→World→Prop}{l:SF}{w:World}{ops:Array Oper}{rest:List Oper}{d i n:Nat}{ty:TypeId}{pos:String}{aft:Array Edge}{op:Op}{v:Value}{CH:Array Obj→Prop}{effs r:List Nat}{K0:Act→World→Prop}
theorem cA(m:Nat){z:Prop}{f:FuncId}{xs:List Operand}{vs:List Value}{ts:Array TypeId}(hf:fnB P f=true){R:Value→World→Prop}(hc:Calls P f vs.toArray w (Ret R))(h:∀ v w',R v w'→Sl P N ops Q rest ((d,v)::l) w')(hg:GoR m z (Sl P N ops Q (⟨some d,.call ⟨.value (.func f),xs.toArray,ts⟩,ty,pos,aft,none⟩::rest) l w):=by exact Gp _)(hx:uT l xs=some vs:=by rfl)(hd:Nat.blt d N.n=true:=by rfl):z:=hg.run (Ts hf hx hc hd h)
theorem cL(hv:Cm P N (· = w.heap) l ⟨some d,op,ty,pos,aft,none⟩ v)(h:Sl P N ops Q rest ((d,v)::l) w)(hd:Nat.blt d N.n=true:=by rfl):Sl P N ops Q (⟨some d,op,ty,pos,aft,none⟩::rest) l w:=UR hv hd h
theorem cW{j s:Nat}{b:Bool}(hv:Cm P N (· = w.heap) l ⟨some d,op,ty,pos,aft,some (j,b)⟩ v)(h:Sl P N ops Q rest ((d,v)::l) w)(hj:(ops[j]?).bind (·.dst)=some s:=by rfl)(hs:lk l s=some (.bool b):=by rfl)(hd:Nat.blt d N.n=true:=by rfl):Sl P N ops Q (⟨some d,op,ty,pos,aft,some (j,b)⟩::rest) l w:=US hj hs hv hd h
theorem xC(hi:ops[i]?=some ⟨some d,op,ty,pos,aft,none⟩)(hv:Cm P N CH l ⟨some d,op,ty,pos,aft,none⟩ v)(h:Sx P N ops n CH effs K0 r ((d,v)::l) w)(he:effs.contains i=false:=by rfl)(hd:Nat.blt d N.n=true:=by rfl):Sx P N ops n CH effs K0 (i::r) l w:=UU hi he hv hd h
theorem xV{j s:Nat}{b:Bool}(hi:ops[i]?=some ⟨some d,op,ty,pos,aft,some (j,b)⟩)(hv:Cm P N CH l ⟨some d,op,ty,pos,aft,some (j,b)⟩ v)(h:Sx P N ops n CH effs K0 r ((d,v)::l) w)(he:effs.contains i=false:=by rfl)(hj:(ops[j]?).bind (·.dst)=some s:=by rfl)(hs:lk l s=some (.bool b):=by rfl)(hd:Nat.blt d N.n=true:=by rfl):Sx P N ops n CH effs K0 (i::r) l w:=UV hi he hj hs hv hd h
theorem aW{e:Exit}(l':SF)(h:At N e Q l' w)(hs:Sub l' l:=by repeat first|exact trivial|refine⟨rfl,?_⟩):At N e Q l w:=V4 l' hs h
end
theorem aA.tw{S:Nat→Prop}{w w1 w2:World}{y:Nat}(h:aA S w w1)(g:aA (· = y) w1 w2)(hy:w.heap.size≤y:=by first|omega|(dsimp only;omega)):aA S w w2:=h.WO g (fun k hk=>.inr (by have e:k=y:=hk;omega))
abbrev iV(x:Int):Value:=.int .i64 x
section
variable {N:Nt}{l:SF}{w:World}{Q:Exit→Act→World→Prop}{β:Type}{L:β→SF}{J:β→World→Prop}{μ:β→Nat}{b:β}
theorem aG(b':β)(hJ:J b' w)(hm:μ b'<μ b)(hl:Sub (L b') l:=by repeat first|exact trivial|refine⟨rfl,?_⟩):At N .normal (Exit.then (LN N L J μ b) Q) l w:=TO b' hl hJ hm
theorem aC(b:β)(hJ:J b w)(hl:Sub (L b) l:=by repeat first|exact trivial|refine⟨rfl,?_⟩):At N .normal (Exit.then (fun a w=>∃ b,cK N (L b) a∧J b w) Q) l w:=T8 b hl hJ
end
abbrev By:=List UInt8
abbrev pT(p:Nat):Value:=.pointer (some ⟨p,0,none⟩)
abbrev sN:Value:=.slice none 0 0
def places(P:Program)(t:TypeId):Option (List (Nat×Nat)):=
 match P.underlying t with
|some (.struct fs)=>fs.toList.mapM fun f=>(P.info? f.type).map fun i=>(f.offset,i.size)
|_=>none
theorem nH{P:Program}{w:World}:∀ (fs:List Field) (pl:List (Nat×Nat)),(fs.mapM fun f=>(P.info? f.type).map fun i=>(f.offset,i.size))=some pl →
 (fs.mapM fun(f:Field)=>(do pure (f.offset,←sizeOf f.type):Sem (Nat×Nat))).run P w=.ok pl w
|[],pl,h=>by simp at h;subst h;simp
|f::r,pl,h=>by
   simp only[List.mapM_cons,Option.bind_eq_bind,Option.bind_eq_some_iff,Option.map_eq_some_iff,Option.pure_def,Option.some.injEq] at h;obtain⟨p,⟨i,hi,rfl⟩,ps,hps,rfl⟩:=h;have ih:=nH (w:=w) r ps hps;simp[List.mapM_cons,sizeOf,typeInfo,hi];simp[sizeOf,typeInfo] at ih;rw[ih];rfl
def evPs(l:SF):List (Nat×Operand)→Option (List (Nat×Value))
|[]=>some []
|(i,x)::r=>match evL l x,evPs l r with
  |some v,some vs=>some ((i,v)::vs)
  |_,_=>none
theorem cK.evPs{N:Nt}{l:SF}{a:Act}(h:cK N l a):∀ {xs:List (Nat×Operand)} {vs:List (Nat×Value)},Go.Proofs.YthdecfkdgdagcaaGreat.evPs l xs=some vs→xs.map (fun p=>(p.1,a.eval p.2))=vs
|[],vs,e=>by simp[Go.Proofs.YthdecfkdgdagcaaGreat.evPs] at e;simp[e]
|(i,x)::r,vs,e=>by
   unfold Go.Proofs.YthdecfkdgdagcaaGreat.evPs at e
   split at e
   · rename_i v us h1 h2
     cases e;simp[h.ev h1,h.evPs h2]
   ·cases e
section
variable {P:Program}{N:Nt}{Q:Exit→Act→World→Prop}{l:SF}{w:World}{ops:Array Oper}{rest:List Oper}
variable {op:Op}{ty:TypeId}{pos:String}{aft:Array Edge}{d:Nat}{v:Value}{CH:Array Obj→Prop}
variable {x y:Operand}{t t':TypeId}{g:Option (Nat×Bool)}{dd:Option Nat}
theorem TT{parts:List (Nat×Operand)}{vs:List (Nat×Value)}{pl:List (Nat×Nat)}{zc cs:Array Value}(hp:places P t=some pl)(hz:(P.info? t).map (fun i=>i.zero.map (·.cells))=some (some zc))
 (hx:evPs l parts=some vs)(hf:Instr.fill (fun i=>pl.toArray[i]?) zc vs=some cs):Cm P N CH l ⟨dd,.build t parts.toArray,ty,pos,aft,g⟩ (.agg cs):=fun a w ha _=>by
 unfold places at hp
 split at hp
 · rename_i fs hu
   obtain⟨i,hi,h1⟩:=Option.map_eq_some_iff.1 hz;obtain⟨z,hz',rfl⟩:=Option.map_eq_some_iff.1 h1;have hm:=nH (P:=P) (w:=w) fs.toList pl hp;have hm':(fs.mapM fun(f:Field)=>(do pure (f.offset,←sizeOf f.type):Sem (Nat×Nat))).run P w=.ok pl.toArray w:=by
    rw[←Array.toArray_toList (xs:=fs),List.mapM_toArray];simp only[Sem.run_map,hm,Result.andThen_ok]
   have hv:=ha.evPs hx;simp only[execOp,Instr.build,Sem.run_bind,zeroValue,typeInfo,run_program,Result.andThen_ok,hi,hz',run_underlying hu,Sem.run_pure,hm',map_toArray,hv];rw[hf];simp
 ·cases hp
theorem bU {parts:List (Nat×Operand)} {vs:List (Nat×Value)} {pl:List (Nat×Nat)} {zc:Array Value} (cs:List Value) (hp:places P t=some pl) (hz:(P.info? t).map (fun i=>i.zero.map (·.cells))=some (some zc)) (hx:evPs l parts=some vs:=by rfl) (hf:Instr.fill (fun i=>pl.toArray[i]?) zc vs=some cs.toArray:=by kernel_rfl):Cm P N CH l ⟨dd,.build t parts.toArray,ty,pos,aft,g⟩ (.agg cs.toArray):=TT hp hz hx hf
theorem Uh{e:TypeId}{size bytes:Nat}(ht:aS P t e size bytes){ao:Option Addr}{n c:Nat}(hx:evL l x=some (.slice ao n c))(hy:evL l y=some sN):Cm P N CH l ⟨dd,.binOp .eql t x y t',ty,pos,aft,g⟩ (.bool ao.isNone):=fun b w ha _=>by
 simp only[execOp,ha.ev hx,ha.ev hy];have:=Lib.run_eql_slice_nil w t e ao n c 0 0 ht.und;cases ao<;>simp[eqGuard] at this ⊢<;>simp[this]
theorem UC{α:Type}(enc:α→Value){e:TypeId}(z0:α){bytes:Nat}(ht:aS P t e 1 bytes)(hz:(P.info? e).map (·.zero)=some (some (enc z0)))(h1:(enc z0).oneCell'=true){k k':IntKind}{n m:Int}
 (hx:evL l x=some (.int k n))(hy:evL l y=some (.int k' m))(h0:0≤n)(hnm:n≤m)(hn:(bytes:Int)*m≤281474976710656)(hm:m≤9223372036854775807)(hd:Nat.blt d N.n=true)
 (h:∀ w',Own enc e w'.heap (some ⟨w.heap.size,0,none⟩) m.toNat (List.replicate n.toNat z0)→w'.heap.size=w.heap.size+1→aA nob w w'→Sl P N ops Q rest ((d,.slice (some ⟨w.heap.size,0,none⟩) n.toNat m.toNat)::l) w') :
 Sl P N ops Q (⟨some d,.makeSlice t x y,ty,pos,aft,none⟩::rest) l w:=by
 obtain⟨i,z,hi,hz1,hzc,h2,h3⟩:=ht.parts;have hzz:z=enc z0:=by rw[hi] at hz;simp[hz1] at hz;exact hz
 subst hzz;have hc:(enc z0).cells=#[enc z0]:=by cases he:enc z0<;>simp_all [Value.cells,Value.oneCell']
 have hr:=run_make (P:=P) w t e i (enc z0) ht.und hi hz1 k k' n m h0 hnm (by rw[h3];exact hn) hm;have hmc:madeCells (enc z0).cells (m.toNat*i.size)=(List.replicate m.toNat (enc z0)).toArray:=by
  rw[hc,h2,Nat.mul_one];apply Array.ext';rw[toList_madeCells_one]
 rw[hmc] at hr;refine Ua (w':=w.alloc (.cells (List.replicate m.toNat (enc z0)).toArray e)) (fun a ha=>?_) hd (h _ ?_ (by simp) (aA.alloc _ _ _))
 ·simp only[execOp,ha.ev hx,ha.ev hy,Sem.run_bind,hr,Result.andThen_ok,Sem.run_pure]
 · refine .inr ⟨w.heap.size,_,rfl,heap_alloc_new w _,by simp;omega,by unfold maxLen;omega,by simp,?_⟩
   simp;omega
theorem Own.set{α:Type}{enc:α→Value}{e:TypeId}{H H':Array Obj}{ao:Option Addr}{cap:Nat}{xs:List α}(h:Own enc e H ao cap xs){a:Addr}(ha:ao=some a){i:Nat}{u:α}{cur:Array Value}(hg:H[a.block]?=some (.cells cur e (0,0)))
 (hg':H'[a.block]?=some (.cells (cur.setIfInBounds i (enc u)) e (0,0))):Own enc e H' ao cap (xs.set i u):=by
 rcases h with⟨rfl,_⟩|⟨g,cur',rfl,hg2,h1,h2,h3,h4⟩
 ·cases ha
 · cases ha
   rw[hg] at hg2;cases hg2;refine .inr ⟨g,_,rfl,hg',by simpa using h1,h2,by simpa using h3,?_⟩;simp only[List.length_set,Array.toList_setIfInBounds,List.map_set];rw[List.take_set,h4]
theorem T7{α:Type}{enc:α→Value}(henc:∀ x,(enc x).oneCell'=true)(ht:fP P t=true){e:TypeId}{ao:Option Addr}{cap:Nat}{xs:List α}{z:Int}{u:α}(hx:evL l x=some (.pointer (some (adr ao z.toNat))))(hy:evL l y=some (enc u))
 (ho:Own enc e w.heap ao cap xs)(hz:0≤z∧z<xs.length)
 (h:∀ w',Own enc e w'.heap ao cap (xs.set z.toNat u)→w'.heap.size=w.heap.size→aA (blk ao) w w'→Sl P N ops Q rest l w') :
 Sl P N ops Q (⟨none,.store t x y,ty,pos,aft,none⟩::rest) l w:=by
 have ho2:=ho;rcases ho with⟨rfl,_,rfl⟩|⟨g,cur,rfl,hg,h1,h2,h3,h4⟩
 ·simp at hz;omega
 · have hi:z.toNat<cur.toList.length:=by simp[h3];omega
   have e1:adr (some (⟨g,0,none⟩:Addr)) z.toNat=⟨g,z.toNat,none⟩:=by
    show (⟨g,0,none⟩:Addr).add _=_;rw[Addr.add_lit,Nat.zero_add]
   rw[e1] at hx;refine Tx (cur:=cur.toList) (T:=e) ht hx hy (henc u) (by simpa using hg) (by simpa[Nat.blt_eq] using hi) ?_;intro w' hw hs hf;refine h w' (Own.set ho2 (i:=z.toNat) rfl hg ?_) hs (hf.mono (fun k hk=>⟨_,rfl,hk.symm⟩));rw[hw];congr 2;apply Array.ext';simp
end
section
variable {P:Program}{N:Nt}{Q:Exit→Act→World→Prop}{l:SF}{w:World}{ops:Array Oper}{rest:List Oper}
variable {op:Op}{ty:TypeId}{pos:String}{aft:Array Edge}{d:Nat}{v:Value}{CH:Array Obj→Prop}
variable {x y:Operand}{t t':TypeId}{g:Option (Nat×Bool)}{dd:Option Nat}{k k':IntKind}{m n:Int}
theorem U9(hx:evL l x=some (iV m))(hy:evL l y=some (.int k' n))(hn:0≤n∧n≤64):Cm P N CH l ⟨dd,.binOp .shr t x y t',ty,pos,aft,g⟩ (iV (m/2 ^ n.toNat)):=fun a w ha _=>by
 simp only[execOp,ha.ev hx,ha.ev hy,eqGuard,binOp,Sem.run_bind];simp
theorem Wh(hx:evL l x=some (iV m))(hy:evL l y=some (.int k' n))(hn:0≤n∧n≤64):Cm P N CH l ⟨dd,.binOp .shl t x y t',ty,pos,aft,g⟩ (iV (IntKind.i64.wrap (m*2 ^ n.toNat))):=fun a w ha _=>by
 simp only[execOp,ha.ev hx,ha.ev hy,eqGuard,binOp,Sem.run_bind];simp
theorem Ve(hx:evL l x=some (iV m))(hy:evL l y=some (.int k' n))(hn:0≤n∧n≤64)(hb : -9223372036854775808≤m*2 ^ n.toNat∧m*2 ^ n.toNat≤9223372036854775807) :
 Cm P N CH l ⟨dd,.binOp .shl t x y t',ty,pos,aft,g⟩ (iV (m*2 ^ n.toNat)):=by
 have:=@Wh P N l ty pos aft CH x y t t' g dd k' m n hx hy hn;rwa[bG hb] at this
theorem oR{a:Nat}(h:a<2 ^ 63):(BitVec.ofInt 64 (a:Int)).toNat=a:=by
 simp;omega
theorem VP{a b:Nat}(hx:evL l x=some (iV a))(hy:evL l y=some (iV b))(ha:a<2 ^ 63)(hb:b<2 ^ 63):Cm P N CH l ⟨dd,.binOp .or t x y t',ty,pos,aft,g⟩ (iV ((a ||| b:Nat):Int)):=fun c w hc _=>by
 have h1:(a ||| b)<2 ^ 63:=Nat.or_lt_two_pow ha hb;have h2:(BitVec.ofInt 64 (a:Int) ||| BitVec.ofInt 64 (b:Int)).toNat=a ||| b:=by
  rw[BitVec.toNat_or,oR ha,oR hb]
 have h3:(Op.intBits .or .i64 (a:Int) (b:Int)).run P w=.ok (iV ((a ||| b:Nat):Int)) w:=by
  show (pure (Value.int .i64 (IntKind.i64.wrap ((BitVec.ofInt 64 (a:Int) ||| BitVec.ofInt 64 (b:Int)).toNat:Int))):Sem Value).run P w=_;rw[h2,bG (by omega)];rfl
 simp[execOp,hc.ev hx,hc.ev hy,binOp,eqGuard];rw[h3];rfl
theorem Wi{a b:Nat}(hx:evL l x=some (iV a))(hy:evL l y=some (iV b))(ha:a<2 ^ 63)(hb:b<2 ^ 63):Cm P N CH l ⟨dd,.binOp .and t x y t',ty,pos,aft,g⟩ (iV ((a &&& b:Nat):Int)):=fun c w hc _=>by
 have h1:(a &&& b)<2 ^ 63:=Nat.lt_of_le_of_lt Nat.and_le_left ha;have h2:(BitVec.ofInt 64 (a:Int) &&& BitVec.ofInt 64 (b:Int)).toNat=a &&& b:=by
  rw[BitVec.toNat_and,oR ha,oR hb]
 have h3:(Op.intBits .and .i64 (a:Int) (b:Int)).run P w=.ok (iV ((a &&& b:Nat):Int)) w:=by
  show (pure (Value.int .i64 (IntKind.i64.wrap ((BitVec.ofInt 64 (a:Int) &&& BitVec.ofInt 64 (b:Int)).toNat:Int))):Sem Value).run P w=_;rw[h2,bG (by omega)];rfl
 simp[execOp,hc.ev hx,hc.ev hy,binOp,eqGuard];rw[h3];rfl
theorem VQ{a b:By}(hx:evL l x=some (.string (bs a)))(hy:evL l y=some (.string (bs b))):Cm P N CH l ⟨dd,.binOp .lss t x y t',ty,pos,aft,g⟩ (.bool (Op.bytesLess a b)):=fun c w ha _=>by
 simp[execOp,ha.ev hx,ha.ev hy,eqGuard,binOp,Op.stringOp,gN]
theorem VR{a b:By}(hx:evL l x=some (.string (bs a)))(hy:evL l y=some (.string (bs b))):Cm P N CH l ⟨dd,.binOp .leq t x y t',ty,pos,aft,g⟩ (.bool (Op.bytesLess a b || a == b)):=fun c w ha _=>by
 simp[execOp,ha.ev hx,ha.ev hy,eqGuard,binOp,Op.stringOp,gN]
theorem Vf{a b:By}(hx:evL l x=some (.string (bs a)))(hy:evL l y=some (.string (bs b))):Cm P N CH l ⟨dd,.binOp .gtr t x y t',ty,pos,aft,g⟩ (.bool (!(Op.bytesLess a b || a == b))):=fun c w ha _=>by
 simp[execOp,ha.ev hx,ha.ev hy,eqGuard,binOp,Op.stringOp,gN]
theorem Vg{a b:By}(hx:evL l x=some (.string (bs a)))(hy:evL l y=some (.string (bs b))):Cm P N CH l ⟨dd,.binOp .geq t x y t',ty,pos,aft,g⟩ (.bool (!Op.bytesLess a b)):=fun c w ha _=>by
 simp[execOp,ha.ev hx,ha.ev hy,eqGuard,binOp,Op.stringOp,gN]
theorem TU(ht:P.underlying t=some .string){s:By}(hx:evL l x=some (.string (bs s))) :
 Cm P N CH l ⟨dd,.call ⟨.builtin .len,#[x],#[t]⟩,ty,pos,aft,g⟩ (iV s.length):=by
 have:=@Wa P N l ty pos aft CH x t g dd ht (bs s) hx;rwa[nE] at this
theorem UW(ht:P.underlying t=some .string){s:By}(hx:evL l x=some (.string (bs s)))(hy:evL l y=some (.int k n))(hn:0≤n∧n<s.length) :
 Cm P N CH l ⟨dd,.index t x y,ty,pos,aft,g⟩ (b8 (s.getD n.toNat 0)):=fun c w ha _=>by
 have h1:n.toNat<s.length:=by omega
 have h2:n.toNat<(bs s).size:=by rw[nE];exact h1
 have h3:(bs s)[n.toNat]?=some (s.getD n.toNat 0):=by
  rw[getElem?_pos (bs s) n.toNat h2];have:(bs s)[n.toNat]=s[n.toNat]:=rfl;rw[this,List.getD,List.getElem?_eq_getElem h1];rfl
 simp[execOp,ha.ev hx,ha.ev hy,Instr.index,asIntOf,run_underlying ht,hn.1,h3,b8]
structure IbT (P:Program) (f:FuncId):Prop where
 fn : ∃ fn, P.funcs[f]? = some fn ∧ (fn.name == "runtime.NumGoroutine") = false ∧ fn.body.isNone = true ∧ Extern.findNext fn = none ∧ Extern.find fn = some Extern.BytealgIndexByte.indexByte
theorem WC {P : Program} {f : FuncId} {fn : Func} (h0 : P.funcs[f]? = some fn) (h1 : (fn.name == "runtime.NumGoroutine") = false) (h2 : fn.body.isNone = true) (h3 : Extern.findNext fn = none) (h4 : Extern.find fn = some Extern.BytealgIndexByte.indexByte) : IbT P f := ⟨fn, h0, h1, h2, h3, h4⟩
theorem Va{f:FuncId}{ts:Array TypeId}(hf:IbT P f){s:By}{c:Int}(hx:evL l x=some (.string (bs s)))(hy:evL l y=some (.int .u8 c)) :
 Cm P N CH l ⟨dd,.call ⟨.value (.func f),#[x,y],ts⟩,ty,pos,aft,g⟩ (iV (Lib.indexByte s c.toNat.toUInt8)):=fun a w ha _=>by
 obtain⟨fn,h0,h1,h2,h3,h4⟩:=hf;have hr:=run_callFunc_extern h0 h1 h2 h3 h4 #[.string (bs s),.int .u8 c] w;rw[Lib.run_indexByteString] at hr;simp only[Result.andThen_ok] at hr;rw[←ha.ev hx,←ha.ev hy] at hr;simp[execOp,resolve,Act.eval,Deferred.ofValue,invoke] at hr ⊢;rw[hr];rfl
theorem pW(s:By)(c:UInt8):Lib.indexByte s c<0↔c∉s:=by
 induction s with
|nil=>simp[Lib.indexByte]
|cons b r ih=>
   have hge:=Lib.indexByte_ge r c;unfold Lib.indexByte;by_cases h:b=c
   ·simp[h]
   · simp only[beq_iff_eq,h,if_false,mem_cons,not_or]
     split
     · rename_i h1
       rw[h1] at ih;have:=ih.1 (by decide);exact⟨fun _=>⟨fun e=>h e.symm,this⟩,fun _=>by decide⟩
     · rename_i h1
       constructor
       ·intro h2;omega
       · intro h2
         have:=ih.2 h2.2;omega
theorem UD(ht:P.underlying t=some .bool){a b:Bool}(hx:evL l x=some (.bool a))(hy:evL l y=some (.bool b)):Cm P N CH l ⟨dd,.binOp .eql t x y t',ty,pos,aft,g⟩ (.bool (a == b)):=fun c w ha _=>by
 simp[execOp,ha.ev hx,ha.ev hy,eqGuard,binOp,run_equal_bool w t a b ht]
theorem Uv(ht:P.underlying t=some .bool){a b:Bool}(hx:evL l x=some (.bool a))(hy:evL l y=some (.bool b)):Cm P N CH l ⟨dd,.binOp .neq t x y t',ty,pos,aft,g⟩ (.bool (a != b)):=fun c w ha _=>by
 simp[execOp,ha.ev hx,ha.ev hy,eqGuard,binOp,run_equal_bool w t a b ht,bne]
theorem Vr{e:TypeId}{size bytes:Nat}(hs:P.underlying t=some .string)(ht:aS P t' e size bytes)(he:P.underlying e=some (.int .u8)){s:By}(hx:evL l x=some (.string (bs s)))(hl:s.length≤maxLen)(hd:Nat.blt d N.n=true)
 (h:∀ w' cap,Vw b8 w'.heap (some ⟨w.heap.size,0,none⟩) cap s→w'.heap.size=w.heap.size+1→aA nob w w'→Sl P N ops Q rest ((d,.slice (some ⟨w.heap.size,0,none⟩) s.length cap)::l) w') :
 Sl P N ops Q (⟨some d,.convert t t' x,ty,pos,aft,none⟩::rest) l w:=by
 have hr:=Lib.run_convert_string_bytes (P:=P) w t t' e (bs s) hs ht.und he;rw[nE] at hr;refine Ua (w':=Lib.bytesWorld w e (bs s)) (fun a ha=>?_) hd (h _ (grownCap w s.length 0 e) ⟨grownCap_ge w _ _ _,grownCap_le_maxLen w _ _ e hl,fun _=>by simp,fun i u hu=>?_⟩ (Lib.bytesWorld_size _ _ _) ?_)
 ·simp[execOp,ha.ev hx,hr]
 · have hi:i<s.length:=(List.getElem?_eq_some_iff.1 hu).1
   have e1:adr (some (⟨w.heap.size,0,none⟩:Addr)) i=⟨w.heap.size,i,none⟩:=by
    show (⟨w.heap.size,0,none⟩:Addr).add _=_;rw[Addr.add_lit,Nat.zero_add]
   rw[e1,←cell?_eq,Lib.bytesWorld_cell w e (bs s) i (by rw[nE];exact hi)];simp[bs,hu,b8]
 ·refine⟨rfl,rfl,rfl,by rw[Lib.bytesWorld_size];omega,fun k hk _=>Lib.bytesWorld_at_old w e _ k hk⟩
theorem VS{e:TypeId}{size bytes:Nat}(ht:aS P t e size bytes)(he:P.underlying e=some (.int .u8)){a:Nat}{cap:Nat}{xs:By}{cur:Array Value}(hx:evL l x=some (.slice (some ⟨a,0,none⟩) xs.length cap))
 (hg:w.heap[a]?=some (.cells cur e (0,0)))(hv:Vw b8 w.heap (some ⟨a,0,none⟩) cap xs)(hd:Nat.blt d N.n=true)
 (h:∀ w',Vw b8 w'.heap (some ⟨a,0,none⟩) cap xs→w'.heap.size=w.heap.size→aA (· = a) w w'→Sl P N ops Q rest ((d,.slice (some ⟨a,0,none⟩) xs.length cap)::l) w') :
 Sl P N ops Q (⟨some d,.convert t t x,ty,pos,aft,none⟩::rest) l w:=by
 have hsh:w.shape? a=some (e,cur.size):=by simp[World.shape?,hg]
 have hlt:=(Array.getElem?_eq_some_iff.1 hg)
 obtain⟨hal,hge⟩:=hlt;refine Ua (w':=w.freeze ⟨a,cur.size,none⟩ 1) (fun c hc=>?_) hd (h _ ⟨hv.le,hv.max,hv.non,fun i u hu=>?_⟩ ?_ ?_)
 ·simp[execOp,hc.ev hx,convert,run_underlying ht.und,run_underlying he,markStringish,hsh]
 · have h1:=hv.get i u hu
   have e1:adr (some (⟨a,0,none⟩:Addr)) i=⟨a,i,none⟩:=by
    show (⟨a,0,none⟩:Addr).add _=_;rw[Addr.add_lit,Nat.zero_add]
   rw[e1] at h1 ⊢;have h2:(w.freeze ⟨a,cur.size,none⟩ 1).heap[a]?=some (.cells cur e (cur.size,cur.size+1)):=by
    simp[World.freeze,Array.getElem?_modify,hg]
   unfold bE at h1 ⊢;rw[hg] at h1;rw[h2];exact h1
 ·simp[World.freeze]
 · exact⟨rfl,rfl,rfl,by simp[World.freeze],fun k hk hn=>by
    simp[World.freeze,Array.getElem?_modify,Ne.symm hn]⟩
end
theorem DO{H:Array Obj}{a:Addr}{v:Value}(h:bE H a=some v):a.block<H.size:=by
 unfold bE at h
 split at h
 ·rename_i hb;exact(Array.getElem?_eq_some_iff.1 hb).1
 ·cases h
theorem dZ{w w':World}{S:Nat→Prop}{a:Addr}{v:Value}(h:bE w.heap a=some v)(f:aA S w w')(hs:¬ S a.block):bE w'.heap a=some v:=by
 have hl:=DO h;unfold bE at h ⊢;rw[f.same _ hl hs];exact h
structure VwM {α:Type}(k:Nat)(enc:α→List Value)(H:Array Obj)(ao:Option Addr)(cap:Nat)(xs:List α):Prop where
 le:xs.length≤cap
 max:cap≤maxLen
 non:xs.length≠0→ao≠none
 get:∀ i x,xs[i]?=some x→∀ j v,(enc x)[j]?=some v→bE H (adr ao (i*k+j))=some v
section
variable {α:Type}{k:Nat}{enc:α→List Value}{H:Array Obj}{ao:Option Addr}{cap:Nat}{xs:List α}
theorem WD(c:Nat)(hc:c≤maxLen):VwM k enc H ao c []:=⟨by simp,hc,by simp,by simp⟩
theorem VwM.WQ(h:VwM k enc H ao cap xs):(xs.length:Int)≤9223372036854775807:=by have:=h.le;have:=h.max;unfold maxLen at this;omega
theorem VwM.WS{w w':World}{S:Nat→Prop}(h:VwM k enc w.heap ao cap xs)(f:aA S w w')(hs:∀ a,ao=some a→¬ S a.block):VwM k enc w'.heap ao cap xs:=by
 refine⟨h.le,h.max,h.non,fun i x hx j v hv=>dZ (h.get i x hx j v hv) f ?_⟩;have hne:xs.length≠0:=by have:=(List.getElem?_eq_some_iff.1 hx).1;omega
 cases hao:ao with
|none=>exact absurd hao (h.non hne)
|some a=>rw[kD];exact hs a hao
theorem VwM.WR{w w':World}(h:VwM k enc w.heap ao cap xs)(f:aA nob w w'):VwM k enc w'.heap ao cap xs:=h.WS f (fun _ _=>id)
theorem VwM.take(h:VwM k enc H ao cap xs)(n:Nat):VwM k enc H ao cap (xs.take n):=
 ⟨by have:=h.le;simp;omega,h.max,fun hn=>h.non (fun e=>hn (by have:xs=[]:=eq_nil_of_length_eq_zero e;simp[this])),fun i x hx=>h.get i x (by
  rw[List.getElem?_take] at hx
  split at hx
  ·exact hx
  ·cases hx)⟩
theorem VwM.row(h:VwM k enc H ao cap xs){i:Nat}{x:α}(hx:xs[i]?=some x):∀ j v,(enc x)[j]?=some v→bE H ((adr ao (i*k)).add j)=some v:=fun j v hv=>by
 have h1:=h.get i x hx j v hv;rwa[adr,←sS] at h1
theorem VwM.rowZ(h:VwM k enc H ao cap xs){z:Int}(i:Nat)(hz:z=i){x:α}(hx:xs[i]?=some x):∀ j v,(enc x)[j]?=some v→bE H ((adr ao (z.toNat*k)).add j)=some v:=by
 subst hz;exact h.row hx
theorem VwM.lt(h:VwM k enc H ao cap xs)(hne:xs≠[])(henc:∀ x,enc x≠[]):Lt H.size ao:=fun a ha=>by
 have hl:0<xs.length:=length_pos_iff.2 hne;have hq:(enc xs[0])[0]?=some ((enc xs[0])[0]'(length_pos_iff.2 (henc _))):=List.getElem?_eq_getElem _;have h1:=DO (h.get 0 xs[0] (List.getElem?_eq_getElem hl) 0 _ hq);subst ha;rwa[kD] at h1
theorem VwM.cut(v:VwM k enc H ao cap xs){l h m:Nat}(hl:l≤h)(hh:h≤xs.length)(hm:h≤m)(hmc:m≤cap) :
 VwM k enc H (aP ao m l k) (m-l) ((xs.drop l).take (h-l)):=by
 refine⟨by simp;omega,by have:=v.max;omega,fun hne=>?_,fun i x hx j u hu=>?_⟩
 · have h0:xs.length≠0:=by simp at hne;omega
   have:=v.non h0;unfold aP
   split
   ·exact this
   ·cases ao<;>simp_all
 · have hi:i<h-l:=by
    have:=(List.getElem?_eq_some_iff.1 hx).1;simp at this;omega
   have hx':xs[l+i]?=some x:=by
    rw[List.getElem?_take,if_pos hi,List.getElem?_drop] at hx;exact hx
   have h1:=v.get (l+i) x hx' j u hu;rw[←h1];unfold aP;rw[if_neg (by omega)];cases ao with
  |none=>exact absurd rfl (v.non (by have:=(List.getElem?_eq_some_iff.1 hx').1;omega))
  |some a=>simp[adr,sS,Nat.add_mul,Nat.add_assoc]
end
def bF{α:Type}(k:Nat)(enc:α→List Value)(e:TypeId)(H:Array Obj)(ao:Option Addr)(cap:Nat)(xs:List α):Prop:=
 (ao=none∧cap=0∧xs=[]) ∨
 ∃ g cur,ao=some ⟨g,0,none⟩∧H[g]?=some (.cells cur e (0,0))∧xs.length≤cap∧cap≤maxLen∧cur.size=cap*k∧cur.toList.take (xs.length*k)=xs.flatMap enc
def iF{α:Type}(k:Nat)(enc:α→List Value):Prop:=∀ x,(enc x).length=k∧∀ v∈enc x,v.oneCell'=true
theorem cJ{α:Type}{k:Nat}{enc:α→List Value}(hk:∀ x,(enc x).length=k):∀ xs:List α,(xs.flatMap enc).length=xs.length*k
|[]=>by simp
|x::r=>by simp[cJ hk r,hk x,Nat.add_mul];omega
theorem qN{α:Type}{k:Nat}{enc:α→List Value}(hk:∀ x,(enc x).length=k):∀ (xs:List α) (i:Nat) (x:α),xs[i]?=some x→∀ j v,(enc x)[j]?=some v→(xs.flatMap enc)[i*k+j]?=some v
|[],i,x,h,j,v,hv=>by simp at h
|y::r,0,x,h,j,v,hv=>by
   simp at h;subst h;have:j<(enc y).length:=(List.getElem?_eq_some_iff.1 hv).1;simp[List.getElem?_append_left this,hv]
|y::r,i+1,x,h,j,v,hv=>by
   have:=qN hk r i x (by simpa using h) j v hv;rw[List.flatMap_cons,List.getElem?_append_right (by rw[hk y];rw[Nat.add_mul];omega),hk y];rw[←this];congr 1;rw[Nat.add_mul];omega
theorem qM{α:Type}{k:Nat}{enc:α→List Value}(hk:∀ x,(enc x).length=k)(hk0:0<k):∀ (xs:List α) (q:Nat) (v:Value),(xs.flatMap enc)[q]?=some v→∃ x,xs[q/k]?=some x∧(enc x)[q%k]?=some v
|[],q,v,h=>by simp at h
|y::r,q,v,h=>by
   rw[List.flatMap_cons] at h;by_cases hq:q<k
   · rw[List.getElem?_append_left (by rw[hk y];exact hq)] at h
     exact⟨y,by simp[Nat.div_eq_of_lt hq],by rwa[Nat.mod_eq_of_lt hq]⟩
   · rw[List.getElem?_append_right (by rw[hk y];omega),hk y] at h
     obtain⟨x,h1,h2⟩:=qM hk hk0 r (q-k) v h;refine⟨x,?_,?_⟩
     ·rw[show q/k=(q-k)/k+1 from by rw[←Nat.add_div_right _ hk0,Nat.sub_add_cancel (by omega)]];simpa using h1
     ·rwa[show q%k=(q-k)%k from by rw[←Nat.add_mod_right (q-k),Nat.sub_add_cancel (by omega)]]
section
variable {α:Type}{k:Nat}{enc:α→List Value}{e:TypeId}{H:Array Obj}{ao:Option Addr}{cap:Nat}{xs:List α}
theorem WE:bF k enc e H none 0 ([]:List α):=.inl ⟨rfl,rfl,rfl⟩
theorem bF.lt(h:bF k enc e H ao cap xs):Lt H.size ao:=by
 intro a ha;rcases h with⟨rfl,_⟩|⟨g,cur,rfl,hg,_⟩
 ·cases ha
 ·cases ha;exact(Array.getElem?_eq_some_iff.1 hg).1
theorem bF.WS{w w':World}{S:Nat→Prop}(h:bF k enc e w.heap ao cap xs)(f:aA S w w')(hs:∀ a,ao=some a→¬ S a.block):bF k enc e w'.heap ao cap xs:=by
 rcases h with h|⟨g,cur,rfl,hg,r⟩
 ·exact .inl h
 ·exact .inr ⟨g,cur,rfl,f.obj hg (hs _ rfl),r⟩
theorem bF.WR{w w':World}(h:bF k enc e w.heap ao cap xs)(f:aA nob w w'):bF k enc e w'.heap ao cap xs:=h.WS f (fun _ _=>id)
theorem bF.vw(hk:iF k enc)(h:bF k enc e H ao cap xs):VwM k enc H ao cap xs:=by
 rcases h with⟨rfl,rfl,rfl⟩|⟨g,cur,rfl,hg,h1,h2,h3,h4⟩
 ·exact WD 0 (Nat.zero_le _)
 · refine⟨h1,h2,fun _=>by simp,fun i x hx j v hv=>?_⟩
   have hi:i<xs.length:=(List.getElem?_eq_some_iff.1 hx).1;have hj:j<k:=by have:=(List.getElem?_eq_some_iff.1 hv).1;rwa[(hk x).1] at this
   have hadd:(adr (some ⟨g,0,none⟩) (i*k+j))=⟨g,i*k+j,none⟩:=by
    show (⟨g,0,none⟩:Addr).add _=_;rw[Addr.add_lit,Nat.zero_add]
   rw[hadd];simp only[bE,hg];have h5:=qN (fun x=>(hk x).1) xs i x hx j v hv;have hlt:i*k+j<xs.length*k:=by
    have:=Nat.mul_le_mul_right k (show i+1≤xs.length from hi);rw[Nat.add_mul] at this;omega
   rw[←h4,List.getElem?_take,if_pos hlt] at h5;simpa using h5
end
theorem uP{α:Type}{k:Nat}{enc:α→List Value}(henc:iF k enc)(hk0:0<k){P:Program}{w:World}{t ty e:TypeId}{bytes:Nat}(ht:aS P t e k bytes)
 {ao:Option Addr}{cap:Nat}{xs:List α}(ho:bF k enc e w.heap ao cap xs){bo:Option Addr}{bcap:Nat}{ys:List α}(hy:VwM k enc w.heap bo bcap ys)
 (hb:(xs.length+ys.length)*bytes≤140737488355328)(hm:xs.length+ys.length≤maxLen) :
 ∃ ao' cap' w',(Builtin.append_ #[t,t] ty #[.slice ao xs.length cap,.slice bo ys.length bcap]).run P w=.ok (.slice ao' (xs.length+ys.length) cap') w' ∧
  bF k enc e w'.heap ao' cap' (xs++ys)∧aA (blk ao) w w'∧(∀ a,ao'=some a→ao=some a∨w.heap.size≤a.block)∧(ao'=none→ao=none∧ys=[]):=by
 obtain⟨i,z,hi,h1,hz,h2,h3⟩:=ht.parts;have hkl:∀ x,(enc x).length=k:=fun x=>(henc x).1;have hnews1:∀ u∈ys.flatMap enc,u.oneCell'=true:=by intro u hu;obtain⟨x,_,hx⟩:=List.mem_flatMap.1 hu;exact(henc x).2 u hx
 have hsmall:xs.length+ys.length≤9223372036854775807:=by unfold maxLen at hm;omega
 by_cases hys:ys=[]
 · subst hys
   refine⟨ao,cap,w,?_,by simpa using ho,Wt _ _,fun a ha=>.inl ha,fun h=>⟨h,rfl⟩⟩;exact kJ ht.und hi (ho.vw henc).le
 · have hne:ys.length≠0:=fun e=>hys (eq_nil_of_length_eq_zero e)
   obtain⟨b,rfl⟩:∃ b,bo=some b:=Option.ne_none_iff_exists'.1 (hy.non hne);have hnews:∀ j u,(ys.flatMap enc)[j]?=some u→w.cell? (b.add j)=some u:=by
    intro j u hu;obtain⟨x,hx1,hx2⟩:=qM hkl hk0 ys j u hu;have:=hy.get _ x hx1 _ u hx2;rwa[Nat.mul_comm,Nat.div_add_mod] at this
   have hl:(ys.flatMap enc).length=ys.length*i.size:=by rw[cJ hkl,h2]
   have big:∀ (old:Nat),old<xs.length+ys.length→bF k enc e (w.drew.alloc (.cells ((xs.flatMap enc).toArray++(ys.flatMap enc).toArray++Builtin.zeroCells z.cells (grownCap w (xs.length+ys.length) old e-(xs.length+ys.length))) e)).heap
    (some ⟨w.heap.size,0,none⟩) (grownCap w (xs.length+ys.length) old e) (xs++ys):=by
    intro old _;have hge:=grownCap_ge w (xs.length+ys.length) old e;refine .inr ⟨w.heap.size,_,rfl,heap_alloc_new w.drew _,by simpa using hge,grownCap_le_maxLen w _ old e hm,?_,?_⟩
    ·simp only[Array.size_append,size_toArray,cJ hkl,size_zeroCells,hz];rw[←Nat.add_mul,←Nat.add_mul];congr 1;omega
    · have h6:((xs++ys).flatMap enc).length=(xs++ys).length*k:=cJ hkl _
      rw[List.flatMap_append] at h6 ⊢;simp only[Array.toList_append];rw[List.take_append_of_le_length (by rw[h6];exact Nat.le_refl _)];exact take_of_length_le (by rw[h6];exact Nat.le_refl _)
   have hfoot:∀ (old:Nat),aA (blk ao) w (w.drew.alloc (.cells ((xs.flatMap enc).toArray++(ys.flatMap enc).toArray++Builtin.zeroCells z.cells (grownCap w (xs.length+ys.length) old e-(xs.length+ys.length))) e)):=fun old=>Wv _ _ _;rcases ho with⟨rfl,rfl,rfl⟩|⟨g,cur,rfl,hg,g1,g2,g3,g4⟩
   · have hr:=run_append_nil (P:=P) w t ty e i z ht.und hi h1 b ys.length bcap (ys.flatMap enc) hl hnews (by omega) (by simp at hsmall;omega) (by simp at hb;rw[h3];omega)
     have hB:=big 0 (by simp;omega);have hF:=hfoot 0;simp only[length_nil,Nat.zero_add,List.flatMap_nil,nil_append,Array.empty_append] at hB hF ⊢;exact⟨_,_,_,hr,hB,hF,fun a ha=>.inr (by cases ha;exact Nat.le_refl _),fun h=>by cases h⟩
   · have holds:∀ j v,(xs.flatMap enc)[j]?=some v→w.cell? ((⟨g,0,none⟩:Addr).add j)=some v:=by
      intro j v hv;obtain⟨x,hx1,hx2⟩:=qM hkl hk0 xs j v hv;have:=(bF.vw henc (.inr ⟨g,cur,rfl,hg,g1,g2,g3,g4⟩:bF k enc e w.heap (some ⟨g,0,none⟩) cap xs)).get _ x hx1 _ v hx2;rwa[Nat.mul_comm,Nat.div_add_mod] at this
     by_cases hroom:xs.length+ys.length≤cap
     · have hmul:(xs.length+ys.length)*k≤cap*k:=Nat.mul_le_mul_right k hroom
       have hmul2:=hmul;rw[Nat.add_mul] at hmul2;have hr:=run_append_room (P:=P) w t ty e i ht.und hi g xs.length cap cur hg b ys.length bcap (ys.flatMap enc) hl hnews hnews1 hroom (by rw[cJ hkl,h2,g3];exact hmul2);have hcl:cur.toList.length=cap*k:=by simp[g3]
       have hle1:xs.length*k≤cap*k:=Nat.mul_le_mul_right k (by omega);have hlen1:(cur.toList.take (xs.length*k)).length=xs.length*k:=by rw[length_take,hcl,Nat.min_eq_left hle1]
       refine⟨_,_,_,hr,.inr ⟨g,_,rfl,setRow_heap w g cur _ e _ hg,by simpa using hroom,g2,?_,?_⟩,?_,fun a ha=>.inl ha,fun h=>by cases h⟩
       ·rw[h2];simp only[size_toArray,length_append,hlen1,cJ hkl,length_drop,Array.length_toList,g3];omega
       · have h6:((xs++ys).flatMap enc).length=(xs++ys).length*k:=cJ hkl _
         rw[h2,g4,List.flatMap_append] at *;rw[List.take_append_of_le_length (by rw[h6];exact Nat.le_refl _)];exact take_of_length_le (by rw[h6];exact Nat.le_refl _)
       ·exact⟨rfl,rfl,rfl,by simp[World.setRow],fun k hk hn=>setRow_other w g k _ (fun e=>hn ⟨_,rfl,e.symm⟩)⟩
     · have hr:=run_append_grow (P:=P) w t ty e i z ht.und hi h1 ⟨g,0,none⟩ xs.length cap (xs.flatMap enc) (by rw[cJ hkl,h2]) holds b ys.length bcap (ys.flatMap enc) hl hnews (by omega) (by omega)
        (by rw[h3];exact growslice_fits (by omega) hb)
       exact⟨_,_,_,hr,big cap (by omega),hfoot cap,fun a ha=>.inr (by cases ha;exact Nat.le_refl _),fun h=>by cases h⟩
def fJ(P:Program)(t:TypeId)(k:Nat):Bool:=
 (match P.underlying t with|some (.struct _)|some (.array _ _)=>true|_=>false) && ((P.info? t).map (·.size) == some k)
theorem yP{P:Program}{t:TypeId}{k:Nat}(h:fJ P t k=true)(w:World):(Go.isAgg t).run P w=.ok true w:=by
 simp only[fJ,Bool.and_eq_true] at h;unfold Go.isAgg;cases hu:P.underlying t with
|none=>simp[hu] at h
|some d=>rw[Sem.run_bind,run_underlying hu w];cases d<;>simp_all
theorem uA{P:Program}{t:TypeId}{k:Nat}(h:fJ P t k=true)(w:World):(sizeOf t).run P w=.ok k w:=by
 simp only[fJ,Bool.and_eq_true,beq_iff_eq] at h;obtain⟨i,hi,h1⟩:=Option.map_eq_some_iff.1 h.2;simp[sizeOf,typeInfo,hi,h1]
section
variable {P:Program}{N:Nt}{Q:Exit→Act→World→Prop}{l:SF}{w:World}{ops:Array Oper}{rest:List Oper}
variable {op:Op}{ty:TypeId}{pos:String}{aft:Array Edge}{d:Nat}{v:Value}{CH:Array Obj→Prop}
variable {x y:Operand}{t t':TypeId}{g:Option (Nat×Bool)}{dd:Option Nat}
theorem Uf{ad:Addr}{cs:List Value}(ht:fJ P t cs.length=true)(hx:evL l x=some (.pointer (some ad)))(hc:∀ H,CH H→∀ j v,cs[j]?=some v→bE H (ad.add j)=some v) :
 Cm P N CH l ⟨dd,.load t x,ty,pos,aft,g⟩ (.agg cs.toArray):=fun a w ha hw=>by
 have h1:=hc _ hw;have hl:=run_loadCells_list (P:=P) w ad cs h1;simp only[execOp,ha.ev hx,Instr.loadAt,Instr.sureAddr,Sem.run_bind,loadVar,yP ht w,uA ht w,Result.andThen_ok,Sem.run_pure,if_true,hl]
theorem TI{H:Array Obj}{ad:Addr}{cs:List Value}(ht:fJ P t cs.length=true)(hx:evL l x=some (.pointer (some ad)))(hc:∀ j v,cs[j]?=some v→bE H (ad.add j)=some v) :
 Cm P N (· = H) l ⟨dd,.load t x,ty,pos,aft,g⟩ (.agg cs.toArray):=Uf ht hx (fun _ e=>by rw[e];exact hc)
theorem U3{b o:Nat}{cur vs:List Value}{T:TypeId}(ht:fJ P t vs.length=true)(hx:evL l x=some (.pointer (some ⟨b,o,none⟩)))(hy:evL l y=some (.agg vs.toArray))(h1:∀ v∈vs,v.oneCell'=true)
 (hg:w.heap[b]?=some (.cells cur.toArray T (0,0)))(ho:o+vs.length≤cur.length)
 (h:∀ w',w'.heap[b]?=some (.cells (cur.take o++vs++cur.drop (o+vs.length)).toArray T (0,0))→w'.heap.size=w.heap.size→aA (· = b) w w'→Sl P N ops Q rest l w') :
 Sl P N ops Q (⟨none,.store t x y,ty,pos,aft,none⟩::rest) l w:=by
 have hst:=run_storeCells_at P b o T vs 0 cur.toArray w hg (by simpa using ho) h1;simp only[Nat.add_zero] at hst;refine UB (w':=_) (fun a ha=>?_) (h (w.setRow b (cur.take o++vs++cur.drop (o+vs.length)).toArray) ?_ ?_ ?_)
 ·simp only[execOp,ha.ev hx,ha.ev hy,Instr.storeAt,Instr.sureAddr,Sem.run_bind,storeVar,uA ht w,Result.andThen_ok,Sem.run_pure,Value.cells,size_toArray,ne_eq,not_true,if_false,hst]
 ·exact setRow_heap w b cur.toArray _ T _ hg
 ·simp[World.setRow]
 ·exact⟨rfl,rfl,rfl,by simp[World.setRow],fun k hk hn=>setRow_other w b k _ (fun e=>hn e)⟩
theorem TX{b:Nat}{cur vs:List Value}{T:TypeId}(ht:fJ P t vs.length=true)(hx:evL l x=some (pT b))(hy:evL l y=some (.agg vs.toArray))(h1:∀ v∈vs,v.oneCell'=true)
 (hg:w.heap[b]?=some (.cells cur.toArray T (0,0)))(ho:vs.length=cur.length)
 (h:∀ w',w'.heap[b]?=some (.cells vs.toArray T (0,0))→w'.heap.size=w.heap.size→aA (· = b) w w'→Sl P N ops Q rest l w') :
 Sl P N ops Q (⟨none,.store t x y,ty,pos,aft,none⟩::rest) l w:=by
 refine U3 ht hx hy h1 hg (by omega) (fun w' h2 h3 h4=>h w' ?_ h3 h4);rw[h2];simp[ho]
theorem sA {b:Nat} {cur vs:List Value} {T:TypeId} (hy:evL l y=some (.agg vs.toArray)) (ht:fJ P t vs.length=true) (h1:∀ v∈vs,v.oneCell'=true) (hg:w.heap[b]?=some (.cells cur.toArray T (0,0))) (h:∀ w',w'.heap[b]?=some (.cells vs.toArray T (0,0))→w'.heap.size=w.heap.size→aA (· = b) w w'→Sl P N ops Q rest l w') (hx:evL l x=some (pT b):=by rfl) (ho:vs.length=cur.length:=by rfl):Sl P N ops Q (⟨none,.store t x y,ty,pos,aft,none⟩::rest) l w:=TX ht hx hy h1 hg ho h
theorem TH{α:Type}{k:Nat}{enc:α→List Value}(henc:iF k enc)(hk0:Nat.blt 0 k=true){e:TypeId}{bytes:Nat}(ht:aS P t e k bytes)
 {ao bo:Option Addr}{cap bcap:Nat}{xs ys:List α}(hx:evL l x=some (.slice ao xs.length cap))(hy:evL l y=some (.slice bo ys.length bcap))
 (ho:bF k enc e w.heap ao cap xs)(hv:VwM k enc w.heap bo bcap ys)
 (hb:(xs.length+ys.length)*bytes≤140737488355328)(hm:xs.length+ys.length≤maxLen)(hd:Nat.blt d N.n=true)
 (h:∀ ao' cap' w',bF k enc e w'.heap ao' cap' (xs++ys)→aA (blk ao) w w'→(∀ a,ao'=some a→ao=some a∨w.heap.size≤a.block)→(ao'=none→ao=none∧ys=[]) →
   Sl P N ops Q rest ((d,.slice ao' (xs++ys).length cap')::l) w') :
 Sl P N ops Q (⟨some d,.call ⟨.builtin .append,#[x,y],#[t,t]⟩,ty,pos,aft,none⟩::rest) l w:=by
 obtain⟨ao',cap',w',hr,h1,h2,h3,h4⟩:=uP henc (by simpa[Nat.blt_eq] using hk0) (ty:=ty) ht ho hv hb hm;refine Ua (w':=w') (v:=.slice ao' (xs++ys).length cap') (fun a ha=>?_) hd (h ao' cap' w' h1 h2 h3 h4);simp[execOp,ha.ev hx,ha.ev hy,resolve,invoke,builtin,hr]
theorem TS{e:TypeId}{size bytes:Nat}(ht:aS P t e size bytes){n:Nat}{parts:List (Nat×Operand)}{vs:List (Nat×Value)}{zc cs:Array Value}
 (hz:(P.info? e).map (fun i=>i.zero.map (·.cells))=some (some zc))(hn:Nat.ble (n*size) 16777216=true)(hn0:Nat.blt 0 (n*size)=true)(hx:evPs l parts=some vs)
 (hf:Instr.fill (fun i=>some (i*size,size)) ((Array.range (n*size)).map (zc[· % zc.size]!)) vs=some cs)(hd:Nat.blt d N.n=true)
 (h:∀ w',w'.heap[w.heap.size]?=some (.cells cs e (0,0))→w'.heap.size=w.heap.size+1→aA nob w w'→Sl P N ops Q rest ((d,.slice (some ⟨w.heap.size,0,none⟩) n n)::l) w') :
 Sl P N ops Q (⟨some d,.buildSlice t n parts.toArray,ty,pos,aft,none⟩::rest) l w:=by
 obtain⟨i,hi,h1⟩:=Option.map_eq_some_iff.1 hz;obtain⟨z,hz',rfl⟩:=Option.map_eq_some_iff.1 h1
 have hn' : ¬ (n * size > 2 ^ 24) := by have : n * size ≤ 16777216 := by simpa[Nat.ble_eq] using hn
                                        show ¬ (_ > 16777216);omega
 have hn0' : ¬ (n * size = 0) := by have : 0 < n * size := by simpa[Nat.blt_eq] using hn0
                                    omega
 refine Ua (w':=w.alloc (.cells cs e)) (fun a ha=>?_) hd (h _ (heap_alloc_new w _) (by simp) (aA.alloc _ _ _));have hv:=ha.evPs hx;simp only[execOp,Instr.buildSlice,Sem.run_bind,run_underlying ht.und,ht.size,Result.andThen_ok,if_neg hn',if_neg hn0',Sem.run_pure,zeroValue,typeInfo,run_program,hi,hz',map_toArray,hv];rw[hf];simp[newRow]
theorem bL{α:Type}{k:Nat}{enc:α→List Value}(hk:iF k enc){e:TypeId}{H:Array Obj}{g:Nat}{xs:List α}(hg:H[g]?=some (.cells (xs.flatMap enc).toArray e (0,0)))(hm:xs.length≤maxLen):bF k enc e H (some ⟨g,0,none⟩) xs.length xs:=
 .inr ⟨g,_,rfl,hg,Nat.le_refl _,hm,by simp[cJ (fun x=>(hk x).1)],by simp;exact take_of_length_le (by rw[cJ (fun x=>(hk x).1)];exact Nat.le_refl _)⟩
theorem Hg{f:FuncId}{xs:List Operand}{vs:List Value}{ts:Array TypeId}{a:Act}(hf:fnB P f=true)(ha:cK N l a)(hc:evL l x=some (.func (.func f) #[] #[]))(hx:uT l xs=some vs) :
 (execOp a.eval ⟨dd,.call ⟨.value x,xs.toArray,ts⟩,ty,pos,aft,g⟩).run P w=.ok (.enter f vs.toArray) w:=by
 have h1:=ha.ev hc;simp[execOp,resolve,h1,Deferred.ofValue,invoke,iN hf];rw[←ha.evs hx]
theorem UL{f:FuncId}{xs:List Operand}{vs:List Value}{ts:Array TypeId}(hf:fnB P f=true)(hc0:evL l x=some (.func (.func f) #[] #[]))(hx:uT l xs=some vs){R:Value→World→Prop}(hc:Calls P f vs.toArray w (Ret R))(hd:Nat.blt d N.n=true)
 (h:∀ v w',R v w'→Sl P N ops Q rest ((d,v)::l) w') :
 Sl P N ops Q (⟨some d,.call ⟨.value x,xs.toArray,ts⟩,ty,pos,aft,none⟩::rest) l w:=fun a ha=>by
 unfold wpList;rw[if_pos (by simp[Region.wanted])];refine .inl ?_;unfold Oper.wp;rw[Hg hf ha hc0 hx];refine hc.mono ?_;rintro e w' ⟨v,rfl,hR⟩;exact h v w' hR _ (ha.put hd v)
def okV(P:Program)(t:TypeId)(v:Value):Prop:=
 match P.underlying t,v with
|some (.int k),.int k' _=>k'=k
|some .string,.string _=>True
|some .bool,.bool _=>True
|_,_=>False
theorem uL {P : Program} (w : World) {d d1 : Nat} (hd1 : d1 = d + 1) {xs ys : Array Value} : ∀ (fs : List Field), (∀ f ∈ fs, f.name ≠ "_" ∧ ∃ a b, xs[f.offset]? = some a ∧ ys[f.offset]? = some b ∧ okV P f.type a ∧ okV P f.type b) →
 ∃ r,(Op.eqFields d1 xs ys fs).run P w=.ok r w∧(r=true↔∀ f∈fs,xs[f.offset]?=ys[f.offset]?)
 | [],_=>⟨true,by simp [Op.eqFields],by simp⟩
 | f::fs,h=>by
   subst hd1;obtain ⟨h1,a,b,h2,h3,h4,h5⟩:=h f (by simp);obtain ⟨r,hr,hr2⟩:=uL (d:=d) w rfl fs (fun g hg=>h g (by simp [hg]));have hag:(isAgg f.type).run P w=.ok false w:=by
    unfold isAgg okV at *;cases hu:P.underlying f.type with
    | none=>simp [hu] at h4
    | some u=>rw [Sem.run_bind,run_underlying hu w];cases u <;> simp_all
   have hpa:(part f.type xs f.offset).run P w=.ok a w:=by
    unfold part;rw [Sem.run_bind,hag];simp [h2]
   have hpb:(part f.type ys f.offset).run P w=.ok b w:=by
    unfold part;rw [Sem.run_bind,hag];simp [h3]
   have he:∃ q,(Op.equalIn (d+1) f.type a b).run P w=.ok q w∧(q=true↔a=b):=by
    unfold okV at h4 h5;cases hu:P.underlying f.type with
    | none=>simp [hu] at h4
    | some u=>
      cases u <;> simp [hu] at h4 h5 <;> cases a <;> simp at h4 <;> cases b <;> simp at h5
      case int.int.int k k1 m k2 n=>subst h4;subst h5;exact ⟨m == n,run_equalIn_int w d _ _ _ m n hu,by simp⟩
      case string.string.string m n=>exact ⟨_,run_equalIn_string w d _ m n hu,by rw [beq_iff_eq,ByteArray.toList_eq,ByteArray.toList_eq];simp [ByteArray.ext_iff]⟩
      case bool.bool.bool m n=>exact ⟨_,run_equalIn_bool w d _ m n hu,by simp⟩
   obtain ⟨q,hq,hq2⟩:=he;refine ⟨q && r,?_,?_⟩
   · unfold Op.eqFields
     rw [if_pos h1];simp only [Sem.run_bind,hpa,hpb,hq,Result.andThen_ok];cases q <;> simp [hr]
   · rw [Bool.and_eq_true,hq2,hr2]
     simp [h2,h3]
theorem Tz{T:TypeId}{zc:Array Value}(hz:(P.info? T).map (fun i=>i.zero.map (·.cells))=some (some zc))(hd:Nat.blt d N.n=true)
 (h:∀ w',w'.heap[w.heap.size]?=some (.cells zc T (0,0))→w'.heap.size=w.heap.size+1→aA nob w w'→Sl P N ops Q rest ((d,pT w.heap.size)::l) w') :
 Sl P N ops Q (⟨some d,.alloc T,ty,pos,aft,none⟩::rest) l w:=by
 obtain⟨i,hi,h1⟩:=Option.map_eq_some_iff.1 hz;obtain⟨z,hz',rfl⟩:=Option.map_eq_some_iff.1 h1;refine Ua (w':=w.alloc (.cells z.cells T)) (fun a ha=>?_) hd (h _ (heap_alloc_new w _) (by simp) (aA.alloc _ _ _));simp[execOp,Instr.alloc,zeroValue,typeInfo,hi,hz',newVar,newRow]
theorem Uj{b:Bool}(hx:evL l x=some (.bool b)):Cm P N CH l ⟨dd,.unOp .not t x,ty,pos,aft,g⟩ (.bool (decide (b=false))):=by
 have h:=@T0 P N l ty pos aft CH x t g dd b hx;cases b<;>exact h
theorem TV{o:Oper}{b:Bool}(h:Cm P N CH l o (.bool b)):Cm P N CH l o (.bool (decide (b=true))):=by
 have:decide (b=true)=b:=by cases b<;>rfl
 rwa[this]
end
abbrev CA(f:Nat)(xs:List Value)(W:World)(R:Value→World→Prop):Prop:=Calls Tryz.prog f xs.toArray W (Ret R)
theorem ty3:Tryz.prog.underlying 3=some (.int .i64):=by kernel_rfl
theorem is3:(Tryz.prog.underlying 3).isSome=true:=by kernel_rfl
theorem aI:fP Tryz.prog 3=true:=by kernel_rfl
instance:Sca Tryz.prog 3:=⟨aI⟩
theorem zc3:(Tryz.prog.info? 3).map (fun i=>i.zero.map (·.cells))=some (some #[iV 0]):=by kernel_rfl
theorem z3:(Tryz.prog.info? 3).map (·.zero)=some (some (iV 0)):=by kernel_rfl
theorem He:fP Tryz.prog 4=true:=by kernel_rfl
instance:Sca Tryz.prog 4:=⟨He⟩
theorem ty4:Tryz.prog.underlying 4=some .bool:=by kernel_rfl
theorem ty5:Tryz.prog.underlying 5=some (.int .u8):=by kernel_rfl
theorem is5:(Tryz.prog.underlying 5).isSome=true:=by kernel_rfl
theorem gW:fP Tryz.prog 5=true:=by kernel_rfl
instance:Sca Tryz.prog 5:=⟨gW⟩
theorem zc5:(Tryz.prog.info? 5).map (fun i=>i.zero.map (·.cells))=some (some #[.int .u8 0]):=by kernel_rfl
theorem z5:(Tryz.prog.info? 5).map (·.zero)=some (some (.int .u8 0)):=by kernel_rfl
theorem ty9:Tryz.prog.underlying 9=some .string:=by kernel_rfl
theorem gU:fP Tryz.prog 9=true:=by kernel_rfl
instance:Sca Tryz.prog 9:=⟨gU⟩
theorem NM:fP Tryz.prog 22=true:=by kernel_rfl
instance:Sca Tryz.prog 22:=⟨NM⟩
theorem bH:aS Tryz.prog 22 68 10 136:=⟨by kernel_rfl,by kernel_rfl⟩
instance:Slt Tryz.prog 22:=⟨_,_,_,bH⟩
theorem kI:fP Tryz.prog 23=true:=by kernel_rfl
instance:Sca Tryz.prog 23:=⟨kI⟩
theorem jO:aS Tryz.prog 23 9 1 16:=⟨by kernel_rfl,by kernel_rfl⟩
instance:Slt Tryz.prog 23:=⟨_,_,_,jO⟩
theorem aT:fP Tryz.prog 25=true:=by kernel_rfl
instance:Sca Tryz.prog 25:=⟨aT⟩
theorem aK:aS Tryz.prog 25 5 1 1:=⟨by kernel_rfl,by kernel_rfl⟩
instance:Slt Tryz.prog 25:=⟨_,_,_,aK⟩
theorem rF:fP Tryz.prog 26=true:=by kernel_rfl
instance:Sca Tryz.prog 26:=⟨rF⟩
theorem JT:JS Tryz.prog 30=true:=by kernel_rfl
theorem pS:fP Tryz.prog 34=true:=by kernel_rfl
instance:Sca Tryz.prog 34:=⟨pS⟩
theorem bP:aS Tryz.prog 34 3 1 8:=⟨by kernel_rfl,by kernel_rfl⟩
instance:Slt Tryz.prog 34:=⟨_,_,_,bP⟩
theorem NL:fP Tryz.prog 35=true:=by kernel_rfl
instance:Sca Tryz.prog 35:=⟨NL⟩
theorem rA:aS Tryz.prog 35 39 3 32:=⟨by kernel_rfl,by kernel_rfl⟩
instance:Slt Tryz.prog 35:=⟨_,_,_,rA⟩
theorem D6:(Tryz.prog.info? 39).map (fun i=>i.zero.map (·.cells))=some (some #[.string ByteArray.empty,iV 0,iV 0]):=by kernel_rfl
theorem yQ:fJ Tryz.prog 39 3=true:=by kernel_rfl
theorem NR:places Tryz.prog 39=some [(0,1),(1,1),(2,1)]:=by kernel_rfl
instance Nb:Fld Tryz.prog 39 0 0:=⟨by kernel_rfl⟩
instance So:Fld Tryz.prog 39 1 1:=⟨by kernel_rfl⟩
instance Na:Fld Tryz.prog 39 2 2:=⟨by kernel_rfl⟩
theorem Po:(Tryz.prog.info? 43).map (fun i=>i.zero.map (·.cells))=some (some #[iV 0,iV 0,iV 0]):=by kernel_rfl
theorem DY:fJ Tryz.prog 43 3=true:=by kernel_rfl
theorem PA:places Tryz.prog 43=some [(0,1),(1,1),(2,1)]:=by kernel_rfl
instance Sn:Fld Tryz.prog 43 0 0:=⟨by kernel_rfl⟩
instance Sm:Fld Tryz.prog 43 1 1:=⟨by kernel_rfl⟩
instance Sk:Fld Tryz.prog 43 2 2:=⟨by kernel_rfl⟩
theorem IF:(Tryz.prog.info? 45).map (fun i=>i.zero.map (·.cells))=some (some #[iV 0,iV 0,iV 0,iV 0,iV 0,iV 0]):=by kernel_rfl
theorem mP:fJ Tryz.prog 45 6=true:=by kernel_rfl
theorem NQ:places Tryz.prog 45=some [(0,1),(1,3),(4,1),(5,1)]:=by kernel_rfl
instance Sj:Fld Tryz.prog 45 0 0:=⟨by kernel_rfl⟩
instance Sh:Fld Tryz.prog 45 1 1:=⟨by kernel_rfl⟩
instance Sg:Fld Tryz.prog 45 3 5:=⟨by kernel_rfl⟩
theorem Oq:aS Tryz.prog 55 57 2 16:=⟨by kernel_rfl,by kernel_rfl⟩
instance:Slt Tryz.prog 55:=⟨_,_,_,Oq⟩
instance Sf:Fld Tryz.prog 57 0 0:=⟨by kernel_rfl⟩
instance Se:Fld Tryz.prog 57 1 1:=⟨by kernel_rfl⟩
theorem dN:fP Tryz.prog 66=true:=by kernel_rfl
instance:Sca Tryz.prog 66:=⟨dN⟩
theorem jH:aS Tryz.prog 66 183 2 40:=⟨by kernel_rfl,by kernel_rfl⟩
instance:Slt Tryz.prog 66:=⟨_,_,_,jH⟩
theorem Sq:(Tryz.prog.info? 66).map (fun i=>i.zero.map (·.cells))=some (some #[sN]):=by kernel_rfl
theorem kT:(Tryz.prog.info? 68).map (fun i=>i.zero.map (·.cells))=some (some #[sN,iV 0,iV 0,iV 0,iV 0,iV 0,sN,.string ByteArray.empty,sN,.bool false]):=by kernel_rfl
theorem eI:fJ Tryz.prog 68 10=true:=by kernel_rfl
theorem NP:places Tryz.prog 68=some [(0,1),(1,1),(2,1),(3,3),(6,1),(7,1),(8,1),(9,1)]:=by kernel_rfl
instance Sd:Fld Tryz.prog 68 0 0:=⟨by kernel_rfl⟩
instance Sb:Fld Tryz.prog 68 1 1:=⟨by kernel_rfl⟩
instance Sa:Fld Tryz.prog 68 2 2:=⟨by kernel_rfl⟩
instance R9:Fld Tryz.prog 68 3 3:=⟨by kernel_rfl⟩
instance R8:Fld Tryz.prog 68 4 6:=⟨by kernel_rfl⟩
instance R7:Fld Tryz.prog 68 5 7:=⟨by kernel_rfl⟩
instance R6:Fld Tryz.prog 68 6 8:=⟨by kernel_rfl⟩
instance R5:Fld Tryz.prog 68 7 9:=⟨by kernel_rfl⟩
theorem NK:fP Tryz.prog 71=true:=by kernel_rfl
instance:Sca Tryz.prog 71:=⟨NK⟩
theorem Bj:aS Tryz.prog 71 84 11 96:=⟨by kernel_rfl,by kernel_rfl⟩
instance:Slt Tryz.prog 71:=⟨_,_,_,Bj⟩
theorem LO:(Tryz.prog.info? 73).map (fun i=>i.zero.map (·.cells))=some (some #[sN,sN]):=by kernel_rfl
theorem Od:fJ Tryz.prog 73 2=true:=by kernel_rfl
theorem NO:places Tryz.prog 73=some [(0,1),(1,1)]:=by kernel_rfl
instance R4:Fld Tryz.prog 73 0 0:=⟨by kernel_rfl⟩
instance R3:Fld Tryz.prog 73 1 1:=⟨by kernel_rfl⟩
theorem Cz:fP Tryz.prog 74=true:=by kernel_rfl
instance:Sca Tryz.prog 74:=⟨Cz⟩
theorem L4:aS Tryz.prog 74 66 1 24:=⟨by kernel_rfl,by kernel_rfl⟩
instance:Slt Tryz.prog 74:=⟨_,_,_,L4⟩
theorem As:places Tryz.prog 76=some [(0,1),(1,1),(2,2),(4,2),(6,2),(8,1),(9,1),(10,1),(11,1),(12,1)]:=by kernel_rfl
instance R0:Fld Tryz.prog 76 0 0:=⟨by kernel_rfl⟩
instance RZ:Fld Tryz.prog 76 1 1:=⟨by kernel_rfl⟩
instance RY:Fld Tryz.prog 76 2 2:=⟨by kernel_rfl⟩
instance RX:Fld Tryz.prog 76 3 4:=⟨by kernel_rfl⟩
instance RW:Fld Tryz.prog 76 4 6:=⟨by kernel_rfl⟩
instance RV:Fld Tryz.prog 76 5 8:=⟨by kernel_rfl⟩
instance RU:Fld Tryz.prog 76 6 9:=⟨by kernel_rfl⟩
instance RT:Fld Tryz.prog 76 7 10:=⟨by kernel_rfl⟩
instance RS:Fld Tryz.prog 76 8 11:=⟨by kernel_rfl⟩
instance RR:Fld Tryz.prog 76 9 12:=⟨by kernel_rfl⟩
theorem NJ:fP Tryz.prog 77=true:=by kernel_rfl
instance:Sca Tryz.prog 77:=⟨NJ⟩
theorem Jg:aS Tryz.prog 77 143 2 32:=⟨by kernel_rfl,by kernel_rfl⟩
instance:Slt Tryz.prog 77:=⟨_,_,_,Jg⟩
theorem Pn:(Tryz.prog.info? 79).map (fun i=>i.zero.map (·.cells))=some (some #[iV 0,sN,sN]):=by kernel_rfl
theorem Rq:fJ Tryz.prog 79 3=true:=by kernel_rfl
theorem Pz:places Tryz.prog 79=some [(0,1),(1,1),(2,1)]:=by kernel_rfl
instance RQ:Fld Tryz.prog 79 0 0:=⟨by kernel_rfl⟩
instance RP:Fld Tryz.prog 79 1 1:=⟨by kernel_rfl⟩
instance RO:Fld Tryz.prog 79 2 2:=⟨by kernel_rfl⟩
theorem Aa:fP Tryz.prog 80=true:=by kernel_rfl
instance:Sca Tryz.prog 80:=⟨Aa⟩
theorem pJ:aS Tryz.prog 80 25 1 24:=⟨by kernel_rfl,by kernel_rfl⟩
instance:Slt Tryz.prog 80:=⟨_,_,_,pJ⟩
theorem Pm:(Tryz.prog.info? 82).map (fun i=>i.zero.map (·.cells))=some (some #[sN]):=by kernel_rfl
theorem Rp:fJ Tryz.prog 82 1=true:=by kernel_rfl
theorem Py:places Tryz.prog 82=some [(0,1)]:=by kernel_rfl
instance RN:Fld Tryz.prog 82 0 0:=⟨by kernel_rfl⟩
theorem vO:(Tryz.prog.info? 84).map (fun i=>i.zero.map (·.cells))=some (some #[iV 0,iV 0,iV 0,iV 0,iV 0,iV 0,iV 0,iV 0,iV 0,iV 0,.string ByteArray.empty]):=by kernel_rfl
theorem cT:fJ Tryz.prog 84 11=true:=by kernel_rfl
theorem CY:places Tryz.prog 84=some [(0,1),(1,1),(2,1),(3,1),(4,1),(5,1),(6,1),(7,1),(8,1),(9,1),(10,1)]:=by kernel_rfl
instance RM:Fld Tryz.prog 84 0 0:=⟨by kernel_rfl⟩
instance RL:Fld Tryz.prog 84 1 1:=⟨by kernel_rfl⟩
instance RK:Fld Tryz.prog 84 2 2:=⟨by kernel_rfl⟩
instance RJ:Fld Tryz.prog 84 3 3:=⟨by kernel_rfl⟩
instance RI:Fld Tryz.prog 84 4 4:=⟨by kernel_rfl⟩
instance RH:Fld Tryz.prog 84 5 5:=⟨by kernel_rfl⟩
instance RG:Fld Tryz.prog 84 6 6:=⟨by kernel_rfl⟩
instance RF:Fld Tryz.prog 84 7 7:=⟨by kernel_rfl⟩
instance RE:Fld Tryz.prog 84 8 8:=⟨by kernel_rfl⟩
instance RD:Fld Tryz.prog 84 9 9:=⟨by kernel_rfl⟩
instance QC:Fld Tryz.prog 84 10 10:=⟨by kernel_rfl⟩
theorem sV:(Tryz.prog.info? 93).map (fun i=>i.zero.map (·.cells))=some (some #[iV 0,iV 0,iV 0,iV 0,iV 0,iV 0,iV 0,iV 0,iV 0,iV 0]):=by kernel_rfl
theorem dS:fJ Tryz.prog 93 10=true:=by kernel_rfl
theorem uI:places Tryz.prog 93=some [(0,1),(1,1),(2,1),(3,1),(4,1),(5,1),(6,1),(7,1),(8,1),(9,1)]:=by kernel_rfl
instance RC:Fld Tryz.prog 93 0 0:=⟨by kernel_rfl⟩
instance RB:Fld Tryz.prog 93 1 1:=⟨by kernel_rfl⟩
instance RA:Fld Tryz.prog 93 2 2:=⟨by kernel_rfl⟩
instance Rz:Fld Tryz.prog 93 3 3:=⟨by kernel_rfl⟩
instance Ry:Fld Tryz.prog 93 4 4:=⟨by kernel_rfl⟩
instance Rx:Fld Tryz.prog 93 5 5:=⟨by kernel_rfl⟩
instance Rw:Fld Tryz.prog 93 6 6:=⟨by kernel_rfl⟩
instance Rv:Fld Tryz.prog 93 7 7:=⟨by kernel_rfl⟩
instance Ru:Fld Tryz.prog 93 8 8:=⟨by kernel_rfl⟩
instance Rt:Fld Tryz.prog 93 9 9:=⟨by kernel_rfl⟩
theorem G0:Tryz.prog.underlying 96=some (.int .u32):=by kernel_rfl
theorem MY:(Tryz.prog.underlying 96).isSome=true:=by kernel_rfl
theorem Cy:fP Tryz.prog 96=true:=by kernel_rfl
instance:Sca Tryz.prog 96:=⟨Cy⟩
theorem Ro:fJ Tryz.prog 98 256=true:=by kernel_rfl
theorem Ou:fP Tryz.prog 102=true:=by kernel_rfl
instance:Sca Tryz.prog 102:=⟨Ou⟩
theorem Jj:fP Tryz.prog 104=true:=by kernel_rfl
instance:Sca Tryz.prog 104:=⟨Jj⟩
theorem Bk:fP Tryz.prog 105=true:=by kernel_rfl
instance:Sca Tryz.prog 105:=⟨Bk⟩
theorem JW:places Tryz.prog 107=some [(0,1),(1,1),(2,10),(12,1),(13,1),(14,1),(15,1),(16,1),(17,1),(18,1)]:=by kernel_rfl
instance Rf:Fld Tryz.prog 107 0 0:=⟨by kernel_rfl⟩
instance Re:Fld Tryz.prog 107 1 1:=⟨by kernel_rfl⟩
instance Rb:Fld Tryz.prog 107 2 2:=⟨by kernel_rfl⟩
instance Ra:Fld Tryz.prog 107 3 12:=⟨by kernel_rfl⟩
instance Q9:Fld Tryz.prog 107 4 13:=⟨by kernel_rfl⟩
instance Q8:Fld Tryz.prog 107 5 14:=⟨by kernel_rfl⟩
instance Q7:Fld Tryz.prog 107 6 15:=⟨by kernel_rfl⟩
instance Q6:Fld Tryz.prog 107 7 16:=⟨by kernel_rfl⟩
instance Q5:Fld Tryz.prog 107 8 17:=⟨by kernel_rfl⟩
instance Q4:Fld Tryz.prog 107 9 18:=⟨by kernel_rfl⟩
theorem OA:JS Tryz.prog 110=true:=by kernel_rfl
theorem Sr:(Tryz.prog.info? 110).map (·.zero)=some (some (.pointer none)):=by kernel_rfl
theorem OG:places Tryz.prog 112=some [(0,11),(11,1),(12,1),(13,1)]:=by kernel_rfl
instance Q3:Fld Tryz.prog 112 0 0:=⟨by kernel_rfl⟩
instance Q2:Fld Tryz.prog 112 1 11:=⟨by kernel_rfl⟩
instance Q1:Fld Tryz.prog 112 2 12:=⟨by kernel_rfl⟩
instance Q0:Fld Tryz.prog 112 3 13:=⟨by kernel_rfl⟩
theorem NF:(Tryz.prog.info? 143).map (fun i=>i.zero.map (·.cells))=some (some #[sN,iV 0]):=by kernel_rfl
theorem OF:places Tryz.prog 143=some [(0,1),(1,1)]:=by kernel_rfl
instance QZ:Fld Tryz.prog 143 0 0:=⟨by kernel_rfl⟩
instance QY:Fld Tryz.prog 143 1 1:=⟨by kernel_rfl⟩
theorem kW:(Tryz.prog.info? 152).map (fun i=>i.zero.map (·.cells))=some (some #[sN,iV 0]):=by kernel_rfl
theorem qS:fJ Tryz.prog 152 2=true:=by kernel_rfl
theorem qD:places Tryz.prog 152=some [(0,1),(1,1)]:=by kernel_rfl
instance QX:Fld Tryz.prog 152 0 0:=⟨by kernel_rfl⟩
instance QW:Fld Tryz.prog 152 1 1:=⟨by kernel_rfl⟩
theorem Cs:aS Tryz.prog 162 165 1 8:=⟨by kernel_rfl,by kernel_rfl⟩
instance:Slt Tryz.prog 162:=⟨_,_,_,Cs⟩
theorem Er:fP Tryz.prog 165=true:=by kernel_rfl
instance:Sca Tryz.prog 165:=⟨Er⟩
theorem NE:(Tryz.prog.info? 165).map (fun i=>i.zero.map (·.cells))=some (some #[.pointer none]):=by kernel_rfl
instance QV:Fld Tryz.prog 169 0 0:=⟨by kernel_rfl⟩
theorem Pq:(Tryz.prog.info? 171).map (fun i=>i.zero.map (·.cells))=some (some #[iV 0,sN]):=by kernel_rfl
theorem OE:places Tryz.prog 171=some [(0,1),(1,1)]:=by kernel_rfl
instance QU:Fld Tryz.prog 171 0 0:=⟨by kernel_rfl⟩
instance QT:Fld Tryz.prog 171 1 1:=⟨by kernel_rfl⟩
theorem Fy:(Tryz.prog.info? 183).map (fun i=>i.zero.map (·.cells))=some (some #[.string ByteArray.empty,sN]):=by kernel_rfl
theorem BZ:fJ Tryz.prog 183 2=true:=by kernel_rfl
theorem OD:places Tryz.prog 183=some [(0,1),(1,1)]:=by kernel_rfl
instance QS:Fld Tryz.prog 183 0 0:=⟨by kernel_rfl⟩
instance QR:Fld Tryz.prog 183 1 1:=⟨by kernel_rfl⟩
theorem II:(Tryz.prog.info? 205).map (fun i=>i.zero.map (·.cells))=some (some #[iV 0,iV 0,iV 0,iV 0,iV 0,iV 0,iV 0,iV 0]):=by kernel_rfl
theorem Fw:fJ Tryz.prog 205 8=true:=by kernel_rfl
theorem Ji:fP Tryz.prog 208=true:=by kernel_rfl
instance:Sca Tryz.prog 208:=⟨Ji⟩
theorem Pp:(Tryz.prog.info? 210).map (fun i=>i.zero.map (·.cells))=some (some #[.pointer none,sN,iV 0,iV 0,.map none]):=by kernel_rfl
theorem OC:places Tryz.prog 210=some [(0,1),(1,1),(2,1),(3,1),(4,1)]:=by kernel_rfl
instance QQ:Fld Tryz.prog 210 0 0:=⟨by kernel_rfl⟩
instance QP:Fld Tryz.prog 210 1 1:=⟨by kernel_rfl⟩
instance QO:Fld Tryz.prog 210 2 2:=⟨by kernel_rfl⟩
instance QN:Fld Tryz.prog 210 3 3:=⟨by kernel_rfl⟩
instance QM:Fld Tryz.prog 210 4 4:=⟨by kernel_rfl⟩
theorem pP:(Tryz.prog.info? 235).map (fun i=>i.zero.map (·.cells))=some (some #[sN,iV 0]):=by kernel_rfl
theorem eA:fJ Tryz.prog 235 2=true:=by kernel_rfl
theorem wR:places Tryz.prog 235=some [(0,1),(1,1)]:=by kernel_rfl
instance QL:Fld Tryz.prog 235 0 0:=⟨by kernel_rfl⟩
instance QK:Fld Tryz.prog 235 1 1:=⟨by kernel_rfl⟩
theorem rB:aS Tryz.prog 238 242 3 24:=⟨by kernel_rfl,by kernel_rfl⟩
instance:Slt Tryz.prog 238:=⟨_,_,_,rB⟩
theorem Ot:fP Tryz.prog 240=true:=by kernel_rfl
instance:Sca Tryz.prog 240:=⟨Ot⟩
theorem iY:(Tryz.prog.info? 242).map (fun i=>i.zero.map (·.cells))=some (some #[.nilFunc,iV 0,iV 0]):=by kernel_rfl
theorem uB:fJ Tryz.prog 242 3=true:=by kernel_rfl
theorem kM:places Tryz.prog 242=some [(0,1),(1,1),(2,1)]:=by kernel_rfl
instance QJ:Fld Tryz.prog 242 0 0:=⟨by kernel_rfl⟩
instance QI:Fld Tryz.prog 242 1 1:=⟨by kernel_rfl⟩
instance QH:Fld Tryz.prog 242 2 2:=⟨by kernel_rfl⟩
theorem lR:(Tryz.prog.info? 253).map (fun i=>i.zero.map (·.cells))=some (some #[sN,.int .u32 0,.bool false,iV 0]):=by kernel_rfl
theorem bQ:fJ Tryz.prog 253 4=true:=by kernel_rfl
theorem mY:places Tryz.prog 253=some [(0,1),(1,1),(2,1),(3,1)]:=by kernel_rfl
instance QG:Fld Tryz.prog 253 0 0:=⟨by kernel_rfl⟩
instance QF:Fld Tryz.prog 253 1 1:=⟨by kernel_rfl⟩
instance QE:Fld Tryz.prog 253 2 2:=⟨by kernel_rfl⟩
instance QD:Fld Tryz.prog 253 3 3:=⟨by kernel_rfl⟩
theorem IG:(Tryz.prog.info? 268).map (fun i=>i.zero.map (·.cells))=some (some #[.int .u8 0,.int .u8 0,.int .u8 0]):=by kernel_rfl
theorem yR:fJ Tryz.prog 268 3=true:=by kernel_rfl
theorem fn8:fnB Tryz.prog 8=true:=by kernel_rfl
theorem fn9:fnB Tryz.prog 9=true:=by kernel_rfl
theorem Th:fnB Tryz.prog 10=true:=by kernel_rfl
theorem M9:fnB Tryz.prog 11=true:=by kernel_rfl
theorem O9:fnB Tryz.prog 12=true:=by kernel_rfl
theorem Qn:fnB Tryz.prog 13=true:=by kernel_rfl
theorem Tg:fnB Tryz.prog 15=true:=by kernel_rfl
theorem K3:fnB Tryz.prog 16=true:=by kernel_rfl
theorem Tf:fnB Tryz.prog 17=true:=by kernel_rfl
theorem Te:fnB Tryz.prog 19=true:=by kernel_rfl
theorem Td:fnB Tryz.prog 20=true:=by kernel_rfl
theorem O8:fnB Tryz.prog 21=true:=by kernel_rfl
theorem K2:fnB Tryz.prog 23=true:=by kernel_rfl
theorem Tc:fnB Tryz.prog 24=true:=by kernel_rfl
theorem Tb:fnB Tryz.prog 25=true:=by kernel_rfl
theorem Ta:fnB Tryz.prog 26=true:=by kernel_rfl
theorem PU:fnB Tryz.prog 27=true:=by kernel_rfl
theorem PT:fnB Tryz.prog 28=true:=by kernel_rfl
theorem K1:fnB Tryz.prog 29=true:=by kernel_rfl
theorem KZ:fnB Tryz.prog 30=true:=by kernel_rfl
theorem S9:fnB Tryz.prog 31=true:=by kernel_rfl
theorem S8:fnB Tryz.prog 32=true:=by kernel_rfl
theorem S7:fnB Tryz.prog 33=true:=by kernel_rfl
theorem Fg:fnB Tryz.prog 34=true:=by kernel_rfl
theorem KW:fnB Tryz.prog 35=true:=by kernel_rfl
theorem S6:fnB Tryz.prog 36=true:=by kernel_rfl
theorem PS:fnB Tryz.prog 37=true:=by kernel_rfl
theorem KV:fnB Tryz.prog 38=true:=by kernel_rfl
theorem S5:fnB Tryz.prog 39=true:=by kernel_rfl
theorem S4:fnB Tryz.prog 42=true:=by kernel_rfl
theorem S3:fnB Tryz.prog 43=true:=by kernel_rfl
theorem S2:fnB Tryz.prog 44=true:=by kernel_rfl
theorem PR:fnB Tryz.prog 45=true:=by kernel_rfl
theorem S1:fnB Tryz.prog 46=true:=by kernel_rfl
theorem S0:fnB Tryz.prog 47=true:=by kernel_rfl
theorem SZ:fnB Tryz.prog 48=true:=by kernel_rfl
theorem SY:fnB Tryz.prog 49=true:=by kernel_rfl
theorem SX:fnB Tryz.prog 52=true:=by kernel_rfl
theorem SW:fnB Tryz.prog 53=true:=by kernel_rfl
theorem Id:fnB Tryz.prog 54=true:=by kernel_rfl
theorem SV:fnB Tryz.prog 55=true:=by kernel_rfl
theorem SU:fnB Tryz.prog 56=true:=by kernel_rfl
theorem PQ:fnB Tryz.prog 57=true:=by kernel_rfl
theorem ST:fnB Tryz.prog 58=true:=by kernel_rfl
theorem SS:fnB Tryz.prog 59=true:=by kernel_rfl
theorem SR:fnB Tryz.prog 60=true:=by kernel_rfl
theorem fU:fnB Tryz.prog 61=true:=by kernel_rfl
theorem BL:fnB Tryz.prog 62=true:=by kernel_rfl
theorem SQ:fnB Tryz.prog 63=true:=by kernel_rfl
theorem KU:fnB Tryz.prog 64=true:=by kernel_rfl
theorem PP:fnB Tryz.prog 65=true:=by kernel_rfl
theorem KS:fnB Tryz.prog 66=true:=by kernel_rfl
theorem Ff:fnB Tryz.prog 67=true:=by kernel_rfl
theorem SP:fnB Tryz.prog 68=true:=by kernel_rfl
theorem xT:fnB Tryz.prog 69=true:=by kernel_rfl
theorem SO:fnB Tryz.prog 70=true:=by kernel_rfl
theorem O7:fnB Tryz.prog 71=true:=by kernel_rfl
theorem Fe:fnB Tryz.prog 72=true:=by kernel_rfl
theorem PO:fnB Tryz.prog 73=true:=by kernel_rfl
theorem SN:fnB Tryz.prog 74=true:=by kernel_rfl
theorem SM:fnB Tryz.prog 75=true:=by kernel_rfl
theorem SL:fnB Tryz.prog 76=true:=by kernel_rfl
theorem SJ:fnB Tryz.prog 77=true:=by kernel_rfl
theorem PN:fnB Tryz.prog 78=true:=by kernel_rfl
theorem PM:fnB Tryz.prog 79=true:=by kernel_rfl
theorem SI:fnB Tryz.prog 80=true:=by kernel_rfl
theorem SH:fnB Tryz.prog 81=true:=by kernel_rfl
theorem SG:fnB Tryz.prog 82=true:=by kernel_rfl
theorem SE:fnB Tryz.prog 83=true:=by kernel_rfl
theorem SD:fnB Tryz.prog 84=true:=by kernel_rfl
theorem SC:fnB Tryz.prog 85=true:=by kernel_rfl
theorem SB:fnB Tryz.prog 86=true:=by kernel_rfl
theorem PL:fnB Tryz.prog 87=true:=by kernel_rfl
theorem PK:fnB Tryz.prog 88=true:=by kernel_rfl
theorem O6:fnB Tryz.prog 89=true:=by kernel_rfl
theorem SA:fnB Tryz.prog 98=true:=by kernel_rfl
theorem K6:fnB Tryz.prog 101=true:=by kernel_rfl
theorem QB:fnB Tryz.prog 102=true:=by kernel_rfl
theorem Ob:fnB Tryz.prog 103=true:=by kernel_rfl
theorem Oa:fnB Tryz.prog 104=true:=by kernel_rfl
theorem DB:fnB Tryz.prog 105=true:=by kernel_rfl
theorem QA:fnB Tryz.prog 106=true:=by kernel_rfl
theorem Qz:fnB Tryz.prog 107=true:=by kernel_rfl
theorem Qy:fnB Tryz.prog 108=true:=by kernel_rfl
theorem Qx:fnB Tryz.prog 109=true:=by kernel_rfl
theorem DA:fnB Tryz.prog 110=true:=by kernel_rfl
theorem Qw:fnB Tryz.prog 111=true:=by kernel_rfl
theorem Qv:fnB Tryz.prog 112=true:=by kernel_rfl
theorem GI:fnB Tryz.prog 113=true:=by kernel_rfl
theorem Qu:fnB Tryz.prog 114=true:=by kernel_rfl
theorem Qt:fnB Tryz.prog 115=true:=by kernel_rfl
theorem pX:fnB Tryz.prog 116=true:=by kernel_rfl
theorem Qs:fnB Tryz.prog 117=true:=by kernel_rfl
theorem Qr:fnB Tryz.prog 118=true:=by kernel_rfl
theorem Qq:fnB Tryz.prog 119=true:=by kernel_rfl
theorem Qp:fnB Tryz.prog 120=true:=by kernel_rfl
theorem Qo:fnB Tryz.prog 121=true:=by kernel_rfl
theorem N9:fnB Tryz.prog 122=true:=by kernel_rfl
theorem K5:fnB Tryz.prog 123=true:=by kernel_rfl
theorem N8:fnB Tryz.prog 124=true:=by kernel_rfl
theorem Qm:fnB Tryz.prog 133=true:=by kernel_rfl
theorem N7:fnB Tryz.prog 134=true:=by kernel_rfl
theorem Ql:fnB Tryz.prog 135=true:=by kernel_rfl
theorem Qk:fnB Tryz.prog 136=true:=by kernel_rfl
theorem Qj:fnB Tryz.prog 137=true:=by kernel_rfl
theorem K4:fnB Tryz.prog 138=true:=by kernel_rfl
theorem Qi:fnB Tryz.prog 139=true:=by kernel_rfl
theorem Qh:fnB Tryz.prog 140=true:=by kernel_rfl
theorem Qg:fnB Tryz.prog 141=true:=by kernel_rfl
theorem Qf:fnB Tryz.prog 142=true:=by kernel_rfl
theorem N6:fnB Tryz.prog 143=true:=by kernel_rfl
theorem Qe:fnB Tryz.prog 144=true:=by kernel_rfl
theorem N5:fnB Tryz.prog 145=true:=by kernel_rfl
theorem Qd:fnB Tryz.prog 146=true:=by kernel_rfl
theorem Qc:fnB Tryz.prog 157=true:=by kernel_rfl
theorem Qb:fnB Tryz.prog 158=true:=by kernel_rfl
theorem Qa:fnB Tryz.prog 159=true:=by kernel_rfl
theorem P9:fnB Tryz.prog 160=true:=by kernel_rfl
theorem P8:fnB Tryz.prog 161=true:=by kernel_rfl
theorem N4:fnB Tryz.prog 162=true:=by kernel_rfl
theorem P7:fnB Tryz.prog 163=true:=by kernel_rfl
theorem P6:fnB Tryz.prog 164=true:=by kernel_rfl
theorem P5:fnB Tryz.prog 165=true:=by kernel_rfl
theorem N3:fnB Tryz.prog 166=true:=by kernel_rfl
theorem P4:fnB Tryz.prog 167=true:=by kernel_rfl
theorem P3:fnB Tryz.prog 168=true:=by kernel_rfl
theorem P2:fnB Tryz.prog 175=true:=by kernel_rfl
theorem PZ:fnB Tryz.prog 176=true:=by kernel_rfl
theorem PY:fnB Tryz.prog 177=true:=by kernel_rfl
theorem PX:fnB Tryz.prog 178=true:=by kernel_rfl
theorem PW:fnB Tryz.prog 179=true:=by kernel_rfl
theorem PV:fnB Tryz.prog 180=true:=by kernel_rfl
theorem PI:IbT Tryz.prog 181:=WC Tryz.func181 (by kernel_rfl) (by kernel_rfl) (by kernel_rfl) (by kernel_rfl)
theorem aL:Tryz.prog.follows .mixedOrders=true:=by kernel_rfl
def inN(n:Nat):Value:=iV n
theorem aV(x:UInt8):(b8 x).oneCell'=true:=rfl
theorem Ok{k k':IntKind}{a b c d:Int}(h1:a=c)(h2:b=d):Value.tuple #[.int k a,.int k' b]=Value.tuple #[.int k c,.int k' d]:=by rw[h1,h2]
theorem aE{H:Array Obj}{p:Nat}{cs:List Value}{T:TypeId}{fr:Nat×Nat}(h:H[p]?=some (.cells cs.toArray T fr)){i:Nat}{v:Value}(hi:cs[i]?=some v):bE H ((⟨p,0,none⟩:Addr).add i)=some v:=by
 rw[Addr.add_lit,Nat.zero_add];simp[bE,h,hi]
theorem bS{H:Array Obj}{p:Nat}{cs:List Value}{T:TypeId}{fr:Nat×Nat}(h:H[p]?=some (.cells cs.toArray T fr)){i:Nat}{v:Value}(hi:cs[i]?=some v):bE H (⟨p,i,none⟩:Addr)=some v:=by
 simp[bE,h,hi]
structure Hd where
 a:Option Addr
 n:Nat
 c:Nat
def hd(h:Hd):Value:=.slice h.a h.n h.c
theorem xN(h:Hd):(hd h).oneCell'=true:=rfl
def eQ(D:Nat→Prop)(H:Array Obj)(hs:List Hd)(L:List By):Prop:=
 hs.length=L.length∧∀ (i:Nat) (h:Hd) (xs:By),hs[i]?=some h→L[i]?=some xs→h.n=xs.length∧Vw b8 H h.a h.c xs∧(xs≠[]→∀ k,blk h.a k→D k)
theorem Vw.keep'{α:Type}{enc:α→Value}{ao:Option Addr}{cap:Nat}{xs:List α}{w w':World}{S:Nat→Prop}(h:Vw enc w.heap ao cap xs)(f:aA S w w')(hs:xs≠[]→∀ a,ao=some a→¬ S a.block):Vw enc w'.heap ao cap xs:=by
 by_cases he:xs=[]
 ·subst he;exact Wz cap h.max
 ·exact h.WS f (hs he)
theorem eQ.WS{D S:Nat→Prop}{w w':World}{hs:List Hd}{L:List By}(h:eQ D w.heap hs L)(f:aA S w w')(hS:∀ k,D k→¬ S k):eQ D w'.heap hs L:=
 ⟨h.1,fun i x xs hx hxs=>by
  obtain⟨h1,h2,h3⟩:=h.2 i x xs hx hxs;exact⟨h1,h2.keep' f (fun hne a ha=>hS _ (h3 hne _ ⟨a,ha,rfl⟩)),h3⟩⟩
theorem WF{D:Nat→Prop}{H:Array Obj}:eQ D H [] []:=⟨rfl,fun i h xs hh=>by simp at hh⟩
theorem eQ.mono{D D':Nat→Prop}{H:Array Obj}{hs:List Hd}{L:List By}(h:eQ D H hs L)(hd:∀ k,D k→D' k):eQ D' H hs L:=
 ⟨h.1,fun i x xs hx hxs=>by obtain⟨h1,h2,h3⟩:=h.2 i x xs hx hxs;exact⟨h1,h2,fun hne k hk=>hd k (h3 hne k hk)⟩⟩
theorem eQ.snoc{D:Nat→Prop}{H:Array Obj}{hs:List Hd}{L:List By}(h:eQ D H hs L){x:Hd}{xs:By}(h1:x.n=xs.length)(h2:Vw b8 H x.a x.c xs)(h3:xs≠[]→∀ k,blk x.a k→D k):eQ D H (hs++[x]) (L++[xs]):=by
 refine⟨by simp[h.1],fun i y ys hy hys=>?_⟩;by_cases hi:i<hs.length
 · rw[List.getElem?_append_left hi] at hy
   rw[List.getElem?_append_left (by rw[←h.1];exact hi)] at hys;exact h.2 i y ys hy hys
 · have hi':i=hs.length:=by
    have:=(List.getElem?_eq_some_iff.1 hy).1;simp at this;omega
   subst hi';simp at hy;rw[h.1] at hys;simp at hys;subst hy;subst hys;exact⟨h1,h2,h3⟩
theorem eQ.at{D:Nat→Prop}{H:Array Obj}{hs:List Hd}{L:List By}(h:eQ D H hs L){i:Nat}(hi:i<L.length) :
 ∃ x:Hd,hs[i]?=some x∧x.n=(L.getD i []).length∧Vw b8 H x.a x.c (L.getD i [])∧(L.getD i []≠[]→∀ k,blk x.a k→D k):=by
 have hi2:i<hs.length:=by rw[h.1];exact hi
 refine⟨hs[i],List.getElem?_eq_getElem hi2,?_⟩;have:=h.2 i hs[i] L[i] (List.getElem?_eq_getElem hi2) (List.getElem?_eq_getElem hi);simpa[List.getD,hi] using this
theorem eP(n:Nat):Fr n (some (⟨n,0,none⟩:Addr)):=fun a ha=>by cases ha;exact Nat.le_refl _
theorem bK{B n:Nat}{ao bo:Option Addr}(h:Fr B ao)(hr:∀ a,bo=some a→ao=some a∨n≤a.block)(hn:B≤n):Fr B bo:=fun a ha=>by
 rcases hr a ha with h1|h1
 ·exact h a h1
 ·omega
theorem aA.fresh{S:Nat→Prop}{w w':World}(h:aA S w w')(hs:∀ k,S k→w.heap.size≤k):aA nob w w':=
 ⟨h.os,h.tape,h.output,h.size,fun k hk _=>h.same k hk (fun h'=>by have:=hs k h';omega)⟩
theorem aA.any{S:Nat→Prop}{w w':World}(h:aA nob w w'):aA S w w':=h.mono (fun _ h=>h.elim)
theorem cR{D:Nat→Prop}{S:Nat→Prop}{w w':World}(h:aA S w w')(hD:∀ k,w.heap.size≤k→D k):∀ k,w'.heap.size≤k→D k:=fun k hk=>hD k (Nat.le_trans h.size hk)
theorem Jf(s:By)(c:Int)(W:World):CA 180 [.string (bs s),.int .u8 c] W fun v w'=>v=iV (Lib.indexByte s c.toNat.toUInt8)∧w'=W:=by
 refine cS 8 [(0,_),(1,_)] Tryz.func180 ?_;refine Gz 9 ?_;refine cL (Va PI rfl rfl) ?_;refine Gz 5 ?_;exact⟨_,rfl,rfl,rfl⟩
theorem Ky(s:By)(c:Int)(W:World):CA 166 [.string (bs s),.int .u8 c] W fun v w'=>v=iV (Lib.indexByte s c.toNat.toUInt8)∧w'=W:=by
 refine cS 8 [(0,_),(1,_)] Tryz.func166 ?_;refine cA 9 PV (Jf s c W) ?_;rintro _ w1 ⟨rfl,hw1⟩;subst w1;refine Gz 5 ?_;exact⟨_,rfl,rfl,rfl⟩
theorem Gc{s:By}(h:Lib.indexByte s (0:Int).toNat.toUInt8<0):(0:UInt8)∉s:=(pW s 0).1 h
theorem Gb{s:By}(h:0≤Lib.indexByte s (0:Int).toNat.toUInt8):(0:UInt8)∈s:=by
 apply byContradiction;intro hn;have:=(pW s 0).2 hn;have h2:Lib.indexByte s (0:Int).toNat.toUInt8=Lib.indexByte s 0:=rfl;omega
theorem jB:∀ a b:By,(Op.bytesLess a b || a == b) = !Op.bytesLess b a
|[],[]=>rfl
|[],_::_=>rfl
|_::_,[]=>rfl
|x::a,y::b=>by
   have ih:=jB a b;unfold Op.bytesLess;rcases Nat.lt_trichotomy x.toNat y.toNat with h|h|h
   · have h1:x<y:=UInt8.lt_iff_toNat_lt.2 h
     have h2:¬ y<x:=by rw[UInt8.lt_iff_toNat_lt];omega
     have h3:x≠y:=by intro e;subst e;omega
     simp[h1,h2,Ne.symm h3]
   · have h1:x=y:=UInt8.toNat_inj.1 h
     subst h1;have h2:¬ x<x:=by rw[UInt8.lt_iff_toNat_lt];omega
     simpa[h2] using ih
   · have h1:y<x:=UInt8.lt_iff_toNat_lt.2 h
     have h2:¬ x<y:=by rw[UInt8.lt_iff_toNat_lt];omega
     have h3:x≠y:=by intro e;subst e;omega
     simp[h1,h2,h3]
theorem xB(a:By):Op.bytesLess [] a=true↔a≠[]:=by cases a<;>simp[Op.bytesLess]
theorem MS{a b:By}(h:Op.bytesLess a b=true):b≠[]:=by intro e;subst e;cases a<;>simp[Op.bytesLess] at h
abbrev Xa:=By×By
def x0:Xa:=([],[])
def sC(x:By×Hd):List Value:=[.string (bs x.1),hd x.2]
theorem dK:iF 2 sC:=fun x=>⟨rfl,by simp[sC,Value.oneCell',hd]⟩
def XaV(H:Array Obj)(ao:Option Addr)(cap:Nat)(X:List Xa):Prop:=
 ∃ xs:List (By×Hd),VwM 2 sC H ao cap xs∧xs.length=X.length∧∀ (i:Nat) (x:By×Hd) (y:Xa),xs[i]?=some x→X[i]?=some y→x.1=y.1∧x.2.n=y.2.length∧Vw b8 H x.2.a x.2.c y.2∧y.1.length≤maxLen
theorem XaV.WR{w w':World}{ao:Option Addr}{cap:Nat}{X:List Xa}(h:XaV w.heap ao cap X)(f:aA nob w w'):XaV w'.heap ao cap X:=by
 obtain⟨xs,h1,h2,h3⟩:=h;exact⟨xs,h1.WR f,h2,fun i x y hx hy=>⟨(h3 i x y hx hy).1,(h3 i x y hx hy).2.1,(h3 i x y hx hy).2.2.1.WR f,(h3 i x y hx hy).2.2.2⟩⟩
theorem XaV.non{H:Array Obj}{ao:Option Addr}{cap:Nat}{X:List Xa}(h:XaV H ao cap X):X.length≠0→ao≠none:=by
 obtain⟨xs,h1,h2,h3⟩:=h;rw[←h2];exact h1.non
theorem XaV.WQ{H:Array Obj}{ao:Option Addr}{cap:Nat}{X:List Xa}(h:XaV H ao cap X):(X.length:Int)≤9223372036854775807:=by
 obtain⟨xs,h1,h2,h3⟩:=h;rw[←h2];exact h1.WQ
theorem XaV.at{H:Array Obj}{ao:Option Addr}{cap:Nat}{X:List Xa}(h:XaV H ao cap X){i:Nat}{z:Int}(hz:z=i)(hi:i<X.length) :
 ∃ xa xc,(∀ j v,[Value.string (bs (X.getD i x0).1),.slice xa (X.getD i x0).2.length xc][j]?=some v→bE H ((adr ao (z.toNat*2)).add j)=some v)∧Vw b8 H xa xc (X.getD i x0).2∧(X.getD i x0).1.length≤maxLen:=by
 obtain⟨xs,h1,h2,h3⟩:=h;have hi2:i<xs.length:=by omega
 have e:X.getD i x0=X[i]:=by simp[List.getD,hi]
 rw[e];obtain⟨e1,e2,e3,e4⟩:=h3 i xs[i] X[i] (List.getElem?_eq_getElem hi2) (List.getElem?_eq_getElem hi);have hrow:=h1.rowZ i hz (List.getElem?_eq_getElem hi2);refine⟨xs[i].2.a,xs[i].2.c,fun j v hv=>hrow j v ?_,e3,e4⟩;rw[←hv,←e1,←e2];rfl
def F7(X:List Xa):Nat→By
|0=>[]
|i+1=>(X.getD i x0).1
def Dp(X:List Xa)(i:Nat):Prop:=Op.bytesLess (F7 X i) (X.getD i x0).1=true∧(X.getD i x0).1.length≤40∧(0:UInt8)∉(X.getD i x0).1∧(X.getD i x0).2.length≤200
instance (X:List Xa)(i:Nat):Decidable (Dp X i):=by unfold Dp;exact inferInstance
def eD(X:List Xa):Prop:=(∀ i,i<X.length→Dp X i)∧X.length≤8
instance (X:List Xa):Decidable (eD X):=by unfold eD;exact inferInstance
structure Nd where
 names:List By
 ino:Int
 kind:Int
 md:Int
 ud:Int
 gd:Int
 data:By
 tgt:By
 xs:List Xa
 opq:Bool
structure NdH where
 names:Hd
 data:Hd
 xs:Hd
def hd0:Hd:=⟨none,0,0⟩
def nd0:Nd:=⟨[],0,0,0,0,0,[],[],[],false⟩
def Bx:NdH:=⟨hd0,hd0,hd0⟩
def aM(p:NdH×Nd):List Value:=[hd p.1.names,iV p.2.ino,iV p.2.kind,iV p.2.md,iV p.2.ud,iV p.2.gd,hd p.1.data,.string (bs p.2.tgt),hd p.1.xs,.bool p.2.opq]
theorem aB:iF 10 aM:=fun p=>⟨rfl,by
 intro v hv;simp only[aM,mem_cons,not_mem_nil,or_false] at hv;rcases hv with rfl|rfl|rfl|rfl|rfl|rfl|rfl|rfl|rfl|rfl<;>rfl⟩
def lJ(s:By):Value:=.string (bs s)
theorem gQ:∀ s,(lJ s).oneCell'=true:=fun _=>rfl
section
variable {D D':Nat→Prop}{H:Array Obj}
def NmV(D:Nat→Prop)(H:Array Obj)(h:Hd)(l:List By):Prop:=h.n=l.length∧Vw lJ H h.a h.c l∧(l≠[]→∀ k,blk h.a k→D k)
def ByV(D:Nat→Prop)(H:Array Obj)(h:Hd)(l:By):Prop:=h.n=l.length∧Vw b8 H h.a h.c l∧(l≠[]→∀ k,blk h.a k→D k)
def XsV(D:Nat→Prop)(H:Array Obj)(h:Hd)(X:List Xa):Prop:=
 h.n=X.length∧∃ ys:List (By×Hd),VwM 2 sC H h.a h.c ys∧ys.length=X.length∧(ys≠[]→∀ k,blk h.a k→D k)∧∀ (i:Nat) (x:By×Hd) (y:Xa),ys[i]?=some x→X[i]?=some y→x.1=y.1∧ByV D H x.2 y.2
def NdV(D:Nat→Prop)(H:Array Obj)(p:NdH×Nd):Prop:=NmV D H p.1.names p.2.names∧ByV D H p.1.data p.2.data∧XsV D H p.1.xs p.2.xs
def cD(D:Nat→Prop)(H:Array Obj)(ao:Option Addr)(cap:Nat)(ps:List (NdH×Nd)):Prop:=VwM 10 aM H ao cap ps∧∀ p∈ps,NdV D H p
theorem VwM.keep'{α:Type}{k:Nat}{enc:α→List Value}{ao:Option Addr}{cap:Nat}{xs:List α}{w w':World}{S:Nat→Prop}(h:VwM k enc w.heap ao cap xs)(f:aA S w w')(hs:xs≠[]→∀ a,ao=some a→¬ S a.block):VwM k enc w'.heap ao cap xs:=by
 by_cases hx:xs=[]
 ·subst hx;exact⟨h.le,h.max,h.non,fun i x hx=>by simp at hx⟩
 ·exact h.WS f (hs hx)
theorem NmV.WS{S:Nat→Prop}{w w':World}{h:Hd}{l:List By}(v:NmV D w.heap h l)(f:aA S w w')(hS:∀ k,D k→¬ S k):NmV D w'.heap h l:=
 ⟨v.1,v.2.1.keep' f (fun hne a ha=>hS _ (v.2.2 hne _ ⟨a,ha,rfl⟩)),v.2.2⟩
theorem ByV.WS{S:Nat→Prop}{w w':World}{h:Hd}{l:By}(v:ByV D w.heap h l)(f:aA S w w')(hS:∀ k,D k→¬ S k):ByV D w'.heap h l:=
 ⟨v.1,v.2.1.keep' f (fun hne a ha=>hS _ (v.2.2 hne _ ⟨a,ha,rfl⟩)),v.2.2⟩
theorem XsV.WS{S:Nat→Prop}{w w':World}{h:Hd}{X:List Xa}(v:XsV D w.heap h X)(f:aA S w w')(hS:∀ k,D k→¬ S k):XsV D w'.heap h X:=by
 obtain⟨h1,ys,h2,h3,h4,h5⟩:=v;exact⟨h1,ys,h2.keep' f (fun hne a ha=>hS _ (h4 hne _ ⟨a,ha,rfl⟩)),h3,h4,fun i x y hx hy=>⟨(h5 i x y hx hy).1,(h5 i x y hx hy).2.WS f hS⟩⟩
theorem NdV.WS{S:Nat→Prop}{w w':World}{p:NdH×Nd}(v:NdV D w.heap p)(f:aA S w w')(hS:∀ k,D k→¬ S k):NdV D w'.heap p:=⟨v.1.WS f hS,v.2.1.WS f hS,v.2.2.WS f hS⟩
theorem NdV.WR{w w':World}{p:NdH×Nd}(v:NdV D w.heap p)(f:aA nob w w'):NdV D w'.heap p:=v.WS f (fun _ _=>id)
theorem NmV.mono{h:Hd}{l:List By}(v:NmV D H h l)(hd:∀ k,D k→D' k):NmV D' H h l:=⟨v.1,v.2.1,fun hne k hk=>hd k (v.2.2 hne k hk)⟩
theorem ByV.mono{h:Hd}{l:By}(v:ByV D H h l)(hd:∀ k,D k→D' k):ByV D' H h l:=⟨v.1,v.2.1,fun hne k hk=>hd k (v.2.2 hne k hk)⟩
theorem XsV.mono{h:Hd}{X:List Xa}(v:XsV D H h X)(hd:∀ k,D k→D' k):XsV D' H h X:=by
 obtain⟨h1,ys,h2,h3,h4,h5⟩:=v;exact⟨h1,ys,h2,h3,fun hne k hk=>hd k (h4 hne k hk),fun i x y hx hy=>⟨(h5 i x y hx hy).1,(h5 i x y hx hy).2.mono hd⟩⟩
theorem NdV.mono{p:NdH×Nd}(v:NdV D H p)(hd:∀ k,D k→D' k):NdV D' H p:=⟨v.1.mono hd,v.2.1.mono hd,v.2.2.mono hd⟩
theorem cD.WS{S:Nat→Prop}{w w':World}{ao:Option Addr}{cap:Nat}{ps:List (NdH×Nd)}(v:cD D w.heap ao cap ps)(f:aA S w w')(hS:∀ k,D k→¬ S k)(ha:ps≠[]→∀ a,ao=some a→¬ S a.block):cD D w'.heap ao cap ps:=
 ⟨v.1.keep' f ha,fun p hp=>(v.2 p hp).WS f hS⟩
theorem cD.WR{w w':World}{ao:Option Addr}{cap:Nat}{ps:List (NdH×Nd)}(v:cD D w.heap ao cap ps)(f:aA nob w w'):cD D w'.heap ao cap ps:=v.WS f (fun _ _=>id) (fun _ _ _=>id)
theorem XsV.xav{h:Hd}{X:List Xa}(v:XsV D H h X)(hl:∀ x∈X,x.1.length≤maxLen):XaV H h.a h.c X:=by
 obtain⟨h1,ys,h2,h3,h4,h5⟩:=v;exact⟨ys,h2,h3,fun i x y hx hy=>⟨(h5 i x y hx hy).1,(h5 i x y hx hy).2.1,(h5 i x y hx hy).2.2.1,hl y (mem_of_getElem? hy)⟩⟩
def okN(n:Nd):Prop:=∀ z∈[n.ino,n.kind,n.md,n.ud,n.gd],-9223372036854775808≤z∧z≤9223372036854775807
def smN(n:Nd):Prop:=n.tgt.length≤maxLen∧(∀ s∈n.names,s.length≤maxLen)∧∀ x∈n.xs,x.1.length≤maxLen
end
section
open Go Go.RowKit Go.ChangeShapes Go.WideShapes Go.ChangeAt Go.Deep
theorem Rm{n:Int}(h:(Lit.int .u8 n).wf=true):Value.int .u8 n=b8 (UInt8.ofNat n.toNat):=by
 have hb:0≤n∧n≤255:=by simpa[Lit.wf,IntKind.min,IntKind.max,IntKind.signed,IntKind.bits] using h
 have:((UInt8.ofNat n.toNat).toNat:Int)=n:=by
  rw[UInt8.toNat_ofNat'];omega
 rw[b8,this]
section
variable {H:Type}{enc:TypeId×Value→H}{P:Program}{w:World}{t e:TypeId}{d:DataW H}{p:List MemPlace}
theorem nI(ht:P.underlying t=some (.slice e))(he:P.underlying e=some (.int .u8))(hc:P.cellsOf e=1){fuel:Nat}{v:Value}{x:DataW H×List MemPlace}(h:DataW.trod enc P w 0 (fun _=>true) true fuel t [v]=some x) :
 ∃ (a:Option Addr) (cap:Nat) (xs:By),v=.slice a xs.length cap∧Vw b8 w.heap a cap xs:=by
 rcases open_ints ht he hc h with⟨hcs,_⟩|⟨x,l,c,zs,hcs,_,hl,hm,hz,_,hcell,hwz⟩
 ·refine⟨none,0,[],by simpa using hcs,Wz 0 (Nat.zero_le _)⟩
 · have hz':zs.length=c:=by simpa using hz
   refine⟨some x,c,(zs.take l).map (fun n=>UInt8.ofNat n.toNat),?_,by simp;omega,hm,fun _=>by simp,fun i u hu=>?_⟩
   · have:v=.slice (some x) l c:=by simpa using hcs
     rw[this];congr 1;simp;omega
   · rw[List.getElem?_map] at hu
     obtain⟨n,hn,rfl⟩:=Option.map_eq_some_iff.1 hu;rw[List.getElem?_take] at hn
     split at hn
     · have hi:i<zs.length:=(List.getElem?_eq_some_iff.1 hn).1
       have:=hcell i hi;rw[show zs.getD i 0=n from by simp[List.getD,hn]] at this;rw[←Rm (hwz n (mem_of_getElem? hn))];exact this
     ·cases hn
end
theorem JB{W w':World}{e:Ending}(h:Ret (fun v w'=>v=.bool true∧aA nob W w') e w'):e=.returned (.bool true)∧Below W.heap.size W w':=by
 obtain⟨v,rfl,rfl,hf⟩:=h;exact⟨rfl,hf.below⟩
end
section
open Go Go.RowKit Go.ChangeShapes Go.WideShapes Go.ChangeAt Go.Deep
section
variable {H:Type}{enc:TypeId×Value→H}{P:Program}{w:World}{t e:TypeId}{d:DataW H}{p:List MemPlace}
theorem C1{q:TypeId}{f0 f1:Field}(ht:P.underlying t=some (.slice e))(he:P.underlying e=some (.struct #[f0,f1]))(ce:P.cellsOf e=2)(o0:f0.offset=0)(o1:f1.offset=1)(c0:P.cellsOf f0.type=1)(c1:P.cellsOf f1.type=1)
 (hs:P.underlying f0.type=some .string)(hq:P.underlying f1.type=some (.slice q))(hb:P.underlying q=some (.int .u8))(hcq:P.cellsOf q=1){fuel:Nat}{v:Value}{x:DataW H×List MemPlace}(h:DataW.trod enc P w 0 (fun _=>true) true fuel t [v]=some x) :
 ∃ (a:Option Addr) (cap:Nat) (X:List Xa),v=.slice a X.length cap∧XaV w.heap a cap X:=by
 rcases open_slice_pairs ht he ce o0 o1 c0 c1 h with⟨hcs,_⟩|⟨a,len,cap,m,n,V0,V1,D0,D1,P0,P1,hcs,_,hl,hm,hmm,_,hx⟩
 ·refine⟨none,0,[],by simpa using hcs,[],WD 0 (Nat.zero_le _),rfl,fun i x y hx=>by simp at hx⟩
 · simp only[if_true] at hmm
   have:Inhabited ((By×Hd)×Xa):=⟨(([],⟨none,0,0⟩),x0)⟩
   obtain⟨Y,hY⟩:=choose_lt (α:=(By×Hd)×Xa) (p:=fun i y=>V0 i=.string (bs y.1.1)∧V1 i=hd y.1.2∧y.1.1=y.2.1∧y.1.2.n=y.2.2.length∧Vw b8 w.heap y.1.2.a y.1.2.c y.2.2∧y.2.1.length≤maxLen) (n:=m) (fun i hi=>by
    obtain⟨_,_,h3,h4⟩:=hx i hi;obtain⟨s,hs1,_,hs2⟩:=DataW.trod_string hs h3;obtain⟨b,c,ys,h5,h6⟩:=nI hq hb hcq h4;have hs1:V0 i=.string s:=by simpa using hs1
    exact⟨((s.data.toList,⟨b,ys.length,c⟩),(s.data.toList,ys)),by rw[hs1];rfl,h5,rfl,rfl,h6,hs2⟩)
   refine⟨some a,cap,(List.range len).map (fun i=>(Y i).2),by simpa using hcs,(List.range len).map (fun i=>(Y i).1),⟨by simp;omega,hm,fun _=>by simp,fun i x hxi j v hv=>?_⟩,by simp,fun i x y hxi hyi=>?_⟩
   · rw[List.getElem?_map] at hxi
     obtain⟨k,hk,rfl⟩:=Option.map_eq_some_iff.1 hxi;have hki:k=i∧i<len:=by
      have:=List.getElem?_eq_some_iff.1 hk;obtain⟨h1,h2⟩:=this;simp at h1 h2;omega
     obtain⟨rfl,hil⟩:=hki;obtain⟨h1,h2,_,_⟩:=hx k (by omega);obtain⟨g1,g2,_⟩:=hY k (by omega)
     match j,hv with
    |0,hv=>
       have:v=.string (bs (Y k).1.1):=by simpa[sC] using hv.symm
       rw[this,←g1];exact h1
    |1,hv=>
       have:v=hd (Y k).1.2:=by simpa[sC] using hv.symm
       rw[this,←g2];exact h2
    |j+2,hv=>simp[sC] at hv
   · rw[List.getElem?_map] at hxi hyi
     obtain⟨k,hk,rfl⟩:=Option.map_eq_some_iff.1 hxi;rw[hk] at hyi;simp at hyi;subst hyi;have hkl:k<len:=by have:=mem_of_getElem? hk;simpa using this
     obtain⟨_,_,h3⟩:=hY k (by omega);exact h3
end
end
section
open Go Go.RowKit Go.ChangeShapes Go.WideShapes Go.ChangeAt Go.Deep
section
variable {H:Type}{enc:TypeId×Value→H}{P:Program}{w:World}{t e:TypeId}{d:DataW H}{p:List MemPlace}
theorem Vw.blocks{α:Type}{en:α→Value}{Hp:Array Obj}{a:Option Addr}{c:Nat}{xs:List α}(h:Vw en Hp a c xs)(hne:xs≠[]):∀ k,blk a k→k<Hp.size:=fun k ⟨b,hb,e⟩=>by have:=h.lt hne b hb;omega
theorem HN{q:TypeId}(ht:P.underlying t=some (.slice q))(hq:P.underlying q=some .string)(hc:P.cellsOf q=1){fuel:Nat}{v:Value}{x:DataW H×List MemPlace}(h:DataW.trod enc P w 0 (fun _=>true) true fuel t [v]=some x) :
 ∃ (z:Hd) (l:List By),v=hd z∧NmV (fun k=>k<w.heap.size) w.heap z l∧∀ s∈l,s.length≤maxLen:=by
 rcases open_slice1 ht hc h with⟨hcs,_⟩|⟨x,l,c',m,n',V,Dd,Pl,hcs,_,hl,hm,hmm,_,hx⟩
 ·exact⟨hd0,[],show v=sN by simpa using hcs,⟨rfl,Wz 0 (Nat.zero_le _),fun h=>absurd rfl h⟩,by simp⟩
 · simp only[if_true] at hmm
   obtain⟨Y,hY⟩:=choose_lt (α:=By) (p:=fun i y=>V i=lJ y∧y.length≤maxLen) (n:=m) (fun i hi=>by
    obtain⟨s,hs,_,hsz⟩:=DataW.trod_string hq (hx i hi).2;have hs:V i=.string s:=by simpa using hs
    exact⟨s.data.toList,hs,hsz⟩)
   have hv:Vw lJ w.heap (some x) c' ((List.range l).map Y):=⟨by simp;omega,hm,fun _=>by simp,fun i u hu=>by
    rw[List.getElem?_map] at hu;by_cases hi:i<l
    · simp[hi] at hu
      subst hu;have:=(hx i (by omega)).1;rw[(hY i (by omega)).1] at this;exact this
    ·simp[hi] at hu⟩
   refine⟨⟨some x,l,c'⟩,(List.range l).map Y,show v=.slice (some x) l c' by simpa using hcs,⟨by simp,hv,fun hne k hk=>hv.blocks hne k hk⟩,fun s hs=>?_⟩;obtain⟨i,hi,rfl⟩:=mem_map.1 hs;exact(hY i (by have:=mem_range.1 hi;omega)).2
theorem J1{q:TypeId}(ht:P.underlying t=some (.slice q))(hq:P.underlying q=some (.int .u8))(hc:P.cellsOf q=1){fuel:Nat}{v:Value}{x:DataW H×List MemPlace}(h:DataW.trod enc P w 0 (fun _=>true) true fuel t [v]=some x) :
 ∃ (z:Hd) (l:By),v=hd z∧ByV (fun k=>k<w.heap.size) w.heap z l:=by
 obtain⟨a,c,xs,h1,h2⟩:=nI ht hq hc h;exact⟨⟨a,xs.length,c⟩,xs,h1,rfl,h2,fun hne k hk=>h2.blocks hne k hk⟩
theorem J0{q:TypeId}{f0 f1:Field}(ht:P.underlying t=some (.slice e))(he:P.underlying e=some (.struct #[f0,f1]))(ce:P.cellsOf e=2)(o0:f0.offset=0)(o1:f1.offset=1)(c0:P.cellsOf f0.type=1)(c1:P.cellsOf f1.type=1)
 (hs:P.underlying f0.type=some .string)(hq:P.underlying f1.type=some (.slice q))(hb:P.underlying q=some (.int .u8))(hcq:P.cellsOf q=1){fuel:Nat}{v:Value}{x:DataW H×List MemPlace}(h:DataW.trod enc P w 0 (fun _=>true) true fuel t [v]=some x) :
 ∃ (z:Hd) (X:List Xa),v=hd z∧XsV (fun k=>k<w.heap.size) w.heap z X∧∀ x∈X,x.1.length≤maxLen:=by
 obtain⟨a,c,X,h1,xs,h2,h3,h4⟩:=C1 ht he ce o0 o1 c0 c1 hs hq hb hcq h;refine⟨⟨a,X.length,c⟩,X,h1,⟨rfl,xs,h2,h3,fun hne k ⟨b,hb,e⟩=>?_,fun i x y hx hy=>?_⟩,fun x hx=>?_⟩
 ·have:=h2.lt hne (fun x=>by simp[sC]) b hb;omega
 · obtain⟨g1,g2,g3,_⟩:=h4 i x y hx hy
   exact⟨g1,g2,g3,fun hne k hk=>g3.blocks hne k hk⟩
 · obtain⟨i,hi⟩:=List.getElem?_of_mem hx
   have hil:=(List.getElem?_eq_some_iff.1 hi).1;exact(h4 i _ x (List.getElem?_eq_getElem (by omega)) hi).2.2.2
theorem DW{z:Int}(h:(Lit.int .i64 z).wf=true) : -9223372036854775808≤z∧z≤9223372036854775807:=by simpa[Lit.wf,IntKind.min,IntKind.max,IntKind.signed,IntKind.bits] using h
structure Of (P:Program)(e:TypeId)(f0 f1 f2 f3 f4 f5 f6 f7 g0 g1 g2 x0 x1:Field)(q0 q4 q6 q7:TypeId):Prop where
 und:P.underlying e=some (.struct #[f0,f1,f2,f3,f4,f5,f6,f7])
 cells:P.cellsOf e=10
 offs:[f0,f1,f2,f3,f4,f5,f6,f7].map (·.offset)=[0,1,2,3,6,7,8,9]
 cell:[f0,f1,f2,f3,f4,f5,f6,f7].map (fun f=>P.cellsOf f.type)=[1,1,1,3,1,1,1,1]
 u0:P.underlying f0.type=some (.slice q0)
 uq0:P.underlying q0=some .string
 cq0:P.cellsOf q0=1
 u1:P.underlying f1.type=some (.int .i64)
 u2:P.underlying f2.type=some (.int .i64)
 u3:P.underlying f3.type=some (.struct #[g0,g1,g2])
 goffs:[g0,g1,g2].map (·.offset)=[0,1,2]
 gcell:[g0,g1,g2].map (fun f=>P.cellsOf f.type)=[1,1,1]
 v0:P.underlying g0.type=some (.int .i64)
 v1:P.underlying g1.type=some (.int .i64)
 v2:P.underlying g2.type=some (.int .i64)
 u4:P.underlying f4.type=some (.slice q4)
 uq4:P.underlying q4=some (.int .u8)
 cq4:P.cellsOf q4=1
 u5:P.underlying f5.type=some .string
 u6:P.underlying f6.type=some (.slice q6)
 uq6:P.underlying q6=some (.struct #[x0,x1])
 cq6:P.cellsOf q6=2
 xoffs:x0.offset=0∧x1.offset=1
 xcell:P.cellsOf x0.type=1∧P.cellsOf x1.type=1
 w0:P.underlying x0.type=some .string
 w1:P.underlying x1.type=some (.slice q7)
 uq7:P.underlying q7=some (.int .u8)
 cq7:P.cellsOf q7=1
 u7:P.underlying f7.type=some .bool
theorem fM{cs:List Value}{i:Nat}(h:i<cs.length):(cs.drop i).take 1=[cs.getD i undef]:=by
 have h2:(cs.drop i).take 1=[cs[i]]:=by rw[List.drop_eq_getElem_cons h];rfl
 rw[h2];simp[List.getD,h]
theorem HO{f0 f1 f2 f3 f4 f5 f6 f7 g0 g1 g2 x0 x1:Field}{q0 q4 q6 q7:TypeId}(T:Of P e f0 f1 f2 f3 f4 f5 f6 f7 g0 g1 g2 x0 x1 q0 q4 q6 q7){fuel:Nat}{cs:List Value}{x:DataW H×List MemPlace}
 (h:DataW.trod enc P w 0 (fun _=>true) true fuel e cs=some x):∃ p:NdH×Nd,cs=aM p∧NdV (fun k=>k<w.heap.size) w.heap p∧okN p.2∧smN p.2:=by
 obtain⟨xs,n,_,_,hl,hxl,hf⟩:=DataW.trod_struct T.und h;rw[T.cells] at hl;have ho:=T.offs;have hc:=T.cell;simp only[map_cons,map_nil,List.cons.injEq,and_true] at ho hc;obtain⟨o0,o1,o2,o3,o4,o5,o6,o7⟩:=ho;obtain⟨c0,c1,c2,c3,c4,c5,c6,c7⟩:=hc;have k0:=hf 0 f0 rfl;rw[List.getElem?_eq_getElem (show 0<xs.length by rw[hxl];show _<8;decide)] at k0;have k1:=hf 1 f1 rfl;rw[List.getElem?_eq_getElem (show 1<xs.length by rw[hxl];show _<8;decide)] at k1;have k2:=hf 2 f2 rfl;rw[List.getElem?_eq_getElem (show 2<xs.length by rw[hxl];show _<8;decide)] at k2;have k3:=hf 3 f3 rfl;rw[List.getElem?_eq_getElem (show 3<xs.length by rw[hxl];show _<8;decide)] at k3;have k4:=hf 4 f4 rfl;rw[List.getElem?_eq_getElem (show 4<xs.length by rw[hxl];show _<8;decide)] at k4;have k5:=hf 5 f5 rfl;rw[List.getElem?_eq_getElem (show 5<xs.length by rw[hxl];show _<8;decide)] at k5;have k6:=hf 6 f6 rfl;rw[List.getElem?_eq_getElem (show 6<xs.length by rw[hxl];show _<8;decide)] at k6;have k7:=hf 7 f7 rfl;rw[List.getElem?_eq_getElem (show 7<xs.length by rw[hxl];show _<8;decide)] at k7;rw[o0,c0,fM (by omega)] at k0;rw[o1,c1,fM (by omega)] at k1;rw[o2,c2,fM (by omega)] at k2;rw[o3,c3] at k3;rw[o4,c4,fM (by omega)] at k4;rw[o5,c5,fM (by omega)] at k5;rw[o6,c6,fM (by omega)] at k6;rw[o7,c7,fM (by omega)] at k7;obtain⟨z0,l0,e0,n0,s0⟩:=HN T.u0 T.uq0 T.cq0 k0;obtain⟨m1,e1,_,w1⟩:=DataW.trod_int T.u1 k1;obtain⟨m2,e2,_,w2⟩:=DataW.trod_int T.u2 k2;obtain⟨ys,n',_,_,gl,gxl,gf⟩:=DataW.trod_struct T.u3 k3;have go:=T.goffs;have gc:=T.gcell;simp only[map_cons,map_nil,List.cons.injEq,and_true] at go gc;have j0:=gf 0 g0 rfl;rw[List.getElem?_eq_getElem (show 0<ys.length by rw[gxl];show _<3;decide)] at j0;have j1:=gf 1 g1 rfl;rw[List.getElem?_eq_getElem (show 1<ys.length by rw[gxl];show _<3;decide)] at j1;have j2:=gf 2 g2 rfl;rw[List.getElem?_eq_getElem (show 2<ys.length by rw[gxl];show _<3;decide)] at j2;rw[go.1,gc.1,fM (by omega)] at j0;rw[go.2.1,gc.2.1,fM (by omega)] at j1;rw[go.2.2,gc.2.2,fM (by omega)] at j2;obtain⟨a0,d0,_,b0⟩:=DataW.trod_int T.v0 j0;obtain⟨a1,d1,_,b1⟩:=DataW.trod_int T.v1 j1;obtain⟨a2,d2,_,b2⟩:=DataW.trod_int T.v2 j2;obtain⟨z4,l4,e4,n4⟩:=J1 T.u4 T.uq4 T.cq4 k4;obtain⟨s5,e5,_,w5⟩:=DataW.trod_string T.u5 k5;obtain⟨z6,l6,e6,n6,s6⟩:=J0 T.u6 T.uq6 T.cq6 T.xoffs.1 T.xoffs.2 T.xcell.1 T.xcell.2 T.w0 T.w1 T.uq7 T.cq7 k6;obtain⟨b7,e7,_⟩:=DataW.trod_bool T.u7 k7;have e1:cs.getD 1 undef=iV m1:=by simpa using e1
 have e2:cs.getD 2 undef=iV m2:=by simpa using e2
 have g3:∀ i,i<3→((cs.drop 3).take 3).getD i undef=cs.getD (3+i) undef:=fun i hi=>by simp[List.getD,hi,List.getElem?_drop]
 have d0:cs.getD 3 undef=iV a0:=by rw[←g3 0 (by decide)];simpa using d0
 have d1:cs.getD 4 undef=iV a1:=by rw[←g3 1 (by decide)];simpa using d1
 have d2:cs.getD 5 undef=iV a2:=by rw[←g3 2 (by decide)];simpa using d2
 have e5:cs.getD 7 undef=.string s5:=by simpa using e5
 have e7:cs.getD 9 undef=.bool b7:=by simpa using e7
 refine⟨(⟨z0,z4,z6⟩,⟨l0,m1,m2,a0,a1,a2,l4,s5.data.toList,l6,b7⟩),?_,⟨n0,n4,n6⟩,?_,⟨w5,s0,s6⟩⟩
 · have key:∀ i v,i<10→cs.getD i undef=v→cs[i]?=some v:=fun i v hi hv=>by
    rw[List.getElem?_eq_getElem (by omega)];rw[←hv];simp[List.getD,show i<cs.length by omega]
   apply ext_getElem?;intro i
   match i with
  |0=>exact key 0 _ (by decide) e0
  |1=>exact key 1 _ (by decide) e1
  |2=>exact key 2 _ (by decide) e2
  |3=>exact key 3 _ (by decide) d0
  |4=>exact key 4 _ (by decide) d1
  |5=>exact key 5 _ (by decide) d2
  |6=>exact key 6 _ (by decide) e4
  |7=>exact key 7 _ (by decide) e5
  |8=>exact key 8 _ (by decide) e6
  |9=>exact key 9 _ (by decide) e7
  |i+10=>rw[List.getElem?_eq_none (by omega),List.getElem?_eq_none (by simp[aM])]
 · intro z hz
   simp only[mem_cons,not_mem_nil,or_false] at hz;rcases hz with rfl|rfl|rfl|rfl|rfl
   ·exact DW w1
   ·exact DW w2
   ·exact DW b0
   ·exact DW b1
   ·exact DW b2
theorem EO{f0 f1 f2 f3 f4 f5 f6 f7 g0 g1 g2 x0 x1:Field}{q0 q4 q6 q7:TypeId}(ht:P.underlying t=some (.slice e))(T:Of P e f0 f1 f2 f3 f4 f5 f6 f7 g0 g1 g2 x0 x1 q0 q4 q6 q7){v:Value}(h:DataW.Trod enc P w 0 (fun _=>true) true t v d p)(hv:∃ a n c,v=.slice a n c) :
 ∃ (a:Option Addr) (cap:Nat) (ps:List (NdH×Nd)),v=.slice a ps.length cap∧cD (fun k=>k<w.heap.size) w.heap a cap ps∧∀ p∈ps,okN p.2∧smN p.2:=by
 obtain⟨fuel,hf⟩:=h;obtain⟨a,n,c,rfl⟩:=hv;rcases open_slice ht hf with⟨hcs,_⟩|⟨x,l,c',m,n',D,Pl,hcs,_,hl,hm,hmm,_,hx⟩
 ·exact⟨none,0,[],by simpa[Value.cells] using hcs,⟨WD 0 (Nat.zero_le _),by simp⟩,by simp⟩
 · simp only[if_true] at hmm
   have:Inhabited (NdH×Nd):=⟨(Bx,nd0)⟩
   obtain⟨Y,hY⟩:=choose_lt (α:=NdH×Nd) (p:=fun i y=>(∀ j v,(aM y)[j]?=some v→w.cell? ((x.add (i*10)).add j)=some v)∧NdV (fun k=>k<w.heap.size) w.heap y∧okN y.2∧smN y.2) (n:=m) (fun i hi=>by
    obtain⟨cs',h1,h2⟩:=hx i hi;rw[T.cells] at h1;obtain⟨_,hlen,hcell⟩:=World.cells?_some h1;obtain⟨y,hy,y1,y2,y3⟩:=HO T h2;refine⟨y,fun j v hj=>?_,y1,y2,y3⟩;rw[←hy] at hj;have hjl:=(List.getElem?_eq_some_iff.1 hj).1;rw[hcell j (by omega)];rw[←hj])
   refine⟨some x,c',(List.range l).map Y,by simpa[Value.cells] using hcs,⟨⟨by simp;omega,hm,fun _=>by simp,fun i u hu j v hj=>?_⟩,fun y hy=>?_⟩,fun y hy=>?_⟩
   · rw[List.getElem?_map] at hu
     obtain⟨q,hq,rfl⟩:=Option.map_eq_some_iff.1 hu;have hqi:q=i∧i<l:=by
      have:=List.getElem?_eq_some_iff.1 hq;obtain⟨h1,h2⟩:=this;simp at h1 h2;omega
     obtain⟨rfl,hil⟩:=hqi;have h1:=(hY q (by omega)).1 j v hj;show w.cell? (x.add (q*10+j))=some v;rw[←sS];exact h1
   · obtain⟨q,hq,rfl⟩:=mem_map.1 hy
     exact(hY q (by have:=mem_range.1 hq;omega)).2.1
   · obtain⟨q,hq,rfl⟩:=mem_map.1 hy
     exact(hY q (by have:=mem_range.1 hq;omega)).2.2
end
end
section
variable {P:Program}{N:Nat}{l:SF}{w:World}{fn:Func}{R:Ending→World→Prop}
theorem nT{t:TypeId}{cs:List Value}{ad:Addr}(ht:fJ P t cs.length=true)(hc:∀ j v,cs[j]?=some v→bE w.heap (ad.add j)=some v):(loadVar t ad).run P w=.ok (.agg cs.toArray) w:=by
 have hl:=run_loadCells_list (P:=P) w ad cs hc;simp only[Sem.run_bind,loadVar,yP ht w,uA ht w,Result.andThen_ok,Sem.run_pure,if_true,hl]
theorem Wj{a u:Nat}{t:TypeId}{x:Value}{cs:List Value}{ad:Addr}(hr:fn.results=#[.cell a t,.tmp u])(ht:fJ P t cs.length=true)(ha:lk l a=some (.pointer (some ad)))(hx:lk l u=some x)
 (hc:∀ j v,cs[j]?=some v→bE w.heap (ad.add j)=some v)(h:R (.returned (.tuple #[.agg cs.toArray,x])) w) :
 At ⟨N,[]⟩ .ret (bodyPost P fn R) l w:=fun act ha'=>by
 refine⟨ha'.dfr,_,?_,h⟩;have h1:=ha'.has a _ ha;have h2:=ha'.has u _ hx;have h3:=nT (P:=P) (w:=w) ht hc;simp[results,hr,h1,h2,asAddr,h3,Result.andThen]
theorem rC {a u:Nat} {t:TypeId} {x:Value} {cs:List Value} {p:Nat} {T:TypeId} {fr:Nat×Nat} (hg:w.heap[p]?=some (.cells cs.toArray T fr)) (ht:fJ P t cs.length=true) (h:R (.returned (.tuple #[.agg cs.toArray,x])) w) (hr:fn.results=#[.cell a t,.tmp u]:=by rfl) (ha:lk l a=some (pT p):=by rfl) (hx:lk l u=some x:=by rfl):At ⟨N,[]⟩ .ret (bodyPost P fn R) l w:=Wj hr ht ha hx (fun j v hj=>sP hg hj) h
end
theorem vR{x:Int}(h:0≤x):IntKind.u8.wrap x=((UInt8.ofNat x.toNat).toNat:Int):=by
 have h1:IntKind.u8.wrap x=x%256:=by
  show IntKind.wrap .u8 x=_;simp[IntKind.wrap,IntKind.signed,IntKind.bits]
 rw[h1,UInt8.toNat_ofNat'];omega
theorem Eb{z:Int}(h:(Lit.int .i64 z).wf=true) : -9223372036854775808≤z∧z≤9223372036854775807:=by
 have h1:IntKind.i64.min = -9223372036854775808:=rfl;have h2:IntKind.i64.max=9223372036854775807:=rfl;simp only[Lit.wf,h1,h2,Bool.and_eq_true,decide_eq_true_eq] at h;exact h
def zH(W:World)(r:By×Int):Value→World→Prop:=fun v w'=>∃ ao c,v=.tuple #[.slice ao r.1.length c,iV r.2]∧Own b8 5 w'.heap ao c r.1∧Fr W.heap.size ao∧aA nob W w'
def Tp(W:World)(x:By)(e:Int):Value→World→Prop:=fun v w'=>∃ ao c,v=.tuple #[.slice ao x.length c,iV e]∧Own b8 5 w'.heap ao c x∧Fr W.heap.size ao∧aA nob W w'
section
variable {P:Program}{N:Nt}{Q:Exit→Act→World→Prop}{l:SF}{w:World}{ops:Array Oper}{rest:List Oper}
variable {ty:TypeId}{pos:String}{aft:Array Edge}{d:Nat}{CH:Array Obj→Prop}
variable {x y:Operand}{t t' e:TypeId}{gd:Option (Nat×Bool)}{dd:Option Nat}
theorem IJ{n:Nat}(h:n<256):IntKind.u8.wrap (n:Int)=n:=by
 show IntKind.wrap .u8 n=_;simp[IntKind.wrap,IntKind.signed,IntKind.bits];omega
theorem jM{n:Nat}(h:n<4294967296):IntKind.u32.wrap (n:Int)=n:=by
 show IntKind.wrap .u32 n=_;simp[IntKind.wrap,IntKind.signed,IntKind.bits];omega
theorem Oc{a:Nat}(h:a<256):(BitVec.ofInt 8 (a:Int)).toNat=a:=by simp;omega
theorem BW{a:Nat}(h:a<4294967296):(BitVec.ofInt 32 (a:Int)).toNat=a:=by simp;omega
theorem oU{a b:Nat}(ha:a<256)(hb:b<256):a ^^^ b<256:=Nat.xor_lt_two_pow (n:=8) ha hb
theorem nP{a b:Nat}(ha:a<4294967296)(hb:b<4294967296):a ^^^ b<4294967296:=Nat.xor_lt_two_pow (n:=32) ha hb
theorem CB{a b:Nat}(ha:a<256)(hb:b<256)(w:World):(Op.intBits .xor .u8 (a:Int) (b:Int)).run P w=.ok (.int .u8 ((a ^^^ b:Nat):Int)) w:=by
 have h2:(BitVec.ofInt 8 (a:Int) ^^^ BitVec.ofInt 8 (b:Int)).toNat=a ^^^ b:=by rw[BitVec.toNat_xor,Oc ha,Oc hb]
 show (pure (Value.int .u8 (IntKind.u8.wrap ((BitVec.ofInt 8 (a:Int) ^^^ BitVec.ofInt 8 (b:Int)).toNat:Int))):Sem Value).run P w=_;rw[h2,IJ (oU ha hb)];rfl
theorem Ad{a b:Nat}(ha:a<4294967296)(hb:b<4294967296)(w:World):(Op.intBits .xor .u32 (a:Int) (b:Int)).run P w=.ok (.int .u32 ((a ^^^ b:Nat):Int)) w:=by
 have h2:(BitVec.ofInt 32 (a:Int) ^^^ BitVec.ofInt 32 (b:Int)).toNat=a ^^^ b:=by rw[BitVec.toNat_xor,BW ha,BW hb]
 show (pure (Value.int .u32 (IntKind.u32.wrap ((BitVec.ofInt 32 (a:Int) ^^^ BitVec.ofInt 32 (b:Int)).toNat:Int))):Sem Value).run P w=_;rw[h2,jM (nP ha hb)];rfl
theorem UX{a b:Nat}(hx:evL l x=some (.int .u8 a))(hy:evL l y=some (.int .u8 b))(ha:a<256)(hb:b<256):Cm P N CH l ⟨dd,.binOp .xor t x y t',ty,pos,aft,gd⟩ (.int .u8 ((a ^^^ b:Nat):Int)):=fun c w hc _=>by
 simp[execOp,hc.ev hx,hc.ev hy,binOp,eqGuard];rw[CB ha hb];rfl
theorem UA{a b:Nat}(hx:evL l x=some (.int .u32 a))(hy:evL l y=some (.int .u32 b))(ha:a<4294967296)(hb:b<4294967296):Cm P N CH l ⟨dd,.binOp .xor t x y t',ty,pos,aft,gd⟩ (.int .u32 ((a ^^^ b:Nat):Int)):=fun c w hc _=>by
 simp[execOp,hc.ev hx,hc.ev hy,binOp,eqGuard];rw[Ad ha hb];rfl
theorem VT{a b:Nat}(hx:evL l x=some (.int .u32 a))(hy:evL l y=some (.int .u32 b))(ha:a<4294967296)(hb:b<4294967296):Cm P N CH l ⟨dd,.binOp .and t x y t',ty,pos,aft,gd⟩ (.int .u32 ((a &&& b:Nat):Int)):=fun c w hc _=>by
 have h1:(a &&& b)<4294967296:=Nat.lt_of_le_of_lt Nat.and_le_left ha;have h2:(BitVec.ofInt 32 (a:Int) &&& BitVec.ofInt 32 (b:Int)).toNat=a &&& b:=by rw[BitVec.toNat_and,BW ha,BW hb]
 have h3:(Op.intBits .and .u32 (a:Int) (b:Int)).run P w=.ok (.int .u32 ((a &&& b:Nat):Int)) w:=by
  show (pure (Value.int .u32 (IntKind.u32.wrap ((BitVec.ofInt 32 (a:Int) &&& BitVec.ofInt 32 (b:Int)).toNat:Int))):Sem Value).run P w=_;rw[h2,jM h1];rfl
 simp[execOp,hc.ev hx,hc.ev hy,binOp,eqGuard];rw[h3];rfl
theorem Wk{a:Nat}(hx:evL l x=some (.int .u8 a))(ha:a<256):Cm P N CH l ⟨dd,.unOp .xor t x,ty,pos,aft,gd⟩ (.int .u8 ((255 ^^^ a:Nat):Int)):=fun c w hc _=>by
 have h:=CB (P:=P) (show 255<256 by decide) ha w;have h2:(if IntKind.u8.signed=true then (-1:Int) else IntKind.u8.max)=((255:Nat):Int):=rfl;simp only[execOp,hc.ev hx,Op.unary,h2,Sem.run_bind,h,Result.andThen_ok,Sem.run_pure]
theorem Vh{a:Nat}(hx:evL l x=some (.int .u32 a))(ha:a<4294967296):Cm P N CH l ⟨dd,.unOp .xor t x,ty,pos,aft,gd⟩ (.int .u32 ((4294967295 ^^^ a:Nat):Int)):=fun c w hc _=>by
 have h:=Ad (P:=P) (show 4294967295<4294967296 by decide) ha w;have h2:(if IntKind.u32.signed=true then (-1:Int) else IntKind.u32.max)=((4294967295:Nat):Int):=rfl;simp only[execOp,hc.ev hx,Op.unary,h2,Sem.run_bind,h,Result.andThen_ok,Sem.run_pure]
theorem Vi{a n:Nat}{k':IntKind}{m:Int}(hm:m=n)(hx:evL l x=some (.int .u32 a))(hy:evL l y=some (.int k' m))(hn:n≤32):Cm P N CH l ⟨dd,.binOp .shr t x y t',ty,pos,aft,gd⟩ (.int .u32 ((a/2 ^ n:Nat):Int)):=fun c w hc _=>by
 subst hm;have h1:¬ ((n:Int)<0):=by omega
 have h2:min (n:Int).toNat 32=n:=by omega
 have h3:(a:Int).fdiv (2 ^ n)=((a/2 ^ n:Nat):Int):=by rw[Int.fdiv_eq_ediv_of_nonneg _ (Int.pow_nonneg (by decide))];simp
 have h4:∀ w,(Op.shift .shr .u32 a k' n).run P w=.ok (.int .u32 ((a/2 ^ n:Nat):Int)) w:=fun w=>by
  unfold Op.shift;rw[if_neg h1];show (pure (Value.int .u32 ((a:Int).fdiv (2 ^ min (n:Int).toNat 32))):Sem Value).run P w=_;rw[h2,h3];rfl
 have h5:∀ w:World,(if (!false)=true then (pure ():Sem Unit) else pure ()).run P w=.ok () w:=fun w=>rfl;simp only[execOp,hc.ev hx,hc.ev hy,eqGuard,binOp,Sem.run_bind,h5,h4,Result.andThen_ok,Sem.run_pure]
theorem Fu{a:Nat}(h:a<65536):(BitVec.ofInt 64 (a:Int) &&& ~~~BitVec.ofInt 64 32768).toNat=a%32768:=by
 apply Nat.eq_of_testBit_eq;intro i;rw[BitVec.testBit_toNat,BitVec.getLsbD_and,BitVec.getLsbD_not,show (32768:Nat)=2 ^ 15 from rfl,Nat.testBit_mod_two_pow];have e1:(BitVec.ofInt 64 (a:Int)).getLsbD i=a.testBit i:=by
  rw[←BitVec.testBit_toNat,oR (by omega)]
 have e2:(BitVec.ofInt 64 32768).getLsbD i=(2 ^ 15).testBit i:=by
  rw[←BitVec.testBit_toNat];rfl
 rw[e1,e2,Nat.testBit_two_pow];by_cases h15:i<15
 · have:¬ (15=i):=by omega
   simp[h15,this];intro _;omega
 · by_cases hi:15=i
   ·simp[hi]
   · have:a.testBit i=false:=Nat.testBit_lt_two_pow (Nat.lt_of_lt_of_le h (Nat.pow_le_pow_right (n:=2) (by decide) (show 16≤i by omega)))
     simp[this]
theorem Vj{a:Nat}(hx:evL l x=some (iV a))(hy:evL l y=some (iV 32768))(ha:a<65536):Cm P N CH l ⟨dd,.binOp .andNot t x y t',ty,pos,aft,gd⟩ (iV ((a%32768:Nat):Int)):=fun c w hc _=>by
 have h3:(Op.intBits .andNot .i64 (a:Int) 32768).run P w=.ok (iV ((a%32768:Nat):Int)) w:=by
  show (pure (Value.int .i64 (IntKind.i64.wrap ((BitVec.ofInt 64 (a:Int) &&& ~~~BitVec.ofInt 64 32768).toNat:Int))):Sem Value).run P w=_;rw[Fu ha,bG (by omega)];rfl
 simp[execOp,hc.ev hx,hc.ev hy,binOp,eqGuard];rw[h3];rfl
structure IE (P:Program)(t e:TypeId)(n size:Nat):Prop where
 und:P.underlying t=some (.array n e)
 size:(P.info? e).map (·.size)=some size
theorem IE.run_size{n size:Nat}(h:IE P t e n size)(w:World):(sizeOf e).run P w=.ok size w:=by
 obtain⟨i,hi,h1⟩:=Option.map_eq_some_iff.1 h.size;simp[sizeOf,typeInfo,hi,h1]
theorem Uo{n size:Nat}{ad:Addr}{k:IntKind}{z:Int}(ht:IE P t e n size)(hx:evL l x=some (.pointer (some ad)))(hy:evL l y=some (.int k z))(h:0≤z∧z<n) :
 Cm P N CH l ⟨dd,.indexAddr t x y,ty,pos,aft,gd⟩ (.pointer (some (ad.add (z.toNat*size)))):=fun a w ha _=>by
 simp only[execOp,ha.ev hx,ha.ev hy,Instr.indexAt,asIntOf,Instr.sureAddr,Sem.run_bind,run_underlying ht.und,Result.andThen_ok,Sem.run_pure,ht.run_size w,if_pos h]
theorem Vk{n size:Nat}{parts:List (Nat×Operand)}{vs:List (Nat×Value)}{zc cs:Array Value}(ht:IE P t e n size)(hz:(P.info? t).map (fun i=>i.zero.map (·.cells))=some (some zc))
 (hx:evPs l parts=some vs)(hf:Instr.fill (fun i=>some (i*size,size)) zc vs=some cs):Cm P N CH l ⟨dd,.build t parts.toArray,ty,pos,aft,gd⟩ (.agg cs):=fun a w ha _=>by
 obtain⟨i,hi,h1⟩:=Option.map_eq_some_iff.1 hz;obtain⟨z,hz',rfl⟩:=Option.map_eq_some_iff.1 h1;have hv:=ha.evPs hx;simp only[execOp,Instr.build,Sem.run_bind,zeroValue,typeInfo,run_program,Result.andThen_ok,hi,hz',run_underlying ht.und,Sem.run_pure,ht.run_size w,map_toArray,hv];rw[hf];simp
theorem Dj(he:P.underlying e=some (.int .u8))(hc:P.cellsOf e=1)(d:Nat)(xs ys:By)(w:World):∀ is:List Nat,(∀ i∈is,i<xs.length∧i<ys.length) →
 ∃ r,(Op.eqItems (d+1) e (P.cellsOf e) (xs.map b8).toArray (ys.map b8).toArray is).run P w=.ok r w∧(r=true↔∀ i∈is,xs[i]?=ys[i]?)
|[],_=>⟨true,by simp[Op.eqItems],by simp⟩
|i::r,h=>by
   obtain⟨q,hq,hq2⟩:=Dj he hc d xs ys w r (fun j hj=>h j (by simp[hj]));obtain⟨h1,h2⟩:=h i (by simp);have hag:(isAgg e).run P w=.ok false w:=by
    unfold isAgg;rw[Sem.run_bind,run_underlying he w];simp
   have hp:∀ l:By,(hl:i<l.length)→(part e (l.map b8).toArray (i*P.cellsOf e)).run P w=.ok (b8 l[i]) w:=fun l hl=>by
    unfold part;rw[Sem.run_bind,hag,hc];simp[hl]
   have hr:(Op.equalIn (d+1) e (b8 xs[i]) (b8 ys[i])).run P w=.ok ((xs[i].toNat:Int) == (ys[i].toNat:Int)) w:=run_equalIn_int (P:=P) w d e .u8 .u8 (xs[i].toNat:Int) (ys[i].toNat:Int) he;refine⟨((xs[i].toNat:Int) == (ys[i].toNat:Int)) && q,?_,?_⟩
   · simp only[Op.eqItems,Sem.run_bind,hp xs h1,hp ys h2,Result.andThen_ok,hr]
     cases ((xs[i].toNat:Int) == (ys[i].toNat:Int))
     ·simp
     ·simpa using hq
   · rw[Bool.and_eq_true,hq2]
     have:((xs[i].toNat:Int) == (ys[i].toNat:Int))=true↔xs[i]?=ys[i]?:=by
      rw[beq_iff_eq,List.getElem?_eq_getElem h1,List.getElem?_eq_getElem h2];constructor
      ·intro h3;congr 1;exact UInt8.toNat_inj.1 (by omega)
      ·intro h3;rw[Option.some.inj h3]
     rw[this];simp
theorem Vs{n:Nat}{xs ys:By}(hu:P.underlying t=some (.array n e))(hi:(P.info? e).isSome=true)(he:P.underlying e=some (.int .u8))(hc:P.cellsOf e=1)(hg:P.eqGuardType P.depth t=false)
 (hx:evL l x=some (.agg (xs.map b8).toArray))(hy:evL l y=some (.agg (ys.map b8).toArray))(h1:xs.length=n)(h2:ys.length=n):Cm P N CH l ⟨dd,.binOp .eql t x y t',ty,pos,aft,gd⟩ (.bool (decide (xs=ys))):=fun a w ha _=>by
 obtain⟨i,hi⟩:=Option.isSome_iff_exists.1 hi;have g1:=run_eqGuard_agg (P:=P) w .eql t x y (xs.map b8).toArray (ys.map b8).toArray hg;have g2:=run_eql_struct (P:=P) w t (xs.map b8).toArray (ys.map b8).toArray;rw[run_equalIn_array w 9999 _ _ hu hi] at g2;obtain⟨r,hr,hr2⟩:=Dj he hc 9998 xs ys w (List.range n) (fun j hj=>by have:=mem_range.1 hj;omega);rw[hr] at g2;have e1:r=decide (xs=ys):=by
  rw[Bool.eq_iff_iff,hr2,decide_eq_true_iff];constructor
  · intro h
    apply ext_getElem?;intro j;by_cases hj:j<n
    ·exact h j (mem_range.2 hj)
    ·rw[List.getElem?_eq_none (by omega),List.getElem?_eq_none (by omega)]
  ·rintro rfl j _;rfl
 simp only[execOp,ha.ev hx,ha.ev hy,Sem.run_bind,g1,g2,Result.andThen_ok,Sem.run_pure,e1]
theorem Vt{ad:Addr}{n len cap:Nat}(ht:P.underlying t=some (.array n e))(hx:evL l x=some (.slice (some ad) len cap))(hl:n≤len):Cm P N CH l ⟨dd,.sliceToArrayPointer t x,ty,pos,aft,gd⟩ (.pointer (some ad)):=fun a w ha _=>by
 simp only[execOp,ha.ev hx,Instr.arrayAt,Sem.run_bind,run_underlying ht,Result.andThen_ok];rw[if_neg (by omega)];simp
theorem Vl{f:Fn}{cs:List Operand}{vs:List Value}(hx:uT l cs=some vs):Cm P N CH l ⟨dd,.makeFunc f #[] cs.toArray,ty,pos,aft,gd⟩ (.func f #[] vs.toArray):=fun a w ha _=>by
 have:=ha.evs hx;simp[execOp,Instr.makeFunc];rw[←this]
theorem U1{M:Nat}{fn:Func}{R:Ending→World→Prop}{a:Nat}{cs:List Value}{ad:Addr}(hr:fn.results=#[.cell a t])(ht:fJ P t cs.length=true)(ha:lk l a=some (.pointer (some ad)))
 (hc:∀ j v,cs[j]?=some v→bE w.heap (ad.add j)=some v)(h:R (.returned (.agg cs.toArray)) w) :
 At ⟨M,[]⟩ .ret (bodyPost P fn R) l w:=fun act ha'=>by
 refine⟨ha'.dfr,_,?_,h⟩;have h1:=ha'.has a _ ha;have h3:=nT (P:=P) (w:=w) ht hc;simp[results,hr,h1,asAddr,h3]
end
def e1(r:Nat):Nat:=(r/2) ^^^ (if r%2=1 then 3988292384 else 0)
def eN(r:Nat):Nat→Nat
|0=>r
|k+1=>e1 (eN r k)
def ent(i:Nat):Nat:=eN i 8
def Pc(r:Nat)(c:UInt8):Nat:=(r/256) ^^^ ent ((r%256) ^^^ c.toNat)
def zD(r:Nat)(b:By):Nat:=b.foldl Pc r
def dW(b:By):Nat:=4294967295 ^^^ zD 4294967295 b
theorem Ri{r:Nat}(h:r<4294967296):e1 r<4294967296:=nP (by omega) (by split<;>decide)
theorem GN{r:Nat}(h:r<4294967296):∀ k,eN r k<4294967296
|0=>h
|k+1=>Ri (GN h k)
theorem Fk{i:Nat}(h:i<4294967296):ent i<4294967296:=GN h 8
theorem EY(r:Nat)(c:UInt8):(r%256) ^^^ c.toNat<256:=oU (by omega) c.toNat_lt
theorem Np{r:Nat}(h:r<4294967296)(c:UInt8):Pc r c<4294967296:=nP (by omega) (Fk (by have:=EY r c;omega))
theorem pF:∀ (b:By) {r:Nat},r<4294967296→zD r b<4294967296
|[],_,h=>h
|c::b,r,h=>pF b (Np h c)
theorem qW(b:By):dW b<4294967296:=nP (by decide) (pF b (by decide))
theorem AS(r:Nat)(b:By)(c:UInt8):zD r (b++[c])=Pc (zD r b) c:=by unfold zD;rw[List.foldl_append];rfl
theorem zS{b:By}{i:Nat}(h:i<b.length):b.take (i+1)=b.take i++[b.getD i 0]:=by
 rw[List.take_succ_eq_append_getElem h,List.getD,List.getElem?_eq_getElem h];rfl
def qV(i:Nat):List Value:=(List.range 256).map (fun j=>.int .u32 ((if j<i then ent j else 0:Nat):Int))
def tab:List Value:=(List.range 256).map (fun j=>.int .u32 ((ent j:Nat):Int))
theorem vZ(i:Nat):(qV i).length=256:=by simp[qV]
theorem Bh:tab.length=256:=by simp[tab]
theorem IZ{i:Nat}(h:i<256):(qV i).set i (.int .u32 ((ent i:Nat):Int))=qV (i+1):=by
 apply ext_getElem?;intro q;rw[List.getElem?_set,vZ];by_cases hq:i=q
 · subst hq
   rw[if_pos rfl,if_pos h];simp[qV,h]
 · rw[if_neg hq]
   unfold qV;rw[List.getElem?_map,List.getElem?_map];by_cases hq2:q<256
   · rw[List.getElem?_range hq2]
     simp only[map_some];congr 3;by_cases h3:q<i
     ·rw[if_pos h3,if_pos (by omega)]
     ·rw[if_neg h3,if_neg (by omega)]
   ·rw[List.getElem?_eq_none (by simp;omega)];rfl
theorem I0:qV 256=tab:=by
 unfold qV tab;apply List.map_congr_left;intro j hj;rw[if_pos (mem_range.1 hj)]
theorem zV:(List.replicate 256 (.int .u32 0):List Value)=qV 0:=by kernel_rfl
theorem LV{i:Nat}(h:i<256):tab[i]?=some (.int .u32 ((ent i:Nat):Int)):=by simp[tab,h]
theorem FN:∀ v∈tab,v.oneCell'=true:=by
 intro v hv;obtain⟨j,_,rfl⟩:=mem_map.1 hv;rfl
theorem Og:(Tryz.prog.info? 98).map (fun i=>i.zero.map (·.cells))=some (some (List.replicate 256 (.int .u32 0)).toArray):=by kernel_rfl
theorem Rn:IE Tryz.prog 98 96 256 1:=⟨by kernel_rfl,by kernel_rfl⟩
theorem BY:fJ Tryz.prog 98 tab.length=true:=by rw[Bh];exact Ro
def TbV(H:Array Obj)(p:Nat):Prop:=H[p]?=some (.cells tab.toArray 98 (0,0))
theorem LG(q i:Nat):(⟨q,0,none⟩:Addr).add (((i:Nat):Int).toNat*1)=⟨q,i,none⟩:=by rw[Addr.add_lit];simp
theorem KH{x:Nat}(h:x<4294967296):IntKind.u32.wrap (((x &&& 1:Nat):Int)*3988292384)=((if x%2=1 then 3988292384 else 0:Nat):Int):=by
 have e:x &&& 1=x%2:=Nat.and_one_is_mod x;rw[e];by_cases h1:x%2=1
 ·rw[if_pos h1,h1];rfl
 ·rw[if_neg h1,show x%2=0 by omega];rfl
theorem Ip(W:World):CA 32 [] W fun v w'=>v=.agg tab.toArray∧aA nob W w':=by
 refine cS 23 [] Tryz.func32 ?_;refine Gz 2 ?_;refine Tz Og rfl ?_;intro w1 hg1 hs1 hf1;have hg1:w1.heap[W.heap.size]?=some (.cells (qV 0).toArray 98 (0,0)):=by rw[←zV];exact hg1
 refine Gz 4 ?_;refine Tz Og rfl ?_;intro w2 hg2 hs2 hf2;have hg2:w2.heap[w1.heap.size]?=some (.cells (qV 0).toArray 98 (0,0)):=by rw[←zV];exact hg2
 have hg12:=hf2.obj hg1 id;obtain⟨q,hq⟩:∃ q,q=w1.heap.size:=⟨_,rfl⟩
 rw[←hq] at hg2 ⊢;have hF2:=hf1.trans hf2;refine Gz 9 ?_;refine TA (β:=Nat) (fun i=>[(0,pT W.heap.size),(1,pT q),(4,iV i)]) (fun i w=>i≤256∧w.heap[q]?=some (.cells (qV i).toArray 98 (0,0))∧w.heap[W.heap.size]?=some (.cells (qV 0).toArray 98 (0,0))∧aA nob W w) (fun i=>256-i) 0 ⟨rfl,rfl,rfl,trivial⟩ ⟨by decide,hg2,hg12,hF2⟩ ?_;rintro i w3 ⟨hi,hgq,hgr,hF3⟩;refine fK 2 ?_ ?_<;>intro h5
 ·refine Gz 17 ?_;refine cL (TD (n:=(i:Int)) is3 G0 rfl (jM (by omega))) ?_;refine Gz 10 ?_;refine TA (β:=Nat) (fun k=>[(0,pT W.heap.size),(1,pT q),(2,iV i),(3,.int .u32 ((eN i k:Nat):Int)),(4,iV i),(9,iV k)]) (fun k w=>k≤8∧w=w3) (fun k=>8-k) 0 ⟨rfl,rfl,rfl,rfl,rfl,rfl,trivial⟩ ⟨by decide,rfl⟩ ?_;rintro k wq ⟨hk,hwq⟩;subst wq;refine fK 2 ?_ ?_<;>intro h10
  ·refine Gz 10 ?_;have hlt:=GN (r:=i) (by omega) k;refine cL (Vi (n:=1) rfl rfl rfl (by decide)) ?_;refine Gz 1 ?_;refine cL (VT (b:=1) rfl rfl hlt (by decide)) ?_;refine cL (Tw (u:=.int .u32 ((if eN i k%2=1 then 3988292384 else 0:Nat):Int)) (Vy rfl rfl) (by rw[KH hlt])) ?_;refine cL (UA rfl rfl (by omega) (by split<;>decide)) ?_;refine Gz 8 ?_;exact aG (k+1) ⟨by omega,rfl⟩ (by show 8-(k+1)<8-k;omega)
  refine Gz 12 ?_;refine cL (Tw (u:=.pointer (some ⟨q,i,none⟩)) (Uo Rn rfl rfl (by omega)) (by rw[LG])) ?_;have hk8:k=8:=by omega
  subst hk8;refine Tx Cy rfl rfl rfl hgq (by rw[Nat.blt_eq,vZ];omega) ?_;intro w4 hg4 hs4 hf4;have hg4:w4.heap[q]?=some (.cells (qV (i+1)).toArray 98 (0,0)):=by rw[hg4];congr 2;rw[←IZ (by omega)];rfl
  refine Gz 7 ?_;exact aG (i+1) ⟨by omega,hg4,hf4.obj hgr (by omega),hF3.tw hf4⟩ (by show 256-(i+1)<256-i;omega)
 refine Gz 11 ?_;have hi2:i=256:=by omega
 subst hi2;rw[I0] at hgq;refine cL (TI (cs:=tab) BY rfl (fun j v hj=>aE hgq hj)) ?_;refine TX (vs:=tab) BY rfl rfl FN hgr (by rw[Bh,vZ]) ?_;intro w5 hg5 hs5 hf5;refine Gz 3 ?_;refine U1 (cs:=tab) rfl BY rfl (fun j v hj=>aE hg5 hj) ?_;exact⟨_,rfl,rfl,hF3.tw hf5⟩
theorem vS(n:Nat):IntKind.u8.wrap (n:Int)=((n%256:Nat):Int):=by
 show IntKind.wrap .u8 n=_;simp[IntKind.wrap,IntKind.signed,IntKind.bits]
theorem ME(p:Nat)(s:Nat)(ao:Option Addr)(c:Nat)(b:By)(W:World)(ht:TbV W.heap p)(hv:Vw b8 W.heap ao c b)(hs:s<4294967296) :
 CA 111 [pT p,.int .u32 (s:Nat),.slice ao b.length c] W fun v w'=>v=.int .u32 ((4294967295 ^^^ zD (4294967295 ^^^ s) b:Nat):Int)∧w'=W:=by
 have hs2:=nP (show 4294967295<4294967296 by decide) hs;have hl:=hv.WQ;refine cS 32 [(0,_),(1,_),(2,_)] Tryz.func111 ?_;refine Gz 8 ?_;refine cL (Vh rfl hs) ?_;refine Gz 12 ?_;refine TA (β:=Nat) (fun i=>[(0,pT p),(7,.int .u32 ((zD (4294967295 ^^^ s) (b.take i):Nat):Int)),(12,.slice ao b.length c),(13,iV b.length),(14,iV i)]) (fun i w=>i≤b.length∧w=W) (fun i=>b.length-i) 0 ⟨rfl,rfl,rfl,rfl,rfl,trivial⟩ ⟨Nat.zero_le _,rfl⟩ ?_;rintro i wq ⟨hi,hwq⟩;subst wq;refine fK 2 ?_ ?_<;>intro h15
 ·refine Gz 10 ?_;refine cL (Tt aK rfl rfl hv.non (by omega)) ?_;refine cL (Tu gW rfl (hv.gz 0 i rfl (by omega))) ?_;obtain⟨r,hr⟩:∃ r,r=zD (4294967295 ^^^ s) (b.take i):=⟨_,rfl⟩
  have hrl:r<4294967296:=by rw[hr];exact pF _ hs2
  rw[←hr];have hix:=EY r (b.getD i 0);refine Gz 5 ?_;refine cL (Vi (n:=8) rfl rfl rfl (by decide)) ?_;refine Gz 2 ?_;refine cL (TD (n:=((r%256:Nat):Int)) MY ty5 rfl (vS r)) ?_;refine Gz 1 ?_;refine cL (UX rfl rfl (by omega) (b.getD i 0).toNat_lt) ?_;refine Gz 1 ?_;refine cL (Tw (u:=.pointer (some ⟨p,(r%256) ^^^ (b.getD i 0).toNat,none⟩)) (Uo Rn rfl rfl (by omega)) (by rw[LG])) ?_;refine cL (Tu Cy rfl (bS ht (LV hix))) ?_;refine cL (UA rfl rfl (by omega) (Fk (by omega))) ?_;refine Gz 8 ?_;refine TO (i+1) ⟨rfl,?_,rfl,rfl,rfl,trivial⟩ ⟨by omega,rfl⟩ (by show b.length-(i+1)<b.length-i;omega);rw[zS (by omega),AS,←hr];rfl
 refine Gz 12 ?_;refine cL (Vh rfl (pF _ hs2)) ?_;refine Gz 5 ?_;rw[take_of_length_le (by omega)];exact⟨_,rfl,rfl,rfl⟩
theorem I4(p:Nat)(ao:Option Addr)(c:Nat)(b:By)(W:World)(ht:TbV W.heap p)(hv:Vw b8 W.heap ao c b) :
 CA 73 [pT p,.slice ao b.length c] W fun v w'=>v=.int .u32 ((dW b:Nat):Int)∧w'=W:=by
 refine cS 8 [(0,_),(1,_)] Tryz.func73 ?_;refine Gz 9 ?_;refine Ts Qw rfl (ME p 0 ao c b W ht hv (by decide)) rfl ?_;rintro _ w1 ⟨rfl,hw1⟩;subst w1;refine Gz 5 ?_;exact⟨_,rfl,rfl,rfl⟩
theorem Pb{r:Nat}(h:r%2=1):(r/2) ^^^ 3988292384=e1 r:=by unfold e1;rw[if_pos h]
theorem Nj{r:Nat}(h:¬ r%2=1):r/2=e1 r:=by unfold e1;rw[if_neg h,Nat.xor_zero]
theorem NN{r n:Nat}(hr:r<4294967296):IntKind.u32.wrap (((r:Nat):Int).tdiv n)=((r/n:Nat):Int):=by
 have h:=Nat.div_le_self r n;rw[show ((r:Nat):Int).tdiv n=((r/n:Nat):Int) from rfl,jM (by omega)]
theorem Lc(i:Nat)(W:World)(hi:i<4294967296):CA 109 [iV i] W fun v w'=>v=.int .u32 ((ent i:Nat):Int)∧w'=W:=by
 refine cS 21 [(0,_)] Tryz.func109 ?_;refine Gz 8 ?_;refine cL (TD (n:=(i:Int)) is3 G0 rfl (jM hi)) ?_;refine Gz 10 ?_;refine TA (β:=Nat) (fun k=>[(3,.int .u32 ((eN i k:Nat):Int)),(4,iV k)]) (fun k w=>k≤8∧w=W) (fun k=>8-k) 0 ⟨rfl,rfl,trivial⟩ ⟨by decide,rfl⟩ ?_;rintro k wq ⟨hk,hwq⟩;subst wq;refine fK 4 ?_ ?_<;>intro h9
 ·refine Gz 10 ?_;have hlt:=GN hi k;refine cL (Tw (u:=.int .u32 ((eN i k%2:Nat):Int)) (Ul rfl rfl (by omega) (by decide)) rfl) ?_;refine Gz 6 ?_;refine cL (Tw (u:=.int .u32 ((eN i k/2:Nat):Int)) (U7 rfl rfl (by decide)) (by rw[show (2:Int)=((2:Nat):Int) from rfl,NN hlt])) ?_;refine fK 6 ?_ ?_<;>intro h17
  ·refine Gz 5 ?_;refine cL (UA rfl rfl (by omega) (by decide)) ?_;refine Gz 9 ?_;refine TO (k+1) ⟨?_,rfl,trivial⟩ ⟨by omega,rfl⟩ (by show 8-(k+1)<8-k;omega);show some (Value.int .u32 _)=some (Value.int .u32 _);rw[show eN i (k+1)=e1 (eN i k) from rfl,←Pb (by omega)]
  refine Gz 11 ?_;refine TO (k+1) ⟨?_,rfl,trivial⟩ ⟨by omega,rfl⟩ (by show 8-(k+1)<8-k;omega);show some (Value.int .u32 _)=some (Value.int .u32 _);rw[show eN i (k+1)=e1 (eN i k) from rfl,←Nj (by omega)]
 refine Gz 16 ?_;have hk8:k=8:=by omega
 subst hk8;exact⟨_,rfl,rfl,rfl⟩
theorem LP(r:Nat)(c:UInt8):(r ^^^ c.toNat)%256=(r%256) ^^^ c.toNat:=by
 have:=Nat.xor_mod_two_pow (a:=r) (b:=c.toNat) (n:=8);rw[show (2:Nat) ^ 8=256 from rfl,Nat.mod_eq_of_lt c.toNat_lt] at this;exact this
theorem F0(ao:Option Addr)(c:Nat)(b:By)(W:World)(hv:Vw b8 W.heap ao c b) :
 CA 65 [.slice ao b.length c] W fun v w'=>v=.int .u32 ((dW b:Nat):Int)∧w'=W:=by
 have hl:=hv.WQ;refine cS 26 [(0,_)] Tryz.func65 ?_;refine Gz 17 ?_;refine TA (β:=Nat) (fun i=>[(0,.slice ao b.length c),(3,.int .u32 ((zD 4294967295 (b.take i):Nat):Int)),(4,iV i)]) (fun i w=>i≤b.length∧w=W) (fun i=>b.length-i) 0 ⟨rfl,rfl,rfl,trivial⟩ ⟨Nat.zero_le _,rfl⟩ ?_;rintro i wq ⟨hi,hwq⟩;subst wq;refine fK 6 ?_ ?_<;>intro h8
 ·refine Gz 9 ?_;obtain⟨r,hr⟩:∃ r,r=zD 4294967295 (b.take i):=⟨_,rfl⟩
  have hrl:r<4294967296:=by rw[hr];exact pF _ (by decide)
  rw[←hr];have hcl:=(b.getD i 0).toNat_lt;have hix:=EY r (b.getD i 0);refine cL (Tw (u:=.int .u32 ((r/256:Nat):Int)) (U7 rfl rfl (by decide)) (by rw[show (256:Int)=((256:Nat):Int) from rfl,NN hrl])) ?_;refine Gz 3 ?_;refine cL (Tt aK rfl rfl hv.non (by omega)) ?_;refine cL (Tu gW rfl (hv.gz 0 i rfl (by omega))) ?_;refine cL (TD (n:=((b.getD i 0).toNat:Int)) is5 G0 rfl (jM (by omega))) ?_;refine cL (UA rfl rfl hrl (by omega)) ?_;refine cL (Tw (u:=.int .u32 (((r%256) ^^^ (b.getD i 0).toNat:Nat):Int)) (Ul rfl rfl (by omega) (by decide)) (by rw[←LP];rfl)) ?_;refine cL (TD (n:=(((r%256) ^^^ (b.getD i 0).toNat:Nat):Int)) MY ty3 rfl (bG (by omega))) ?_;refine Ts Qx rfl (Lc ((r%256) ^^^ (b.getD i 0).toNat) W (by omega)) rfl ?_;rintro _ w1 ⟨rfl,hw1⟩;subst w1;refine cL (UA rfl rfl (by omega) (Fk (by omega))) ?_;refine Gz 9 ?_;refine TO (i+1) ⟨rfl,?_,rfl,trivial⟩ ⟨by omega,rfl⟩ (by show b.length-(i+1)<b.length-i;omega);rw[zS (by omega),AS,←hr];rfl
 refine Gz 11 ?_;rw[take_of_length_le (by omega)];refine cL (Tw (u:=.int .u32 ((dW b:Nat):Int)) (UA (b:=4294967295) rfl rfl (pF _ (by decide)) (by decide)) (by rw[Nat.xor_comm];rfl)) ?_;refine Gz 5 ?_;exact⟨_,rfl,rfl,rfl⟩
def CL(b:By)(a o i:Nat):Prop:=i<130∧a+i<b.length∧b.getD (a+i) 0=b.getD (o+i) 0
instance (b:By)(a o i:Nat):Decidable (CL b a o i):=by unfold CL;exact inferInstance
def Ks(b:By)(a o:Nat):Nat→Nat→Nat
|0,n=>n
|f+1,n=>if CL b a o n then Ks b a o f (n+1) else n
def lik(b:By)(a o:Nat):Nat:=Ks b a o 131 0
theorem AB(b:By)(a o:Nat):∀ f n,131≤n+f→(∀ i,i<n→CL b a o i)→(∀ i,i<Ks b a o f n→CL b a o i)∧¬ CL b a o (Ks b a o f n)
|0,n,h,hc=>by have:=(hc (n-1) (by omega)).1;omega
|f+1,n,h,hc=>by
   unfold Ks
   split
   · rename_i hn
     exact AB b a o f (n+1) (by omega) (fun i hi=>by by_cases h2:i=n;rw[h2];exact hn;exact hc i (by omega))
   ·rename_i hn;exact⟨hc,hn⟩
theorem xA(b:By)(a o:Nat):(∀ i,i<lik b a o→CL b a o i)∧¬ CL b a o (lik b a o):=AB b a o 131 0 (by decide) (by intro i hi;omega)
theorem EV{b:By}{a o n:Nat}(h1:∀ i,i<n→CL b a o i)(h2:¬ CL b a o n):n=lik b a o:=by
 obtain⟨g1,g2⟩:=xA b a o;rcases Nat.lt_trichotomy n (lik b a o) with h|h|h
 ·exact absurd (g1 n h) h2
 ·exact h
 ·exact absurd (h1 _ h) g2
theorem Kr(b:By)(a o:Nat):lik b a o≤130∧(0<lik b a o→a+lik b a o≤b.length):=by
 obtain⟨g1,_⟩:=xA b a o;refine⟨?_,fun h=>?_⟩
 · by_cases h:0<lik b a o
   ·have:=(g1 (lik b a o-1) (by omega)).1;omega
   ·omega
 ·have:=(g1 (lik b a o-1) (by omega)).2.1;omega
theorem MR(b:By)(a o:Nat):lik b a o≤b.length-a:=by
 have:=Kr b a o;omega
def stp(b:By)(a:Nat)(s:Nat×Nat)(i:Nat):Nat×Nat:=if s.1<lik b a i then (lik b a i,a-i) else s
def thr(s:Nat×Nat):Nat×Nat:=if s.1<3 then (0,0) else s
def bst(b:By)(a k:Nat):Nat×Nat:=((List.range' (a-k) k).reverse).foldl (stp b a) (0,0)
def mt(b:By)(a:Nat):Nat×Nat:=if a<b.length then thr (bst b a (min 256 a)) else (0,0)
theorem DR(b:By){a k:Nat}(h:k+1≤a):bst b a (k+1)=stp b a (bst b a k) (a-(k+1)):=by
 unfold bst;rw[range'_succ,List.reverse_cons,List.foldl_append,show a-(k+1)+1=a-k by omega];rfl
theorem yN(b:By)(a:Nat):∀ k,k≤a→(∀ j,1≤j→j≤k→lik b a (a-j)≤(bst b a k).1) ∧
 ((bst b a k).1=0∧(bst b a k).2=0∨1≤(bst b a k).2∧(bst b a k).2≤k∧0<(bst b a k).1∧lik b a (a-(bst b a k).2)=(bst b a k).1∧∀ j,1≤j→j<(bst b a k).2→lik b a (a-j)<(bst b a k).1)
|0,_=>⟨fun j h1 h2=>by omega,.inl ⟨rfl,rfl⟩⟩
|k+1,h=>by
   obtain⟨h1,h2⟩:=yN b a k (by omega);rw[DR b h];generalize bst b a k=s at h1 h2 ⊢;unfold stp;by_cases hs:s.1<lik b a (a-(k+1))
   · rw[if_pos hs]
     refine⟨fun j j1 j2=>?_,.inr ⟨by simp only;omega,by simp only;omega,by simp only;omega,?_,fun j j1 j2=>?_⟩⟩
     · by_cases e:j=k+1
       ·rw[e];exact Nat.le_refl _
       ·exact Nat.le_of_lt (Nat.lt_of_le_of_lt (h1 j j1 (by omega)) hs)
     · simp only
       rw[show a-(a-(k+1))=k+1 by omega]
     ·exact Nat.lt_of_le_of_lt (h1 j j1 (by simp only at j2;omega)) hs
   · rw[if_neg hs]
     refine⟨fun j j1 j2=>?_,?_⟩
     · by_cases e:j=k+1
       ·rw[e];omega
       ·exact h1 j j1 (by omega)
     · rcases h2 with h2|⟨c1,c2,c3,c4,c5⟩
       ·exact .inl h2
       ·exact .inr ⟨c1,by omega,c3,c4,c5⟩
theorem Pf(b:By)(a k:Nat)(h:k≤a):(bst b a k).1≤130∧(bst b a k).1≤b.length-a:=by
 rcases(yN b a k h).2 with⟨e,_⟩|⟨_,_,_,e,_⟩
 ·omega
 ·rw[←e];exact⟨(Kr _ _ _).1,MR _ _ _⟩
theorem vD{b:By}{a:Nat}(h:(mt b a).1≠0):a<b.length∧3≤(mt b a).1∧(mt b a).1≤130∧a+(mt b a).1≤b.length∧1≤(mt b a).2∧(mt b a).2≤256∧(mt b a).2≤a ∧
 lik b a (a-(mt b a).2)=(mt b a).1∧∀ j,1≤j→j<(mt b a).2→lik b a (a-j)<(mt b a).1:=by
 unfold mt at h ⊢;by_cases hb:a<b.length
 · rw[if_pos hb] at h ⊢
   unfold thr at h ⊢;by_cases h3:(bst b a (min 256 a)).1<3
   ·rw[if_pos h3] at h;exact absurd rfl h
   · rw[if_neg h3] at h ⊢
     have hl:=Pf b a (min 256 a) (by omega);rcases(yN b a (min 256 a) (by omega)).2 with⟨e,_⟩|⟨c1,c2,c3,c4,c5⟩
     ·omega
     ·exact⟨hb,by omega,hl.1,by omega,c1,by omega,by omega,c4,c5⟩
 ·rw[if_neg hb] at h;exact absurd rfl h
theorem MB{b:By}{a:Nat}(h:(mt b a).1=0):mt b a=(0,0):=by
 unfold mt thr at h ⊢
 split
 · rename_i hb
   rw[if_pos hb] at h
   split
   ·rfl
   ·rename_i h3;rw[if_neg h3] at h;omega
 ·rfl
theorem Ka{b:By}{a:Nat}(h:b.length<a+3):mt b a=(0,0):=by
 apply MB;apply byContradiction;intro hn;have:=vD hn;omega
def rn(out l:By):By:=
 if h:l.length=0 then out else rn (out++(UInt8.ofNat (min l.length 128-1)::l.take (min l.length 128))) (l.drop (min l.length 128))
termination_by l.length
decreasing_by simp;omega
theorem EB(out:By):rn out []=out:=by rw[rn];rfl
theorem Bn{out l:By}(h:0<l.length):rn out l=rn (out++(UInt8.ofNat (min l.length 128-1)::l.take (min l.length 128))) (l.drop (min l.length 128)):=by
 rw[rn,dif_neg (by omega)]
def pk(b:By)(a:Nat)(run out:By):By:=
 if h:a<b.length then
  if hn:(mt b a).1=0 then pk b (a+1) (run++[b.getD a 0]) out
  else pk b (a+(mt b a).1) [] (rn out run++[UInt8.ofNat ((mt b a).1+125),UInt8.ofNat ((mt b a).2-1)])
 else rn out run
termination_by b.length-a
def pkS(b:By):By:=pk b 0 [] []
theorem JY{b:By}{a:Nat}(h:¬ a<b.length)(run out:By):pk b a run out=rn out run:=by rw[pk,dif_neg h]
theorem JX{b:By}{a:Nat}(h:a<b.length)(hn:(mt b a).1=0)(run out:By):pk b a run out=pk b (a+1) (run++[b.getD a 0]) out:=by rw[pk,dif_pos h,dif_pos hn]
theorem F9{b:By}{a:Nat}(hn:(mt b a).1≠0)(run out:By):pk b a run out=pk b (a+(mt b a).1) [] (rn out run++[UInt8.ofNat ((mt b a).1+125),UInt8.ofNat ((mt b a).2-1)]):=by
 rw[pk,dif_pos (vD hn).1,dif_neg hn]
def cp(out:By)(back:Nat):Nat→By
|0=>out
|n+1=>cp (out++[out.getD (out.length-back) 0]) back n
def up(most:Int)(b out:By):By×Int:=
 match b with
|[]=>(out,0)
|t::r=>
   if t.toNat<128 then
    if r.length<t.toNat+1 then ([],2)
    else if most-out.length<t.toNat+1 then ([],3)
    else up most (r.drop (t.toNat+1)) (out++r.take (t.toNat+1))
   else match r with
   |[]=>([],2)
   |c::r'=>if out.length<c.toNat+1 then ([],2) else if most-out.length<(t.toNat:Int)-125 then ([],3) else up most r' (cp out (c.toNat+1) (t.toNat-125))
termination_by b.length
decreasing_by
 ·simp;omega
 ·simp;omega
def upS(b:By)(most:Int):By×Int:=if most<0 then ([],1) else up most b []
theorem qA(most:Int)(out:By):up most [] out=(out,0):=by rw[up]
theorem Ba{most:Int}{t:UInt8}{r out:By}(h:t.toNat<128):up most (t::r) out=if r.length<t.toNat+1 then ([],2) else if most-out.length<t.toNat+1 then ([],3) else up most (r.drop (t.toNat+1)) (out++r.take (t.toNat+1)):=by
 rw[up.eq_def];simp only;rw[if_pos h]
theorem Cb{most:Int}{t:UInt8}{out:By}(h:¬ t.toNat<128):up most [t] out=([],2):=by rw[up,if_neg h]
theorem Bb{most:Int}{t c:UInt8}{r out:By}(h:¬ t.toNat<128):up most (t::c::r) out=if out.length<c.toNat+1 then ([],2) else if most-out.length<(t.toNat:Int)-125 then ([],3) else up most r (cp out (c.toNat+1) (t.toNat-125)):=by
 rw[up,if_neg h]
theorem yG(back:Nat):∀ (n:Nat) (out:By),(cp out back n).length=out.length+n
|0,out=>rfl
|n+1,out=>by unfold cp;rw[yG back n];simp;omega
theorem BR(back:Nat):∀ (n:Nat) (out:By),cp out back (n+1)=cp out back n++[(cp out back n).getD ((cp out back n).length-back) 0]
|0,out=>rfl
|n+1,out=>by
   have h:=BR back n (out++[out.getD (out.length-back) 0]);exact h
theorem Lo(back:Nat)(pre:By):∀ (n:Nat) (out:By),back≤out.length→1≤back→cp (pre++out) back n=pre++cp out back n
|0,out,_,_=>rfl
|n+1,out,h,h1=>by
   unfold cp;have e:(pre++out).getD ((pre++out).length-back) 0=out.getD (out.length-back) 0:=by
    rw[List.getD,List.getD,length_append,List.getElem?_append_right (by omega)];congr 2;omega
   rw[e,append_assoc,Lo back pre n _ (by simp;omega) h1]
theorem Lp(back:Nat):∀ (n:Nat) (out:By),∃ l,cp out back n=out++l
|0,out=>⟨[],by simp[cp]⟩
|n+1,out=>by
   obtain⟨l,hl⟩:=Lp back n (out++[out.getD (out.length-back) 0]);exact⟨_,by unfold cp;rw[hl,append_assoc]⟩
theorem DH{b:By}{a back:Nat}(h1:1≤back)(hb:back≤a):∀ n,(∀ i,i<n→CL b a (a-back) i)→cp (b.take a) back n=b.take (a+n)
|0,_=>rfl
|n+1,h=>by
   rw[BR,DH h1 hb n (fun i hi=>h i (by omega))];obtain⟨c1,c2,c3⟩:=h n (by omega);have e1:(b.take (a+n)).length=a+n:=by rw[length_take];omega
   rw[e1,←Nat.add_assoc,List.take_succ_eq_append_getElem (by omega)];congr 2;have e2:(b.take (a+n)).getD (a+n-back) 0=b.getD (a+n-back) 0:=by rw[List.getD,List.getD,List.getElem?_take,if_pos (by omega)]
   rw[e2,show a+n-back=a-back+n by omega,←c3];rw[List.getD,List.getElem?_eq_getElem c2];rfl
structure En (x o0 o1:By):Prop where
 pre:∃ l,o1=o0++l
 yes:∀ (p rest:By) (most:Int),(p.length:Int)+o1.length≤most→up most (x++rest) (p++o0)=up most rest (p++o1)
 big:∀ (p rest:By) (most:Int),(p.length:Int)+o0.length≤most→most<(p.length:Int)+o1.length→up most (x++rest) (p++o0)=([],3)
 cut:∀ (p:By) (most:Int) (n:Nat),(p.length:Int)+o1.length≤most→n<x.length→up most (x.take n) (p++o0)=([],2)∨∃ o l,o1=o++l∧up most (x.take n) (p++o0)=(p++o,0)
theorem En.nil(o:By):En [] o o:=⟨⟨[],by simp⟩,fun _ _ _ _=>rfl,fun _ _ _ h1 h2=>by omega,fun _ _ _ _ h=>by simp at h⟩
theorem En.trans{x y a b c:By}(h:En x a b)(k:En y b c):En (x++y) a c:=by
 obtain⟨l1,hl1⟩:=h.pre;obtain⟨l2,hl2⟩:=k.pre;have e1:b.length=a.length+l1.length:=by rw[hl1];simp
 have e2:c.length=b.length+l2.length:=by rw[hl2];simp
 refine⟨⟨l1++l2,by rw[hl2,hl1];simp⟩,fun p rest most hm=>?_,fun p rest most h1 h2=>?_,fun p most n hm hn=>?_⟩
 ·rw[append_assoc,h.yes p _ most (by omega),k.yes p rest most hm]
 · rw[append_assoc]
   by_cases hb:(p.length:Int)+b.length≤most
   ·rw[h.yes p _ most hb,k.big p rest most hb h2]
   ·exact h.big p _ most h1 (by omega)
 · rw[length_append] at hn
   by_cases hx:n<x.length
   · rw[List.take_append_of_le_length (by omega)]
     rcases h.cut p most n (by omega) hx with h1|⟨o,l,h1,h2⟩
     ·exact .inl h1
     ·exact .inr ⟨o,l++l2,by rw[hl2,h1];simp,h2⟩
   · rw[take_append,take_of_length_le (by omega:x.length≤n),h.yes p _ most (by omega)]
     exact k.cut p most _ hm (by omega)
theorem En.run{l:By}(o:By)(h0:0<l.length)(h1:l.length≤128):En (UInt8.ofNat (l.length-1)::l) o (o++l):=by
 have ht:(UInt8.ofNat (l.length-1)).toNat=l.length-1:=by rw[UInt8.toNat_ofNat'];omega
 have ht2:l.length-1+1=l.length:=by omega
 refine⟨⟨l,rfl⟩,fun p rest most hm=>?_,fun p rest most h1 h2=>?_,fun p most n hm hn=>?_⟩
 · rw[length_append] at hm
   rw[cons_append,Ba (by omega),ht,ht2,if_neg (by simp),if_neg (by simp;omega),drop_left' rfl,take_left' rfl,append_assoc]
 · rw[length_append] at h2
   rw[cons_append,Ba (by omega),ht,ht2,if_neg (by simp),if_pos (by simp;omega)]
 · cases n with
  |zero=>exact .inr ⟨o,l,rfl,by rw[List.take_zero,qA]⟩
  |succ n=>
     rw[length_cons] at hn;left;rw[List.take_succ_cons,Ba (by omega),ht,ht2,if_pos (by rw[length_take];omega)]
theorem WG{o:By}{n back:Nat}(h3:3≤n)(hn:n≤130)(h1:1≤back)(h2:back≤256)(hb:back≤o.length):En [UInt8.ofNat (n+125),UInt8.ofNat (back-1)] o (cp o back n):=by
 have ht:(UInt8.ofNat (n+125)).toNat=n+125:=by rw[UInt8.toNat_ofNat'];omega
 have hc:(UInt8.ofNat (back-1)).toNat=back-1:=by rw[UInt8.toNat_ofNat'];omega
 have hc2:back-1+1=back:=by omega
 have hl:=yG back n o;obtain⟨l,he⟩:=Lp back n o;refine⟨⟨l,he⟩,fun p rest most hm=>?_,fun p rest most h1 h2=>?_,fun p most k hm hk=>?_⟩
 ·rw[cons_append,cons_append,nil_append,Bb (by omega),ht,hc,hc2,if_neg (by simp;omega),if_neg (by simp;omega),show n+125-125=n by omega,Lo _ _ _ _ hb h1]
 ·rw[cons_append,cons_append,nil_append,Bb (by omega),ht,hc,hc2,if_neg (by simp;omega),if_pos (by simp;omega)]
 · match k,hk with
  |0,_=>exact .inr ⟨o,l,he,by rw[List.take_zero,qA]⟩
  |1,_=>exact .inl (by show up most [UInt8.ofNat (n+125)] _=_;rw[Cb (by omega)])
theorem En.rn:∀ (k:Nat) (l out o0 o:By),l.length=k→En out o0 o→En (rn out l) o0 (o++l):=by
 intro k
 induction k using Nat.strongRecOn with
|ind k ih=>
   intro l out o0 o hk h;by_cases h0:l.length=0
   · have:l=[]:=eq_nil_of_length_eq_zero h0
     subst this;rw[EB,List.append_nil];exact h
   · rw[Bn (by omega)]
     have hm:(l.take (min l.length 128)).length=min l.length 128:=by rw[length_take];omega
     have ht:=En.run (l:=l.take (min l.length 128)) o (by omega) (by omega);rw[hm] at ht;have:=ih _ (by omega) (l.drop (min l.length 128)) _ o0 _ (length_drop ..) (h.trans ht);rwa[append_assoc,List.take_append_drop] at this
theorem En.pk(b:By):∀ (k a:Nat) (run out o:By),b.length-a=k→a≤b.length→En out [] o→o++run=b.take a→En (pk b a run out) [] b:=by
 intro k
 induction k using Nat.strongRecOn with
|ind k ih=>
   intro a run out o hk ha h ho;by_cases hlt:a<b.length
   · by_cases hn:(mt b a).1=0
     · rw[JX hlt hn]
       refine ih (b.length-(a+1)) (by omega) (a+1) _ out o rfl (by omega) h ?_;rw[←append_assoc,ho,List.take_succ_eq_append_getElem hlt,List.getD,List.getElem?_eq_getElem hlt];rfl
     · rw[F9 hn]
       obtain⟨m1,m2,m3,m4,m5,m6,m7,m8,m9⟩:=vD hn;have hr:=En.rn run.length run out [] o rfl h;rw[ho] at hr;have hl:(b.take a).length=a:=by rw[length_take];omega
       have hc:=WG (o:=b.take a) m2 m3 m5 m6 (by omega);rw[DH m5 m7 _ (fun i hi=>(xA b a _).1 i (by rw[m8];exact hi))] at hc;exact ih _ (by omega) _ [] _ _ rfl m4 (hr.trans hc) (by simp)
   · rw[JY hlt]
     have hr:=En.rn run.length run out [] o rfl h;rw[ho,take_of_length_le (by omega)] at hr;exact hr
theorem WH(b:By):En (pkS b) [] b:=En.pk b _ 0 [] [] [] rfl (Nat.zero_le _) (En.nil _) (by simp)
theorem Cc(b:By):upS (pkS b) b.length=(b,0):=by
 have h:=(WH b).yes [] [] b.length (by simp);unfold upS;rw[if_neg (by omega)];simpa[qA] using h
theorem Oy:∀ (k:Nat) (l out:By),l.length=k→(rn out l).length=out.length+l.length+(l.length+127)/128:=by
 intro k
 induction k using Nat.strongRecOn with
|ind k ih=>
   intro l out hk;by_cases h0:l.length=0
   · have:l=[]:=eq_nil_of_length_eq_zero h0
     subst this;rw[EB];simp
   · rw[Bn (by omega),ih _ (by omega) _ _ (length_drop ..)]
     simp only[length_append,length_cons,length_take,length_drop];omega
def le(x:Int)(n:Nat):By:=(List.range n).map (fun i=>UInt8.ofNat (x/256 ^ i).toNat)
theorem aR(x:Int)(n:Nat):(le x n).length=n:=by simp[le]
theorem le_succ(x:Int)(i:Nat):le x (i+1)=le x i++[UInt8.ofNat (x/256 ^ i).toNat]:=by simp[le,range_succ]
def gE(x n:Int):Prop:=n<1∨4<n∨x<0∨x/2 ^ (8*n).toNat≠0
instance (x n:Int):Decidable (gE x n):=by unfold gE;exact inferInstance
def fY(E x n:Int):Int:=if E≠0 then E else if gE x n then 1 else 0
def lN(E:Int)(xs:By)(x n:Int):By:=if E≠0∨gE x n then xs else xs++le x n.toNat
def Bp(E:Int)(xs ys:By):By:=if E=0 then xs++ys else xs
def lH(E:Int)(s:By):Int:=if E≠0 then E else if 255<s.length then 3 else 0
def mT(E:Int)(xs s:By):By:=if E≠0∨255<s.length then xs else xs++UInt8.ofNat s.length::s
theorem lS{E:Int}{s:By}(h:E≠0∨¬ 255<s.length):lH E s=E:=by
 unfold lH;by_cases hE:E=0
 ·rw[if_neg (by omega),if_neg (by omega),hE]
 ·rw[if_pos hE]
theorem Cd{E:Int}{s:By}(hE:E=0)(h:255<s.length):lH E s=3:=by
 unfold lH;rw[if_neg (by omega),if_pos h]
theorem G1{E:Int}{s:By}(h:lH E s=0):E=0∧¬ 255<s.length:=by
 by_cases hE:E=0
 · by_cases hs:255<s.length
   ·rw[Cd hE hs] at h;omega
   ·exact⟨hE,hs⟩
 ·rw[lS (.inl hE)] at h;exact absurd h hE
theorem IS{E:Int}{xs s:By}(h:lH E s≠0):mT E xs s=xs:=by
 unfold mT;by_cases hE:E=0
 ·rw[if_pos (.inr (byContradiction fun hs=>h (by rw[lS (.inr hs)];exact hE)))]
 ·rw[if_pos (.inl hE)]
theorem J7{E x n:Int}(h:E≠0∨gE x n):fY E x n≠0:=by unfold fY;split;assumption;rw[if_pos (h.resolve_left (by assumption))];decide
theorem Ax{E x n:Int}(h:¬ (E≠0∨gE x n)):fY E x n=0:=by
 unfold fY;rw[if_neg (fun h'=>h (.inl h')),if_neg (fun h'=>h (.inr h'))]
theorem kO{E x n:Int}{xs:By}(h:fY E x n≠0):lN E xs x n=xs:=by
 unfold lN;rw[if_pos (by apply byContradiction;intro h';exact h (Ax h'))]
theorem kC{E x n:Int}{xs:By}(h:fY E x n=0):lN E xs x n=xs++le x n.toNat:=by
 unfold lN;rw[if_neg (fun h'=>J7 h' h)]
theorem Hc(x:Int)(i:Nat):x/2 ^ (8*(i:Int)).toNat=x/256 ^ i:=by
 rw[show (8*(i:Int)).toNat=8*i from by omega,Int.pow_mul];rfl
theorem lU{n:Nat}(h:n≤255):¬ gE n 1:=by
 unfold gE;have h2:((n:Int)/2 ^ (8*(1:Int)).toNat)=0:=by
  show (n:Int)/256=0;omega
 omega
theorem BD(n:Nat):le n 1=[UInt8.ofNat n]:=by
 simp[le,range_succ]
theorem Nz{x:Int}(h:0≤x):Value.int .u8 (IntKind.u8.wrap x)=b8 (UInt8.ofNat x.toNat):=by
 have h1:IntKind.u8.wrap x=x%256:=by
  show IntKind.wrap .u8 x=_;simp[IntKind.wrap,IntKind.signed,IntKind.bits]
 rw[h1,b8,UInt8.toNat_ofNat'];congr 1;omega
theorem GW{x:Int}(h:0≤x):IntKind.u8.wrap x=((UInt8.ofNat x.toNat).toNat:Int):=by
 have:=Nz h;simpa[b8] using this
theorem lF{E x n:Int}(h:gE x n):fY E x n=if E=0 then 1 else E:=by
 unfold fY;by_cases hE:E=0<;>simp[hE,h]
theorem cP{E x n:Int}(h:¬ gE x n):fY E x n=E:=by
 unfold fY;by_cases hE:E=0<;>simp[hE,h]
theorem My{E x n:Int}{xs:By}{i:Nat}(h1:fY E x n≠0→i=0)(h2:fY E x n=0→i=n.toNat):xs++le x i=lN E xs x n:=by
 by_cases h:fY E x n=0
 ·rw[kC h,h2 h]
 ·rw[kO h,h1 h];simp[le]
theorem MT{xs:By}{x:Int}{i:Nat}:xs++le x (i+1)=(xs++le x i)++[UInt8.ofNat (x/256 ^ i).toNat]:=by rw[le_succ,append_assoc]
def csL(E:Int)(s:Value):List Value:=[iV E,s]
def csR(E:Int)(s:Value):List Value:=[s,iV E]
def WrO(cs:Int→Value→List Value)(T:TypeId)(D:Nat→Prop)(H:Array Obj)(p:Nat)(E:Int)(xs:By):Prop:=
 ∃ ao c,H[p]?=some (.cells (cs E (.slice ao xs.length c)).toArray T (0,0))∧Own b8 5 H ao c xs∧¬ blk ao p∧D p∧∀ k,blk ao k→D k
abbrev WrR:=WrO csR 152
section
variable {cs:Int→Value→List Value}{T:TypeId}{D:Nat→Prop}{p:Nat}{E:Int}{xs:List UInt8}
theorem WrO.lt{H:Array Obj}(h:WrO cs T D H p E xs):p<H.size:=by obtain⟨ao,c,hg,_⟩:=h;exact(Array.getElem?_eq_some_iff.1 hg).1
theorem WrO.WS{S:Nat→Prop}{w w':World}(h:WrO cs T D w.heap p E xs)(f:aA S w w')(hs:∀ k,D k→¬ S k):WrO cs T D w'.heap p E xs:=by
 obtain⟨ao,c,hg,ho,h1,h2,h3⟩:=h;exact⟨ao,c,f.obj hg (hs p h2),ho.WS f (fun a ha=>hs _ (h3 _ ⟨a,ha,rfl⟩)),h1,h2,h3⟩
theorem WrO.WR{w w':World}(h:WrO cs T D w.heap p E xs)(f:aA nob w w'):WrO cs T D w'.heap p E xs:=h.WS f (fun _ _=>id)
theorem WrO.shrink{w w':World}(h:WrO cs T D w.heap p E xs)(f:aA nob w w'):WrO cs T (fun k=>D k∧(k<w.heap.size∨w'.heap.size≤k)) w'.heap p E xs:=by
 have hl:=h.lt;obtain⟨ao,c,hg,ho,h1,h2,h3⟩:=h;refine⟨ao,c,f.obj hg id,ho.WR f,h1,⟨h2,.inl hl⟩,fun k hk=>⟨h3 k hk,.inl ?_⟩⟩;obtain⟨a,ha,rfl⟩:=hk;exact ho.lt a ha
theorem WrO.mono{D':Nat→Prop}{H:Array Obj}(h:WrO cs T D H p E xs)(hd:∀ k,D k→D' k):WrO cs T D' H p E xs:=by
 obtain⟨ao,c,hg,ho,h1,h2,h3⟩:=h;exact⟨ao,c,hg,ho,h1,hd _ h2,fun k hk=>hd k (h3 k hk)⟩
theorem FA{W w1 w2 w3:World}{ys:By}{ao ao2:Option Addr}{c2:Nat}(hD:∀ k,W.heap.size≤k→D k)(hap:¬ blk ao p)(hDp:D p)(hDa:∀ k,blk ao k→D k)(hpW:p<W.heap.size)
 (hf1:aA nob W w1)(ho2:Own b8 5 w2.heap ao2 c2 (xs++ys))(hf2:aA (blk ao) w1 w2)(hr2:∀ a,ao2=some a→ao=some a∨w1.heap.size≤a.block)
 (hg3:w3.heap[p]?=some (.cells (cs E (.slice ao2 (xs++ys).length c2)).toArray T (0,0)))(hf3:aA (· = p) w2 w3) :
 WrO cs T D w3.heap p E (xs++ys)∧aA D W w3:=by
 have h1:=hf1.size;have hap2:¬ blk ao2 p:=fun⟨a,ha,hb⟩=>by
  rcases hr2 a ha with h|h
  ·exact hap ⟨a,h,hb⟩
  ·omega
 refine⟨⟨ao2,c2,hg3,ho2.WS hf3 (fun a ha h=>hap2 ⟨a,ha,h⟩),hap2,hDp,fun k hk=>?_⟩,?_⟩
 · obtain⟨a,ha,rfl⟩:=hk
   rcases hr2 a ha with h|h
   ·exact hDa _ ⟨a,h,rfl⟩
   ·exact hD _ (by omega)
 ·exact((hf1.mono (fun _ h=>h.elim)).trans (hf2.mono (fun k h=>hDa k h))).trans (hf3.mono (fun k h=>by subst h;exact hDp))
end
theorem dA(D:Nat→Prop)(p:Nat)(E:Int)(xs:By)(x n:Int)(W:World)(hP:WrR D W.heap p E xs)(hD:∀ k,W.heap.size≤k→D k)(hb:xs.length≤1099511627776) :
 CA 61 [pT p,iV x,iV n] W fun v w'=>WrR D w'.heap p (fY E x n) (lN E xs x n)∧aA D W w':=by
 have hP0:=hP;obtain⟨ao,c,hobj,hown,hap,hDp,hDa⟩:=hP;refine cS 51 [(0,_),(1,_),(2,_)] Tryz.func61 ?_;refine fK 7 ?_ ?_<;>intro h11
 ·refine Gz 6 ?_;have hE1:fY E x n=E:=by unfold fY;rw[if_pos h11]
  exact⟨_,rfl,by rw[hE1,kO (by rw[hE1];exact h11)];exact hP0,Wt _ _⟩
 refine fK 9 ?_ ?_<;>intro h13
 ·refine Gz 23 ?_;refine Tx rF rfl rfl rfl hobj rfl ?_;intro w1 hg1 hs1 hf1;have hbad:gE x n:=by first|exact .inl h13|exact .inr (.inl h16)|exact .inr (.inr (.inl h20))|exact .inr (.inr (.inr h27))
  have hE1:fY E x n=1:=by rw[lF hbad,if_pos (by omega)]
  have hX1:lN E xs x n=xs:=kO (by rw[hE1];decide);refine Gz 5 ?_;exact⟨_,rfl,by rw[hE1,hX1];exact⟨ao,c,hg1,hown.WS hf1 (fun a ha h=>hap ⟨a,ha,h⟩),hap,hDp,hDa⟩,hf1.mono (fun k h=>by subst h;exact hDp)⟩
 refine fW 2 ?_ ?_<;>intro h16
 ·refine Gz 20 ?_;refine Tx rF rfl rfl rfl hobj rfl ?_;intro w1 hg1 hs1 hf1;have hbad:gE x n:=by first|exact .inl h13|exact .inr (.inl h16)|exact .inr (.inr (.inl h20))|exact .inr (.inr (.inr h27))
  have hE1:fY E x n=1:=by rw[lF hbad,if_pos (by omega)]
  have hX1:lN E xs x n=xs:=kO (by rw[hE1];decide);refine Gz 5 ?_;exact⟨_,rfl,by rw[hE1,hX1];exact⟨ao,c,hg1,hown.WS hf1 (fun a ha h=>hap ⟨a,ha,h⟩),hap,hDp,hDa⟩,hf1.mono (fun k h=>by subst h;exact hDp)⟩
 refine fW 3 ?_ ?_<;>intro h20
 ·refine Gz 16 ?_;refine Tx rF rfl rfl rfl hobj rfl ?_;intro w1 hg1 hs1 hf1;have hbad:gE x n:=by first|exact .inl h13|exact .inr (.inl h16)|exact .inr (.inr (.inl h20))|exact .inr (.inr (.inr h27))
  have hE1:fY E x n=1:=by rw[lF hbad,if_pos (by omega)]
  have hX1:lN E xs x n=xs:=kO (by rw[hE1];decide);refine Gz 5 ?_;exact⟨_,rfl,by rw[hE1,hX1];exact⟨ao,c,hg1,hown.WS hf1 (fun a ha h=>hap ⟨a,ha,h⟩),hap,hDp,hDa⟩,hf1.mono (fun k h=>by subst h;exact hDp)⟩
 refine Gz 4 ?_;refine cW (Ue rfl rfl (by omega)) ?_;refine cW (U9 rfl rfl (by omega)) ?_;refine fW 0 ?_ ?_<;>intro h27
 ·refine Gz 9 ?_;refine Tx rF rfl rfl rfl hobj rfl ?_;intro w1 hg1 hs1 hf1;have hbad:gE x n:=by first|exact .inl h13|exact .inr (.inl h16)|exact .inr (.inr (.inl h20))|exact .inr (.inr (.inr h27))
  have hE1:fY E x n=1:=by rw[lF hbad,if_pos (by omega)]
  have hX1:lN E xs x n=xs:=kO (by rw[hE1];decide);refine Gz 5 ?_;exact⟨_,rfl,by rw[hE1,hX1];exact⟨ao,c,hg1,hown.WS hf1 (fun a ha h=>hap ⟨a,ha,h⟩),hap,hDp,hDa⟩,hf1.mono (fun k h=>by subst h;exact hDp)⟩
 refine Gz 12 ?_;have hgood:¬ gE x n:=by rintro(h|h|h|h);exact h13 h;exact h16 h;exact h20 h;exact h27 h
 have hE0:fY E x n=E:=cP hgood;refine TA (β:=Nat) (fun i=>[(0,pT p),(1,iV x),(2,iV n),(6,iV i)]) (fun i w=>i≤n.toNat∧WrR D w.heap p E (xs++le x i)∧aA D W w) (fun i=>n.toNat-i) 0 ⟨rfl,rfl,rfl,rfl,trivial⟩ ⟨Nat.zero_le _,by simpa[le] using hP0,Wt _ _⟩ ?_;rintro i w3 ⟨hi1,hP3,hF3⟩;refine fK 5 ?_ ?_<;>intro h34
 ·refine Gz 7 ?_;have hP2:=hP3;obtain⟨ao,c,hobj,hown,hap,hDp,hDa⟩:=hP3;refine TG 14 (fun H=>H[p]?=some (.cells (csR E (.slice ao (xs++le x i).length c)).toArray 152 (0,0))) [10,11,14] [0,1,2,3,4,5,6,7,8,9,10,11,12,13,14] aL (by kernel_rfl) (hobj) ?_;refine Gz 7 ?_;refine xC rfl (Ue rfl rfl (by omega)) ?_;refine xC rfl (U9 rfl rfl (by omega)) ?_;refine xC rfl (TD (n:=((UInt8.ofNat (x/256 ^ i).toNat).toNat:Int)) is3 ty5 rfl (by rw[Hc];exact GW (Int.ediv_nonneg (by omega) (Int.pow_nonneg (by decide))))) ?_;refine Ty rfl rfl (T3 (enc:=b8) (u:=UInt8.ofNat (x/256 ^ i).toNat) aK rfl rfl rfl ?_);intro w4 ho4 hs4 hf4;refine TE (by exact hf4.obj hobj (fun h=>h)) ?_;refine Ty rfl rfl (TB aV aK rfl rfl (hown.WR hf4.WP) ho4.vw (by simp only[length_singleton,length_append,aR];omega) (by simp only[length_singleton,length_append,aR];unfold maxLen;omega) rfl ?_);intro ao5 c5 w5 ho5 hf5 hr5 hn5;refine TE (by exact hf5.obj (hf4.obj hobj (fun h=>h)) hap) ?_;refine Gz 2 ?_;refine Ty rfl rfl (Tx aT rfl rfl rfl (hf5.obj (hf4.obj hobj (fun h=>h)) hap) rfl ?_);intro w6 hg6 hs6 hf6;refine T6 rfl ?_;refine Gz 8 ?_;obtain⟨hP6,hF6⟩:=FA (cs:=csR) (E:=E) (cR hF3 hD) hap hDp hDa hP2.lt hf4.WP ho5 hf5 hr5 hg6 hf6;refine aG (i+1) ?_ (by show n.toNat-(i+1)<n.toNat-i;omega);exact⟨by omega,by rw[MT];exact hP6,hF3.trans hF6⟩
 refine Gz 7 ?_;refine Uw rfl ?_;exact⟨_,rfl,by rw[←My (i:=i) (fun h=>absurd (by rw[hE0];omega) h) (fun h=>by omega),hE0];exact hP3,hF3⟩
theorem lZ(D:Nat→Prop)(p:Nat)(E:Int)(xs:By)(yo:Option Addr)(yc:Nat)(ys:By)(W:World)(hP:WrR D W.heap p E xs)(hD:∀ k,W.heap.size≤k→D k)(hv:Vw b8 W.heap yo yc ys)(hb:xs.length≤1099511627776)(hb2:ys.length≤1099511627776) :
 CA 64 [pT p,.slice yo ys.length yc] W fun v w'=>WrR D w'.heap p E (Bp E xs ys)∧aA D W w':=by
 have hP0:=hP;obtain⟨ao,c,hobj,hown,hap,hDp,hDa⟩:=hP;refine cS 18 [(0,_),(1,_)] Tryz.func64 ?_;refine fK 6 ?_ ?_<;>intro h8
 ·refine Gz 10 ?_;refine TB aV aK rfl rfl hown hv (by omega) (by unfold maxLen;omega) rfl ?_;intro ao5 c5 w5 ho5 hf5 hr5 hn5;refine Gz 2 ?_;refine Tx aT rfl rfl rfl (hf5.obj hobj hap) rfl ?_;intro w6 hg6 hs6 hf6;refine Gz 1 ?_;refine Uw rfl ?_;obtain⟨hP6,hF6⟩:=FA (cs:=csR) (E:=E) hD hap hDp hDa hP0.lt (Wt _ _) ho5 hf5 hr5 hg6 hf6;exact⟨_,rfl,by unfold Bp;rw[if_pos h8];exact hP6,hF6⟩
 refine Gz 4 ?_;refine Uw rfl ?_;exact⟨_,rfl,by unfold Bp;rw[if_neg h8];exact hP0,Wt _ _⟩
theorem C4(E:Int)(xs:By)(x n:Int)(h:¬ gE x n):(lN E xs x n).length≤xs.length+4:=by
 unfold lN;split
 ·omega
 ·simp only[length_append,aR];unfold gE at h;omega
theorem IQ{E:Int}{xs s:By}(h:¬ 255<s.length):fY E s.length 1=lH E s∧Bp (fY E s.length 1) (lN E xs s.length 1) s=mT E xs s:=by
 have hb:=lU (n:=s.length) (by omega);rw[cP hb];unfold lH mT Bp lN;by_cases hE:E=0
 ·simp[hE,h,hb,BD]
 ·simp[hE]
theorem rG(D:Nat→Prop)(p:Nat)(E:Int)(xs s:By)(W:World)(hP:WrR D W.heap p E xs)(hD:∀ k,W.heap.size≤k→D k)(hb:xs.length≤549755813888)(hsl:s.length≤549755813888) :
 CA 105 [pT p,.string (bs s)] W fun v w'=>WrR D w'.heap p (lH E s) (mT E xs s)∧aA D W w':=by
 have hP0:=hP;obtain⟨ao,c,hobj,hown,hap,hDp,hDa⟩:=hP;refine cS 26 [(0,_),(1,_)] Tryz.func105 ?_;refine TY (β:=Unit) (fun _u=>[(0,pT p),(1,.string (bs s))]) (fun _u w=>WrR D w.heap p (lH E s) xs∧aA D W w) ?_ ?_
 ·refine fK 6 ?_ ?_<;>intro h8
  ·refine Gz 2 ?_;refine cW (TU ty9 rfl) ?_;refine fW 0 ?_ ?_<;>intro h12
   ·refine Gz 8 ?_;refine Tx rF rfl rfl rfl hobj rfl ?_;intro w1 hg1 hs1 hf1;refine Gz 1 ?_;refine aC () ?_;exact⟨by rw[Cd (by omega) (by omega)];exact⟨ao,c,hg1,hown.WS hf1 (fun a ha h=>hap ⟨a,ha,h⟩),hap,hDp,hDa⟩,hf1.mono (fun k h=>by subst h;exact hDp)⟩
   refine Gz 5 ?_;refine aC () ?_;exact⟨by rw[lS (by omega)];exact hP0,Wt _ _⟩
  refine Gz 9 ?_;refine aC () ?_;exact⟨by rw[lS (by omega)];exact hP0,Wt _ _⟩
 rintro _ w2 ⟨hP2,hF2⟩;refine Gz 4 ?_;refine cL (TU ty9 rfl) ?_;refine cL (Ul rfl rfl (by omega) (by decide)) ?_;have hm:((s.length:Int)%256)=((s.length%256:Nat):Int):=by omega
 have hgood:=lU (n:=s.length%256) (by omega);have hl1:=C4 (lH E s) xs ((s.length:Int)%256) 1 (by rw[hm];exact hgood);refine Ts fU rfl (dA D p _ xs _ 1 w2 hP2 (cR hF2 hD) (by omega)) rfl ?_;rintro _ w3 ⟨hP3,hF3⟩;refine Gz 5 ?_;refine Vr ty9 aK ty5 rfl (by unfold maxLen;omega) rfl ?_;intro w4 c4 hv4 hs4 hf4;refine Ts KU rfl (lZ D p _ _ _ c4 s w4 (hP3.WR hf4) (cR hf4 (cR hF3 (cR hF2 hD))) hv4 (by omega) (by omega)) rfl ?_;rintro _ w5 ⟨hP5,hF5⟩;refine Gz 1 ?_;refine Uw rfl ?_;refine⟨_,rfl,?_,((hF2.trans hF3).trans (hf4.mono (fun _ h=>h.elim))).trans hF5⟩;rw[hm] at hP5;rw[cP hgood] at hP5;by_cases hE:lH E s=0
 · have h0:=G1 hE
   have:=(IQ (E:=E) (xs:=xs) h0.2).2;rw[cP (lU (by omega))] at this;rw[hE] at hP5 ⊢;rw[h0.1] at this ⊢;rw[←this,show s.length%256=s.length from by omega] at *;exact hP5
 · have e2:mT E xs s=xs:=IS hE
   rw[e2];have e3:Bp (lH E s) (lN (lH E s) xs ((s.length%256:Nat):Int) 1) s=xs:=by unfold Bp;rw[if_neg hE];exact kO (by rw[cP hgood];exact hE)
   rw[e3] at hP5;exact hP5
def oT(W:World)(xs:By):Value→World→Prop:=fun v w'=>∃ ao' cap',v=.slice ao' xs.length cap'∧Own b8 5 w'.heap ao' cap' xs∧Fr W.heap.size ao'∧aA nob W w'
theorem Ep(cap:Nat)(xs:By)(W:World)(hv:Vw b8 W.heap none cap xs):CA 34 [.slice none xs.length cap] W (oT W xs):=by
 have hx:xs=[]:=eq_nil_of_length_eq_zero (by
  rcases Nat.eq_zero_or_pos xs.length with h|h
  ·exact h
  ·exact absurd rfl (hv.non (by omega)))
 subst hx;refine cS 8 [(0,_)] Tryz.func34 ?_;refine Gz 9 ?_;refine cL (Uh aK rfl rfl) ?_;refine Gz 11 ?_;exact⟨_,rfl,none,0,rfl,WA,Wy,Wt _ _⟩
theorem Cx(a:Addr)(cap:Nat)(xs:By)(W:World)(hv:Vw b8 W.heap (some a) cap xs)(hb:xs.length≤140737488355328):CA 34 [.slice (some a) xs.length cap] W (oT W xs):=by
 refine cS 8 [(0,_)] Tryz.func34 ?_;refine Gz 9 ?_;refine cL (Uh aK rfl rfl) ?_;refine Gz 7 ?_;refine T2 b8 aK rfl ?_;intro w1 ho1 hs1 hf1;refine Gz 1 ?_;refine TB aV aK rfl rfl ho1 (hv.WR hf1) (by simp only[length_nil];omega) (by simp only[length_nil];unfold maxLen;omega) rfl ?_;intro ao2 c2 w2 ho2 hf2 hr2 hn2;refine Gz 5 ?_;have hfr:=eP W.heap.size;refine⟨_,rfl,ao2,c2,rfl,ho2,fun a ha=>?_,hf1.WO hf2 hfr.step⟩;rcases hr2 a ha with h|h
 ·exact hfr a h
 ·have:=hf1.size;omega
theorem iM(ao:Option Addr)(cap:Nat)(xs:By)(W:World)(hv:Vw b8 W.heap ao cap xs)(hb:xs.length≤140737488355328):CA 34 [.slice ao xs.length cap] W (oT W xs):=by
 cases ao with
|none=>exact Ep cap xs W hv
|some a=>exact Cx a cap xs W hv hb
def iJ(E:Int)(xs:By):By:=if E≠0 then [] else xs
theorem gZ(D:Nat→Prop)(p:Nat)(E:Int)(xs:By)(W:World)(hP:WrR D W.heap p E xs)(hb:xs.length≤1099511627776) :
 CA 62 [pT p] W (oT W (iJ E xs)):=by
 obtain⟨ao,c,hobj,hown,hap,hDp,hDa⟩:=hP;refine cS 14 [(0,_)] Tryz.func62 ?_;refine fK 12 ?_ ?_<;>intro h7
 ·refine Gz 11 ?_;refine⟨_,rfl,?_⟩;unfold iJ;rw[if_pos h7];exact⟨none,0,rfl,WA,Wy,Wt _ _⟩
 refine Gz 7 ?_;refine T2 b8 aK rfl ?_;intro w1 ho1 hs1 hf1;refine Gz 3 ?_;refine cL (Tu aT rfl (aE (hf1.obj hobj (fun h=>h)) rfl)) ?_;refine TB aV aK rfl rfl ho1 (hown.WR hf1).vw (by simp only[length_nil];omega) (by simp only[length_nil];unfold maxLen;omega) rfl ?_;intro ao2 c2 w2 ho2 hf2 hr2 hn2;refine Gz 5 ?_;refine⟨_,rfl,?_⟩;unfold iJ;rw[if_neg h7];exact⟨ao2,c2,rfl,ho2,bK (eP _) hr2 hf1.size,hf1.WO hf2 (eP _).step⟩
theorem WI{H:Array Obj}{p:Nat}(h:H[p]?=some (.cells #[sN,iV 0] 152 (0,0))){D:Nat→Prop}(hD:D p):WrR D H p 0 []:=
 ⟨none,0,h,WA,(fun⟨a,h,_⟩=>by cases h),hD,(fun k ⟨a,h,_⟩=>by cases h)⟩
section
def cU(E:Int)(ys:By)(n:Int):Int:=if E≠0 then E else if n<0 then 1 else if (ys.length:Int)<n then 2 else 0
def eG(E:Int)(ys:By)(n:Int):By:=if cU E ys n≠0 then [] else ys.take n.toNat
def oQ(E:Int)(ys:By)(n:Int):By:=if cU E ys n≠0 then ys else ys.drop n.toNat
def bT:By→Nat
|[]=>0
|b::r=>b.toNat+256*bT r
def cX(E n:Int):Int:=if E≠0 then E else if n<1∨4<n then 1 else 0
theorem C6(E n:Int):cX E n=if E=0∧(n<1∨4<n) then 1 else E:=by
 unfold cX;by_cases hE:E=0
 ·simp[hE]
 ·simp[hE]
theorem iR{n:Int}(h1:1≤n)(h4:n≤4)(E:Int):cX E n=E:=by rw[C6,if_neg (by omega)]
theorem pE{E:Int}{ys:By}{n:Int}(h:E≠0):cU E ys n=E:=by unfold cU;rw[if_pos h]
theorem Ln{E:Int}{ys:By}{n:Int}(h:n<0):cU E ys n=if E=0 then 1 else E:=by
 unfold cU;by_cases hE:E=0<;>simp[hE,h]
theorem nC{E:Int}{ys:By}{n:Int}(h:¬ n<0)(h2:(ys.length:Int)<n):cU E ys n=if E=0 then 2 else E:=by
 unfold cU;by_cases hE:E=0<;>simp[hE,h,h2]
theorem dG{E:Int}{ys:By}{n:Int}(h:¬ n<0)(h2:¬ (ys.length:Int)<n):cU E ys n=E:=by
 unfold cU;by_cases hE:E=0<;>simp[hE,h,h2]
theorem yF{E:Int}{ys:By}{n:Int}(h:cU E ys n≠0):eG E ys n=[]∧oQ E ys n=ys:=by unfold eG oQ;rw[if_pos h,if_pos h];exact⟨rfl,rfl⟩
theorem cM{E:Int}{ys:By}{n:Int}(h:cU E ys n=0):eG E ys n=ys.take n.toNat∧oQ E ys n=ys.drop n.toNat:=by unfold eG oQ;rw[if_neg (by omega),if_neg (by omega)];exact⟨rfl,rfl⟩
theorem mL{E:Int}{ys:By}{n:Int}(h:cU E ys n=0):E=0∧0≤n∧n≤ys.length:=by
 unfold cU at h
 split at h
 ·contradiction
 · split at h
   ·cases h
   · split at h
     ·cases h
     ·rename_i h1 h2 h3;exact⟨by omega,by omega,by omega⟩
theorem yE(E:Int)(ys:By)(n:Int):(eG E ys n).length≤n.toNat:=by unfold eG;split<;>simp;omega
theorem fC(E:Int)(ys:By)(n:Int):(oQ E ys n).length≤ys.length:=by unfold oQ;split<;>simp
theorem uD:∀ (a b:By),bT (a++b)=bT a+256 ^ a.length*bT b
|[],b=>by simp[bT]
|x::a,b=>by
   simp only[cons_append,bT,uD a b,length_cons,Nat.pow_succ];rw[Nat.mul_add,Nat.mul_assoc (256 ^ a.length) 256,Nat.mul_left_comm 256];omega
theorem oV:∀ a:By,bT a<256 ^ a.length
|[]=>by simp[bT]
|x::a=>by
   have h1:=oV a;have h2:=x.toNat_lt;simp only[bT,length_cons,Nat.pow_succ];omega
theorem GY(bs:By)(i:Nat)(h:i<bs.length):bT (bs.take (i+1))=bT (bs.take i) ||| ((bs.getD i 0).toNat*2 ^ (8*i)):=by
 have e:bs.take (i+1)=bs.take i++[bs.getD i 0]:=by rw[List.take_succ_eq_append_getElem h];simp[List.getD,h]
 have hl:(bs.take i).length=i:=by rw[length_take];omega
 rw[e,uD,hl];have hlt:=oV (bs.take i);rw[hl] at hlt;have h3:=Nat.shiftLeft_add_eq_or_of_lt (show bT (bs.take i)<2 ^ (8*i) by rw[Nat.pow_mul];exact hlt) (bs.getD i 0).toNat;rw[Nat.shiftLeft_eq] at h3;rw[Nat.or_comm,←h3,Nat.pow_mul,show (2:Nat) ^ 8=256 from rfl];simp only[bT,Nat.mul_zero,Nat.add_zero];rw[Nat.mul_comm (256 ^ i)];omega
theorem BC:∀ bs:By,le (bT bs) bs.length=bs
|[]=>rfl
|b::r=>by
   have ih:=BC r;have h2:=b.toNat_lt;unfold le at *;simp only[length_cons,List.range_succ_eq_map,map_cons,map_map];congr 1
   · apply UInt8.toNat_inj.1
     rw[UInt8.toNat_ofNat'];show ((((bT (b::r):Nat):Int)/256 ^ 0).toNat)%2 ^ 8=b.toNat;simp only[bT,Int.pow_zero,Int.ediv_one];omega
   · conv=>rhs;rw[←ih]
     apply List.map_congr_left;intro i _;simp only[Function.comp];have e1:((bT (b::r):Nat):Int)/256 ^ (i+1)=((bT (b::r)/256 ^ (i+1):Nat):Int):=by rw[Int.natCast_ediv];simp
     have e2:((bT r:Nat):Int)/256 ^ i=((bT r/256 ^ i:Nat):Int):=by rw[Int.natCast_ediv];simp
     have e3:bT (b::r)/256 ^ (i+1)=bT r/256 ^ i:=by
      rw[Nat.pow_succ,Nat.mul_comm (256 ^ i) 256,←Nat.div_div_eq_div_mul];simp only[bT];congr 1;omega
     rw[Nat.succ_eq_add_one,e1,e2,e3]
theorem MU(x:Int)(n:Nat):le x (n+1)=UInt8.ofNat x.toNat::le (x/256) n:=by
 unfold le;rw[List.range_succ_eq_map,map_cons,map_map];congr 1
 ·simp
 · apply List.map_congr_left
   intro i _;simp only[Function.comp,Nat.succ_eq_add_one];rw[Int.pow_succ,Int.mul_comm (256 ^ i),Int.ediv_ediv_of_nonneg (by decide)]
theorem oX:∀ (n:Nat) (x:Int),0≤x→x<256 ^ n→((bT (le x n):Nat):Int)=x
|0,x,h0,h1=>by simp at h1;simp[le,bT];omega
|n+1,x,h0,h1=>by
   rw[MU];have h2:x/256<256 ^ n:=by
    rw[Int.pow_succ] at h1;exact Int.ediv_lt_of_lt_mul (by decide) h1
   have ih:=oX n (x/256) (Int.ediv_nonneg h0 (by decide)) h2;simp only[bT];rw[UInt8.toNat_ofNat'];omega
def ApD(D:Nat→Prop)(ao:Option Addr)(p n:Nat):Prop:=D p∧(0<n→¬ blk ao p∧∀ k,blk ao k→D k)
theorem Kx{w w':World}{S:Nat→Prop}{ao:Option Addr}{c:Nat}{ys:By}(h:Vw b8 w.heap ao c ys)(f:aA S w w')(hs:0<ys.length→∀ a,ao=some a→¬ S a.block):Vw b8 w'.heap ao c ys:=by
 by_cases h0:0<ys.length
 ·exact h.WS f (hs h0)
 · have:ys=[]:=eq_nil_of_length_eq_zero (by omega)
   subst this;exact Wz c h.max
def RdO(cs:Int→Value→List Value)(T:TypeId)(D:Nat→Prop)(H:Array Obj)(p:Nat)(E:Int)(ys:By):Prop:=
 ∃ ao c,H[p]?=some (.cells (cs E (.slice ao ys.length c)).toArray T (0,0))∧Vw b8 H ao c ys∧ApD D ao p ys.length
abbrev RdL:=RdO csL 171
section
variable {cs:Int→Value→List Value}{T:TypeId}{D:Nat→Prop}{p:Nat}{E:Int}{ys:List UInt8}
theorem RdO.lt{H:Array Obj}(h:RdO cs T D H p E ys):p<H.size:=by obtain⟨ao,c,hg,_⟩:=h;exact(Array.getElem?_eq_some_iff.1 hg).1
theorem RdO.WR{w w':World}(h:RdO cs T D w.heap p E ys)(f:aA nob w w'):RdO cs T D w'.heap p E ys:=by
 obtain⟨ao,c,hg,hv,h1⟩:=h;exact⟨ao,c,f.obj hg id,hv.WR f,h1⟩
end
section
variable {cs:Int→Value→List Value}{T:TypeId}{D:Nat→Prop}{p:Nat}{E:Int}{ys:List UInt8}
theorem RdO.WS{S:Nat→Prop}{w w':World}(h:RdO cs T D w.heap p E ys)(f:aA S w w')(hs:∀ k,D k→¬ S k):RdO cs T D w'.heap p E ys:=by
 obtain⟨ao,c,hg,hv,h1⟩:=h;exact⟨ao,c,f.obj hg (hs p h1.1),Kx hv f (fun hn a ha=>hs _ ((h1.2 hn).2 _ ⟨a,ha,rfl⟩)),h1⟩
end
variable {D:Nat→Prop}
theorem AY{D:Nat→Prop}{ao:Option Addr}{m l s p n n2:Nat}(h:ApD D ao p n)(hn:n2≤n):ApD D (aP ao m l s) p n2:=⟨h.1,fun h0=>⟨fun h2=>(h.2 (by omega)).1 (vM h2),fun k hk=>(h.2 (by omega)).2 k (vM hk)⟩⟩
theorem nW(p:Nat)(E:Int)(ys:By)(e:Int)(W:World)(hP:RdL D W.heap p E ys) :
 CA 110 [pT p,iV e] W fun v w'=>RdL D w'.heap p (if E=0 then e else E) ys∧aA (· = p) W w':=by
 have hPP:=hP;obtain⟨ao,c,hobj,hv,hap⟩:=hP;refine cS 13 [(0,_),(1,_)] Tryz.func110 ?_;refine fK 6 ?_ ?_<;>intro h8
 ·refine Gz 8 ?_;refine Tx rF rfl rfl rfl hobj rfl ?_;intro w1 hg1 hs1 hf1;refine Gz 1 ?_;refine Uw rfl ?_;exact⟨_,rfl,by rw[if_pos h8];exact⟨ao,c,hg1,Kx hv hf1 (fun hn a ha h=>(hap.2 hn).1 ⟨a,ha,h⟩),hap⟩,hf1⟩
 refine Gz 4 ?_;refine Uw rfl ?_;exact⟨_,rfl,by rw[if_neg h8];exact hPP,Wt _ _⟩
def RdP(cs:Int→Value→List Value)(T:TypeId)(D:Nat→Prop)(W:World)(p:Nat)(E:Int)(ys:By)(n:Int):Value→World→Prop:=fun v w'=>
 ∃ ao c,v=.slice ao (eG E ys n).length c∧Own b8 5 w'.heap ao c (eG E ys n)∧Fr W.heap.size ao∧RdO cs T D w'.heap p (cU E ys n) (oQ E ys n)∧aA (· = p) W w'
theorem sJ{H:Array Obj}{ao:Option Addr}{c:Nat}{ys:By}(h:Vw b8 H ao c ys){n:Int}(h0:0≤n)(h1:n≤ys.length):Vw b8 H (aP ao c n.toNat 1) (c-n.toNat) (ys.drop n.toNat):=by
 have:=h.cut (l:=n.toNat) (h:=ys.length) (m:=c) (by omega) (Nat.le_refl _) h.le (Nat.le_refl _);rwa[take_of_length_le (by simp)] at this
theorem mV(p:Nat)(E:Int)(ys:By)(n:Int)(W:World)(hP:RdL D W.heap p E ys)(hb:ys.length≤1099511627776) :
 CA 67 [pT p,iV n] W (RdP csL 171 D W p E ys n):=by
 have hP0:=hP;obtain⟨ao0,c0,hobj0,hv0,hap0⟩:=hP0;refine cS 48 [(0,_),(1,_)] Tryz.func67 ?_;refine Gz 5 ?_;refine TY (β:=Unit) (fun _u=>[(0,pT p),(1,iV n)]) (fun _u w=>RdL D w.heap p (cU E ys n) ys∧aA (· = p) W w) ?_ ?_
 ·refine fK 4 ?_ ?_<;>intro h8
  ·refine cA 8 DA (nW p E ys 1 W hP) ?_;rintro _ w1 ⟨hP1,hF1⟩;refine Gz 2 ?_;refine aC () ?_;exact⟨by rw[Ln h8];exact hP1,hF1⟩
  refine fK 12 ?_ ?_<;>intro h20
  ·refine cA 8 DA (nW p E ys 2 W hP) ?_;rintro _ w1 ⟨hP1,hF1⟩;refine Gz 2 ?_;refine aC () ?_;exact⟨by rw[nC h8 h20];exact hP1,hF1⟩
  refine Gz 6 ?_;refine aC () ?_;exact⟨by rw[dG h8 h20];exact hP,Wt _ _⟩
 rintro _ w2 ⟨hP2,hF2⟩;obtain⟨ao,c,hobj,hv,hap⟩:=hP2;have hlt:=(RdO.lt hP)
 refine fK 8 ?_ ?_<;>intro h30
 ·refine Gz 11 ?_;have hbad:cU E ys n≠0:=h30;obtain⟨e1,e2⟩:=yF hbad;exact⟨_,rfl,none,0,by rw[e1];rfl,by rw[e1];exact WA,Wy,by rw[e2];exact⟨ao,c,hobj,hv,hap⟩,hF2⟩
 refine Gz 10 ?_;obtain⟨z0,z1,z2⟩:=mL (show cU E ys n=0 by omega);have hvc:=hv.le;refine Gz 2 ?_;refine cL (TP aK rfl rfl (by omega)) ?_;have hvt:=hv.take n.toNat;have htl:(ys.take n.toNat).length=n.toNat:=by rw[length_take];omega
 refine Ts Fg rfl (by rw[aU,←htl];exact iM ao c (ys.take n.toNat) w2 hvt (by omega)) rfl ?_;rintro _ w3 ⟨ao3,c3,rfl,ho3,hfr3,hf3⟩;refine Gz 9 ?_;refine cL (Tu aT rfl (aE (hf3.obj hobj id) rfl)) ?_;refine Gz 1 ?_;refine cL (T4 aK rfl rfl (by omega)) ?_;refine Gz 2 ?_;refine Tx aT rfl rfl rfl (hf3.obj hobj id) rfl ?_;intro w4 hg4 hs4 hf4;refine Gz 10 ?_;obtain⟨e1,e2⟩:=cM (show cU E ys n=0 by omega);have hs2:=hF2.size;have hlt2:p<w2.heap.size:=by omega
 refine⟨_,rfl,ao3,c3,by rw[e1],by rw[e1];exact ho3.WS hf4 (fun a ha h=>by have:=hfr3 a ha;have h2:a.block=p:=h;omega),hfr3.mono hs2,?_,(hF2.trans (hf3.mono (fun _ h=>h.elim))).trans hf4⟩;rw[e2];refine⟨_,_,by rw[length_drop];exact hg4,?_,AY hap (by rw[length_drop];omega)⟩;exact Kx (sJ (hv.WR hf3) z1 z2) hf4 (fun hn a ha h=>((AY (n2:=(ys.drop n.toNat).length) hap (by rw[length_drop];omega)).2 hn).1 ⟨a,ha,h⟩)
def To(cs:Int→Value→List Value)(T:TypeId)(D:Nat→Prop)(W:World)(p:Nat)(E:Int)(ys:By)(n:Int):Value→World→Prop:=fun v w'=>
 v=iV (bT (eG (cX E n) ys n))∧RdO cs T D w'.heap p (cU (cX E n) ys n) (oQ (cX E n) ys n)∧aA (· = p) W w'
theorem C7(E:Int)(ys:By)(n:Int):(eG (cX E n) ys n).length≤4:=by
 have h1:=yE (cX E n) ys n;by_cases h:cU (cX E n) ys n=0
 · have h2:=(mL h).1
   unfold cX at h2
   split at h2
   ·omega
   · split at h2
     ·cases h2
     ·omega
 ·rw[(yF h).1];simp
theorem HI{i:Nat}(h:i<4):2 ^ (8*i)≤16777216:=Nat.le_trans (Nat.pow_le_pow_right (by decide) (show 8*i≤24 by omega)) (by decide)
theorem Hb(c:UInt8){i:Nat}(h:i<4):(c.toNat:Int)*2 ^ (8*(i:Int)).toNat=((c.toNat*2 ^ (8*i):Nat):Int)∧c.toNat*2 ^ (8*i)<4294967296:=by
 refine⟨by rw[show (8*(i:Int)).toNat=8*i by omega];simp,?_⟩;have h1:=c.toNat_lt;have h2:=HI h;have:=Nat.mul_le_mul (show c.toNat≤255 by omega) h2;omega
theorem mS{bs:By}(h:bs.length≤4):bT bs<4294967296:=
 Nat.lt_of_lt_of_le (oV bs) (Nat.le_trans (Nat.pow_le_pow_right (by decide) h) (by decide))
theorem fR(p:Nat)(E:Int)(ys:By)(n:Int)(W:World)(hP:RdL D W.heap p E ys)(hb:ys.length≤1099511627776) :
 CA 69 [pT p,iV n] W (To csL 171 D W p E ys n):=by
 have hbl:=C7 E ys n;refine cS 36 [(0,_),(1,_)] Tryz.func69 ?_;refine Gz 5 ?_;refine TY (β:=Unit) (fun _u=>[(0,pT p),(1,iV n)]) (fun _u w=>RdL D w.heap p (cX E n) ys∧aA (· = p) W w) ?_ ?_
 ·refine fK 3 ?_ ?_<;>intro h9
  ·refine cA 11 DA (nW p E ys 1 W hP) ?_;rintro _ w1 ⟨hP1,hF1⟩;refine Gz 1 ?_;refine aC () ?_;exact⟨by rw[show cX E n=if E=0 then 1 else E by unfold cX;by_cases hE:E=0;rw[if_neg (by omega),if_pos (by omega),if_pos hE];rw[if_pos hE,if_neg hE]];exact hP1,hF1⟩
  refine fW 2 ?_ ?_<;>intro h12
  ·refine cA 8 DA (nW p E ys 1 W hP) ?_;rintro _ w1 ⟨hP1,hF1⟩;refine Gz 1 ?_;refine aC () ?_;exact⟨by rw[show cX E n=if E=0 then 1 else E by unfold cX;by_cases hE:E=0;rw[if_neg (by omega),if_pos (by omega),if_pos hE];rw[if_pos hE,if_neg hE]];exact hP1,hF1⟩
  refine Gz 5 ?_;refine aC () ?_;exact⟨by rw[show cX E n=E by rw[C6,if_neg (by omega)]];exact hP,Wt _ _⟩
 rintro _ w2 ⟨hP2,hF2⟩;refine Gz 10 ?_;refine Ts Ff rfl (mV p _ ys n w2 hP2 hb) rfl ?_;rintro _ w3 ⟨ao3,c3,rfl,ho3,hfr3,hP3,hF3⟩;obtain⟨bs3,hbs⟩:∃ l,l=eG (cX E n) ys n:=⟨_,rfl⟩
 rw[←hbs] at ho3 hbl ⊢;refine Gz 5 ?_;refine TA (β:=Nat) (fun k=>[(5,iV (bT (bs3.take k))),(20,.slice ao3 bs3.length c3),(21,iV bs3.length),(22,iV k)]) (fun k w=>k≤bs3.length∧w=w3) (fun k=>bs3.length-k) 0 ⟨rfl,rfl,rfl,rfl,trivial⟩ ⟨Nat.zero_le _,rfl⟩ ?_;rintro k w4 ⟨hk,hw4⟩;subst hw4;refine fK 2 ?_ ?_<;>intro h23
 ·refine Gz 11 ?_;refine cL (Tt aK rfl rfl ho3.vw.non (by omega)) ?_;refine cL (Tu gW rfl (ho3.vw.gz 0 k rfl (by omega))) ?_;refine Gz 7 ?_;refine cL (TD (n:=((bs3.getD k 0).toNat:Int)) is5 ty3 rfl (bG (by have:=(bs3.getD k 0).toNat_lt;omega))) ?_;refine Gz 1 ?_;refine cL (Ue rfl rfl (by omega)) ?_;obtain⟨s1,s2⟩:=Hb (bs3.getD k 0) (i:=k) (by omega);refine cL (Tw (u:=iV (((bs3.getD k 0).toNat*2 ^ (8*k):Nat):Int)) (Ve rfl rfl (by omega) (by rw[s1];omega)) (by rw[s1])) ?_;refine cL (VP rfl rfl (by have:=mS (bs:=bs3.take k) (by rw[length_take];omega);omega) (by omega)) ?_;refine Gz 8 ?_;refine TO (k+1) ⟨by rw[GY bs3 k (by omega)];rfl,rfl,rfl,rfl,trivial⟩ ⟨by omega,rfl⟩ (by show bs3.length-(k+1)<bs3.length-k;omega)
 refine Gz 17 ?_;rw[take_of_length_le (by omega)];exact⟨_,rfl,by rw[hbs],hP3,hF2.trans hF3⟩
def tE(E:Int)(ys:By):Int:=cU (cX E 1) ys 1
def tR(E:Int)(ys:By):By:=oQ (cX E 1) ys 1
def tN(E:Int)(ys:By):Int:=bT (eG (cX E 1) ys 1)
def Tn(cs:Int→Value→List Value)(T:TypeId)(D:Nat→Prop)(W:World)(p:Nat)(E:Int)(ys:By):Value→World→Prop:=fun v w'=>
 v=.string (bs (eG (tE E ys) (tR E ys) (tN E ys)))∧RdO cs T D w'.heap p (cU (tE E ys) (tR E ys) (tN E ys)) (oQ (tE E ys) (tR E ys) (tN E ys))∧aA (· = p) W w'
theorem I1(E:Int)(ys:By):(tR E ys).length≤ys.length:=fC _ _ _
theorem An(p:Nat)(E:Int)(ys:By)(W:World)(hP:RdL D W.heap p E ys)(hb:ys.length≤1099511627776) :
 CA 143 [pT p] W (Tn csL 171 D W p E ys):=by
 have hl:=I1 E ys;refine cS 8 [(0,_)] Tryz.func143 ?_;refine cA 9 xT (fR p E ys 1 W hP hb) ?_;rintro _ w1 ⟨rfl,hP1,hF1⟩;refine Ts Ff rfl (mV p (tE E ys) (tR E ys) (tN E ys) w1 hP1 (by omega)) rfl ?_;rintro _ w2 ⟨ao2,c2,rfl,ho2,hfr2,hP2,hF2⟩;refine cL (Ui aK ty5 ty9 rfl ho2.vw) ?_;refine Gz 5 ?_;exact⟨_,rfl,rfl,hP2,hF1.trans hF2⟩
def Ij(E:Int)(ys:By):Int:=if E≠0 then E else if 0<ys.length then 2 else 0
theorem Lg{E:Int}{ys:By}(h:0<ys.length):Ij E ys=if E=0 then 2 else E:=by
 unfold Ij;by_cases hE:E=0<;>simp[hE,h]
theorem Lh{E:Int}{ys:By}(h:¬ 0<ys.length):Ij E ys=E:=by
 unfold Ij;by_cases hE:E=0<;>simp[hE,h]
theorem JK(p:Nat)(E:Int)(ys:By)(W:World)(hP:RdL D W.heap p E ys) :
 CA 163 [pT p] W fun v w'=>v=iV (Ij E ys)∧aA (· = p) W w':=by
 have hP0:=hP;obtain⟨ao,c,hobj,hv,hap⟩:=hP0;refine cS 18 [(0,_)] Tryz.func163 ?_;refine fK 13 ?_ ?_<;>intro h8
 ·refine cA 7 DA (nW p E ys 2 W hP) ?_;rintro _ w1 ⟨hP1,hF1⟩;refine Gz 8 ?_;obtain⟨ao1,c1,hobj1,hv1,hap1⟩:=hP1;refine Gz 6 ?_;exact⟨_,rfl,by rw[Lg (by omega)],hF1⟩
 refine Gz 17 ?_;exact⟨_,rfl,by rw[Lh (by omega)],Wt _ _⟩
theorem oA(ao:Option Addr)(c:Nat)(ys:By)(W:World)(hv:Vw b8 W.heap ao c ys)(hb:ys.length≤140737488355328) :
 CA 66 [.slice ao ys.length c] W fun v w'=>∃ p,v=pT p∧W.heap.size≤p∧RdL (fun k=>W.heap.size≤k∧k<w'.heap.size) w'.heap p 0 ys∧aA nob W w':=by
 refine cS 7 [(0,_)] Tryz.func66 ?_;refine cA 8 Fg (iM ao c ys W hv hb) ?_;rintro _ w1 ⟨ao1,c1,rfl,ho1,hfr1,hf1⟩;refine cL (TT (cs:=#[iV 0,.slice ao1 ys.length c1]) OE Pq rfl (by kernel_rfl)) ?_;refine T1 rfl rfl ?_;intro w2 hg2 hs2 hf2;refine Gz 5 ?_;have z1:=hf1.size;exact⟨_,rfl,_,rfl,hf1.size,⟨ao1,c1,hg2,(ho1.WR hf2).vw,⟨by omega,by omega⟩,fun _=>⟨fun⟨a,ha,hb⟩=>by have h3:=ho1.lt a ha;have h4:a.block=w1.heap.size:=hb;omega,fun k ⟨a,ha,hb⟩=>by have h3:=ho1.lt a ha;have h4:=hfr1 a ha;omega⟩⟩,hf1.trans hf2⟩
end
def hdN(n:Nat):List Nat:=[n%256,n/256%256,255 ^^^ ((n%256) ^^^ (n/256%256))]
def hdB(n:Nat):By:=(hdN n).map UInt8.ofNat
theorem jU(n:Nat):(hdB n).length=3:=rfl
theorem OZ{n x:Nat}(h:x∈hdN n):x<256:=by
 simp only[hdN,mem_cons,not_mem_nil,or_false] at h;rcases h with rfl|rfl|rfl
 ·omega
 ·omega
 ·exact oU (by decide) (oU (by omega) (by omega))
def frS(x:By)(mark:Nat):By:=hdB (x.length+mark)++(if x.length=0 then [] else le (dW x:Nat) 4++x)
def cF(b:By):By×Int:=
 if 128<b.length then ([],3) else if b.length=0 then (frS [] 0,0) else if (pkS b).length<b.length then (frS (pkS b) 0,0) else (frS b 32768,0)
def jW(r:By):Option (By×Nat×Bool):=
 if r.length<3 then none else
 if r.take 3≠hdB ((r.getD 0 0).toNat+256*(r.getD 1 0).toNat) then none else
 if 128<((r.getD 0 0).toNat+256*(r.getD 1 0).toNat)%32768∨(((r.getD 0 0).toNat+256*(r.getD 1 0).toNat)%32768=0∧32768≤(r.getD 0 0).toNat+256*(r.getD 1 0).toNat) then none else
 if ((r.getD 0 0).toNat+256*(r.getD 1 0).toNat)%32768=0 then some ([],0,false) else
 if r.length<7+((r.getD 0 0).toNat+256*(r.getD 1 0).toNat)%32768 then none else
 some ((r.drop 7).take (((r.getD 0 0).toNat+256*(r.getD 1 0).toNat)%32768),bT ((r.drop 3).take 4),decide (32768≤(r.getD 0 0).toNat+256*(r.getD 1 0).toNat))
def dE(im:By)(a:Int):Option (By×Nat×Bool):=if a<0∨(im.length:Int)<a then none else jW (im.drop a.toNat)
def eF(x:By):Nat:=if x.length=0 then 3 else 7+x.length
def cE(c:Option (By×Nat×Bool)):By×Nat×Int:=match c with
|none=>([],0,2)
|some (x,s,st)=>if x.length=0 then ([],3,0) else if dW x≠s then ([],0,2) else if st then (x,eF x,0) else
   if (up 128 x []).2≠0∨(up 128 x []).1.length=0 then ([],0,2) else ((up 128 x []).1,eF x,0)
def bB(im:By)(a:Int):By×Int×Int:=((cE (dE im a)).1,if (cE (dE im a)).2.2=0 then a+(cE (dE im a)).2.1 else 0,(cE (dE im a)).2.2)
def dH(im:By)(a:Int):Int×Int:=match dE im a with
|none=>(0,2)
|some (x,_,_)=>(a+eF x,0)
theorem JZ{b:By}(h:0<b.length):0<(pkS b).length:=by
 apply byContradiction;intro hn;have e:pkS b=[]:=eq_nil_of_length_eq_zero (by omega);have:=Cc b;rw[e] at this;unfold upS at this;rw[if_neg (by omega),qA] at this;simp only[Prod.mk.injEq,and_true] at this;rw[←this] at h;cases h
theorem pD(x:By)(mark:Nat):(frS x mark).length=eF x:=by
 unfold frS eF;rw[length_append,jU]
 split
 ·rfl
 ·rw[length_append,aR];omega
theorem M3(n:Nat):((hdB n).getD 0 0).toNat=n%256:=by simp[hdB,hdN]
theorem M2(n:Nat):((hdB n).getD 1 0).toNat=n/256%256:=by simp[hdB,hdN]
theorem tY(x rest:By)(mark:Nat)(hx:x.length≤128)(hm:mark=0∨mark=32768∧0<x.length):jW (frS x mark++rest)=some (x,if x.length=0 then 0 else dW x,decide (mark=32768)):=by
 have hlen:=pD x mark;have e0:((frS x mark++rest).getD 0 0).toNat+256*((frS x mark++rest).getD 1 0).toNat=x.length+mark:=by
  have h0:(frS x mark++rest).getD 0 0=(hdB (x.length+mark)).getD 0 0:=rfl;have h1:(frS x mark++rest).getD 1 0=(hdB (x.length+mark)).getD 1 0:=rfl;rw[h0,h1,M3,M2];omega
 have e3:(frS x mark++rest).take 3=hdB (x.length+mark):=rfl;unfold jW;rw[e0,e3,if_neg (by rw[length_append,hlen];unfold eF;split<;>omega),if_neg (fun h=>h rfl)];have hmod:(x.length+mark)%32768=x.length:=by omega
 rw[hmod];by_cases h0:x.length=0
 · have hx0:x=[]:=eq_nil_of_length_eq_zero h0
   rw[if_neg (by omega),if_pos h0,if_pos h0,hx0];have:¬ mark=32768:=by omega
   rw[decide_eq_false this]
 · rw[if_neg (by omega),if_neg h0,if_neg h0,if_neg (by rw[length_append,hlen];unfold eF;rw[if_neg h0];omega)]
   have hf:frS x mark++rest=hdB (x.length+mark)++(le (dW x:Nat) 4++(x++rest)):=by unfold frS;rw[if_neg h0];simp
   have d3:(frS x mark++rest).drop 3=le (dW x:Nat) 4++(x++rest):=by rw[hf,drop_left' (jU _)]
   have d7:(frS x mark++rest).drop 7=x++rest:=by rw[show 7=3+4 from rfl,←drop_drop,d3,drop_left' (aR _ _)]
   rw[d3,d7,take_left' rfl,take_left' (aR _ _)];have hs:=qW x;have hv:=oX 4 (dW x:Nat) (by omega) (by omega);rw[show bT (le ((dW x:Nat):Int) 4)=dW x by omega];have hd:decide (32768≤x.length+mark)=decide (mark=32768):=by
    by_cases hm2:mark=32768
    ·rw[decide_eq_true hm2,decide_eq_true (by omega)]
    ·rw[decide_eq_false hm2,decide_eq_false (by omega)]
   rw[hd]
theorem Eg{b:By}(h:b.length≤128)(rest:By):cE (jW ((cF b).1++rest))=(b,(cF b).1.length,0)∧(cF b).2=0∧(cF b).1.length=eF (match jW ((cF b).1++rest) with|none=>[]|some (x,_,_)=>x):=by
 unfold cF;rw[if_neg (by omega)];by_cases h0:b.length=0
 · have hb:b=[]:=eq_nil_of_length_eq_zero h0
   rw[if_pos h0];simp only;rw[tY [] rest 0 (by simp) (.inl rfl),hb];exact⟨rfl,trivial,rfl⟩
 · rw[if_neg h0]
   by_cases hp:(pkS b).length<b.length
   · rw[if_pos hp]
     have hp0:=JZ (b:=b) (by omega);simp only;rw[tY (pkS b) rest 0 (by omega) (.inl rfl),pD];have hu:=(WH b).yes [] [] 128 (by simp;omega);simp only[nil_append,List.append_nil,qA] at hu;refine⟨?_,trivial,rfl⟩;unfold cE;simp only;rw[if_neg (by omega),if_neg (show ¬ (pkS b).length=0 by omega),if_neg (fun hh=>hh rfl),if_neg (by simp),hu,if_neg (by rintro(hh|hh);exact hh rfl;exact h0 hh)]
   · rw[if_neg hp]
     simp only;rw[tY b rest 32768 h (.inr ⟨rfl,by omega⟩),pD];refine⟨?_,trivial,rfl⟩;unfold cE;simp only;rw[if_neg h0,if_neg h0,if_neg (fun hh=>hh rfl),if_pos (by simp)]
theorem fS{b:By}(h:b.length≤128):(cF b).1.length≤b.length+7∧3≤(cF b).1.length:=by
 unfold cF;rw[if_neg (by omega)]
 split
 ·simp only[pD,eF];simp
 · split
   ·simp only[pD,eF];split<;>omega
   ·simp only[pD,eF];split<;>omega
theorem Nu{b:By}{a o k:Nat}(h:((b.getD (a+k) 0).toNat:Int)=((b.getD (o+k) 0).toNat:Int)):b.getD (a+k) 0=b.getD (o+k) 0:=UInt8.toNat_inj.1 (by omega)
theorem Jw(ao:Option Addr)(cap:Nat)(b:By)(a bk:Nat)(W:World)(hv:Vw b8 W.heap ao cap b)(h1:a≤b.length)(h2:1≤bk)(h3:bk≤a)(hb:b.length≤1073741824) :
 CA 157 [.slice ao b.length cap,iV a,iV bk] W fun v w'=>v=iV (lik b a (a-bk))∧∃ n,w'=W.drewN n:=by
 refine cS 38 [(0,_),(1,_),(2,_)] Tryz.func157 ?_;refine Gz 12 ?_;refine TA (β:=Nat) (fun k=>[(0,.slice ao b.length cap),(1,iV a),(2,iV bk),(7,iV k)]) (fun k w=>k≤130∧a+k≤b.length∧(∀ i,i<k→CL b a (a-bk) i)∧∃ n,w=W.drewN n) (fun k=>131-k) 0 ⟨rfl,rfl,rfl,rfl,trivial⟩ ⟨by omega,by omega,fun i hi=>by omega,0,rfl⟩ ?_;rintro k _ ⟨hk,hk2,hk3,n,rfl⟩;refine Gz 2 ?_;refine TN 27 [0,1,2,3,4,5,6,7,8,9,10,11,12,13,14,15,16,17,18,19,20,21,22,23,24,25,26] aL (by kernel_rfl) ?_;refine xK 1 ?_ ?_<;>intro h9
 ·refine xW 6 ?_ ?_<;>intro h16
  ·refine Gz 6 ?_;refine xV rfl (Tt aK rfl rfl hv.non (by omega)) ?_;refine xV rfl (Tu gW rfl (hv.gz 0 (a+k) (by omega) (by omega))) ?_;refine Gz 6 ?_;refine xV rfl (Tt aK rfl rfl hv.non (by omega)) ?_;refine xV rfl (Tu gW rfl (hv.gz 0 (a-bk+k) (by omega) (by omega))) ?_;refine xW 0 ?_ ?_<;>intro h33
   ·refine Gz 13 ?_;refine aG (k+1) ⟨by omega,by omega,fun i hi=>?_,n+1,rfl⟩ (by show 131-(k+1)<131-k;omega);by_cases hik:i=k
    ·subst hik;exact⟨by omega,by omega,Nu h33⟩
    ·exact hk3 i (by omega)
   refine Gz 17 ?_;have e:k=lik b a (a-bk):=EV hk3 (fun hc=>by
    obtain⟨c1,c2,c3⟩:=hc;exact h33 (by rw[c3]))
   exact⟨_,rfl,by rw[e],n+1,rfl⟩
  refine Gz 34 ?_;have e:k=lik b a (a-bk):=EV hk3 (fun hc=>by
   obtain⟨c1,c2,c3⟩:=hc;omega)
  exact⟨_,rfl,by rw[e],n+1,rfl⟩
 refine Gz 41 ?_;have e:k=lik b a (a-bk):=EV hk3 (fun hc=>by
  obtain⟨c1,c2,c3⟩:=hc;omega)
 exact⟨_,rfl,by rw[e],n+1,rfl⟩
def RnP(W:World)(o:Option Addr)(xs:By):Value→World→Prop:=fun v w'=>∃ o' c',v=.slice o' xs.length c'∧Own b8 5 w'.heap o' c' xs∧aA (blk o) W w'∧∀ a,o'=some a→o=some a∨W.heap.size≤a.block
theorem Gm{w w':World}{o ao:Option Addr}{c:Nat}{l:By}(hv:Vw b8 w.heap ao c l)(f:aA (blk o) w w')(h:∀ k,blk o k→¬ blk ao k):Vw b8 w'.heap ao c l:=hv.WS f (fun a ha hb=>h _ hb ⟨a,ha,rfl⟩)
theorem NH{H:Array Obj}{ao:Option Addr}{c:Nat}{l:By}(hv:Vw b8 H ao c l)(h:0<l.length):∀ k,blk ao k→k<H.size:=fun k ⟨a,ha,hk⟩=>hk ▸ hv.lt (length_pos_iff.1 h) a ha
theorem MJ{n:Nat}(h:0<n):IntKind.u8.wrap (((min n 128:Nat):Int)-1)=((UInt8.ofNat (min n 128-1)).toNat:Int):=by
 rw[vR (by omega)];congr 3;omega
theorem CG(o:Option Addr)(co:Nat)(xs:By)(ao:Option Addr)(c:Nat)(l:By)(W:World)(ho:Own b8 5 W.heap o co xs)(hv:Vw b8 W.heap ao c l)(hap:0<l.length→∀ k,blk o k→¬ blk ao k)(hb:xs.length+2*l.length≤1099511627776) :
 CA 134 [.slice o xs.length co,.slice ao l.length c] W (RnP W o (rn xs l)):=by
 refine cS 26 [(0,_),(1,_)] Tryz.func134 ?_;refine Gz 7 ?_;refine TA (β:=(By×Option Addr×Nat)×(By×Option Addr×Nat)) (fun⟨⟨ys,o1,c1⟩,⟨r,a1,c2⟩⟩=>[(0,.slice o1 ys.length c1),(1,.slice a1 r.length c2)]) (fun⟨⟨ys,o1,c1⟩,⟨r,a1,c2⟩⟩ w=>rn ys r=rn xs l∧Own b8 5 w.heap o1 c1 ys∧Vw b8 w.heap a1 c2 r∧(0<l.length→∀ k,blk o1 k→¬ blk ao k)∧r.length≤l.length∧(∀ k,blk a1 k→blk ao k)∧aA (blk o) W w∧(∀ a,o1=some a→o=some a∨W.heap.size≤a.block)∧ys.length+2*r.length≤1099511627776) (fun⟨⟨ys,o1,c1⟩,⟨r,a1,c2⟩⟩=>r.length) ⟨⟨xs,o,co⟩,⟨l,ao,c⟩⟩ ⟨rfl,rfl,trivial⟩ ⟨rfl,ho,hv,hap,Nat.le_refl _,fun _ h=>h,Wt _ _,fun a ha=>.inl ha,hb⟩ ?_;rintro⟨⟨ys,o1,c1⟩,⟨r,a1,c2⟩⟩ w1 ⟨hrn,ho1,hv1,hapc,hrl,hsub,hF1,hr1,hb1⟩;have hle:=hv1.le;refine fK 5 ?_ ?_<;>intro h8
 ·have hl0:0<l.length:=by omega
  have hap1:=hapc hl0;have hlt:=NH hv hl0;refine Gz 10 ?_;refine cL (Tw (u:=iV ((min r.length 128:Nat):Int)) (Ux rfl rfl) (by congr 1;split<;>omega)) ?_;refine Gz 4 ?_;refine TG 11 (fun _=>True) [4,5,9] [0,1,2,3,6,7,8,4,5,9,10] aL (by kernel_rfl) (trivial) ?_;refine Gz 3 ?_;refine xC rfl (TD (n:=((UInt8.ofNat (min r.length 128-1)).toNat:Int)) is3 ty5 rfl (MJ (by omega))) ?_;refine Gz 2 ?_;refine xC rfl (TP aK rfl rfl (by omega)) ?_;refine Ty rfl rfl (T3 (enc:=b8) (u:=UInt8.ofNat (min r.length 128-1)) aK rfl rfl rfl ?_);intro w2 ho2 hs2 hf2;refine TE (by exact trivial) ?_;have hv2:=hv1.WR hf2.WP;have ho12:=ho1.WR hf2.WP;refine Ty rfl rfl (TB aV aK rfl rfl ho12 ho2.vw (by simp;omega) (by simp;unfold maxLen;omega) rfl ?_);intro a3 c3 w3 ho3 hf3 hr3 hn3;refine TE (by exact trivial) ?_;have hf2:=hf2.WP;have hs2:=hf2.size;have hz1:=hF1.size;have hv3:=Gm hv2 hf3 (fun k hk hk2=>hap1 k hk (hsub k hk2));refine Ty rfl rfl (TB aV aK (ys:=r.take (min r.length 128)) rfl (by show some (Value.slice (aP a1 c2 0 1) (min r.length 128) c2)=_;rw[aU,length_take,show min (min r.length 128) r.length=min r.length 128 by omega]) ho3 (hv3.take _) (by simp only[length_append,length_take,length_singleton];omega) (by simp only[length_append,length_take,length_singleton];unfold maxLen;omega) rfl ?_);intro a5 c5 w5 ho5 hf5 hr5a hn5;refine TE (by exact trivial) ?_;have hz3:=hf3.size;have hb3:∀ k,blk a3 k→¬ blk ao k:=fun k ⟨a,ha,hk⟩ hk2=>by rcases hr3 a ha with h|h;exact hap1 k ⟨a,h,hk⟩ hk2;have:=hlt k hk2;omega
  have hv5:=Gm hv3 hf5 (fun k hk hk2=>hb3 k hk (hsub k hk2));have hnew:∀ k,blk a5 k→¬ blk ao k:=fun k ⟨a,ha,hk⟩ hk2=>by rcases hr5a a ha with h|h;exact hb3 k ⟨a,h,hk⟩ hk2;have:=hlt k hk2;omega
  have hto3:∀ k,blk o1 k→blk o k∨W.heap.size≤k:=fun k ⟨a,ha,hk⟩=>by rcases hr1 a ha with h|h;exact .inl ⟨a,h,hk⟩;exact .inr (by omega)
  have hF3:aA (blk o) W w3:=(hF1.trans hf2.any).WO hf3 hto3;have hto5:∀ k,blk a3 k→blk o k∨W.heap.size≤k:=fun k ⟨a,ha,hk⟩=>by rcases hr3 a ha with h|h;exact hto3 k ⟨a,h,hk⟩;exact .inr (by omega)
  have hF5:aA (blk o) W w5:=hF3.WO hf5 hto5;have hr5:∀ a,a5=some a→o=some a∨W.heap.size≤a.block:=fun a ha=>by rcases hr5a a ha with h|h;rcases hr3 a h with h2|h2;exact hr1 a h2;exact .inr (by omega);exact .inr (by omega)
  refine Gz 6 ?_;refine cL (T4 aK rfl rfl (by omega)) ?_;refine Gz 3 ?_;have hm:(r.take (min r.length 128)).length=min r.length 128:=by rw[length_take];omega
  have hrs:=Bn (out:=ys) (l:=r) (by omega);refine TO ⟨⟨ys++[UInt8.ofNat (min r.length 128-1)]++r.take (min r.length 128),a5,c5⟩,⟨r.drop (min r.length 128),aP a1 c2 (min r.length 128) 1,c2-min r.length 128⟩⟩ ⟨rfl,?_,trivial⟩ ?_ (by show (r.drop (min r.length 128)).length<r.length;rw[length_drop];omega)
  · show some (Value.slice (aP a1 c2 (min r.length 128) 1) _ _)=some (Value.slice _ _ _)
    rw[length_drop];rfl
  · refine⟨?_,ho5,?_,?_,by rw[length_drop];omega,fun k hk=>hsub k (vM hk),?_,?_,?_⟩
    ·rw[←hrn,hrs];simp
    ·have:=hv5.cut (l:=min r.length 128) (h:=r.length) (m:=c2) (by omega) (Nat.le_refl _) hle (Nat.le_refl _);rwa[take_of_length_le (by simp)] at this
    ·intro _ k hk hk2;exact hnew k hk hk2
    ·exact hF5
    ·exact hr5
    ·simp only[length_append,length_take,length_drop,length_singleton];omega
 refine Gz 16 ?_;have hr0:r=[]:=eq_nil_of_length_eq_zero (by omega);subst hr0;rw[EB] at hrn;rw[←hrn];exact⟨_,rfl,o1,c1,rfl,ho1,hF1,hr1⟩
theorem GQ{r:By}(h:0<r.length):r=r.getD 0 0::r.drop 1:=by
 cases r with
|nil=>cases h
|cons t r=>rfl
theorem Oj{r:By}(h:1<r.length):r=r.getD 0 0::r.getD 1 0::r.drop 2:=by
 match r,h with
|t::c::r,_=>rfl
theorem B9{most:Int}{r out:By}{t:Nat}(h0:0<r.length)(ht:t=(r.getD 0 0).toNat)(h:t<128) :
 up most r out=if r.length<t+2 then ([],2) else if most-out.length<t+1 then ([],3) else up most (r.drop (t+2)) (out++(r.drop 1).take (t+1)):=by
 conv=>lhs;rw[GQ (r:=r) h0]
 rw[Ba (by omega),←ht,length_drop,drop_drop];congr 1
 ·simp;omega
 ·rw[show 1+(t+1)=t+2 by omega]
theorem Ca{most:Int}{r out:By}{t c:Nat}(h0:0<r.length)(ht:t=(r.getD 0 0).toNat)(hc:c=(r.getD 1 0).toNat)(h:¬ t<128) :
 up most r out=if r.length<2 then ([],2) else if out.length<c+1 then ([],2) else if most-out.length<(t:Int)-125 then ([],3) else up most (r.drop 2) (cp out (c+1) (t-125)):=by
 by_cases h2:r.length<2
 · rw[if_pos h2]
   have e:=GQ h0;have e2:r.drop 1=[]:=eq_nil_of_length_eq_zero (by rw[length_drop];omega);rw[e2] at e;rw[e,Cb (by omega)]
 · rw[if_neg h2]
   conv=>lhs;rw[Oj (r:=r) (by omega)]
   rw[Bb (by omega),←ht,←hc]
theorem GZ(ao:Option Addr)(cap:Nat)(b:By)(most:Int)(W:World)(hv:Vw b8 W.heap ao cap b)(hb:b.length≤1073741824)(hm:most≤9223372036854775807) :
 CA 146 [.slice ao b.length cap,iV most] W (zH W (upS b most)):=by
 refine cS 87 [(0,_),(1,_)] Tryz.func146 ?_;refine fK 10 ?_ ?_<;>intro h13
 ·have e:upS b most=([],1):=by unfold upS;rw[if_pos h13]
  refine Gz 12 ?_
  (rw[e];exact⟨_,rfl,none,0,rfl,WA,Wy,Wt _ _⟩)
 have e:upS b most=up most b []:=by unfold upS;rw[if_neg h13]
 refine Gz 12 ?_;refine TA (β:=(By×Option Addr×Nat)×(By×Option Addr×Nat)) (fun⟨⟨r,a1,c1⟩,⟨out,o1,c2⟩⟩=>[(0,.slice a1 r.length c1),(1,iV most),(6,.slice o1 out.length c2)]) (fun⟨⟨r,a1,c1⟩,⟨out,o1,c2⟩⟩ w=>up most r out=up most b []∧Vw b8 W.heap a1 c1 r∧Own b8 5 w.heap o1 c2 out∧Fr W.heap.size o1∧out.length+65*r.length≤65*b.length∧aA nob W w) (fun⟨⟨r,a1,c1⟩,⟨out,o1,c2⟩⟩=>r.length) ⟨⟨b,ao,cap⟩,⟨[],none,0⟩⟩ ⟨rfl,rfl,rfl,trivial⟩ ⟨rfl,hv,WA,Wy,by simp,Wt _ _⟩ ?_;rintro⟨⟨r,a1,c1⟩,⟨out,o1,c2⟩⟩ w1 ⟨hup,hvW,ho1,hfr1,hlen,hF1⟩;have hv1:=hvW.WR hF1;refine fK 5 ?_ ?_<;>intro h16
 ·refine Gz 1 ?_;refine aW [(0,_),(1,_),(6,_),(16,_)] ?_;refine Gz 8 ?_;refine cL (Tt aK rfl rfl hv1.non (by omega)) ?_;refine cL (Tu gW rfl (hv1.gz 0 0 rfl (by omega))) ?_;obtain⟨t,ht⟩:∃ t,t=(r.getD 0 0).toNat:=⟨_,rfl⟩
  have ht256:t<256:=by have:=(r.getD 0 0).toNat_lt;omega
  refine cL (TD (n:=(t:Int)) is5 ty3 rfl (by rw[←ht];exact bG (by omega))) ?_;refine Gz 6 ?_;refine cL (Tw (u:=.slice (aP a1 c1 1 1) (r.drop 1).length (c1-1)) (T4 aK rfl rfl (by omega)) (by rw[length_drop];rfl)) ?_;have hle:=hv1.le;have hv2W:Vw b8 W.heap (aP a1 c1 1 1) (c1-1) (r.drop 1):=by have:=hvW.cut (l:=1) (h:=r.length) (m:=c1) (by omega) (Nat.le_refl _) hle (Nat.le_refl _);rwa[take_of_length_le (by simp)] at this
  have hv2:=hv2W.WR hF1;have hd1:(r.drop 1).length=r.length-1:=length_drop ..;refine fK 17 ?_ ?_<;>intro h28
  ·have hgr:=Ca (most:=most) (out:=out) (by omega) ht (c:=(r.getD 1 0).toNat) rfl (by omega);refine fK 16 ?_ ?_<;>intro h34
   ·have e2:up most r out=([],2):=by rw[hgr,if_pos (by omega)]
    refine Gz 29 ?_
    (rw[e,←hup,e2];exact⟨_,rfl,none,0,rfl,WA,Wy,hF1⟩)
   refine Gz 2 ?_;refine cW (Ug (UI rfl rfl) (by omega)) ?_;refine Gz 2 ?_;refine cW (Tt aK rfl rfl hv2.non (by omega)) ?_;obtain⟨c,hc⟩:∃ c,c=(r.getD 1 0).toNat:=⟨_,rfl⟩
   have hc256:c<256:=by have:=(r.getD 1 0).toNat_lt;omega
   have hcd:(r.drop 1).getD 0 0=r.getD 1 0:=by simp[List.getD]
   rw[←hc] at hgr;refine cW (Tu gW rfl (hv2.gz 0 0 rfl (by omega))) ?_;refine cW (TD (n:=(c:Int)) is5 ty3 rfl (by rw[hcd,←hc];exact bG (by omega))) ?_;refine fW 2 ?_ ?_<;>intro h45
   ·have e2:up most r out=([],2):=by rw[hgr,if_neg (by omega),if_pos (by omega)]
    refine Gz 18 ?_
    (rw[e,←hup,e2];exact⟨_,rfl,none,0,rfl,WA,Wy,hF1⟩)
   refine fK 15 ?_ ?_<;>intro h53
   ·have e3:up most r out=([],3):=by rw[hgr,if_neg (by omega),if_neg (by omega),if_pos (by omega)]
    refine Gz 16 ?_
    (rw[e,←hup,e3];exact⟨_,rfl,none,0,rfl,WA,Wy,hF1⟩)
   have e4:up most r out=up most (r.drop 2) (cp out (c+1) (t-125)):=by rw[hgr,if_neg (by omega),if_neg (by omega),if_neg (by omega)]
   refine Gz 9 ?_;refine cL (Um (Ut rfl rfl) (by omega)) ?_;refine Gz 8 ?_;refine cL (Tt aK rfl rfl hv2.non (by omega)) ?_;refine cL (Tu gW rfl (hv2.gz 0 0 rfl (by omega))) ?_;refine cL (TD (n:=(c:Int)) is5 ty3 rfl (by rw[hcd,←hc];exact bG (by omega))) ?_;refine Gz 12 ?_;refine TA (β:=Nat×Option Addr×Nat) (fun⟨k,o2,c3⟩=>[(0,.slice (aP a1 c1 1 1) (r.drop 1).length (c1-1)),(1,iV most),(6,.slice o2 (cp out (c+1) k).length c3),(9,iV 1),(10,iV ((out.length:Int)-c-1)),(28,.bool true),(69,iV ((t:Int)-125)),(70,iV k)]) (fun⟨k,o2,c3⟩ w=>k≤t-125∧Own b8 5 w.heap o2 c3 (cp out (c+1) k)∧Fr W.heap.size o2∧aA nob W w) (fun⟨k,o2,c3⟩=>t-125-k) ⟨0,o1,c2⟩ ⟨rfl,rfl,rfl,rfl,rfl,rfl,rfl,rfl,trivial⟩ ⟨Nat.zero_le _,ho1,hfr1,hF1⟩ ?_;rintro⟨k,o2,c3⟩ w2 ⟨hk,ho2,hfr2,hF2⟩;refine fK 2 ?_ ?_<;>intro h71
   ·refine Gz 13 ?_;refine aW [(0,_),(1,_),(6,_),(9,_),(10,_),(11,_),(28,_),(69,_),(70,_),(71,_)] ?_;refine Gz 6 ?_;have hcl:=yG (c+1) k out;refine Gz 1 ?_;refine cL (Tt aK rfl rfl ho2.vw.non (by omega)) ?_;refine cL (Tu gW rfl (ho2.vw.gz 0 (out.length-(c+1)+k) (by omega) (by omega))) ?_;refine T3 (enc:=b8) (u:=(cp out (c+1) k).getD (out.length-(c+1)+k) 0) aK rfl rfl rfl ?_;intro w3 hol hsl hfl;refine TB aV aK rfl rfl (ho2.WR hfl) hol.vw (by simp only[length_singleton];omega) (by simp only[length_singleton];unfold maxLen;omega) rfl ?_;intro o4 c4 w4 ho4 hf4 hr4 hn4;have hz2:=hF2.size;have hF4:aA nob W w4:=(hF2.trans hfl).WO hf4 hfr2.step;have hfr4:Fr W.heap.size o4:=bK hfr2 hr4 (by omega);have hsn:cp out (c+1) k++[(cp out (c+1) k).getD (out.length-(c+1)+k) 0]=cp out (c+1) (k+1):=by rw[BR,hcl,show out.length+k-(c+1)=out.length-(c+1)+k by omega]
    rw[hsn] at ho4 ⊢;refine Gz 8 ?_;exact aG ⟨k+1,o4,c4⟩ ⟨by omega,ho4,hfr4,hF4⟩ (by show t-125-(k+1)<t-125-k;omega)
   refine Gz 12 ?_;refine cL (Tw (u:=.slice (aP (aP a1 c1 1 1) (c1-1) 1 1) (r.drop 2).length (c1-1-1)) (T4 aK rfl rfl (by omega)) (by rw[length_drop,length_drop,show r.length-1-(1:Int).toNat=r.length-2 by omega];rfl)) ?_;refine Gz 3 ?_;have hkk:k=t-125:=by omega
   have hcl:=yG (c+1) k out;have hv3:Vw b8 W.heap (aP (aP a1 c1 1 1) (c1-1) 1 1) (c1-1-1) (r.drop 2):=by have:=hv2W.cut (l:=1) (h:=(r.drop 1).length) (m:=c1-1) (by omega) (Nat.le_refl _) (by omega) (Nat.le_refl _);rwa[take_of_length_le (by rw[length_drop];exact Nat.le_refl _),drop_drop] at this
   refine aG ⟨⟨r.drop 2,aP (aP a1 c1 1 1) (c1-1) 1 1,c1-1-1⟩,⟨cp out (c+1) k,o2,c3⟩⟩ ⟨by rw[hkk,←e4];exact hup,hv3,ho2,hfr2,by rw[hcl,length_drop];omega,hF2⟩ (by show (r.drop 2).length<r.length;rw[length_drop];omega)
  have hsm:=B9 (most:=most) (out:=out) (by omega) ht (by omega);refine fK 11 ?_ ?_<;>intro h34
  ·have e2:up most r out=([],2):=by rw[hsm,if_pos (by omega)]
   refine Gz 29 ?_
   (rw[e,←hup,e2];exact⟨_,rfl,none,0,rfl,WA,Wy,hF1⟩)
  refine Gz 2 ?_;refine cW (Um (UI rfl rfl) (by omega)) ?_;refine fK 23 ?_ ?_<;>intro h53
  ·have e3:up most r out=([],3):=by rw[hsm,if_neg (by omega),if_pos (by omega)]
   refine Gz 16 ?_
   (rw[e,←hup,e3];exact⟨_,rfl,none,0,rfl,WA,Wy,hF1⟩)
  have e4:up most r out=up most (r.drop (t+2)) (out++(r.drop 1).take (t+1)):=by rw[hsm,if_neg (by omega),if_neg (by omega)]
  refine Gz 9 ?_;refine cL (Ug (Ut rfl rfl) (by omega)) ?_;refine Gz 7 ?_;refine cL (TP aK rfl rfl (by omega)) ?_;refine TB aV aK (ys:=(r.drop 1).take (t+1)) rfl (by show some (Value.slice (aP (aP a1 c1 1 1) (c1-1) 0 1) ((t:Int)+1).toNat (c1-1))=_;rw[aU,length_take,show ((t:Int)+1).toNat=min (t+1) (r.drop 1).length by omega]) ho1 (hv2.take _) (by rw[length_take];omega) (by rw[length_take];unfold maxLen;omega) rfl ?_;intro o3 c3 w3 ho3 hf3 hr3 hn3;have hz1:=hF1.size;have hF3:aA nob W w3:=hF1.WO hf3 hfr1.step;have hfr3:Fr W.heap.size o3:=bK hfr1 hr3 hz1;refine Gz 6 ?_;refine cL (Tw (u:=.slice (aP (aP a1 c1 1 1) (c1-1) (t+1) 1) (r.drop (t+2)).length (c1-1-(t+1))) (T4 aK rfl rfl (by omega)) (by rw[show ((t:Int)+1).toNat=t+1 by omega,length_drop,length_drop,show r.length-1-(t+1)=r.length-(t+2) by omega])) ?_;refine Gz 3 ?_;have hv3:Vw b8 W.heap (aP (aP a1 c1 1 1) (c1-1) (t+1) 1) (c1-1-(t+1)) (r.drop (t+2)):=by have:=hv2W.cut (l:=t+1) (h:=(r.drop 1).length) (m:=c1-1) (by omega) (Nat.le_refl _) (by omega) (Nat.le_refl _);rwa[take_of_length_le (by rw[length_drop];exact Nat.le_refl _),drop_drop,show 1+(t+1)=t+2 by omega] at this
  refine aG ⟨⟨r.drop (t+2),aP (aP a1 c1 1 1) (c1-1) (t+1) 1,c1-1-(t+1)⟩,⟨out++(r.drop 1).take (t+1),o3,c3⟩⟩ ⟨by rw[←e4];exact hup,hv3,ho3,hfr3,by rw[length_append,length_take,length_drop,length_drop];omega,hF3⟩ (by show (r.drop (t+2)).length<r.length;rw[length_drop];omega)
 refine Gz 1 ?_;refine aW [(0,_),(1,_),(6,_),(16,_)] ?_;refine Gz 16 ?_;have hr0:r=[]:=eq_nil_of_length_eq_zero (by omega);subst hr0;rw[qA] at hup;rw[e,←hup];exact⟨_,rfl,o1,c2,rfl,ho1,hfr1,hF1⟩
structure LK (P:Program)(t k e:TypeId)(z:Value):Prop where
 und:P.underlying t=some (.map k e)
 zero:(P.info? e).map (·.zero)=some (some z)
structure uC (P:Program)(k:TypeId){α:Type}(enc:α→Value):Prop where
 keyed:Go.Maps.Keyed P k
 reads:∀ a,∃ l,keyOf P k (enc a)=some l
 inj:∀ a b,enc a=enc b→a=b
section
variable {α:Type}{enc:α→Value}
def dR(enc:α→Value)(l:List (α×Value)):List MapEntry:=l.mapIdx fun i p=>⟨enc p.1,p.2,i⟩
def jG(enc:α→Value)(H:Array Obj)(g:Nat)(l:List (α×Value)):Prop:=H[g]?=some (.map (dR enc l).toArray l.length)∧(l.map (·.1)).Nodup
theorem BP{l:List (α×Value)}{j:Nat}{e:MapEntry}(h:(dR enc l)[j]?=some e):∃ p,l[j]?=some p∧e=⟨enc p.1,p.2,j⟩:=by
 unfold dR at h;rw[List.getElem?_mapIdx,Option.map_eq_some_iff] at h;obtain⟨p,hp,rfl⟩:=h;exact⟨p,hp,rfl⟩
theorem Le{l:List (α×Value)}{e:MapEntry}(h:e∈dR enc l):∃ p∈l,e.key=enc p.1∧e.val=p.2:=by
 obtain⟨j,hj⟩:=List.getElem?_of_mem h;obtain⟨p,hp,rfl⟩:=BP hj;exact⟨p,mem_of_getElem? hp,rfl,rfl⟩
theorem Nh{l:List (α×Value)}{p:α×Value}(h:p∈l):∃ e∈dR enc l,e.key=enc p.1∧e.val=p.2:=by
 obtain⟨j,hj⟩:=List.getElem?_of_mem h;have:(dR enc l)[j]?=some ⟨enc p.1,p.2,j⟩:=by unfold dR;rw[List.getElem?_mapIdx,hj];rfl
 exact⟨_,mem_of_getElem? this,rfl,rfl⟩
theorem Ii(l:List (α×Value))(p:α×Value):dR enc (l++[p])=dR enc l++[⟨enc p.1,p.2,l.length⟩]:=by
 simp[dR,List.mapIdx_append]
theorem Ld(l:List (α×Value))(j:Nat)(p:α×Value):dR enc (l.set j p)=(dR enc l).set j ⟨enc p.1,p.2,j⟩:=by
 simp[dR,List.mapIdx_set]
theorem Lf(l:List (α×Value)):(dR enc l).length=l.length:=by simp[dR]
variable [DecidableEq α]
def mI:List (α×Value)→α→Option Value
|[],_=>none
|p::r,a=>if p.1=a then some p.2 else mI r a
theorem AI{a:α}:∀ {l:List (α×Value)},(∀ p∈l,p.1≠a)→mI l a=none
|[],_=>rfl
|p::r,h=>by
   unfold mI;rw[if_neg (h p (by simp))];exact AI (fun q hq=>h q (by simp[hq]))
theorem AH{a:α}{v:Value}:∀ {l:List (α×Value)} {j:Nat},(l.map (·.1)).Nodup→l[j]?=some (a,v)→mI l a=some v
|[],j,_,h=>by simp at h
|p::r,0,_,h=>by
   simp at h;subst h;unfold mI;rw[if_pos rfl]
|p::r,j+1,hn,h=>by
   rw[map_cons,List.nodup_cons] at hn;have hm:(a,v)∈r:=mem_of_getElem? (by simpa using h);unfold mI;rw[if_neg (fun e:p.1=a=>hn.1 (e ▸ mem_map.2 ⟨_,hm,rfl⟩))];exact AH hn.2 (by simpa using h)
theorem Dv{a:α}{v:Value}:∀ {l:List (α×Value)},mI l a=some v→(a,v)∈l
|[],h=>by cases h
|p::r,h=>by
   unfold mI at h
   split at h
   ·rename_i e;simp at h;subst e;subst h;simp
   ·exact List.mem_cons_of_mem _ (Dv h)
def mU(l:List (α×Value))(a:α)(v:Value):List (α×Value):=match l with
|[]=>[(a,v)]
|p::r=>if p.1=a then (a,v)::r else p::mU r a v
theorem tB{a:α}(v:Value):∀ {l:List (α×Value)},mI l a=none→mU l a v=l++[(a,v)]
|[],_=>rfl
|p::r,h=>by
   unfold mI at h
   split at h
   ·cases h
   ·rename_i hne;unfold mU;rw[if_neg hne,tB v h];rfl
theorem tA{a:α}{v0:Value}(v:Value):∀ {l:List (α×Value)} {j:Nat},(l.map (·.1)).Nodup→l[j]?=some (a,v0)→mU l a v=l.set j (a,v)
|[],j,_,h=>by simp at h
|p::r,0,_,h=>by
   simp at h;subst h;unfold mU;rw[if_pos rfl];rfl
|p::r,j+1,hn,h=>by
   rw[map_cons,List.nodup_cons] at hn;have hm:(a,v0)∈r:=mem_of_getElem? (by simpa using h);have hne:p.1≠a:=fun e=>hn.1 (e ▸ mem_map.2 ⟨_,hm,rfl⟩);unfold mU;rw[if_neg hne,tA v hn.2 (j:=j) (by simpa using h)];rfl
theorem wE{l:List (α×Value)}(h:(l.map (·.1)).Nodup)(a:α)(v:Value):((mU l a v).map (·.1)).Nodup:=by
 have key:∀ l:List (α×Value),(mU l a v).map (·.1)=if a∈l.map (·.1) then l.map (·.1) else l.map (·.1)++[a]:=by
  intro l
  induction l with
 |nil=>simp[mU]
 |cons p r ih=>
    unfold mU;by_cases hp:p.1=a
    ·rw[if_pos hp];simp[hp]
    · rw[if_neg hp]
      simp only[map_cons,ih];by_cases hm:a∈r.map (·.1)
      ·rw[if_pos hm,if_pos (List.mem_cons_of_mem _ hm)]
      ·rw[if_neg hm,if_neg (fun e=>by rcases mem_cons.1 e with e|e;exact hp e.symm;exact hm e)];rfl
 rw[key]
 split
 ·exact h
 · rename_i hm
   exact List.nodup_append.2 ⟨h,by simp,by simp only[List.mem_singleton];rintro x hx y rfl rfl;exact hm hx⟩
theorem uZ{w:World}{g:Nat}{o o':Obj}(hg:w.heap[g]?=some o):(ChangeMaps.setBlock w g o').heap[g]?=some o'∧(ChangeMaps.setBlock w g o').heap.size=w.heap.size∧aA (· = g) w (ChangeMaps.setBlock w g o'):=by
 have hlt:=(Array.getElem?_eq_some_iff.1 hg).1;refine⟨by simp[ChangeMaps.setBlock,hlt],by simp[ChangeMaps.setBlock],rfl,rfl,rfl,by simp[ChangeMaps.setBlock],fun k hk hn=>?_⟩;show (w.heap.setIfInBounds g o')[k]?=_;rw[Array.getElem?_setIfInBounds_ne (fun e=>hn e.symm)]
end
section
variable {P:Program}{N:Nt}{Q:Exit→Act→World→Prop}{l:SF}{w:World}{ops:Array Oper}{rest:List Oper}
variable {ty:TypeId}{pos:String}{aft:Array Edge}{d:Nat}{CH:Array Obj→Prop}
variable {x y u:Operand}{t k e:TypeId}{z:Value}{gd:Option (Nat×Bool)}{dd:Option Nat}
variable {α:Type}{enc:α→Value}{g:Nat}{m:List (α×Value)}{a:α}
theorem tO(K:uC P k enc)(w:World)(em:Bool)(a:α):(Instr.checkKey em 10000 k (enc a)).run P w=.ok () w:=by
 obtain⟨la,hla⟩:=K.reads a;exact K.keyed.check w em hla
theorem H0(K:uC P k enc)(w:World)(a:α):(Instr.keyThatStays (enc a) (enc a)).run P w=.ok (enc a) w:=by
 obtain⟨la,hla⟩:=K.reads a;exact K.keyed.stays w hla
theorem UJ{t:TypeId}(hd:Nat.blt d N.n=true)(h:∀ w',jG enc w'.heap w.heap.size []→w'.heap.size=w.heap.size+1→aA nob w w'→Sl P N ops Q rest ((d,.map (some w.heap.size))::l) w') :
 Sl P N ops Q (⟨some d,.makeMap t none,ty,pos,aft,none⟩::rest) l w:=by
 refine Ua (w':=w.alloc (.map #[] 0)) (fun a ha=>?_) hd (h _ ⟨heap_alloc_new w _,by simp⟩ (by simp) (aA.alloc _ _ _));simp[execOp,Instr.makeMap,newObj];rfl
theorem jG.obj{H:Array Obj}(h:jG enc H g m):g<H.size:=(Array.getElem?_eq_some_iff.1 h.1).1
theorem jG.WS{S:Nat→Prop}{w w':World}(h:jG enc w.heap g m)(f:aA S w w')(hs:¬ S g):jG enc w'.heap g m:=⟨f.obj h.1 hs,h.2⟩
variable [DecidableEq α]
theorem Jm{T:TypeId}(hz:(P.info? T).map (·.zero)=some (some z))(w:World):(zeroValue T).run P w=.ok z w:=by
 obtain⟨i,hi,h1⟩:=Option.map_eq_some_iff.1 hz;simp[zeroValue,typeInfo,hi,h1]
theorem De(K:uC P k enc)(w:World)(m:List (α×Value))(hn:(m.map (·.1)).Nodup)(a:α) :
 ((Instr.findKey k (enc a) (dR enc m)).run P w=.ok none w∧mI m a=none)∨∃ j v,(Instr.findKey k (enc a) (dR enc m)).run P w=.ok (some (j,v)) w∧m[j]?=some (a,v)∧mI m a=some v:=by
 obtain⟨la,hla⟩:=K.reads a;rcases K.keyed.find w hla (dR enc m) (fun e he=>by obtain⟨p,_,h,_⟩:=Le he;rw[h];exact K.reads _) with⟨h1,h2⟩|⟨j,e,h1,h2,h3⟩
 · refine .inl ⟨h1,AI fun p hp hpa=>?_⟩
   obtain⟨e,he,hk,_⟩:=Nh (enc:=enc) hp;exact h2 e he (by rw[hk,hpa])
 · obtain⟨p,hp,rfl⟩:=BP h2
   have hpa:p.1=a:=K.inj _ _ h3;subst hpa;exact .inr ⟨j,p.2,h1,hp,AH hn hp⟩
theorem UF(ht:LK P t k e z)(K:uC P k enc)(hx:evL l x=some (.map (some g)))(hy:evL l y=some (enc a))(hm:∀ H,CH H→jG enc H g m) :
 Cm P N CH l ⟨dd,.lookup t x y true,ty,pos,aft,gd⟩ (.tuple [(mI m a).getD z,.bool (decide ((mI m a).isSome=true))].toArray):=fun b w hb hw=>by
 obtain⟨h1,hn⟩:=hm _ hw;have hg:=MapKept.run_getObj_map (P:=P) h1;simp only[execOp,hb.ev hx,hb.ev hy,Instr.lookup,Sem.run_bind,run_underlying ht.und,hg,Result.andThen_ok,Sem.run_pure,tO K];rcases De K w m hn a with⟨h2,h3⟩|⟨j,v,h2,h3,h4⟩
 ·simp[h2,h3,Jm ht.zero]
 ·simp[h2,h4]
theorem UM{v:Value}(ht:LK P t k e z)(K:uC P k enc)(hx:evL l x=some (.map (some g)))(hy:evL l y=some (enc a))(hu:evL l u=some v)(hm:jG enc w.heap g m)
 (h:∀ w',jG enc w'.heap g (mU m a v)→w'.heap.size=w.heap.size→aA (· = g) w w'→Sl P N ops Q rest l w') :
 Sl P N ops Q (⟨none,.mapUpdate t x y u,ty,pos,aft,none⟩::rest) l w:=by
 obtain⟨h1,hn⟩:=hm;have hg:=MapKept.run_getObj_map (P:=P) h1;rcases De K w m hn a with⟨h2,h3⟩|⟨j,v0,h2,h3,h4⟩
 · obtain⟨s1,s2,s3⟩:=uZ (o':=.map ((dR enc m).toArray.push ⟨enc a,v,m.length⟩) (m.length+1)) h1
   refine UB (w':=ChangeMaps.setBlock w g (.map ((dR enc m).toArray.push ⟨enc a,v,m.length⟩) (m.length+1))) (fun b hb=>?_) (h _ ⟨?_,wE hn a v⟩ s2 s3)
   ·simp[execOp,hb.ev hx,hb.ev hy,hb.ev hu,Instr.mapUpdate,run_underlying ht.und,hg,tO K,h2,MapKept.run_setObj_map _ h1,Result.andThen,ChangeMaps.setBlock]
   ·rw[s1,tB v h3,Ii];simp
 · have he:(dR enc m)[j]?=some ⟨enc a,v0,j⟩:=by
    simp[dR,List.getElem?_mapIdx,h3]
   have hmod:(dR enc m).modify j (fun e'=>{ e' with key:=enc a,val:=v })=dR enc (mU m a v):=by
    rw[tA v hn h3,Ld,ChangeMaps.modify_eq_set _ _ _ _ he]
   obtain⟨s1,s2,s3⟩:=uZ (o':=.map (dR enc (mU m a v)).toArray m.length) h1;refine UB (w':=ChangeMaps.setBlock w g (.map (dR enc (mU m a v)).toArray m.length)) (fun b hb=>?_) (h _ ⟨?_,wE hn a v⟩ s2 s3)
   ·simp[execOp,hb.ev hx,hb.ev hy,hb.ev hu,Instr.mapUpdate,run_underlying ht.und,hg,tO K,h2,he,H0 K,MapKept.run_setObj_map _ h1,Result.andThen,ChangeMaps.setBlock,hmod]
   ·rw[s1];congr 2;rw[tA v hn h3];simp
end
theorem AN(W:World)(n k:Nat):(W.drewN n).drewN k=W.drewN (n+k):=by simp[World.drewN,Nat.add_assoc]
def mtZ(b:By)(a:Int):Nat×Nat:=if a<0 then (0,0) else mt b a.toNat
theorem Da{b:By}{a:Int}(h:a<0∨b.length≤a):mtZ b a=(0,0):=by
 unfold mtZ
 split
 ·rfl
 ·exact Ka (by omega)
theorem Hm(ao:Option Addr)(cap:Nat)(b:By)(a:Int)(W:World)(hv:Vw b8 W.heap ao cap b)(hb:b.length≤1073741824) :
 CA 133 [.slice ao b.length cap,iV a] W fun v w'=>v=.tuple [iV (mtZ b a).1,iV (mtZ b a).2].toArray∧∃ n,w'=W.drewN n:=by
 refine cS 40 [(0,_),(1,_)] Tryz.func133 ?_;refine fK 10 ?_ ?_<;>intro h11
 ·have e:mtZ b a=(0,0):=Da (by omega);refine Gz 18 ?_
  (rw[e];exact⟨_,rfl,rfl,0,rfl⟩)
 refine fW 4 ?_ ?_<;>intro h16
 ·have e:mtZ b a=(0,0):=Da (by omega);refine Gz 13 ?_
  (rw[e];exact⟨_,rfl,rfl,0,rfl⟩)
 have e:mtZ b a=mt b a.toNat:=by unfold mtZ;rw[if_neg (by omega)]
 obtain⟨q,hq⟩:∃ q:Nat,a=q:=⟨a.toNat,by omega⟩
 rw[hq] at e ⊢;have e2:((q:Nat):Int).toNat=q:=rfl;rw[e2] at e;have hqb:q<b.length:=by omega
 refine Gz 23 ?_;refine TA (β:=Nat) (fun j=>[(0,.slice ao b.length cap),(1,iV q),(6,iV (bst b q j).1),(7,iV (bst b q j).2),(8,iV ((j:Int)+1))]) (fun j w=>j≤min 256 q∧∃ n,w=W.drewN n) (fun j=>min 256 q-j) 0 ⟨rfl,rfl,rfl,rfl,rfl,trivial⟩ ⟨Nat.zero_le _,0,rfl⟩ ?_;rintro j _ ⟨hj0,n,rfl⟩;refine fK 4 ?_ ?_<;>intro h19
 ·refine fW 3 ?_ ?_<;>intro h23
  ·refine Gz 13 ?_;rw[show ((j:Int)+1)=((j+1:Nat):Int) by omega];refine Ts Qc rfl (Jw ao cap b q (j+1) _ hv (by omega) (by omega) (by omega) hb) rfl ?_;rintro _ _ ⟨rfl,n2,rfl⟩;have hs2:=DR b (a:=q) (k:=j) (by omega);refine fK 7 ?_ ?_<;>intro h33
   ·have hst:bst b q (j+1)=(lik b q (q-(j+1)),j+1):=by rw[hs2];unfold stp;rw[if_pos (by omega),show q-(q-(j+1))=j+1 by omega]
    refine Gz 20 ?_;refine TO (j+1) ⟨rfl,rfl,?_,?_,rfl,trivial⟩ ⟨by omega,n+n2,AN _ _ _⟩ (by show min 256 q-(j+1)<min 256 q-j;omega)
    ·show some (Value.int .i64 _)=some (Value.int .i64 _);rw[hst]
    ·show some (Value.int .i64 _)=some (Value.int .i64 _);rw[hst]
   have hst:bst b q (j+1)=bst b q j:=by rw[hs2];unfold stp;rw[if_neg (by omega)]
   refine Gz 11 ?_;refine TO (j+1) ⟨rfl,rfl,?_,?_,rfl,trivial⟩ ⟨by omega,n+n2,AN _ _ _⟩ (by show min 256 q-(j+1)<min 256 q-j;omega)
   ·show some (Value.int .i64 _)=some (Value.int .i64 _);rw[hst]
   ·show some (Value.int .i64 _)=some (Value.int .i64 _);rw[hst]
  refine Gz 13 ?_;have hj1:j=min 256 q:=by omega
  refine fK 0 ?_ ?_<;>intro h37
  ·refine Gz 12 ?_;have e3:mt b q=(0,0):=by unfold mt thr;rw[if_pos hqb,←hj1,if_pos (by omega)]
   rw[e,e3];exact⟨_,rfl,rfl,n,rfl⟩
  refine Gz 15 ?_;have e3:mt b q=bst b q j:=by unfold mt thr;rw[if_pos hqb,←hj1,if_neg (by omega)]
  rw[e,e3];exact⟨_,rfl,rfl,n,rfl⟩
 refine Gz 17 ?_;have hj1:j=min 256 q:=by omega
 refine fK 0 ?_ ?_<;>intro h37
 ·refine Gz 12 ?_;have e3:mt b q=(0,0):=by unfold mt thr;rw[if_pos hqb,←hj1,if_pos (by omega)]
  rw[e,e3];exact⟨_,rfl,rfl,n,rfl⟩
 refine Gz 15 ?_;have e3:mt b q=bst b q j:=by unfold mt thr;rw[if_pos hqb,←hj1,if_neg (by omega)]
 rw[e,e3];exact⟨_,rfl,rfl,n,rfl⟩
def pkR(b:By):By×Int:=if 4096<b.length then ([],3) else (pkS b,0)
theorem Mt{b:By}(h:b.length≤4096):pkR b=(pkS b,0):=by unfold pkR;rw[if_neg (by omega)]
theorem MC(b:By)(a:Nat):mtZ b (a:Int)=mt b a:=by unfold mtZ;rw[if_neg (by omega)];rfl
theorem C0{x:Int}{n:Nat}(h:x=n):IntKind.u8.wrap x=((UInt8.ofNat n).toNat:Int):=by rw[vR (by omega),h];rfl
theorem Jr(ao:Option Addr)(cap:Nat)(b:By)(W:World)(hv:Vw b8 W.heap ao cap b) :
 CA 102 [.slice ao b.length cap] W (zH W (pkR b)):=by
 refine cS 54 [(0,_)] Tryz.func102 ?_;refine fK 11 ?_ ?_<;>intro h11
 ·have e:pkR b=([],3):=by unfold pkR;rw[if_pos (by omega)]
  refine Gz 12 ?_
  (rw[e];exact⟨_,rfl,none,0,rfl,WA,Wy,Wt _ _⟩)
 have e:pkR b=(pkS b,0):=by unfold pkR;rw[if_neg (by omega)]
 refine Gz 7 ?_;refine T2 b8 aK rfl ?_;intro w0 ho0 hs0 hf0;refine Gz 5 ?_;refine T2 b8 aK rfl ?_;intro wr hor hsr hfr;refine Gz 10 ?_;refine TA (β:=Nat×(By×Option Addr×Nat)×(By×Option Addr×Nat)) (fun⟨a,⟨run,ro,rc⟩,⟨out,o1,c1⟩⟩=>[(0,.slice ao b.length cap),(4,.slice o1 out.length c1),(5,.slice ro run.length rc),(6,iV a)]) (fun⟨a,⟨run,ro,rc⟩,⟨out,o1,c1⟩⟩ w=>a≤b.length∧pk b a run out=pkS b∧Own b8 5 w.heap ro rc run∧Own b8 5 w.heap o1 c1 out∧(∀ k,blk ro k→¬ blk o1 k)∧Fr W.heap.size ro∧Fr W.heap.size o1∧out.length+3*run.length≤3*a∧aA nob W w) (fun⟨a,⟨run,ro,rc⟩,⟨out,o1,c1⟩⟩=>b.length-a) ⟨0,⟨[],some ⟨w0.heap.size,0,none⟩,0⟩,⟨[],some ⟨W.heap.size,0,none⟩,0⟩⟩ ⟨rfl,rfl,rfl,rfl,trivial⟩ ⟨Nat.zero_le _,rfl,hor,ho0.WR hfr,fun k ⟨x,hx,hk⟩ ⟨y,hy,hk2⟩=>by cases hx;cases hy;have h1:w0.heap.size=k:=hk;have h2:W.heap.size=k:=hk2;omega,(eP _).mono (by omega),eP _,Nat.le_refl _,hf0.trans hfr⟩ ?_;rintro⟨a,⟨run,ro,rc⟩,⟨out,o1,c1⟩⟩ w1 ⟨ha,hpk,hor1,ho1,hap1,hfrr,hfr1,hol,hF1⟩;have hv1:=hv.WR hF1;have hz1:=hF1.size;refine fK 6 ?_ ?_<;>intro h17
 ·refine Gz 1 ?_;refine aW [(0,_),(4,_),(5,_),(6,_),(17,_)] ?_;refine Gz 9 ?_;refine Ts Qm rfl (Hm ao cap b (a:Int) w1 hv1 (by omega)) rfl ?_;rintro _ _ ⟨rfl,d1,rfl⟩;obtain⟨n,hn⟩:∃ n,n=(mt b a).1:=⟨_,rfl⟩
  obtain⟨bk,hbk⟩:∃ x,x=(mt b a).2:=⟨_,rfl⟩
  rw[MC,←hn,←hbk];have hv1d:Vw b8 (w1.drewN d1).heap ao cap b:=hv1;have hrd:Own b8 5 (w1.drewN d1).heap ro rc run:=hor1;have hod:Own b8 5 (w1.drewN d1).heap o1 c1 out:=ho1;have hF1d:aA nob W (w1.drewN d1):=hF1.draws d1;obtain⟨w2,hw2⟩:∃ w,w=w1.drewN d1:=⟨_,rfl⟩
  rw[←hw2] at hv1d hrd hod hF1d ⊢;have hz2:=hF1d.size;refine fK 11 ?_ ?_<;>intro h25
  ·have hn0:(mt b a).1=0:=by omega
   refine Gz 8 ?_;refine cL (Tt aK rfl rfl hv1d.non (by omega)) ?_;refine cL (Tu gW rfl (hv1d.gz 0 a rfl (by omega))) ?_;refine T3 (enc:=b8) (u:=b.getD a 0) aK rfl rfl rfl ?_;intro w3 hol hsl hfl;refine TB aV aK rfl rfl (hrd.WR hfl) hol.vw (by simp only[length_singleton];omega) (by simp only[length_singleton];unfold maxLen;omega) rfl ?_;intro r4 rc4 w4 hor4 hf4 hr4 hn4;refine Gz 13 ?_;refine aG ⟨a+1,⟨run++[b.getD a 0],r4,rc4⟩,⟨out,o1,c1⟩⟩ ⟨by omega,by rw[←hpk,JX (by omega) hn0],hor4,(hod.WR hfl).WS hf4 (fun x hx h=>hap1 _ h ⟨x,hx,rfl⟩),fun k ⟨x,hx,hk⟩ hk2=>?_,bK hfrr hr4 (by omega),hfr1,by rw[length_append,length_singleton];omega,(hF1d.trans hfl).WO hf4 hfrr.step⟩ (by show b.length-(a+1)<b.length-a;omega);rcases hr4 x hx with h|h
   ·exact hap1 k ⟨x,h,hk⟩ hk2
   ·obtain⟨y,hy,hk3⟩:=hk2;have:=hod.lt y hy;omega
  have hn1:(mt b a).1≠0:=by omega
  obtain⟨m1,m2,m3,m4,m5,m6,m7,m8,m9⟩:=vD hn1;rw[←hn] at m2 m3 m4 m8 m9;rw[←hbk] at m5 m6 m7 m8 m9;refine Gz 9 ?_;refine Ts N7 rfl (CG o1 c1 out ro rc run w2 hod hrd.vw (fun _ k hk hk2=>hap1 k hk2 hk) (by omega)) rfl ?_;rintro _ w3 ⟨o3,c3,rfl,ho3,hf3,hr3⟩;have hz3:=hf3.size;have hrl:=Oy _ run out rfl;have hfr3:Fr W.heap.size o3:=bK hfr1 hr3 hz2;have hF3:aA nob W w3:=hF1d.WO hf3 hfr1.step;refine Gz 5 ?_;refine T2 b8 aK rfl ?_;intro w4 hor4 hs4 hf4;refine Gz 8 ?_;refine cL (TD (n:=((UInt8.ofNat (n+125)).toNat:Int)) is3 ty5 rfl (C0 (by omega))) ?_;refine Gz 2 ?_;refine cL (TD (n:=((UInt8.ofNat (bk-1)).toNat:Int)) is3 ty5 rfl (C0 (by omega))) ?_;refine Wd (enc:=b8) (u:=UInt8.ofNat (n+125)) (u':=UInt8.ofNat (bk-1)) aK aV rfl rfl rfl ?_;intro w5 ho5 hs5 hf5;refine TB aV aK rfl rfl ((ho3.WR hf4).WR hf5) ho5.vw (by simp only[length_cons,length_nil];omega) (by simp only[length_cons,length_nil];unfold maxLen;omega) rfl ?_;intro o6 c6 w6 ho6 hf6 hr6 hn6;have hfr6:Fr W.heap.size o6:=bK hfr3 hr6 (by omega);have hF6:aA nob W w6:=((hF3.trans hf4).trans hf5).WO hf6 hfr3.step;have hb6:∀ k,blk (some (⟨w3.heap.size,0,none⟩:Addr)) k→¬ blk o6 k:=fun k ⟨x,hx,hk⟩ ⟨y,hy,hk2⟩=>by cases hx;have h1:w3.heap.size=k:=hk;rcases hr6 y hy with h|h;have:=ho3.lt y h;omega;omega
  have hor6:=(hor4.WR hf5).WS hf6 (fun x hx h=>by cases hx;obtain⟨y,hy,hk2⟩:=h;have:=ho3.lt y hy;have h1:y.block=w3.heap.size:=hk2;omega);refine Gz 10 ?_;exact aG ⟨a+n,⟨[],some ⟨w3.heap.size,0,none⟩,0⟩,⟨rn out run++[UInt8.ofNat (n+125),UInt8.ofNat (bk-1)],o6,c6⟩⟩ ⟨by omega,by rw[←hpk,F9 hn1,←hn,←hbk],hor6,ho6,hb6,(eP _).mono (by omega),hfr6,by rw[length_append,hrl];simp only[length_cons,length_nil];omega,hF6⟩ (by show b.length-(a+n)<b.length-a;omega)
 refine Gz 1 ?_;refine aW [(0,_),(4,_),(5,_),(6,_),(17,_)] ?_;refine Gz 11 ?_;have haf:a=b.length:=by omega
 rw[haf,JY (Nat.lt_irrefl _)] at hpk;refine Ts N7 rfl (CG o1 c1 out ro rc run w1 ho1 hor1.vw (fun _ k hk hk2=>hap1 k hk2 hk) (by omega)) rfl ?_;rintro _ w3 ⟨o3,c3,rfl,ho3,hf3,hr3⟩;refine Gz 6 ?_
 (rw[e,←hpk];exact⟨_,rfl,o3,c3,rfl,ho3,bK hfr1 hr3 hz1,hF1.WO hf3 hfr1.step⟩)
def hdV(n:Nat):List Value:=[.int .u8 ((n%256:Nat):Int),.int .u8 ((n/256%256:Nat):Int),.int .u8 ((255 ^^^ ((n%256) ^^^ (n/256%256)):Nat):Int)]
theorem M4(n:Nat):∀ v∈hdV n,v.oneCell'=true:=by simp[hdV,Value.oneCell']
theorem KG(n:Nat):hdV n=(hdB n).map b8:=by
 have h:=fun x (hx:x∈hdN n)=>OZ hx;simp only[hdN,mem_cons,not_mem_nil,or_false,forall_eq_or_imp,forall_eq] at h;obtain⟨h1,h2,h3⟩:=h;simp only[hdV,hdB,hdN,map_cons,map_nil,b8,UInt8.toNat_ofNat'];rw[Nat.mod_eq_of_lt h1,Nat.mod_eq_of_lt h2,Nat.mod_eq_of_lt h3]
theorem NB:IE Tryz.prog 268 5 3 1:=⟨by kernel_rfl,by kernel_rfl⟩
theorem KE(n:Nat):((n:Nat):Int)/2 ^ (8:Int).toNat=((n/256:Nat):Int):=rfl
theorem M1(n:Nat)(W:World)(hn:n<65536):CA 168 [iV n] W fun v w'=>v=.agg (hdV n).toArray∧aA nob W w':=by
 refine cS 18 [(0,_)] Tryz.func168 ?_;refine Gz 2 ?_;refine Tz IG rfl ?_;intro w1 hg1 hs1 hf1;have hg1:w1.heap[W.heap.size]?=some (.cells [.int .u8 0,.int .u8 0,.int .u8 0].toArray 268 (0,0)):=hg1;refine Gz 5 ?_;refine cL (TD (n:=((n%256:Nat):Int)) is3 ty5 rfl (vS n)) ?_;refine Gz 1 ?_;refine cL (Tw (u:=iV ((n/256:Nat):Int)) (U9 rfl rfl (by omega)) (by rw[KE])) ?_;refine cL (TD (n:=((n/256%256:Nat):Int)) is3 ty5 rfl (vS _)) ?_;refine cL (Vk (cs:=[.int .u8 ((n%256:Nat):Int),.int .u8 ((n/256%256:Nat):Int),.int .u8 0].toArray) NB IG rfl (by kernel_rfl)) ?_;refine Tz IG rfl ?_;intro w2 hg2 hs2 hf2;have hg12:=hf2.obj hg1 id;obtain⟨q,hq⟩:∃ q,q=w1.heap.size:=⟨_,rfl⟩
 rw[←hq] at hg2 ⊢;refine sA rfl yR (by simp[Value.oneCell']) hg2 ?_;intro w3 hg3 hs3 hf3;have hg13:=hf3.obj hg12 (by omega);refine Gz 4 ?_;refine cL (Tw (u:=pT q) (Uo NB rfl rfl (by omega)) (by rw[Addr.add_lit];rfl)) ?_;refine cL (Tu gW rfl (bS hg3 rfl)) ?_;refine cL (Tw (u:=.pointer (some ⟨q,1,none⟩)) (Uo NB rfl rfl (by omega)) (by rw[Addr.add_lit];rfl)) ?_;refine cL (Tu gW rfl (bS hg3 rfl)) ?_;refine cL (UX rfl rfl (by omega) (by omega)) ?_;refine cL (Wk rfl (oU (by omega) (by omega))) ?_;refine cL (Tw (u:=.pointer (some ⟨q,2,none⟩)) (Uo NB rfl rfl (by omega)) (by rw[Addr.add_lit];rfl)) ?_;refine Tx gW rfl rfl rfl hg3 rfl ?_;intro w4 hg4 hs4 hf4;have hg4:w4.heap[q]?=some (.cells (hdV n).toArray 268 (0,0)):=hg4;have hg14:=hf4.obj hg13 (by omega);refine Gz 4 ?_;refine cL (TI (cs:=hdV n) yR rfl (fun j v hj=>aE hg4 hj)) ?_;refine sA rfl yR (by exact M4 n) hg14 ?_;intro w5 hg5 hs5 hf5;refine Gz 3 ?_;refine U1 (cs:=hdV n) rfl yR rfl (fun j v hj=>aE hg5 hj) ?_;exact⟨_,rfl,rfl,((((hf1.trans hf2).tw hf3).tw hf4)).tw hf5⟩
theorem J6{x:Nat}(h:x<4294967296):¬ gE x 4:=by
 unfold gE;have h2:((x:Int)/2 ^ (8*(4:Int)).toNat)=0:=by
  show (x:Int)/4294967296=0;omega
 omega
theorem HG{E:Int}(xs:By){x:Nat}(h:x<4294967296)(hE:E=0):fY E x 4=0∧lN E xs x 4=xs++le x 4:=by
 have h1:fY E x 4=0:=by rw[cP (J6 h),hE]
 exact⟨h1,kC h1⟩
theorem EM(xs ys:By):Bp 0 xs ys=xs++ys:=by unfold Bp;rw[if_pos rfl]
theorem Nk(xs:By):iJ 0 xs=xs:=by unfold iJ;rw[if_neg (by decide)]
end Go.Proofs.YthdecfkdgdagcaaGreat
