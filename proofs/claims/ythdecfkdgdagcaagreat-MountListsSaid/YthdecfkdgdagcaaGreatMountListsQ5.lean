/- lamella: what the law needs. No condition beyond the bounds that each states. -/
import Derived.Test.YthdecfkdgdagcaaGreatMountListsQ4
namespace Go.Proofs.YthdecfkdgdagcaaGreat
open Go Go.RowKit
set_option linter.unusedVariables false
set_option linter.unusedSectionVars false
set_option maxHeartbeats 64000000
open List (flatMap_cons length_append length_cons length_map length_nil length_replicate length_singleton length_take mem_append mem_cons mem_map mem_of_getElem? mem_of_mem_take mem_singleton nil_append size_toArray take_length take_of_length_le)
open Classical (not_not)
theorem rR{α:Type}{K:Nat}{enc:α→List Value}(hk:∀ x,(enc x).length=K):∀ (xs:List α) (i:Nat) (u:α),i<xs.length→(xs.set i u).flatMap enc=(xs.flatMap enc).take (i*K)++(enc u++(xs.flatMap enc).drop (i*K+K))
|[],i,u,h=>absurd h (Nat.not_lt_zero _)
|x::r,0,u,h=>by
   rw[List.set_cons_zero,flatMap_cons,flatMap_cons,Nat.zero_mul,Nat.zero_add,List.take_zero,nil_append,List.drop_left' (hk x)]
|x::r,i+1,u,h=>by
   rw[List.set_cons_succ,flatMap_cons,flatMap_cons,rR hk r i u (Nat.lt_of_succ_lt_succ h)];have e1:((i+1)*K)=(enc x).length+i*K:=by rw[hk x,Nat.add_mul,Nat.one_mul];omega
   rw[e1,List.take_append,take_of_length_le (l:=enc x) (by omega),Nat.add_sub_cancel_left,Nat.add_assoc,List.drop_append,List.drop_of_length_le (l:=enc x) (by omega),nil_append,Nat.add_sub_cancel_left,List.append_assoc]
theorem NB{α:Type}(cur v:List α){o L:Nat}(h:o+v.length≤L)(hL:L≤cur.length):((cur.take o++v)++cur.drop (o+v.length)).take L=(cur.take L).take o++(v++(cur.take L).drop (o+v.length)):=by
 have e1:(cur.take o++v).length=o+v.length:=by rw[length_append,length_take];omega
 rw[List.take_append,e1,take_of_length_le (l:=cur.take o++v) (by omega),List.take_take,Nat.min_eq_left (by omega),List.drop_take,List.append_assoc]
section
variable {P:Program}{N:Nt}{Q:Exit→Act→World→Prop}{l:SF}{w:World}{ops:Array Oper}{rest:List Oper}{ty:TypeId}{pos:String}{aft:Array Edge}{x y:Operand}{t:TypeId}{d:Nat}
theorem U1{α:Type}{K:Nat}{enc:α→List Value}(henc:iX K enc){T:TypeId}{ao:Option Addr}{cap:Nat}{xs:List α}{i:Nat}{u:α}{ad:Addr}(hi:i<xs.length)
 (ht:fM P t (enc u).length=true)(hx:evL l x=some (.pointer (some ad)))(had:ad=adr ao (i*K))(hy:evL l y=some (.agg (enc u).toArray))(ho:bN K enc T w.heap ao cap xs)
 (h:∀ w',bN K enc T w'.heap ao cap (xs.set i u)→w'.heap.size=w.heap.size→aA (blk ao) w w'→Sl P N ops Q rest l w') :
 Sl P N ops Q (⟨none,.store t x y,ty,pos,aft,none⟩::rest) l w:=by
 have hil:=hi;rcases ho with⟨rfl,rfl,rfl⟩|⟨g,cur,rfl,hg,g1,g2,g3,g4⟩
 ·simp at hil
 · have hK:xs.length*K≤cap*K:=Nat.mul_le_mul_right K g1
   have hiK:(i+1)*K≤xs.length*K:=Nat.mul_le_mul_right K (by omega);rw[Nat.add_mul,Nat.one_mul] at hiK;have hel:(enc u).length=K:=(henc u).1;have hcl:cur.toList.length=cap*K:=by rw[Array.length_toList,g3]
   have hadr:ad=⟨g,i*K,none⟩:=by
    rw[had];show (⟨g,0,none⟩:Addr).add (i*K)=_;rw[Addr.add_lit,Nat.zero_add]
   subst hadr;refine Uh (cur:=cur.toList) ht hx hy (henc u).2 (by simpa using hg) (by omega) (fun w' q1 q2 q3=>h w' ?_ q2 ?_)
   · refine .inr ⟨g,_,rfl,q1,by simpa using g1,g2,?_,?_⟩
     ·simp only[size_toArray,length_append,length_take,List.length_drop];omega
     · rw[List.length_set,rR (fun x=>(henc x).1) xs i u hi,←g4]
       have:=NB cur.toList (enc u) (o:=i*K) (L:=xs.length*K) (by omega) (by omega);rw[hel] at this;rw[hel];exact this
   ·exact q3.mono (fun k e=>⟨⟨g,0,none⟩,rfl,e.symm⟩)
theorem TU{α:Type}{K:Nat}{enc:α→List Value}(henc:iX K enc)(hK:0<K){e:TypeId}(z0:α){bytes:Nat}(ht:aS P t e K bytes)(hz:(P.info? e).map (fun i=>i.zero.map (·.cells))=some (some (enc z0).toArray)){k k':IntKind}{n m:Int}
 (hx:evL l x=some (.int k n))(hy:evL l y=some (.int k' m))(h0:0≤n)(hnm:n≤m)(hn:(bytes:Int)*m≤281474976710656)(hm:m≤9223372036854775807)(hd:Nat.blt d N.n=true)
 (h:∀ w',bN K enc e w'.heap (some ⟨w.heap.size,0,none⟩) m.toNat (List.replicate n.toNat z0)→w'.heap.size=w.heap.size+1→aA nob w w'→Sl P N ops Q rest ((d,.slice (some ⟨w.heap.size,0,none⟩) n.toNat m.toNat)::l) w') :
 Sl P N ops Q (⟨some d,.makeSlice t x y,ty,pos,aft,none⟩::rest) l w:=by
 obtain⟨i,z,hi,hz1,hzc,h2,h3⟩:=ht.parts;have hc:z.cells=(enc z0).toArray:=by rw[hi] at hz;simp[hz1] at hz;exact hz
 have hr:=run_make (P:=P) w t e i z ht.und hi hz1 k k' n m h0 hnm (by rw[h3];exact hn) hm;have hel:(enc z0).length=K:=(henc z0).1;rw[hc,h2] at hr;refine Tm (w':=w.alloc (.cells (madeCells (enc z0).toArray (m.toNat*K)) e)) (fun a ha=>?_) hd (h _ ?_ (by simp) (aA.alloc _ _ _))
 ·simp only[execOp,ha.ev hx,ha.ev hy,Sem.run_bind,hr,Result.andThen_ok,Sem.run_pure]
 · refine .inr ⟨w.heap.size,_,rfl,heap_alloc_new w _,by simp;omega,by unfold maxLen;omega,size_madeCells _ _,?_⟩
   apply List.ext_getElem?;intro q;rw[length_replicate];have hle:n.toNat*K≤m.toNat*K:=Nat.mul_le_mul_right K (by omega);by_cases hq:q<n.toNat*K
   · have h1:q/K<n.toNat:=(Nat.div_lt_iff_lt_mul hK).2 hq
     have h4:q%K<K:=Nat.mod_lt _ hK;have e1:(List.replicate n.toNat z0)[q/K]?=some z0:=by rw[List.getElem?_replicate,if_pos h1]
     have e2:(enc z0)[q%K]?=some ((enc z0).toArray[q%K]!):=by
      rw[getElem!_pos (enc z0).toArray (q%K) (by rw[size_toArray];omega)];rw[List.getElem?_eq_getElem (by omega)];rfl
     have e3:=qH (fun x=>(henc x).1) (List.replicate n.toNat z0) (q/K) z0 e1 (q%K) _ e2;rw[Nat.div_add_mod'] at e3;rw[e3,List.getElem?_take,if_pos hq];unfold madeCells;rw[Array.getElem?_toList,Array.getElem?_map,Array.getElem?_range,if_pos (by omega)];simp only[Option.map_some,size_toArray,hel]
   ·rw[List.getElem?_eq_none (by rw[length_take];omega),List.getElem?_eq_none (by rw[cJ (fun x=>(henc x).1),length_replicate];omega)]
end
section
open Go Go.RowKit Go.Maps
theorem yZ:∀ (L:List By) (t:By) (s:DS),eK (L++[t]) s=((nJ 64 (eK L s).1 t).1,(eK L s).2++[((nJ 64 (eK L s).1 t).2:Int)])
|[],t,s=>rfl
|x::r,t,s=>by
   show ((eK (r++[t]) (nJ 64 s x).1).1,_::(eK (r++[t]) (nJ 64 s x).1).2)=_;rw[yZ r t];rfl
theorem Ig{L:List By}(h:Dw L)(s:DS):(eK L s).1.B.length≤s.B.length+135*L.length:=by
 obtain⟨z,hz,hl⟩:=oP L s;have key:∀ M:List By,Dw M→(M.map (fun t=>(cF t).1.length)).sum≤135*M.length:=by
  intro M
  induction M with
 |nil=>intro _;exact Nat.le_refl _
 |cons x r ih=>
    intro hb;have h1:=ih (fun y hy=>hb y (by simp[hy]));have h2:=hb x (by simp);have h3:=fU (b:=x) h2.2;rw[List.map_cons,List.sum_cons,length_cons];omega
 have:=key L h;rw[hz,length_append];omega
theorem pQ(T:By):(dnW T).length≤135*((T.length+127)/128):=tC T (nF T)
theorem M4(n:Nat):∀ (L:List Nd) (s:FSt),(L.foldl gQ s).ds.m.length≤s.ds.m.length+L.length
|[],s=>Nat.le_refl _
|x::r,s=>by
   have h:=M4 n r (gQ s x)
   have h2:(gQ s x).ds.m.length≤s.ds.m.length+1:=by
    unfold gQ
    split
    ·exact Nat.le_succ _
    · show (iF 64 s.ds x.data).1.m.length≤_
      unfold iF HY
      split
      ·exact Nat.le_succ _
      · split
        ·exact Nat.le_succ _
        · show (s.ds.m++_).length≤_
          rw[length_append];exact Nat.le_refl _
   rw[List.foldl_cons,length_cons];omega
structure SE (qs:List (NdH×Nd))(ids:List Int):Prop where
 B:(eK (bM qs).tails (bM qs).ds).1.B.length≤200000
 i:(aF qs ids).s.ino.length≤10000
 l:(aF qs ids).s.lst.length≤500000
 f:(aF qs ids).s.fur.length≤200000
 b:bdB (aF qs ids).s
 m:(aF qs ids).s.many≤41
 d:ids.length≤80
 n4:(aJ (aF qs ids).pl 4).1.length≤160
 n2:(aJ ids 2).1.length≤160
 o1:(kY (aF qs ids)).length≤200000
 o2:(iG (aF qs ids)).length≤400000
 o3:(iB (aF qs ids)).length≤1000000
 o4:(gM (aF qs ids)).length≤1100000
 o5:(fV (aF qs ids) ids).length≤1200000
 o6:(eU (aF qs ids) ids).length≤1500000
theorem zX(l:List Int)(w:Nat)(hw:w24 w)(h:inW w l):(aJ l w).1.length=w*l.length:=by rw[nX hw h,rW]
theorem Gh{qs:List (NdH×Nd)}{ids:List Int}(G:GdT qs)(I:yT qs ids):SE qs ids:=by
 have F:=Bu (qs:=qs) (fun q hq=>⟨G.ino q hq,(G.may q hq).2.2.2.2.2.2.1⟩);obtain⟨S,e,hI,hB,_⟩:=tI G I F;have e:(aF qs ids).s=S:=e;have hn:=G.n.2;have h41:=hI.many41 hn;have hid:=uS I;have h1:=hI.bi;have h2:S.lst.length≤10440*S.many:=hB;have h3:=hI.bf;have h4:=hI.sn;have hT:=F.tn;have hFB:=F.b;rw[length_map] at hT hFB;have hb:=Ig F.t (bM qs).ds;have hpl:=lN (bM qs).tails (bM qs).ds;have hpi:inW 4 (aF qs ids).pl:=by
  intro x hx;obtain⟨j,hj,rfl⟩:=List.getElem_of_mem hx;have hj2:j<(bM qs).tails.length:=by have:j<(eK (bM qs).tails (bM qs).ds).2.length:=hj;omega
  obtain⟨pre,rest,a1,a2⟩:=uG (bM qs).tails (bM qs).ds j hj2;have e:(aF qs ids).pl[j]=(eK (bM qs).tails (bM qs).ds).2.getD j 0:=by
   have e2:(aF qs ids).pl=(eK (bM qs).tails (bM qs).ds).2:=rfl;rw[List.getD,←e2,List.getElem?_eq_getElem hj];rfl
  have a3:=congrArg List.length a1;rw[length_append] at a3;rw[e,a2];refine⟨by omega,?_⟩;show (64:Int)+pre.length<4294967296;omega
 have hii:inW 2 ids:=by
  intro x hx;have h:=(I.2 x).1 hx;unfold pC at h;obtain⟨q,hq,h1⟩:=List.mem_flatMap.1 h;obtain⟨_,_,_,m2,m3,_⟩:=G.may q hq;simp only[mem_cons,List.not_mem_nil,or_false] at h1;refine⟨by rcases h1 with rfl|rfl<;>omega,?_⟩;show x<65536;rcases h1 with rfl|rfl<;>omega
 have hp4:(aJ (aF qs ids).pl 4).1.length=4*(aF qs ids).pl.length:=zX _ 4 (.inr rfl) hpi;have hp2:(aJ ids 2).1.length=2*ids.length:=zX _ 2 (.inl rfl) hii;have hpl2:(aF qs ids).pl.length=(bM qs).tails.length:=hpl;have d1:=pQ (aF qs ids).s.ino;have d2:=pQ (aF qs ids).s.lst;have d3:=pQ (aJ (aF qs ids).pl 4).1;have d4:=pQ (aJ ids 2).1;have d5:=pQ (aF qs ids).s.fur;rw[e] at d1 d2 d5;rw[hp4] at d3;rw[hp2] at d4;have l1:(kY (aF qs ids)).length=(eK (bM qs).tails (bM qs).ds).1.B.length:=rfl;have l2:(iG (aF qs ids)).length=(kY (aF qs ids)).length+(dnW (aF qs ids).s.ino).length:=length_append;have l3:(iB (aF qs ids)).length=(iG (aF qs ids)).length+(dnW (aF qs ids).s.lst).length:=length_append;have l4:(gM (aF qs ids)).length=(iB (aF qs ids)).length+(dnW (aJ (aF qs ids).pl 4).1).length:=length_append;have l5:(fV (aF qs ids) ids).length=(gM (aF qs ids)).length+(dnW (aJ ids 2).1).length:=length_append;have l6:(eU (aF qs ids) ids).length=(fV (aF qs ids) ids).length+(dnW (aF qs ids).s.fur).length:=length_append;rw[e] at l2 l3 l6;refine⟨by omega,by rw[e];omega,by rw[e];omega,by rw[e];omega,by rw[e];exact⟨by omega,by omega,by omega,by omega,by omega⟩,by rw[e];omega,by omega,by omega,by omega,by omega,by omega,by omega,by omega,by omega,by omega⟩
theorem RyO.tight{D B:Nat→Prop}{w:World}{g first:Nat}{s:DS}(h:RyO D w.heap g first s)(hB:∀ k,k<w.heap.size→D k→B k):RyO B w.heap g first s:=h.keepTo (VI nob _) (fun _ _ _=>id) hB
theorem GZ(A:Nat→Prop)(g first:Nat)(s:DS)(bo:Option Addr)(bc:Nat)(b:By)(W:World)(hM:RyO A W.heap g first s)(hv:Vw b8 W.heap bo bc b)(hfi:first≤1000)(hb:s.B.length≤1099511627776)(hbl:b.length≤1048576)(hml:s.m.length≤1048576) :
 CA 24 [pT g,.slice bo b.length bc] W fun v w'=>∃ o c,v=.tuple #[iV ((iF first s b).2:Nat),.slice o (dJ b).length c]∧Own b8 5 w'.heap o c (dJ b)∧Fr W.heap.size o∧RyO (fun k=>Nx A W w' k∧¬ blk o k) w'.heap g first (iF first s b).1∧aA A W w':=by
 refine(I7 (fun k=>A k∨W.heap.size≤k) g first s bo bc b W (hM.tight (fun k _ h=>.inl h)) (fun k h=>.inr h) hv hfi hb hbl hml).mono ?_;rintro e w' ⟨v,rfl,o,c,rfl,h1,h2,h3,h4⟩;exact⟨_,rfl,o,c,rfl,h1,h2,h3.tight (fun k hk h=>⟨h.1.imp id (fun h=>⟨h,hk⟩),h.2⟩),h4.nx⟩
theorem Cl(A:Nat→Prop)(g first:Nat)(s:DS)(bo:Option Addr)(bc:Nat)(b:By)(W:World)(hM:RyO A W.heap g first s)(hv:Vw b8 W.heap bo bc b)(hfi:first≤1000)(hb:s.B.length≤1099511627776)(hbl:b.length≤128) :
 CA 26 [pT g,.slice bo b.length bc] W fun v w'=>v=iV ((nJ first s b).2:Nat)∧RyO (Nx A W w') w'.heap g first (nJ first s b).1∧aA A W w':=by
 refine(Eg (fun k=>A k∨W.heap.size≤k) g first s bo bc b W (hM.tight (fun k _ h=>.inl h)) (fun k h=>.inr h) hv hfi hb hbl).mono ?_;rintro e w' ⟨v,rfl,rfl,h3,h4⟩;exact⟨_,rfl,rfl,h3.tight (fun k hk h=>h.imp id (fun h=>⟨h,hk⟩)),h4.nx⟩
theorem RyO.zero{H:Array Obj}{h f:Nat}(hg:H[h]?=some (.cells (rdC f none 0 0 none 0 0).toArray 79 (0,0))):RyO (· = h) H h f ⟨[],[]⟩:=
 ⟨none,0,none,0,[],hg,VP,.inl ⟨rfl,rfl,rfl⟩,⟨rfl,fun i x y hx=>by cases hx⟩,fun⟨a,ha,_⟩=>(by cases ha),fun⟨a,ha,_⟩=>(by cases ha),VL,rfl,fun k ⟨a,ha,_⟩=>(by cases ha),fun k ⟨a,ha,_⟩=>(by cases ha)⟩
theorem uE.zero{H:Array Obj}{p:Nat}(hg:H[p]?=some (.cells #[sN] 82 (0,0))):uE (· = p) H p []:=
 ⟨fun _=>False,none,0,[],hg,VP,⟨rfl,fun i x y hx=>by cases hx⟩,fun⟨a,ha,_⟩=>(by cases ha),rfl,fun k ⟨a,ha,_⟩=>(by cases ha),fun k h=>h.elim⟩
def fs0(n:Nat):FSt:=⟨⟨[],[]⟩,[],List.replicate n jC⟩
theorem fi0(n:Nat):FI [] n (fs0 n):=⟨yF.zero,(by intro b hb;cases hb),Nat.le_refl _,length_replicate,Nat.le_refl _,fun i f hf=>.inl (List.eq_of_mem_replicate (mem_of_getElem? hf)),(by intro x hx;cases hx)⟩
theorem Ki{V:List Nd}{n:Nat}{s:FSt}(h:FI V n s):∀ f∈s.files,f.2.length≤200:=by
 intro f hf;obtain⟨i,hi⟩:=List.getElem?_of_mem hf;rcases h.f i f hi with e|⟨x,_,_,_,st,fr,off,e,_⟩
 ·rw[e];exact Nat.zero_le _
 ·rw[e];exact Nat.zero_le _
theorem Bg{qs:List (NdH×Nd)}{k:Nat}{q:NdH×Nd}(h:qs[k]?=some q):nds (qs.take (k+1))=nds (qs.take k)++[q.2]:=by rw[tkL h];simp[nds]
theorem xE{qs:List (NdH×Nd)}{k:Nat}{q:NdH×Nd}(h:qs[k]?=some q)(s:FSt):(nds (qs.take (k+1))).foldl gQ s=gQ ((nds (qs.take k)).foldl gQ s) q.2:=by rw[Bg h,List.foldl_append];rfl
theorem Db{s:FSt}{x:Nd}(h:x.kind≠2∨(s.files.getD x.ino.toNat jC).1 0=2):gQ s x=s:=by unfold gQ;rw[if_pos h]
def sU(z0 mn z2 z3 z4 z5 z6 nid nfr root:Int):List Value:=[iV z0,iV mn,iV z2,iV z3,iV z4,iV z5,iV z6,iV nid,iV nfr,iV root]
theorem NE(z0 mn z2 z3 z4 z5 z6 nid nfr root:Int):∀ v∈sU z0 mn z2 z3 z4 z5 z6 nid nfr root,v.oneCell'=true:=by
 intro v hv;simp only[sU,mem_cons,List.not_mem_nil,or_false] at hv;rcases hv with rfl|rfl|rfl|rfl|rfl|rfl|rfl|rfl|rfl|rfl<;>rfl
def BuP(W:World)(ps:List (NdH×Nd)):Value→World→Prop:=fun v w'=>
 (chk (nds ps)≠0∧v=.tuple #[sN,iV (chk (nds ps))]∧aA nob W w') ∨
 (chk (nds ps)=0∧∃ ids o c,yT (gI ps) ids∧v=.tuple #[.slice o (rP (gI ps) ids).1.length c,iV (rP (gI ps) ids).2]∧Own b8 5 w'.heap o c (rP (gI ps) ids).1∧Fr W.heap.size o∧aA nob W w')
end
section
open Go Go.RowKit Go.Maps
theorem zW(lo0:Option Addr)(lc0:Nat)(ps:List (NdH×Nd))(W:World)(hv:cE (fun k=>k<W.heap.size) W.heap lo0 lc0 ps)(hsm:∀ p∈ps,smN p.2)(hl:ps.length≤40) :
 CA 9 [.slice lo0 ps.length lc0] W (BuP W ps):=by
 refine cS 221 [(0,_)] Tryz.func9 ?_;refine cA 9 Sr (G3 lo0 lc0 ps W hv hsm) ?_;rintro _ w1 ⟨lo,lc,qs,rfl,hqs,hvq,hf1⟩;refine fK 11 ?_ ?_<;>intro h30
 ·refine Gz 13 ?_;exact⟨_,rfl,.inl ⟨h30,rfl,hf1⟩⟩
 have hz:chk (nds ps)=0:=not_not.1 h30;rw[if_pos hz] at hqs;have G:=Ey hz hl;rw[←hqs] at G;have hq40:=G.n.2;have hq0:=G.n.1;have hqne:qs≠[]:=fun e=>by rw[e] at hq0;exact absurd hq0 (by decide)
 have hlo1:∀ k,blk lo k→k<w1.heap.size:=fun k ⟨a,ha,e⟩=>by have:=hvq.1.lt hqne (fun x e=>by cases e) a ha;omega
 have hz1:=hf1.size;have hq1n:((qs.length:Int)+1).toNat=qs.length+1:=by omega
 have hq63:=hvq.1.V7;refine Gz 5 ?_;refine Tj (β:=(List Int×(Option Addr×Nat))×(Nat×(Nat×Nat))) (fun⟨⟨ids,⟨io,ic⟩⟩,⟨gr,⟨gf,gm⟩⟩⟩=>[(0,.slice lo qs.length lc),(5,pT gm)]) (fun⟨⟨ids,⟨io,ic⟩⟩,⟨gr,⟨gf,gm⟩⟩⟩ w=>yT qs ids∧Own i64 3 w.heap io ic ids∧Own i64 3 w.heap (some ⟨gr,0,none⟩) (qs.length+1) (List.replicate (qs.length+1) 0)∧bN 11 yK 84 w.heap (some ⟨gf,0,none⟩) (qs.length+1) (List.replicate (qs.length+1) jC)∧w.heap[gm]?=some (.cells (biC (.slice lo qs.length lc) (.slice io ids.length ic) sN sN sN sN sN sN (.slice (some ⟨gr,0,none⟩) (qs.length+1) (qs.length+1)) (.slice (some ⟨gf,0,none⟩) (qs.length+1) (qs.length+1)) sN sN 0).toArray 76 (0,0))∧(w1.heap.size≤gr∧w1.heap.size≤gf∧gr<gm∧gf<gm∧gf≠gr∧w.heap.size=gm+1)∧(∀ a,io=some a→a.block<gm)∧(∀ a,io=some a→a.block≠gr)∧(∀ a,io=some a→a.block≠gf)∧aA nob w1 w) ?_ ?_
 ·refine UD (fun _=>True) [2,6,10,12] [0,1,3,4,5,7,8,9] (.alt 2 [] (.alt 6 [] (.alt 10 [11] (.alt 12 [13] .fin .stop) .stop) (.alt 10 [] (.alt 6 [11] (.alt 12 [13] .fin .stop) .stop) .stop)) (.alt 6 [] (.alt 2 [] (.alt 10 [11] (.alt 12 [13] .fin .stop) .stop) (.alt 10 [] (.alt 2 [11] (.alt 12 [13] .fin .stop) .stop) .stop)) (.alt 10 [] (.alt 2 [] (.alt 6 [11] (.alt 12 [13] .fin .stop) .stop) (.alt 6 [] (.alt 2 [11] (.alt 12 [13] .fin .stop) .stop) .stop)) .stop))) aK (by kernel_rfl) (trivial) ?_;have hG0:aA nob w1 (w1.drewN 1):=VJ 1;generalize w1.drewN 1=v0 at hG0 ⊢;refine S0 rfl rfl (Tf rfl) rfl ?_;refine S0 rfl rfl (Tf rfl) rfl ?_;refine S0 rfl rfl (Tf rfl) rfl ?_;refine S0 rfl rfl (UF bF rfl) rfl ?_;refine S0 rfl rfl (TE rfl rfl (by omega)) rfl ?_;refine S0 rfl rfl (Tf rfl) rfl ?_;refine S0 rfl rfl (UF bF rfl) rfl ?_;refine S0 rfl rfl (TE rfl rfl (by omega)) rfl ?_;refine S4 ?_ ?_
  ·refine S3 rfl rfl (SH Kd rfl (rA lo lc qs v0 (hvq.1.keep' hG0 (fun _ _ _=>id)) (by omega)) rfl ?_);rintro _ v1 ⟨io,ic,ids,rfl,hI1,hfI,hIds,hfx⟩;have hG1:=hG0.trans hfx;refine Td (by exact trivial) ?_;refine S4 ?_ ?_
   ·refine S3 rfl rfl (TZ i64 0 bG z3 rfl rfl rfl (by omega) (by omega) (by omega) (by omega) rfl ?_);intro v2 hR2 hsx hfx;rw[hq1n] at hR2 ⊢;obtain⟨gr,hgre⟩:∃ x,x=v1.heap.size:=⟨_,rfl⟩
    rw[←hgre] at hR2 ⊢;have hG2:=hG1.trans hfx;have hgr2:gr<v2.heap.size:=hR2.lt _ rfl;have hgrW:w1.heap.size≤gr:=by rw[hgre];exact hG1.size
    have hI2:=hI1.V8 hfx;have hnI:∀ a,io=some a→a.block≠gr:=fun a ha=>by have:=hI1.lt a ha;omega
    refine Td (by exact trivial) ?_;refine S4 ?_ ?_
    ·refine S3 rfl rfl (TU dW (by decide) jC AW (by kernel_rfl) rfl rfl (by omega) (by omega) (by omega) (by omega) rfl ?_);intro v3 hF3 hsx hfx;rw[hq1n] at hF3 ⊢;obtain⟨gf,hgfe⟩:∃ x,x=v2.heap.size:=⟨_,rfl⟩
     rw[←hgfe] at hF3 ⊢;have hG3:=hG2.trans hfx;have hgf3:gf<v3.heap.size:=hF3.lt _ rfl;have hgfW:w1.heap.size≤gf:=by rw[hgfe];exact hG2.size
     have hI3:=hI2.V8 hfx;have hR3:=hR2.V8 hfx;have hgr3:gr<v3.heap.size:=hR3.lt _ rfl;have hnF:∀ a,io=some a→a.block≠gf:=fun a ha=>by have:=hI2.lt a ha;omega
     have hrf:gf≠gr:=by omega
     refine Td (by exact trivial) ?_;refine S0 rfl rfl (bU (biC (.slice lo qs.length lc) (.slice io ids.length ic) sN sN sN sN sN sN (.slice (some ⟨gr,0,none⟩) (qs.length+1) (qs.length+1)) (.slice (some ⟨gf,0,none⟩) (qs.length+1) (qs.length+1)) sN sN 0) zZ Gl) rfl ?_;refine S4 ?_ ?_
     ·refine S3 rfl rfl (Tb rfl rfl ?_);intro v4 hgm hsx hfx;obtain⟨gm,hgme⟩:∃ x,x=v3.heap.size:=⟨_,rfl⟩
      rw[←hgme] at hgm ⊢;have hG4:=hG3.trans hfx;have hI4:=hI3.V8 hfx;have hR4:=hR3.V8 hfx;have hF4:=hF3.V8 hfx;refine Td (by exact trivial) ?_;have hsx:v4.heap.size=v3.heap.size+1:=hsx;have hgr4:gr<gm:=by rw[hgme];exact hR3.lt _ rfl
      have hgf4:gf<gm:=by rw[hgme];exact hF3.lt _ rfl
      have hI3l:∀ a,io=some a→a.block<gm:=fun a ha=>by rw[hgme];exact hI3.lt a ha
      refine S0 rfl rfl (To rfl) rfl ?_;refine TQ ?_;exact aC ⟨⟨ids,⟨io,ic⟩⟩,⟨gr,⟨gf,gm⟩⟩⟩ ⟨hIds,hI4,hR4,hF4,hgm,⟨hgrW,hgfW,hgr4,hgf4,hrf,by omega⟩,hI3l,hnI,hnF,hG4⟩
     exact S2
    exact S2
   refine S4 ?_ ?_
   ·refine S3 rfl rfl (TU dW (by decide) jC AW (by kernel_rfl) rfl rfl (by omega) (by omega) (by omega) (by omega) rfl ?_);intro v2 hF2 hsx hfx;rw[hq1n] at hF2 ⊢;obtain⟨gf,hgfe⟩:∃ x,x=v1.heap.size:=⟨_,rfl⟩
    rw[←hgfe] at hF2 ⊢;have hG2:=hG1.trans hfx;have hgf2:gf<v2.heap.size:=hF2.lt _ rfl;have hgfW:w1.heap.size≤gf:=by rw[hgfe];exact hG1.size
    have hI2:=hI1.V8 hfx;have hnF:∀ a,io=some a→a.block≠gf:=fun a ha=>by have:=hI1.lt a ha;omega
    refine Td (by exact trivial) ?_;refine S4 ?_ ?_
    ·refine S3 rfl rfl (TZ i64 0 bG z3 rfl rfl rfl (by omega) (by omega) (by omega) (by omega) rfl ?_);intro v3 hR3 hsx hfx;rw[hq1n] at hR3 ⊢;obtain⟨gr,hgre⟩:∃ x,x=v2.heap.size:=⟨_,rfl⟩
     rw[←hgre] at hR3 ⊢;have hG3:=hG2.trans hfx;have hgr3:gr<v3.heap.size:=hR3.lt _ rfl;have hgrW:w1.heap.size≤gr:=by rw[hgre];exact hG2.size
     have hI3:=hI2.V8 hfx;have hF3:=hF2.V8 hfx;have hgf3:gf<v3.heap.size:=hF3.lt _ rfl;have hnI:∀ a,io=some a→a.block≠gr:=fun a ha=>by have:=hI2.lt a ha;omega
     have hrf:gf≠gr:=by omega
     refine Td (by exact trivial) ?_;refine S0 rfl rfl (bU (biC (.slice lo qs.length lc) (.slice io ids.length ic) sN sN sN sN sN sN (.slice (some ⟨gr,0,none⟩) (qs.length+1) (qs.length+1)) (.slice (some ⟨gf,0,none⟩) (qs.length+1) (qs.length+1)) sN sN 0) zZ Gl) rfl ?_;refine S4 ?_ ?_
     ·refine S3 rfl rfl (Tb rfl rfl ?_);intro v4 hgm hsx hfx;obtain⟨gm,hgme⟩:∃ x,x=v3.heap.size:=⟨_,rfl⟩
      rw[←hgme] at hgm ⊢;have hG4:=hG3.trans hfx;have hI4:=hI3.V8 hfx;have hR4:=hR3.V8 hfx;have hF4:=hF3.V8 hfx;refine Td (by exact trivial) ?_;have hsx:v4.heap.size=v3.heap.size+1:=hsx;have hgr4:gr<gm:=by rw[hgme];exact hR3.lt _ rfl
      have hgf4:gf<gm:=by rw[hgme];exact hF3.lt _ rfl
      have hI3l:∀ a,io=some a→a.block<gm:=fun a ha=>by rw[hgme];exact hI3.lt a ha
      refine S0 rfl rfl (To rfl) rfl ?_;refine TQ ?_;exact aC ⟨⟨ids,⟨io,ic⟩⟩,⟨gr,⟨gf,gm⟩⟩⟩ ⟨hIds,hI4,hR4,hF4,hgm,⟨hgrW,hgfW,hgr4,hgf4,hrf,by omega⟩,hI3l,hnI,hnF,hG4⟩
     exact S2
    exact S2
   exact S2
  refine S4 ?_ ?_
  ·refine S3 rfl rfl (TZ i64 0 bG z3 rfl rfl rfl (by omega) (by omega) (by omega) (by omega) rfl ?_);intro v1 hR1 hsx hfx;rw[hq1n] at hR1 ⊢;obtain⟨gr,hgre⟩:∃ x,x=v0.heap.size:=⟨_,rfl⟩
   rw[←hgre] at hR1 ⊢;have hG1:=hG0.trans hfx;have hgr1:gr<v1.heap.size:=hR1.lt _ rfl;have hgrW:w1.heap.size≤gr:=by rw[hgre];exact hG0.size
   refine Td (by exact trivial) ?_;refine S4 ?_ ?_
   ·refine S3 rfl rfl (SH Kd rfl (rA lo lc qs v1 (hvq.1.keep' hG1 (fun _ _ _=>id)) (by omega)) rfl ?_);rintro _ v2 ⟨io,ic,ids,rfl,hI2,hfI,hIds,hfx⟩;have hG2:=hG1.trans hfx;have hR2:=hR1.V8 hfx;have hgr2:gr<v2.heap.size:=hR2.lt _ rfl;have hnI:∀ a,io=some a→a.block≠gr:=fun a ha=>by have:=hfI a ha;omega
    refine Td (by exact trivial) ?_;refine S4 ?_ ?_
    ·refine S3 rfl rfl (TU dW (by decide) jC AW (by kernel_rfl) rfl rfl (by omega) (by omega) (by omega) (by omega) rfl ?_);intro v3 hF3 hsx hfx;rw[hq1n] at hF3 ⊢;obtain⟨gf,hgfe⟩:∃ x,x=v2.heap.size:=⟨_,rfl⟩
     rw[←hgfe] at hF3 ⊢;have hG3:=hG2.trans hfx;have hgf3:gf<v3.heap.size:=hF3.lt _ rfl;have hgfW:w1.heap.size≤gf:=by rw[hgfe];exact hG2.size
     have hI3:=hI2.V8 hfx;have hR3:=hR2.V8 hfx;have hgr3:gr<v3.heap.size:=hR3.lt _ rfl;have hnF:∀ a,io=some a→a.block≠gf:=fun a ha=>by have:=hI2.lt a ha;omega
     have hrf:gf≠gr:=by omega
     refine Td (by exact trivial) ?_;refine S0 rfl rfl (bU (biC (.slice lo qs.length lc) (.slice io ids.length ic) sN sN sN sN sN sN (.slice (some ⟨gr,0,none⟩) (qs.length+1) (qs.length+1)) (.slice (some ⟨gf,0,none⟩) (qs.length+1) (qs.length+1)) sN sN 0) zZ Gl) rfl ?_;refine S4 ?_ ?_
     ·refine S3 rfl rfl (Tb rfl rfl ?_);intro v4 hgm hsx hfx;obtain⟨gm,hgme⟩:∃ x,x=v3.heap.size:=⟨_,rfl⟩
      rw[←hgme] at hgm ⊢;have hG4:=hG3.trans hfx;have hI4:=hI3.V8 hfx;have hR4:=hR3.V8 hfx;have hF4:=hF3.V8 hfx;refine Td (by exact trivial) ?_;have hsx:v4.heap.size=v3.heap.size+1:=hsx;have hgr4:gr<gm:=by rw[hgme];exact hR3.lt _ rfl
      have hgf4:gf<gm:=by rw[hgme];exact hF3.lt _ rfl
      have hI3l:∀ a,io=some a→a.block<gm:=fun a ha=>by rw[hgme];exact hI3.lt a ha
      refine S0 rfl rfl (To rfl) rfl ?_;refine TQ ?_;exact aC ⟨⟨ids,⟨io,ic⟩⟩,⟨gr,⟨gf,gm⟩⟩⟩ ⟨hIds,hI4,hR4,hF4,hgm,⟨hgrW,hgfW,hgr4,hgf4,hrf,by omega⟩,hI3l,hnI,hnF,hG4⟩
     exact S2
    exact S2
   refine S4 ?_ ?_
   ·refine S3 rfl rfl (TU dW (by decide) jC AW (by kernel_rfl) rfl rfl (by omega) (by omega) (by omega) (by omega) rfl ?_);intro v2 hF2 hsx hfx;rw[hq1n] at hF2 ⊢;obtain⟨gf,hgfe⟩:∃ x,x=v1.heap.size:=⟨_,rfl⟩
    rw[←hgfe] at hF2 ⊢;have hG2:=hG1.trans hfx;have hgf2:gf<v2.heap.size:=hF2.lt _ rfl;have hgfW:w1.heap.size≤gf:=by rw[hgfe];exact hG1.size
    have hR2:=hR1.V8 hfx;have hgr2:gr<v2.heap.size:=hR2.lt _ rfl;have hrf:gf≠gr:=by omega
    refine Td (by exact trivial) ?_;refine S4 ?_ ?_
    ·refine S3 rfl rfl (SH Kd rfl (rA lo lc qs v2 (hvq.1.keep' hG2 (fun _ _ _=>id)) (by omega)) rfl ?_);rintro _ v3 ⟨io,ic,ids,rfl,hI3,hfI,hIds,hfx⟩;have hG3:=hG2.trans hfx;have hR3:=hR2.V8 hfx;have hgr3:gr<v3.heap.size:=hR3.lt _ rfl;have hF3:=hF2.V8 hfx;have hgf3:gf<v3.heap.size:=hF3.lt _ rfl;have hnI:∀ a,io=some a→a.block≠gr:=fun a ha=>by have:=hfI a ha;omega
     have hnF:∀ a,io=some a→a.block≠gf:=fun a ha=>by have:=hfI a ha;omega
     refine Td (by exact trivial) ?_;refine S0 rfl rfl (bU (biC (.slice lo qs.length lc) (.slice io ids.length ic) sN sN sN sN sN sN (.slice (some ⟨gr,0,none⟩) (qs.length+1) (qs.length+1)) (.slice (some ⟨gf,0,none⟩) (qs.length+1) (qs.length+1)) sN sN 0) zZ Gl) rfl ?_;refine S4 ?_ ?_
     ·refine S3 rfl rfl (Tb rfl rfl ?_);intro v4 hgm hsx hfx;obtain⟨gm,hgme⟩:∃ x,x=v3.heap.size:=⟨_,rfl⟩
      rw[←hgme] at hgm ⊢;have hG4:=hG3.trans hfx;have hI4:=hI3.V8 hfx;have hR4:=hR3.V8 hfx;have hF4:=hF3.V8 hfx;refine Td (by exact trivial) ?_;have hsx:v4.heap.size=v3.heap.size+1:=hsx;have hgr4:gr<gm:=by rw[hgme];exact hR3.lt _ rfl
      have hgf4:gf<gm:=by rw[hgme];exact hF3.lt _ rfl
      have hI3l:∀ a,io=some a→a.block<gm:=fun a ha=>by rw[hgme];exact hI3.lt a ha
      refine S0 rfl rfl (To rfl) rfl ?_;refine TQ ?_;exact aC ⟨⟨ids,⟨io,ic⟩⟩,⟨gr,⟨gf,gm⟩⟩⟩ ⟨hIds,hI4,hR4,hF4,hgm,⟨hgrW,hgfW,hgr4,hgf4,hrf,by omega⟩,hI3l,hnI,hnF,hG4⟩
     exact S2
    exact S2
   exact S2
  refine S4 ?_ ?_
  ·refine S3 rfl rfl (TU dW (by decide) jC AW (by kernel_rfl) rfl rfl (by omega) (by omega) (by omega) (by omega) rfl ?_);intro v1 hF1 hsx hfx;rw[hq1n] at hF1 ⊢;obtain⟨gf,hgfe⟩:∃ x,x=v0.heap.size:=⟨_,rfl⟩
   rw[←hgfe] at hF1 ⊢;have hG1:=hG0.trans hfx;have hgf1:gf<v1.heap.size:=hF1.lt _ rfl;have hgfW:w1.heap.size≤gf:=by rw[hgfe];exact hG0.size
   refine Td (by exact trivial) ?_;refine S4 ?_ ?_
   ·refine S3 rfl rfl (SH Kd rfl (rA lo lc qs v1 (hvq.1.keep' hG1 (fun _ _ _=>id)) (by omega)) rfl ?_);rintro _ v2 ⟨io,ic,ids,rfl,hI2,hfI,hIds,hfx⟩;have hG2:=hG1.trans hfx;have hF2:=hF1.V8 hfx;have hgf2:gf<v2.heap.size:=hF2.lt _ rfl;have hnF:∀ a,io=some a→a.block≠gf:=fun a ha=>by have:=hfI a ha;omega
    refine Td (by exact trivial) ?_;refine S4 ?_ ?_
    ·refine S3 rfl rfl (TZ i64 0 bG z3 rfl rfl rfl (by omega) (by omega) (by omega) (by omega) rfl ?_);intro v3 hR3 hsx hfx;rw[hq1n] at hR3 ⊢;obtain⟨gr,hgre⟩:∃ x,x=v2.heap.size:=⟨_,rfl⟩
     rw[←hgre] at hR3 ⊢;have hG3:=hG2.trans hfx;have hgr3:gr<v3.heap.size:=hR3.lt _ rfl;have hgrW:w1.heap.size≤gr:=by rw[hgre];exact hG2.size
     have hI3:=hI2.V8 hfx;have hF3:=hF2.V8 hfx;have hgf3:gf<v3.heap.size:=hF3.lt _ rfl;have hnI:∀ a,io=some a→a.block≠gr:=fun a ha=>by have:=hI2.lt a ha;omega
     have hrf:gf≠gr:=by omega
     refine Td (by exact trivial) ?_;refine S0 rfl rfl (bU (biC (.slice lo qs.length lc) (.slice io ids.length ic) sN sN sN sN sN sN (.slice (some ⟨gr,0,none⟩) (qs.length+1) (qs.length+1)) (.slice (some ⟨gf,0,none⟩) (qs.length+1) (qs.length+1)) sN sN 0) zZ Gl) rfl ?_;refine S4 ?_ ?_
     ·refine S3 rfl rfl (Tb rfl rfl ?_);intro v4 hgm hsx hfx;obtain⟨gm,hgme⟩:∃ x,x=v3.heap.size:=⟨_,rfl⟩
      rw[←hgme] at hgm ⊢;have hG4:=hG3.trans hfx;have hI4:=hI3.V8 hfx;have hR4:=hR3.V8 hfx;have hF4:=hF3.V8 hfx;refine Td (by exact trivial) ?_;have hsx:v4.heap.size=v3.heap.size+1:=hsx;have hgr4:gr<gm:=by rw[hgme];exact hR3.lt _ rfl
      have hgf4:gf<gm:=by rw[hgme];exact hF3.lt _ rfl
      have hI3l:∀ a,io=some a→a.block<gm:=fun a ha=>by rw[hgme];exact hI3.lt a ha
      refine S0 rfl rfl (To rfl) rfl ?_;refine TQ ?_;exact aC ⟨⟨ids,⟨io,ic⟩⟩,⟨gr,⟨gf,gm⟩⟩⟩ ⟨hIds,hI4,hR4,hF4,hgm,⟨hgrW,hgfW,hgr4,hgf4,hrf,by omega⟩,hI3l,hnI,hnF,hG4⟩
     exact S2
    exact S2
   refine S4 ?_ ?_
   ·refine S3 rfl rfl (TZ i64 0 bG z3 rfl rfl rfl (by omega) (by omega) (by omega) (by omega) rfl ?_);intro v2 hR2 hsx hfx;rw[hq1n] at hR2 ⊢;obtain⟨gr,hgre⟩:∃ x,x=v1.heap.size:=⟨_,rfl⟩
    rw[←hgre] at hR2 ⊢;have hG2:=hG1.trans hfx;have hgr2:gr<v2.heap.size:=hR2.lt _ rfl;have hgrW:w1.heap.size≤gr:=by rw[hgre];exact hG1.size
    have hF2:=hF1.V8 hfx;have hgf2:gf<v2.heap.size:=hF2.lt _ rfl;have hrf:gf≠gr:=by omega
    refine Td (by exact trivial) ?_;refine S4 ?_ ?_
    ·refine S3 rfl rfl (SH Kd rfl (rA lo lc qs v2 (hvq.1.keep' hG2 (fun _ _ _=>id)) (by omega)) rfl ?_);rintro _ v3 ⟨io,ic,ids,rfl,hI3,hfI,hIds,hfx⟩;have hG3:=hG2.trans hfx;have hR3:=hR2.V8 hfx;have hgr3:gr<v3.heap.size:=hR3.lt _ rfl;have hF3:=hF2.V8 hfx;have hgf3:gf<v3.heap.size:=hF3.lt _ rfl;have hnI:∀ a,io=some a→a.block≠gr:=fun a ha=>by have:=hfI a ha;omega
     have hnF:∀ a,io=some a→a.block≠gf:=fun a ha=>by have:=hfI a ha;omega
     refine Td (by exact trivial) ?_;refine S0 rfl rfl (bU (biC (.slice lo qs.length lc) (.slice io ids.length ic) sN sN sN sN sN sN (.slice (some ⟨gr,0,none⟩) (qs.length+1) (qs.length+1)) (.slice (some ⟨gf,0,none⟩) (qs.length+1) (qs.length+1)) sN sN 0) zZ Gl) rfl ?_;refine S4 ?_ ?_
     ·refine S3 rfl rfl (Tb rfl rfl ?_);intro v4 hgm hsx hfx;obtain⟨gm,hgme⟩:∃ x,x=v3.heap.size:=⟨_,rfl⟩
      rw[←hgme] at hgm ⊢;have hG4:=hG3.trans hfx;have hI4:=hI3.V8 hfx;have hR4:=hR3.V8 hfx;have hF4:=hF3.V8 hfx;refine Td (by exact trivial) ?_;have hsx:v4.heap.size=v3.heap.size+1:=hsx;have hgr4:gr<gm:=by rw[hgme];exact hR3.lt _ rfl
      have hgf4:gf<gm:=by rw[hgme];exact hF3.lt _ rfl
      have hI3l:∀ a,io=some a→a.block<gm:=fun a ha=>by rw[hgme];exact hI3.lt a ha
      refine S0 rfl rfl (To rfl) rfl ?_;refine TQ ?_;exact aC ⟨⟨ids,⟨io,ic⟩⟩,⟨gr,⟨gf,gm⟩⟩⟩ ⟨hIds,hI4,hR4,hF4,hgm,⟨hgrW,hgfW,hgr4,hgf4,hrf,by omega⟩,hI3l,hnI,hnF,hG4⟩
     exact S2
    exact S2
   exact S2
  exact S2
 rintro⟨⟨ids,⟨io,ic⟩⟩,⟨gr,⟨gf,gm⟩⟩⟩ v4 ⟨hIds,hI4,hR4,hF4,hgm,⟨hgrW,hgfW,hgr4,hgf4,hrf,hsx⟩,hI3l,hnI,hnF,hG4⟩;have hz4:=hG4.size;have hvq4:cE (fun k=>k<W.heap.size) v4.heap lo lc qs:=dE hvq hG4 (fun _ _=>id) (fun _ _ _=>id) (fun _=>id);have hid80:=uS hIds;have hrep:∀ z∈List.replicate (qs.length+1) (0:Int),z=0:=fun z hz=>List.eq_of_mem_replicate hz;refine Gz 2 ?_;refine cL (S6 (cs:=#[iV 64,sN,sN]) OK Ow rfl (by kernel_rfl)) ?_;refine SP Ow rfl ?_;intro w5 hg5 hs5 hf5;obtain⟨g7,hg7e⟩:∃ x,x=v4.heap.size:=⟨_,rfl⟩
 rw[←hg7e] at hg5 ⊢;refine sA rfl QI (by simp[Value.oneCell']) hg5 ?_;intro w6 hg6 hs6 hf6;have hF46:aA nob v4 w6:=hf5.tw hf6;have hR6:RyO (· = g7) w6.heap g7 64 ⟨[],[]⟩:=RyO.zero hg6;have hs5b:w5.heap.size=v4.heap.size+1:=hs5;have hs6b:w6.heap.size=w5.heap.size:=hs6;refine Gz 4 ?_;refine cL (S6 (cs:=#[sN]) OJ Ov rfl (by kernel_rfl)) ?_;refine SP Ov rfl ?_;intro w7 hg7 hs7 hf7;obtain⟨g8,hg8e⟩:∃ x,x=w6.heap.size:=⟨_,rfl⟩
 rw[←hg8e] at hg7 ⊢;refine sA rfl QH (by simp[Value.oneCell']) hg7 ?_;intro w8 hg8 hs8 hf8;have hF68:aA nob w6 w8:=hf7.tw hf8;have hP8:uE (· = g8) w8.heap g8 []:=uE.zero hg8;have hR8:=hR6.V9 hF68 (fun _ _ _=>id);have hF48:=hF46.trans hF68;have hs7b:w7.heap.size=w6.heap.size+1:=hs7;have hs8b:w8.heap.size=w7.heap.size:=hs8;refine Gz 9 ?_;refine SQ (β:=(Nat×FSt)×((Nat→Prop)×(Nat→Prop))) (fun⟨⟨k,s⟩,⟨D7,D8⟩⟩=>[(0,.slice lo qs.length lc),(5,pT gm),(6,pT g7),(7,pT g8),(8,iV k)]) (fun⟨⟨k,s⟩,⟨D7,D8⟩⟩ w=>k≤qs.length∧s=(nds (qs.take k)).foldl gQ (fs0 (qs.length+1))∧s.ds.m.length≤k∧FI (nds (qs.take k)) (qs.length+1) s∧RyO D7 w.heap g7 64 s.ds∧uE D8 w.heap g8 s.tails∧(∀ k,D7 k→v4.heap.size≤k∧k<w.heap.size)∧(∀ k,D8 k→v4.heap.size≤k∧k<w.heap.size)∧(∀ k,D7 k→¬ D8 k)∧bN 11 yK 84 w.heap (some ⟨gf,0,none⟩) (qs.length+1) s.files∧aA (· = gf) v4 w) (fun⟨⟨k,s⟩,⟨D7,D8⟩⟩=>qs.length-k) ⟨⟨0,fs0 (qs.length+1)⟩,⟨(· = g7),(· = g8)⟩⟩ ⟨rfl,rfl,rfl,rfl,rfl,trivial⟩ ⟨Nat.zero_le _,rfl,Nat.zero_le _,fi0 _,hR8,hP8,fun k h=>by have h:k=g7:=h;omega,fun k h=>by have h:k=g8:=h;omega,fun k h h2=>by have h:k=g7:=h;have h2:k=g8:=h2;omega,hF4.V8 hF48,hF48.any⟩ ?_;rintro⟨⟨k,s⟩,⟨D7,D8⟩⟩ w9 ⟨hk,hs,hmc,hFI,hM,hP,hd7,hd8,hd78,hFf,hF9⟩;refine fK 6 ?_ ?_<;>intro h50
 ·have hkl:k<qs.length:=by omega
  obtain⟨q,hq⟩:∃ q,qs[k]?=some q:=⟨_,List.getElem?_eq_getElem hkl⟩
  have hqm:=mem_of_getElem? hq;have hqi:=G.ino q hqm;obtain⟨m,hm⟩:=Int.eq_ofNat_of_zero_le (show 0≤q.2.ino by omega);have hml:m<s.files.length:=by rw[hFI.l];omega
  obtain⟨f,hf⟩:∃ f,s.files[m]?=some f:=⟨_,List.getElem?_eq_getElem hml⟩
  have hfd:s.files.getD q.2.ino.toNat jC=f:=by rw[show q.2.ino.toNat=m by omega,List.getD,hf];rfl
  have hdat:q.2.data.length≤4096:=(G.may q hqm).2.2.2.2.2.2.1;have hnd:cE (fun k=>k<W.heap.size) w9.heap lo lc qs:=dE hvq4 hF9 (fun k hk h=>by have h:k=gf:=h;have hk:k<W.heap.size:=hk;omega) (fun _ k hk h=>by have h:k=gf:=h;have:=hlo1 k hk;omega) (fun _=>id);have hgm9:=hF9.obj hgm (fun h=>by have h:gm=gf:=h;omega);have hz9:=hF9.size;obtain⟨hqv1,hqv2,hqv3⟩:=hnd.2 q hqm;have hFl:=hFI.l;refine Gz 1 ?_;refine aW [(0,_),(5,_),(6,_),(7,_),(8,_),(50,_)] ?_;refine Gz 4 ?_;refine Tj (β:=FSt×((Nat→Prop)×(Nat→Prop))) (fun⟨s,⟨D7,D8⟩⟩=>[(0,.slice lo qs.length lc),(5,pT gm),(6,pT g7),(7,pT g8),(8,iV k)]) (fun⟨s,⟨D7,D8⟩⟩ w=>s=(nds (qs.take (k+1))).foldl gQ (fs0 (qs.length+1))∧s.ds.m.length≤k+1∧FI (nds (qs.take (k+1))) (qs.length+1) s∧RyO D7 w.heap g7 64 s.ds∧uE D8 w.heap g8 s.tails∧(∀ k,D7 k→v4.heap.size≤k∧k<w.heap.size)∧(∀ k,D8 k→v4.heap.size≤k∧k<w.heap.size)∧(∀ k,D7 k→¬ D8 k)∧bN 11 yK 84 w.heap (some ⟨gf,0,none⟩) (qs.length+1) s.files∧aA (· = gf) v4 w) ?_ ?_
  ·refine Gz 5 ?_;refine cL (SJ bF rfl rfl hnd.1.non (by omega)) ?_;refine cL (SU (cs:=aN q) fB rfl (fun j v hj=>hnd.1.rowZ k rfl hq j v hj)) ?_;refine SP mL rfl ?_;intro w10 hg10 hs10 hf10;obtain⟨gn,hgne⟩:∃ x,x=w9.heap.size:=⟨_,rfl⟩
   rw[←hgne] at hg10 ⊢;refine Tc (vs:=aN q) fB rfl rfl (aB q).2 hg10 rfl ?_;intro w11 hgn hs11 hf11;have hf911:aA nob w9 w11:=hf10.tw hf11;have hgm11:=hf911.obj hgm9 id;have hFf11:=hFf.V8 hf911;have hM11:=hM.V9 hf911 (fun _ _ _=>id);have hP11:=hP.V9 hf911 (fun _ _=>id);have hs10b:w10.heap.size=w9.heap.size+1:=hs10;have hs11b:w11.heap.size=w10.heap.size:=hs11;have hFv:=hFf11.vw dW;have hF11:aA (· = gf) v4 w11:=hF9.trans hf911.any;refine Gz 4 ?_;refine SZ 15 [0,1,2,3,4,5,6,7,8,9,10,11,12,13,14] aK (by kernel_rfl) ?_;refine Gz 1 ?_;refine xC rfl (SL aI rfl (aE hgn rfl)) ?_;refine xK 0 ?_ ?_<;>intro h59
   ·have hsk:gQ s q.2=s:=Db (.inl h59);refine Gz 18 ?_;have hs2:=xE hq (fs0 (qs.length+1));rw[←hs] at hs2;have hFI2:=rT hFI (x:=q.2) ⟨by omega,by omega⟩ hdat;rw[←Bg hq] at hFI2;rw[hsk] at hs2 hFI2;exact aC ⟨s,⟨D7,D8⟩⟩ ⟨hs2.symm,by omega,hFI2,hM11,hP11,fun k hk=>by have:=hd7 k hk;exact⟨by omega,by show k<w11.heap.size;omega⟩,fun k hk=>by have:=hd8 k hk;exact⟨by omega,by show k<w11.heap.size;omega⟩,hd78,hFf11,hF11.draws 1⟩
   have hk2:q.2.kind=2:=not_not.1 h59;have hf11d:aA nob w11 (w11.drewN 1):=VJ 1;refine Gz 4 ?_;refine xV rfl (SL MU rfl (aE hgm11 rfl)) ?_;refine Gz 1 ?_;refine xV rfl (SL aI rfl (aE hgn rfl)) ?_;refine xV rfl (SJ AW rfl rfl (by simp) (by omega)) ?_;refine Gz 1 ?_;refine xV rfl (SL aI rfl (hFv.rowZ m hm hf 0 _ rfl)) ?_;refine xW 0 ?_ ?_<;>intro h70
   ·have hsk:gQ s q.2=s:=Db (.inr (by rw[hfd];exact h70));refine Gz 7 ?_;have hs2:=xE hq (fs0 (qs.length+1));rw[←hs] at hs2;have hFI2:=rT hFI (x:=q.2) ⟨by omega,by omega⟩ hdat;rw[←Bg hq] at hFI2;rw[hsk] at hs2 hFI2;exact aC ⟨s,⟨D7,D8⟩⟩ ⟨hs2.symm,by omega,hFI2,hM11,hP11,fun k hk=>by have:=hd7 k hk;exact⟨by omega,by show k<w11.heap.size;omega⟩,fun k hk=>by have:=hd8 k hk;exact⟨by omega,by show k<w11.heap.size;omega⟩,hd78,hFf11,hF11.draws 1⟩
   have hnf:¬ (q.2.kind≠2∨(s.files.getD q.2.ino.toNat jC).1 0=2):=by rw[hfd];rintro(h|h);exact h hk2;exact h70 h
   obtain⟨R1,hR1⟩:∃ R,R=iF 64 s.ds q.2.data:=⟨_,rfl⟩
   obtain⟨R2,hR2⟩:∃ R,R=dU s.tails (dJ q.2.data):=⟨_,rfl⟩
   obtain⟨fN,hfN⟩:∃ f:Ino,f=(fun j=>[2,0,0,0,0,0,(R1.2:Int),q.2.data.length,(R2.2.1:Int),(R2.2.2:Int)].getD j 0,[]):=⟨_,rfl⟩
   have hsn:gQ s q.2=⟨R1.1,R2.1,s.files.set m fN⟩:=by unfold gQ;rw[if_neg hnf,←hR1,←hR2,hfN,show q.2.ino.toNat=m by omega]
   refine Gz 9 ?_;refine cL (SM (u:=.slice q.1.data.a q.2.data.length q.1.data.c) (SL aV rfl (aE hgn rfl)) (by rw[←hqv2.1];rfl)) ?_;refine SH Sm rfl (GZ D7 g7 64 s.ds q.1.data.a q.1.data.c q.2.data (w11.drewN 1) (hM11.V9 hf11d (fun _ _ _=>id)) ((hqv2.2.1.V8 hf911).V8 hf11d) (by decide) (by have:=hFI.b;rw[length_map,length_take] at this;omega) (by omega) (by omega)) rfl ?_;rw[←hR1];rintro _ w12 ⟨o12,c12,rfl,ho12,hfr12,hM12,hf12⟩;have hf12:=hf12.V6;have hfr12:Fr w11.heap.size o12:=hfr12;have hM12:RyO (fun k=>Nx D7 w11 w12 k∧¬ blk o12 k) w12.heap g7 64 R1.1:=hM12;have hz12:=hf12.size;have hP12:=hP11.V9 hf12 (fun k hk h=>hd78 k h hk);refine Gz 10 ?_;refine SH Sk rfl (LG D8 g8 s.tails o12 c12 (dJ q.2.data) w12 hP12 (fun k hk=>by have:=hd8 k hk;omega) ho12.vw (by have:=hFI.tn;rw[length_map,length_take] at this;omega) (fun x hx=>by have:=hFI.t x hx;omega)) rfl ?_;rw[←hR2];rintro _ w13 ⟨rfl,D8b,hP13,hD8a,hD8b,hf13⟩;have hz13:=hf13.size;have hgm13:=hf13.obj (hf12.obj hgm11 (fun h=>by have:=hd7 gm h;omega)) (fun h=>by have:=hd8 gm h;omega);have hgn13:=hf13.obj (hf12.obj hgn (fun h=>by have:=hd7 gn h;omega)) (fun h=>by have:=hd8 gn h;omega);have hFf13:=(hFf11.V9 hf12 (fun a ha h=>by cases ha;have:=hd7 gf h;omega)).V9 hf13 (fun a ha h=>by cases ha;have:=hd8 gf h;omega);have hM13:=hM12.V9 hf13 (fun k _ hk h=>by rcases hk.1 with h2|h2;exact hd78 k h2 h;have:=hd8 k h;omega);have hFf13v:=hFf13.vw dW;have hF13:aA (· = gf) v4 w13:=(hF11.V5 hf12 (fun k h=>.inr (hd7 k h).1)).V5 hf13 (fun k h=>.inr (hd8 k h).1);refine Gz 7 ?_;refine SV 14 (fun H=>H[gm]?=some (.cells (biC (.slice lo qs.length lc) (.slice io ids.length ic) sN sN sN sN sN sN (.slice (some ⟨gr,0,none⟩) (qs.length+1) (qs.length+1)) (.slice (some ⟨gf,0,none⟩) (qs.length+1) (qs.length+1)) sN sN 0).toArray 76 (0,0))∧H[gn]?=some (.cells (aN q).toArray 68 (0,0))) [14] [0,1,2,3,4,5,6,7,8,9,10,11,12,13,14] aK (by kernel_rfl) (⟨hgm13,hgn13⟩) ?_;refine Gz 8 ?_;refine xC rfl (SM (u:=.slice q.1.data.a q.2.data.length q.1.data.c) (SX aV rfl (fun H hH=>aE hH.2 rfl)) (by rw[←hqv2.1];rfl)) ?_;refine Gz 3 ?_;refine xC rfl (bU (yK (fun j=>[2,0,0,0,0,0,(R1.2:Int),q.2.data.length,(R2.2.1:Int),(R2.2.2:Int)].getD j 0,[])) Cw vA) ?_;rw[←hfN];refine xC rfl (SJ AW rfl rfl (by simp) (by omega)) ?_;refine SO rfl rfl (U1 dW (u:=fN) (i:=m) hml cR rfl (by rw[hm,Int.toNat_natCast]) rfl hFf13 ?_);intro w14 ho14 hs14 hf14;refine Tl rfl ?_;have hs14b:w14.heap.size=w13.heap.size:=hs14;have hgb:∀ k,blk (some (⟨gf,0,none⟩:Addr)) k→k=gf:=fun k ⟨a,ha,e⟩=>by cases ha;exact e.symm
   have hf14:=hf14.V6;have hM14:=hM13.V9 (hf14.mono hgb) (fun k _ hk h=>by rw[h] at hk;rcases hk.1 with h2|h2;have:=hd7 gf h2;omega;omega);have hP14:=hP13.V9 (hf14.mono hgb) (fun k hk h=>by have h:k=gf:=h;rw[h] at hk;rcases hD8a gf hk with h2|h2;have:=hd8 gf h2;omega;omega);have hF14:aA (· = gf) v4 w14:=hF13.trans (hf14.mono hgb);refine Gz 2 ?_;have hs2:=xE hq (fs0 (qs.length+1));rw[←hs] at hs2;have hFI2:=rT hFI (x:=q.2) ⟨by omega,by omega⟩ hdat;rw[←Bg hq] at hFI2;have hmm:=M4 0 [q.2] s;have hmm:(gQ s q.2).ds.m.length≤s.ds.m.length+1:=hmm;rw[hsn] at hs2 hFI2 hmm;exact aC ⟨⟨R1.1,R2.1,s.files.set m fN⟩,⟨(fun k=>Nx D7 w11 w12 k∧¬ blk o12 k),D8b⟩⟩ ⟨hs2.symm,by omega,hFI2,hM14,hP14,fun k hk=>by rcases hk.1 with h|h;have:=hd7 k h;omega;omega,fun k hk=>by have:=hD8b k hk;rcases hD8a k hk with h|h;have:=hd8 k h;omega;omega,fun k hk h=>by rcases hD8a k h with h2|h2;rcases hk.1 with h3|h3;exact hd78 k h3 h2;have:=hd8 k h2;omega;rcases hk.1 with h3|h3;have:=hd7 k h3;omega;omega,ho14,hF14⟩
  rintro⟨s,⟨D7,D8⟩⟩ w15 ⟨hs,hmc,hFI,hM,hP,hd7,hd8,hd78,hFf,hF9⟩;refine Gz 5 ?_;exact aG ⟨⟨k+1,s⟩,⟨D7,D8⟩⟩ ⟨by omega,hs,hmc,hFI,hM,hP,hd7,hd8,hd78,hFf,hF9⟩ (by show qs.length-(k+1)<qs.length-k;omega)
 have hke:k=qs.length:=by omega
 subst hke;rw[take_length] at hs hFI;have hs:s=bM qs:=hs;subst hs;have hz9:=hF9.size;refine Gz 1 ?_;refine aW [(0,_),(5,_),(6,_),(7,_),(8,_),(50,_)] ?_;refine Gz 9 ?_;refine Ti i64 bG rfl ?_;intro w10 ho10 hs10 hf10;obtain⟨pb,hpb⟩:∃ x,x=w9.heap.size:=⟨_,rfl⟩
 rw[←hpb] at ho10 ⊢;obtain⟨L,hL⟩:∃ L,L=(bM qs).tails:=⟨_,rfl⟩
 have hLn:L.length≤40:=by have:=hFI.tn;rw[length_map] at this;rw[hL];omega
 have hLb:Dw L:=by rw[hL];exact hFI.t
 have hdB:(bM qs).ds.B.length≤172800:=by have:=hFI.b;rw[length_map] at this;omega
 have hs10b:w10.heap.size=w9.heap.size+1:=hs10;rw[←hL] at hP;refine Gz 10 ?_;refine SQ (β:=(Nat×(DS×List Int))×((Nat→Prop)×(Option Addr×Nat))) (fun⟨⟨j,⟨d9,pl9⟩⟩,⟨D9,⟨po,pc⟩⟩⟩=>[(0,.slice lo qs.length lc),(5,pT gm),(6,pT g7),(7,pT g8),(14,.slice po pl9.length pc),(15,iV j)]) (fun⟨⟨j,⟨d9,pl9⟩⟩,⟨D9,⟨po,pc⟩⟩⟩ w=>j≤L.length∧eK (L.take j) (bM qs).ds=(d9,pl9)∧w9.heap.size≤w.heap.size∧RyO D9 w.heap g7 64 d9∧uE D8 w.heap g8 L∧(∀ k,D9 k→v4.heap.size≤k∧k<w.heap.size)∧(∀ k,D9 k→¬ D8 k)∧Own i64 3 w.heap po pc pl9∧(∀ k,blk po k→v4.heap.size≤k∧¬ D9 k∧¬ D8 k)∧bN 11 yK 84 w.heap (some ⟨gf,0,none⟩) (qs.length+1) (bM qs).files∧aA (· = gf) v4 w) (fun⟨⟨j,⟨d9,pl9⟩⟩,⟨D9,⟨po,pc⟩⟩⟩=>L.length-j) ⟨⟨0,⟨(bM qs).ds,[]⟩⟩,⟨D7,⟨some ⟨pb,0,none⟩,0⟩⟩⟩ ⟨rfl,rfl,rfl,rfl,rfl,rfl,trivial⟩ ⟨Nat.zero_le _,rfl,by omega,hM.V9 hf10 (fun _ _ _=>id),hP.V9 hf10 (fun _ _=>id),fun k h=>by have:=hd7 k h;omega,hd78,ho10,fun k ⟨a,ha,e⟩=>by cases ha;have e:pb=k:=e;exact⟨by omega,fun h=>by have:=hd7 k h;omega,fun h=>by have:=hd8 k h;omega⟩,hFf.V8 hf10,hF9.trans hf10.any⟩ ?_;rintro⟨⟨j,⟨d9,pl9⟩⟩,⟨D9,⟨po,pc⟩⟩⟩ w11 ⟨hj,htl,hz911,hM9,hPr,hd9,hd98,hpo,hpd,hFl,hF11⟩;obtain⟨Din,ao,ac,gs,hgT,hgo,hrw,_⟩:=id hPr;have hgl:=hrw.1;have hg63:=hgo.vw.V7;refine fK 7 ?_ ?_<;>intro h102
 ·have hjl:j<L.length:=by omega
  have hjg:j<gs.length:=by omega
  obtain⟨t,ht⟩:∃ t,L[j]?=some t:=⟨_,List.getElem?_eq_getElem hjl⟩
  obtain⟨g,hg⟩:∃ g,gs[j]?=some g:=⟨_,List.getElem?_eq_getElem hjg⟩
  obtain⟨hgn,hgv,_⟩:=hrw.2 j g t hg ht;have htb:=hLb t (mem_of_getElem? ht);have htk:L.take (j+1)=L.take j++[t]:=tkL ht;have hsn:=yZ (L.take j) t (bM qs).ds;rw[←htk,htl] at hsn;have hdb9:d9.B.length≤200000:=by have h:=Ig (L:=L.take j) (fun b hb=>hLb b (mem_of_mem_take hb)) (bM qs).ds;rw[htl,length_take] at h;have h:d9.B.length≤_:=h;omega
  have hplj:pl9.length=j:=by have h:=lN (L.take j) (bM qs).ds;rw[htl,length_take] at h;have h:pl9.length=_:=h;omega
  refine Gz 1 ?_;refine aW [(0,_),(5,_),(6,_),(7,_),(14,_),(15,_),(102,_)] ?_;refine Gz 11 ?_;refine cL (SI pA rfl rfl hgo.vw.non (by omega)) ?_;refine cL (SM (u:=.slice g.a t.length g.c) (SL aV rfl (by rw[Int.toNat_natCast];exact hgo.vw.get j g hg)) (by rw[←hgn];rfl)) ?_;refine SH Sj rfl (Cl D9 g7 64 d9 g.a g.c t w11 hM9 hgv (by decide) (by omega) htb.2) rfl ?_;obtain⟨R,hR⟩:∃ R,R=nJ 64 d9 t:=⟨_,rfl⟩
  rw[←hR] at hsn ⊢;rintro _ w12 ⟨rfl,hM12,hf12⟩;have hz12:=hf12.size;have hpo12:=hpo.V9 hf12 (fun a ha h=>(hpd _ ⟨a,ha,rfl⟩).2.1 h);have hP12:=hPr.V9 hf12 (fun k hk h=>hd98 k h hk);refine Tg (enc:=i64) (u:=(R.2:Int)) bG rfl rfl rfl ?_;intro w13 ho13 hs13 hf13;refine SR kO bG rfl rfl (hpo12.V8 hf13) ho13.vw (by simp only[length_singleton];omega) (by simp only[length_singleton];unfold maxLen;omega) rfl ?_;intro po14 pc14 w14 ho14 hf14 hr14 hn14;have hz13:=hf13.size;have hz14:=hf14.size;have hnx:∀ k,Nx D9 w11 w12 k→v4.heap.size≤k∧k<w14.heap.size∧¬ D8 k∧¬ blk po k:=fun k hk=>by
   rcases hk with h|h
   ·have:=hd9 k h;exact⟨by omega,by omega,hd98 k h,fun hb=>(hpd k hb).2.1 h⟩
   ·exact⟨by omega,by omega,fun h2=>by have:=hd8 k h2;omega,fun⟨a,ha,e⟩=>by have:=hpo.lt a ha;omega⟩
  have hM14:=(hM12.V9 hf13 (fun _ _ _=>id)).V9 hf14 (fun k _ hk=>(hnx k hk).2.2.2);have hP14:=(hP12.V9 hf13 (fun _ _=>id)).V9 hf14 (fun k hk hb=>(hpd k hb).2.2 hk);have hF14:aA (· = gf) v4 w14:=((hF11.V5 hf12 (fun k h=>.inr (hd9 k h).1)).trans hf13.any).V5 hf14 (fun k h=>.inr (hpd k h).1);have hpd14:∀ k,blk po14 k→v4.heap.size≤k∧¬ Nx D9 w11 w12 k∧¬ D8 k:=fun k ⟨a,ha,e⟩=>by
   rcases hr14 a ha with h|h
   ·have:=hpd k ⟨a,h,e⟩;exact⟨this.1,fun h2=>(hnx k h2).2.2.2 ⟨a,h,e⟩,this.2.2⟩
   ·exact⟨by omega,fun h2=>by rcases h2 with h2|h2;have:=hd9 k h2;omega;omega,fun h2=>by have:=hd8 k h2;omega⟩
  refine Gz 9 ?_;exact aG ⟨⟨j+1,⟨R.1,pl9++[(R.2:Int)]⟩⟩,⟨Nx D9 w11 w12,⟨po14,pc14⟩⟩⟩ ⟨by omega,hsn,by omega,hM14,hP14,fun k hk=>by have:=hnx k hk;omega,fun k hk=>(hnx k hk).2.2.1,ho14,hpd14,((hFl.V9 hf12 (fun a ha h=>by cases ha;have:=hd9 gf h;omega)).V8 hf13).V9 hf14 (fun a ha h=>by cases ha;have:=(hpd gf h).1;omega),hF14⟩ (by show L.length-(j+1)<L.length-j;omega)
 have hje:j=L.length:=by omega
 subst hje;rw[take_length] at htl;refine Gz 1 ?_;refine aW [(0,_),(5,_),(6,_),(7,_),(14,_),(15,_),(102,_)] ?_;refine Gz 10 ?_;have hz11:=hF11.size;have hAll:=Gh G hIds;have hGd:=G.gdB hFI.l (Ki hFI);have htl2:eK (bM qs).tails (bM qs).ds=(d9,pl9):=by rw[←hL];exact htl
 have hpl9:pl9.length=L.length:=by have h:=lN L (bM qs).ds;rw[htl] at h;exact h
 obtain⟨ow0,how⟩:∃ f:Nat→Nat,f=fun k=>if k=gm then 6 else if k=gr then 5 else if k<v4.heap.size then 4 else 0:=⟨_,rfl⟩
 have o6:ow0 gm=6:=by rw[how];exact if_pos rfl
 have o4:∀ k,k<v4.heap.size→k≠gm→k≠gr→ow0 k=4:=fun k h1 h2 h3=>by rw[how];show (if k=gm then 6 else if k=gr then 5 else if k<v4.heap.size then 4 else 0)=4;rw[if_neg h2,if_neg h3,if_pos h1]
 have o0:∀ k,v4.heap.size≤k→ow0 k=0:=fun k h=>by rw[how];show (if k=gm then 6 else if k=gr then 5 else if k<v4.heap.size then 4 else 0)=0;rw[if_neg (by omega),if_neg (by omega),if_neg (by omega)]
 have o5:ow0 gr=5:=by rw[how];show (if gr=gm then 6 else if gr=gr then 5 else if gr<v4.heap.size then 4 else 0)=5;rw[if_neg (by omega),if_pos rfl]
 have hn0:∀ k,w11.heap.size≤k→ow0 k=0:=fun k hk=>o0 k (by omega);have hnd11:cE (fun k=>ow0 k=4) w11.heap lo lc qs:=dE hvq4 hF11 (fun k hk h=>by have h:k=gf:=h;have hk:k<W.heap.size:=hk;omega) (fun _ k hk h=>by have h:k=gf:=h;have:=hlo1 k hk;omega) (fun k hk=>o4 k (by omega) (by omega) (by omega));have hI11:=hI4.V9 hF11 (fun a ha h=>by have h:a.block=gf:=h;exact absurd h (hnF a ha));have hR11:=hR4.V9 hF11 (fun a ha h=>by cases ha;exact hrf h.symm);have hgm11:=hF11.obj hgm (fun h=>by have h:gm=gf:=h;omega);obtain⟨a0,ha0⟩:∃ a:BiA,a=⟨lo,lc,io,ic,none,0,none,0,none,0,none,0,none,0,none,0,some ⟨gr,0,none⟩,qs.length+1,some ⟨gf,0,none⟩,qs.length+1,none,0,none,0,[]⟩:=⟨_,rfl⟩
 have hW0:∀ z,WrM ow0 z w11.heap [] none 0 none 0:=fun z=>by
  have e:aT [] []=(([]:By),([]:By)):=cY (by decide);unfold WrM;rw[e];exact⟨VP,VP,VL,fun k ⟨a,ha,_⟩=>(by cases ha),fun k ⟨a,ha,_⟩=>(by cases ha)⟩
 have hBi:BiW a0 ow0 w11.heap gm qs ids (bM qs).files (sF (qs.length+1)):=by
  have e:aT [] []=(([]:By),([]:By)):=cY (by decide);subst ha0;refine⟨?_,o6,⟨hnd11,fun _ k hk=>o4 k (by have:=hlo1 k hk;omega) (by have:=hlo1 k hk;omega) (by have:=hlo1 k hk;omega)⟩,⟨hI11.vw,fun k ⟨a,ha,e⟩=>o4 k (by have:=hI3l a ha;omega) (by have:=hI3l a ha;omega) (by have:=hnI a ha;omega)⟩,⟨hFl.vw dW,fun k ⟨a,ha,e⟩=>by cases ha;have e:gf=k:=e;rw[←e];exact o4 gf (by omega) (by omega) hrf⟩,hW0 1,hW0 2,hW0 3,⟨hR11,fun k ⟨a,ha,e⟩=>by cases ha;have e:gr=k:=e;rw[←e];exact o5⟩,⟨VP,fun k ⟨a,ha,_⟩=>(by cases ha)⟩,⟨rfl,fun i h y hh _=>(by cases hh)⟩,VP,fun k ⟨a,ha,_⟩=>(by cases ha)⟩;unfold biK;rw[hFI.l];have e1:(sF (qs.length+1)).refs.length=qs.length+1:=length_replicate;rw[e1];show w11.heap[gm]?=some (.cells (biC _ _ (.slice none (aT [] []).1.length 0) (.slice none (aT [] []).2.length 0) (.slice none (aT [] []).1.length 0) (.slice none (aT [] []).2.length 0) (.slice none (aT [] []).1.length 0) (.slice none (aT [] []).2.length 0) _ _ _ _ _).toArray _ _);rw[e];exact hgm11
 have hok0:okS qs (sF (qs.length+1)):=⟨length_replicate,⟨fun z hz=>by rw[hrep z hz];decide,fun y hy=>(by cases hy)⟩,fun y hy=>(by cases hy)⟩
 refine SH Pb rfl (zJ gm qs ids (bM qs).files hGd 17 a0 ow0 (sF (qs.length+1)) ((0:Nat):Int) w11 hBi hn0 ⟨by omega,by omega⟩ (by omega) hok0 hAll.b) rfl ?_;rintro _ w15 hP15;obtain⟨S,hS⟩:∃ S,S=wrB qs ids (bM qs).files 17 ((0:Nat):Int) (sF (qs.length+1)):=⟨_,rfl⟩
 rw[←hS] at hP15;obtain⟨hf15,a15,ow15,hM15,hl15,hn15,hbr15⟩:=hP15;have hz15:=hf15.size;have hAs:(aF qs ids).s=S:=hS.symm;have hAd:(aF qs ids).d=d9:=by show (eK (bM qs).tails (bM qs).ds).1=d9;rw[htl2]
 have hAp:(aF qs ids).pl=pl9:=by show (eK (bM qs).tails (bM qs).ds).2=pl9;rw[htl2]
 have hAm:=hAll.m;have hAi:=hAll.i;have hAl:=hAll.l;have hAf:=hAll.f;rw[hAs] at hAm hAi hAl hAf;have hAn4:=hAll.n4;have hAn2:=hAll.n2;rw[hAp] at hAn4;have hv15:=hnd11.1.keep' hf15 (fun hne a ha h=>h.2 (o4 a.block (by have:=hlo1 _ ⟨a,ha,rfl⟩;omega) (by have:=hlo1 _ ⟨a,ha,rfl⟩;omega) (by have:=hlo1 _ ⟨a,ha,rfl⟩;omega)));have hd9o:∀ k,D9 k→¬ Lb ow0 k:=fun k hk h=>h.1 (o0 k (hd9 k hk).1);have hM15b:=hM9.V9 hf15 (fun k _ hk=>hd9o k hk);have hpo15:=hpo.V9 hf15 (fun a ha h=>h.1 (o0 _ (hpd _ ⟨a,ha,rfl⟩).1));have hFw:aA nob w1 w15:=(hG4.any (S:=nob)).V5 ((hF11.mono (S':=fun k=>k=gf∨Lb ow0 k) (fun k h=>.inl h)).V5 hf15 (fun k h=>.inl (.inr h))) (fun k h=>.inr (by rcases h with h|h;omega;have h2:=h.1;have h3:=h.2;by_cases hk:k<w1.heap.size;exact absurd (o4 k (by omega) (by omega) (by omega)) h3;omega));refine Gz 4 ?_;refine cL (S6 (cs:=#[sN,sN]) MZ K3 rfl (by kernel_rfl)) ?_;refine SP K3 rfl ?_;intro w16 hg16 hs16 hf16;obtain⟨gA,hgA⟩:∃ x,x=w15.heap.size:=⟨_,rfl⟩
 rw[←hgA] at hg16 ⊢;refine sA rfl No (by simp[Value.oneCell']) hg16 ?_;intro w17 hg17 hs17 hf17;have hf1517:aA nob w15 w17:=hf16.tw hf17;have hA17:=RwO.zero hg17;have hs16b:w16.heap.size=w15.heap.size+1:=hs16;have hs17b:w17.heap.size=w16.heap.size:=hs17;refine Gz 5 ?_;refine SH Pa rfl (tQ po pc pl9 4 w17 (hpo15.V8 hf1517).vw (by omega)) rfl ?_;rintro _ w18 ⟨o18,c18,rfl,ho18,hfr18,hf18⟩;have hz18:=hf18.size;refine Gz 10 ?_;refine SH Kc rfl (zO (· = gA) gA [] o18 c18 (aJ pl9 4).1 w18 (hA17.V9 hf18 (fun _ _=>id)) ho18.vw (fun _ k ⟨a,ha,e⟩ h=>by have:=hfr18 a ha;have h:k=gA:=h;omega) (by simp only[length_nil];omega)) rfl ?_;rw[nil_append];rintro _ w19 ⟨_,hA19,hf19⟩;have hz19:=hf19.size;refine Gz 4 ?_;refine cL (S6 (cs:=#[sN,sN]) MZ K3 rfl (by kernel_rfl)) ?_;refine SP K3 rfl ?_;intro w20 hg20 hs20 hf20;obtain⟨gB,hgB⟩:∃ x,x=w19.heap.size:=⟨_,rfl⟩
 rw[←hgB] at hg20 ⊢;refine sA rfl No (by simp[Value.oneCell']) hg20 ?_;intro w21 hg21 hs21 hf21;have hf1921:aA nob w19 w21:=hf20.tw hf21;have hB21:=RwO.zero hg21;have hs20b:w20.heap.size=w19.heap.size+1:=hs20;have hs21b:w21.heap.size=w20.heap.size:=hs21;have hA21:=hA19.V9 hf1921 (fun _ _=>id);have hf1519:aA (· = gA) w15 w19:=(((hf1517.trans hf18).any)).trans hf19;have hf1521:aA (· = gA) w15 w21:=hf1519.trans hf1921.any;have hn15s:∀ k,w15.heap.size≤k→ow15 k=0:=hn15;have hM21:=hM15.V9 hf1521 (fun k hk h=>hk (by have h:k=gA:=h;exact hn15 k (by omega))) (fun _ _=>rfl);refine Gz 7 ?_;refine cL (SL pJ rfl (aE hM21.1 rfl)) ?_;refine SH Pa rfl (tQ a15.io a15.ic ids 2 w21 hM21.2.2.2.1.1 (by omega)) rfl ?_;rintro _ w22 ⟨o22,c22,rfl,ho22,hfr22,hf22⟩;have hz22:=hf22.size;refine Gz 9 ?_;refine SH Kc rfl (zO (· = gB) gB [] o22 c22 (aJ ids 2).1 w22 (hB21.V9 hf22 (fun _ _=>id)) ho22.vw (fun _ k ⟨a,ha,e⟩ h=>by have:=hfr22 a ha;have h:k=gB:=h;omega) (by simp only[length_nil];omega)) rfl ?_;rw[nil_append];rintro _ w23 ⟨_,hB23,hf23⟩;have hz23:=hf23.size;have hnB:∀ k,ow15 k≠0→¬ k=gB:=fun k hk h=>hk (hn15 k (by omega));have hM23:=(hM21.V8 hf22).V9 hf23 (fun k hk h=>hnB k hk h) (fun _ _=>rfl);have hA23:=(hA21.V9 hf22 (fun _ _=>id)).V9 hf23 (fun k hk h=>by have h:k=gB:=h;rcases hk with h2|h2;have h2:k=gA:=h2;omega;omega);have hf1523:aA (fun k=>k=gA∨k=gB) w15 w23:=((hf1521.mono (fun k h=>.inl h)).trans hf22.any).trans (hf23.mono (fun k h=>.inr h));have hM23b:=hM15b.V9 hf1523 (fun k hk _ h=>by rcases h with h|h<;>omega);have hv23:=hv15.keep' hf1523 (fun hne a ha h=>by have:=hlo1 _ ⟨a,ha,rfl⟩;rcases h with h|h<;>omega);obtain⟨r0,hr0,hr0n,hr0k⟩:=G.root;have hi0:=G.ino r0 (mem_of_getElem? hr0);obtain⟨m0,hm0⟩:=Int.eq_ofNat_of_zero_le (show 0≤r0.2.ino by omega);have hrl:S.refs.length=qs.length+1:=by have h:=(AN (qs:=qs) (ids:=ids) (files:=(bM qs).files) 17 ((0:Nat):Int) (sF (qs.length+1))).r;rw[←hS] at h;rw[h];exact length_replicate
 have hz0:0≤S.refs.getD m0 0∧S.refs.getD m0 0≤1152921504606846977:=hbr15.1 _ (by rw[List.getD,List.getElem?_eq_getElem (by omega)];exact List.getElem_mem _);refine Gz 3 ?_;refine SV 24 (fun H=>H[gm]?=some (.cells (biK a15 qs ids (bM qs).files S).toArray 76 (0,0))∧VwM 10 aN H lo lc qs∧Vw i64 H a15.ro a15.rc S.refs) [23,24] [0,1,2,3,4,5,6,7,8,9,10,11,12,13,14,15,16,17,18,19,20,21,22,23,24] aK (by kernel_rfl) (⟨hM23.1,hv23,hM23.2.2.2.2.2.2.2.2.1.1.vw⟩) ?_;refine Gz 16 ?_;refine xC rfl (SJ bF rfl rfl hv23.non (by omega)) ?_;refine Gz 1 ?_;refine xC rfl (SX aI rfl (fun H hH=>hH.2.1.rowZ 0 rfl hr0 1 _ rfl)) ?_;refine xC rfl (SI bG rfl rfl hM23.2.2.2.2.2.2.2.2.1.1.vw.non (by omega)) ?_;refine xC rfl (SX aI rfl (fun H hH=>hH.2.2.gz 0 m0 hm0 (by omega))) ?_;refine Gz 1 ?_;refine xC rfl (bU (sU 0 S.many 0 0 0 0 0 ids.length pl9.length (S.refs.getD m0 0-1)) tS sG) ?_;refine SO rfl rfl (SP sG rfl ?_);intro w24 hg24 hs24 hf24;have hf24:=hf24.V6;obtain⟨gS,hgS⟩:∃ x,x=w23.heap.size:=⟨_,rfl⟩
 rw[show (w23.drewN 1).heap.size=gS from hgS.symm] at hg24 ⊢;refine ST (by exact⟨(hM23.V8 hf24).1,hv23.V8 hf24,(hM23.V8 hf24).2.2.2.2.2.2.2.2.1.1.vw⟩) ?_;refine SO rfl rfl (Tc (vs:=sU 0 S.many 0 0 0 0 0 ids.length pl9.length (S.refs.getD m0 0-1)) dR rfl rfl (NE _ _ _ _ _ _ _ _ _ _) hg24 rfl ?_);intro w25 hg25 hs25 hf25;refine Tl rfl ?_;have hf2325:aA nob w23 w25:=hf24.tw hf25;have hM25:=hM23.V8 hf2325;have hA25:=hA23.V9 hf2325 (fun _ _=>id);have hB25:=hB23.V9 hf2325 (fun _ _=>id);have hM25b:=hM23b.V9 hf2325 (fun _ _ _=>id);have hs24b:w24.heap.size=w23.heap.size+1:=hs24;have hs25b:w25.heap.size=w24.heap.size:=hs25;obtain⟨bo,bc,ro,rc,ys,hg7c,hB7,_⟩:=hM25b;have hg7c25:=hg7c;obtain⟨dI,hdI⟩:∃ d,d=dnW S.ino:=⟨_,rfl⟩
 obtain⟨dL,hdL⟩:∃ d,d=dnW S.lst:=⟨_,rfl⟩
 obtain⟨dP,hdP⟩:∃ d,d=dnW (aJ pl9 4).1:=⟨_,rfl⟩
 obtain⟨dD,hdD⟩:∃ d,d=dnW (aJ ids 2).1:=⟨_,rfl⟩
 obtain⟨dF,hdF⟩:∃ d,d=dnW S.fur:=⟨_,rfl⟩
 have q1:kY (aF qs ids)=d9.B:=by unfold kY;rw[hAd]
 have q2:iG (aF qs ids)=d9.B++dI:=by unfold iG;rw[q1,hAs,←hdI]
 have q3:iB (aF qs ids)=d9.B++dI++dL:=by unfold iB;rw[q2,hAs,←hdL]
 have q4:gM (aF qs ids)=d9.B++dI++dL++dP:=by unfold gM;rw[q3,hAp,←hdP]
 have q5:fV (aF qs ids) ids=d9.B++dI++dL++dP++dD:=by unfold fV;rw[q4,←hdD]
 have q6:eU (aF qs ids) ids=d9.B++dI++dL++dP++dD++dF:=by unfold eU;rw[q5,hAs,←hdF]
 have p1:=hAll.o1;have p2:=hAll.o2;have p3:=hAll.o3;have p4:=hAll.o4;have p5:=hAll.o5;have p6:=hAll.o6;rw[q1] at p1;rw[q2] at p2;rw[q3] at p3;rw[q4] at p4;rw[q5] at p5;rw[q6] at p6;have hsup:bJ qs ids (aF qs ids)=fun j=>[64+(((d9.B++dI++dL++dP++dD++dF).length:Nat):Int),S.many,64+((d9.B.length:Nat):Int),64+(((d9.B++dI).length:Nat):Int),64+(((d9.B++dI++dL).length:Nat):Int),64+(((d9.B++dI++dL++dP).length:Nat):Int),64+(((d9.B++dI++dL++dP++dD).length:Nat):Int),ids.length,pl9.length,S.refs.getD m0 0-1].getD j 0:=by
  have hnd0:(ndB qs 0).ino.toNat=m0:=by rw[show ndB qs 0=ndB qs ((0:Nat):Int) from rfl,bD hr0];omega
  unfold bJ;rw[q1,q2,q3,q4,q5,q6,hAs,hAp,hnd0]
 obtain⟨A1,hA1⟩:∃ x,x=d9.B:=⟨_,rfl⟩
 obtain⟨A2,hA2⟩:∃ x,x=A1++dI:=⟨_,rfl⟩
 obtain⟨A3,hA3⟩:∃ x,x=A2++dL:=⟨_,rfl⟩
 obtain⟨A4,hA4⟩:∃ x,x=A3++dP:=⟨_,rfl⟩
 obtain⟨A5,hA5⟩:∃ x,x=A4++dD:=⟨_,rfl⟩
 obtain⟨A6,hA6⟩:∃ x,x=A5++dF:=⟨_,rfl⟩
 rw[←hA1,←hA2,←hA3,←hA4,←hA5,←hA6] at hsup;rw[←hA1,←hA2,←hA3,←hA4,←hA5,←hA6] at p6 q6;rw[←hA1,←hA2,←hA3,←hA4,←hA5] at p5;rw[←hA1,←hA2,←hA3,←hA4] at p4;rw[←hA1,←hA2,←hA3] at p3;rw[←hA1,←hA2] at p2;rw[←hA1] at p1 hg7c25 hB7;have hW25:aA nob w1 w25:=(hFw.V5 hf1523 (fun k h=>.inr (by have:=hFw.size;rcases h with h|h<;>omega))).trans hf2325;have hzW:=hFw.size;refine Gz 4 ?_;refine Ti b8 aL rfl ?_;intro w26 ho26 hs26 hf26;obtain⟨gO,hgO⟩:∃ x,x=w25.heap.size:=⟨_,rfl⟩
 rw[←hgO] at ho26 ⊢;refine Gz 1 ?_;refine cL (SL aV rfl (aE (hf26.obj hg7c25 id) rfl)) ?_;refine SR bB aL rfl rfl ho26 (hB7.V8 hf26).vw (by simp only[length_nil];omega) (by simp only[length_nil];unfold maxLen;omega) rfl ?_;intro o27 c27 w27 ho27 hf27 hr27 hn27;rw[nil_append] at ho27 ⊢;have hfr27:Fr w25.heap.size o27:=fun a ha=>by rcases hr27 a ha with h|h;cases h;exact Nat.le_of_eq hgO.symm;exact Nat.le_trans hf26.size h
 have hf2527:aA nob w25 w27:=hf26.V5 hf27 (fun k ⟨a,ha,e⟩=>.inr (by cases ha;have e:gO=k:=e;omega));have hgS27:=hf2527.obj hg25 id;have hn27:∀ a,o27=some a→a.block≠gS:=fun a ha=>by have:=hfr27 a ha;omega
 refine Gz 9 ?_;refine SN aI rfl rfl rfl hgS27 rfl ?_;intro w28 hgS28 hs28 hf28;have ho28:=ho27.V9 hf28 (fun a ha h=>hn27 a ha h);have hf2528:aA (· = gS) w25 w28:=hf2527.any.trans hf28;have hs28b:w28.heap.size=w27.heap.size:=hs28;have hz27:=hf2527.size;have hM28:=hM25.V9 hf2528 (fun k hk h=>hk (by have h:k=gS:=h;exact hn15 k (by omega))) (fun _ _=>rfl);refine Gz 8 ?_;refine SH Kb rfl (nQ (FM a15 qs ids (bM qs).files S) _ gm S.ino w28 hM28.rwi1 (by omega)) rfl ?_;rintro _ w29 ⟨o29,c29,rfl,ho29,hfr29,hf29⟩;have ho29:Own b8 5 w29.heap o29 c29 dI:=by rw[hdI];exact ho29
 have h29:(frW S.ino (nF S.ino))=dI:=hdI.symm;rw[h29];refine SR bB aL rfl rfl (ho28.V8 hf29) ho29.vw (by rw[hA2,length_append] at p2;omega) (by rw[hA2,length_append] at p2;unfold maxLen;omega) rfl ?_;intro o30 c30 w30 ho30 hf30 hr30 hn30;rw[←hA2] at ho30 ⊢;have hfr30:Fr w25.heap.size o30:=fun a ha=>by rcases hr30 a ha with h|h;exact hfr27 a h;have:=hf29.size;omega
 have hnS30:∀ a,o30=some a→a.block≠gS:=fun a ha=>by rcases hr30 a ha with h|h;exact hn27 a h;have:=hf29.size;omega
 have hgS30:=hf30.obj (hf29.obj hgS28 id) (fun⟨a,ha,e⟩=>hn27 a ha e);have hf2530:aA (· = gS) w25 w30:=(hf2528.trans hf29.any).V5 hf30 (fun k ⟨a,ha,e⟩=>.inr (by have:=hfr27 a ha;omega));have hz30:=hf2530.size;refine Gz 9 ?_;refine SN aI rfl rfl rfl hgS30 rfl ?_;intro w31 hgS31 hs31 hf31;have ho31:=ho30.V9 hf31 (fun a ha h=>hnS30 a ha h);have hf2531:aA (· = gS) w25 w31:=hf2530.trans hf31;have hs31b:w31.heap.size=w30.heap.size:=hs31;have hM31:=hM25.V9 hf2531 (fun k hk h=>hk (by have h:k=gS:=h;exact hn15 k (by omega))) (fun _ _=>rfl);refine Gz 8 ?_;refine SH Kb rfl (nQ (FL a15 qs ids (bM qs).files S) _ gm S.lst w31 hM31.rwi2 (by omega)) rfl ?_;rintro _ w32 ⟨o32,c32,rfl,ho32,hfr32,hf32⟩;have ho32:Own b8 5 w32.heap o32 c32 dL:=by rw[hdL];exact ho32
 have h32:(frW S.lst (nF S.lst))=dL:=hdL.symm;rw[h32];refine SR bB aL rfl rfl (ho31.V8 hf32) ho32.vw (by rw[hA3,length_append] at p3;omega) (by rw[hA3,length_append] at p3;unfold maxLen;omega) rfl ?_;intro o33 c33 w33 ho33 hf33 hr33 hn33;rw[←hA3] at ho33 ⊢;have hfr33:Fr w25.heap.size o33:=fun a ha=>by rcases hr33 a ha with h|h;exact hfr30 a h;have:=hf32.size;omega
 have hnS33:∀ a,o33=some a→a.block≠gS:=fun a ha=>by rcases hr33 a ha with h|h;exact hnS30 a h;have:=hf32.size;omega
 have hgS33:=hf33.obj (hf32.obj hgS31 id) (fun⟨a,ha,e⟩=>hnS30 a ha e);have hf2533:aA (· = gS) w25 w33:=(hf2531.trans hf32.any).V5 hf33 (fun k ⟨a,ha,e⟩=>.inr (by have:=hfr30 a ha;omega));have hz33:=hf2533.size;refine Gz 9 ?_;refine SN aI rfl rfl rfl hgS33 rfl ?_;intro w34 hgS34 hs34 hf34;have ho34:=ho33.V9 hf34 (fun a ha h=>hnS33 a ha h);have hf2534:aA (· = gS) w25 w34:=hf2533.trans hf34;have hs34b:w34.heap.size=w33.heap.size:=hs34;have hA34:=hA25.V9 hf2534 (fun k hk h=>by have h:k=gS:=h;rcases hk with h2|h2;have h2:k=gA:=h2;omega;omega);refine Gz 5 ?_;refine SH Kb rfl (vO _ gA (aJ pl9 4).1 w34 hA34 (by omega)) rfl ?_;rintro _ w35 ⟨o35,c35,rfl,ho35,hfr35,hf35⟩;have ho35:Own b8 5 w35.heap o35 c35 dP:=by rw[hdP];exact ho35
 have h35:(frW (aJ pl9 4).1 (nF (aJ pl9 4).1))=dP:=hdP.symm;rw[h35];refine SR bB aL rfl rfl (ho34.V8 hf35) ho35.vw (by rw[hA4,length_append] at p4;omega) (by rw[hA4,length_append] at p4;unfold maxLen;omega) rfl ?_;intro o36 c36 w36 ho36 hf36 hr36 hn36;rw[←hA4] at ho36 ⊢;have hfr36:Fr w25.heap.size o36:=fun a ha=>by rcases hr36 a ha with h|h;exact hfr33 a h;have:=hf35.size;omega
 have hnS36:∀ a,o36=some a→a.block≠gS:=fun a ha=>by rcases hr36 a ha with h|h;exact hnS33 a h;have:=hf35.size;omega
 have hgS36:=hf36.obj (hf35.obj hgS34 id) (fun⟨a,ha,e⟩=>hnS33 a ha e);have hf2536:aA (· = gS) w25 w36:=(hf2534.trans hf35.any).V5 hf36 (fun k ⟨a,ha,e⟩=>.inr (by have:=hfr33 a ha;omega));have hz36:=hf2536.size;refine Gz 9 ?_;refine SN aI rfl rfl rfl hgS36 rfl ?_;intro w37 hgS37 hs37 hf37;have ho37:=ho36.V9 hf37 (fun a ha h=>hnS36 a ha h);have hf2537:aA (· = gS) w25 w37:=hf2536.trans hf37;have hs37b:w37.heap.size=w36.heap.size:=hs37;have hB37:=hB25.V9 hf2537 (fun k hk h=>by have h:k=gS:=h;rcases hk with h2|h2;have h2:k=gB:=h2;omega;omega);refine Gz 5 ?_;refine SH Kb rfl (vO _ gB (aJ ids 2).1 w37 hB37 (by omega)) rfl ?_;rintro _ w38 ⟨o38,c38,rfl,ho38,hfr38,hf38⟩;have ho38:Own b8 5 w38.heap o38 c38 dD:=by rw[hdD];exact ho38
 have h38:(frW (aJ ids 2).1 (nF (aJ ids 2).1))=dD:=hdD.symm;rw[h38];refine SR bB aL rfl rfl (ho37.V8 hf38) ho38.vw (by rw[hA5,length_append] at p5;omega) (by rw[hA5,length_append] at p5;unfold maxLen;omega) rfl ?_;intro o39 c39 w39 ho39 hf39 hr39 hn39;rw[←hA5] at ho39 ⊢;have hfr39:Fr w25.heap.size o39:=fun a ha=>by rcases hr39 a ha with h|h;exact hfr36 a h;have:=hf38.size;omega
 have hnS39:∀ a,o39=some a→a.block≠gS:=fun a ha=>by rcases hr39 a ha with h|h;exact hnS36 a h;have:=hf38.size;omega
 have hgS39:=hf39.obj (hf38.obj hgS37 id) (fun⟨a,ha,e⟩=>hnS36 a ha e);have hf2539:aA (· = gS) w25 w39:=(hf2537.trans hf38.any).V5 hf39 (fun k ⟨a,ha,e⟩=>.inr (by have:=hfr36 a ha;omega));have hz39:=hf2539.size;refine Gz 9 ?_;refine SN aI rfl rfl rfl hgS39 rfl ?_;intro w40 hgS40 hs40 hf40;have ho40:=ho39.V9 hf40 (fun a ha h=>hnS39 a ha h);have hf2540:aA (· = gS) w25 w40:=hf2539.trans hf40;have hs40b:w40.heap.size=w39.heap.size:=hs40;have hM40:=hM25.V9 hf2540 (fun k hk h=>hk (by have h:k=gS:=h;exact hn15 k (by omega))) (fun _ _=>rfl);refine Gz 8 ?_;refine SH Kb rfl (nQ (FK a15 qs ids (bM qs).files S) _ gm S.fur w40 hM40.rwi3 (by omega)) rfl ?_;rintro _ w41 ⟨o41,c41,rfl,ho41,hfr41,hf41⟩;have ho41:Own b8 5 w41.heap o41 c41 dF:=by rw[hdF];exact ho41
 have h41:(frW S.fur (nF S.fur))=dF:=hdF.symm;rw[h41];refine SR bB aL rfl rfl (ho40.V8 hf41) ho41.vw (by rw[hA6,length_append] at p6;omega) (by rw[hA6,length_append] at p6;unfold maxLen;omega) rfl ?_;intro o42 c42 w42 ho42 hf42 hr42 hn42;rw[←hA6] at ho42 ⊢;have hfr42:Fr w25.heap.size o42:=fun a ha=>by rcases hr42 a ha with h|h;exact hfr39 a h;have:=hf41.size;omega
 have hnS42:∀ a,o42=some a→a.block≠gS:=fun a ha=>by rcases hr42 a ha with h|h;exact hnS39 a h;have:=hf41.size;omega
 have hgS42:=hf42.obj (hf41.obj hgS40 id) (fun⟨a,ha,e⟩=>hnS39 a ha e);have hf2542:aA (· = gS) w25 w42:=(hf2540.trans hf41.any).V5 hf42 (fun k ⟨a,ha,e⟩=>.inr (by have:=hfr39 a ha;omega));have hz42:=hf2542.size;refine Gz 9 ?_;refine SN aI rfl rfl rfl hgS42 rfl ?_;intro w43 hgS43 hs43 hf43;have ho43:=ho42.V9 hf43 (fun a ha h=>hnS42 a ha h);have hf2543:aA (· = gS) w25 w43:=hf2542.trans hf43;have hs43b:w43.heap.size=w42.heap.size:=hs43;have hW43:aA nob w1 w43:=hW25.tw hf2543;have hgS43:w43.heap[gS]?=some (.cells (dA (bJ qs ids (aF qs ids))).toArray 93 (0,0)):=by rw[hsup];exact hgS43
 refine Gz 6 ?_;refine cL (SM (u:=iV (64+(A6.length:Int))) (SL aI rfl (aE (i:=0) hgS43 rfl)) (by rw[hsup];rfl)) ?_;refine fK 0 ?_ ?_<;>intro h212
 ·have hib:rP qs ids=([],3):=by unfold rP;rw[q6,if_pos h212]
  refine Gz 12 ?_;refine⟨_,rfl,.inr ⟨hz,?_⟩⟩;rw[←hqs];exact⟨ids,none,0,hIds,by rw[hib];rfl,by rw[hib];exact VP,VN,hf1.trans hW43⟩
 have hib:rP qs ids=((mR (bJ qs ids (aF qs ids))).1++A6,0):=by unfold rP;rw[q6,if_neg h212]
 refine Gz 7 ?_;refine cL (SU (cs:=dA (bJ qs ids (aF qs ids))) dR rfl (cH hgS43 0 rfl)) ?_;refine cA 0 Sh (IK (bJ qs ids (aF qs ids)) w43) ?_;rintro _ w44 ⟨o44,c44,rfl,ho44,hfr44,hf44⟩;have hpsl:(mR (bJ qs ids (aF qs ids))).1.length≤64:=by unfold mR;split;exact Nat.le_of_eq (kT _);exact Nat.zero_le _
 refine Gz 11 ?_;refine SR bB aL rfl rfl ho44 (ho43.V8 hf44).vw (by omega) (by unfold maxLen;omega) rfl ?_;intro o45 c45 w45 ho45 hf45 hr45 hn45;refine Gz 6 ?_;have hfin:aA nob W w45:=((hf1.trans hW43).trans hf44).V5 hf45 (fun k ⟨a,ha,e⟩=>.inr (by have:=hfr44 a ha;have:=(hf1.trans hW43).size;omega));refine⟨_,rfl,.inr ⟨hz,?_⟩⟩;rw[←hqs];exact⟨ids,o45,c45,hIds,by rw[hib],by rw[hib];exact ho45,fun a ha=>by have:=(hf1.trans hW43).size;rcases hr45 a ha with h|h;have:=hfr44 a h;omega;have:=hf44.size;omega,hfin⟩
end
section
open Go Go.RowKit Go.Maps
def JC(n:Nd):Nd:={ n with names:=n.names.take 18,data:=n.data.take 1500,xs:=n.xs.take 10 }
def bX(p:NdH×Nd):NdH×Nd:=(⟨iJ p.1.names 18,iJ p.1.data 1500,iJ p.1.xs 10⟩,JC p.2)
def wG(ps:List (NdH×Nd)):List (NdH×Nd):=(ps.take 40).map bX
variable {D:Nat→Prop}
theorem NdV.mfew{H:Array Obj}{p:NdH×Nd}(v:NdV D H p):NdV D H (bX p):=⟨v.1.cut 18,v.2.1.cut 1500,v.2.2.cut 10⟩
theorem smN.mfew{n:Nd}(h:smN n):smN (JC n):=⟨h.1,fun s hs=>h.2.1 s (mem_of_mem_take hs),fun x hx=>h.2.2 x (mem_of_mem_take hx)⟩
theorem JB{R:Nd→Prop}{ps:List (NdH×Nd)}(h:∀ p∈ps,R (JC p.2)):∀ p∈wG ps,R p.2:=by
 intro p hp;obtain⟨q,hq,rfl⟩:=mem_map.1 hp;exact h q (mem_of_mem_take hq)
theorem JA(ps:List (NdH×Nd)):(wG ps).length≤40:=by unfold wG;rw[length_map,length_take];omega
theorem oB{ps:List (NdH×Nd)}{i:Nat}{p:NdH×Nd}(hp:ps[i]?=some p):(ps.take (i+1)).map bX=(ps.take i).map bX++[bX p]:=by rw[tkL hp];simp
theorem LX(lo:Option Addr)(lc:Nat)(ps:List (NdH×Nd))(W:World)(hv:cE D W.heap lo lc ps) :
 CA 10 [.slice lo ps.length lc] W fun v w'=>∃ o c,v=.slice o (wG ps).length c∧bN 10 aN 68 w'.heap o c (wG ps)∧Fr W.heap.size o∧aA nob W w'∧cE D w'.heap o c (wG ps):=by
 have h63:=hv.1.V7;refine cS 50 [(0,_)] Tryz.func10 ?_;refine Gz 7 ?_;refine TB aB bF rfl ?_;intro w1 ho1 hs1 hf1;refine Gz 10 ?_;refine SQ (β:=Nat×Option Addr×Nat) (fun⟨i,o,c⟩=>[(0,.slice lo ps.length lc),(3,.slice o ((ps.take i).map bX).length c),(4,iV i)]) (fun⟨i,o,c⟩ w=>i≤ps.length∧i≤40∧bN 10 aN 68 w.heap o c ((ps.take i).map bX)∧Fr W.heap.size o∧aA nob W w) (fun⟨i,o,c⟩=>ps.length-i) ⟨0,some ⟨W.heap.size,0,none⟩,0⟩ ⟨rfl,rfl,rfl,trivial⟩ ⟨Nat.zero_le _,Nat.zero_le _,ho1,fun a ha=>by cases ha;exact Nat.le_refl _,hf1⟩ ?_;rintro⟨i,o,c⟩ w2 ⟨hi,hi60,ho2,hfo,hF2⟩;refine fK 6 ?_ ?_<;>intro h10
 ·refine fW 2 ?_ ?_<;>intro h13
  ·have hil:i<ps.length:=by omega
   obtain⟨p,hp⟩:∃ p,ps[i]?=some p:=⟨_,List.getElem?_eq_getElem hil⟩
   have hpm:=mem_of_getElem? hp;have hv2:=hv.V8 hF2;refine Gz 2 ?_;refine aW [(0,_),(3,_),(4,_),(14,_)] ?_;refine Gz 10 ?_;refine cL (SJ bF rfl rfl hv2.1.non (by omega)) ?_;refine cL (SU (cs:=aN p) fB rfl (fun j v hj=>hv2.1.rowZ i rfl hp j v hj)) ?_;refine SP mL rfl ?_;intro w3 hg3 hs3 hf3;obtain⟨q,hq⟩:∃ q,q=w2.heap.size:=⟨_,rfl⟩
   rw[←hq] at hg3 ⊢;have hqW:W.heap.size≤q:=by rw[hq];exact hF2.size
   refine Tc (vs:=aN p) fB rfl rfl (aB p).2 hg3 rfl ?_;intro w4 hg4 hs4 hf4;have hf24:aA nob w2 w4:=hf3.V5 hf4 (fun k e=>.inr (by have e:k=q:=e;omega));have hF4:aA nob W w4:=hF2.trans hf24;have hn4:=(hv.V8 hF4).2 p hpm;have ho4:=ho2.V8 hf24;have hoq:∀ a,o=some a→¬ a.block=q:=fun a ha=>by have:=ho2.lt a ha;omega
   refine fK 8 ?_ ?_<;>intro h24
   ·refine Gz 6 ?_;refine cL (SM (u:=hd ⟨p.1.names.a,18,p.1.names.c⟩) (S8 pU rfl rfl (by have:=hn4.1.2.1.le;have:=hn4.1.1;omega)) (by rw[bH];rfl)) ?_;refine Gz 1 ?_;refine SN kD rfl rfl rfl hg4 rfl ?_;intro w5 hg5 hs5 hf5;have hgA:w5.heap[q]?=some (.cells (aN ((⟨iJ p.1.names 18,p.1.data,p.1.xs⟩:NdH),p.2)).toArray 68 (0,0)):=by rw[eJ (by omega)];exact hg5
    have hF5:aA nob W w5:=hF4.V5 hf5 (fun k e=>.inr (by have e:k=q:=e;omega));have ho5:=ho4.V9 hf5 hoq;refine Gz 6 ?_;have hn5:=(hv.V8 hF5).2 p hpm;refine cL (SM (u:=hd p.1.data) (SL aV rfl (aE hgA rfl)) rfl) ?_;refine fK 1 ?_ ?_<;>intro h32
    ·refine Gz 5 ?_;refine cL (SM (u:=hd p.1.data) (SL aV rfl (aE hgA rfl)) rfl) ?_;refine cL (SM (u:=hd ⟨p.1.data.a,1500,p.1.data.c⟩) (S8 aL rfl rfl (by have:=hn5.2.1.2.1.le;have:=hn5.2.1.1;omega)) (by rw[bH];rfl)) ?_;refine Gz 1 ?_;refine SN aV rfl rfl rfl hgA rfl ?_;intro w6 hg6 hs6 hf6;have hgB:w6.heap[q]?=some (.cells (aN ((⟨iJ p.1.names 18,iJ p.1.data 1500,p.1.xs⟩:NdH),p.2)).toArray 68 (0,0)):=by rw[eJ (n:=1500) (by omega)];exact hg6
     have hF6:aA nob W w6:=hF5.V5 hf6 (fun k e=>.inr (by have e:k=q:=e;omega));have ho6:=ho5.V9 hf6 hoq;refine Gz 6 ?_;have hn6:=(hv.V8 hF6).2 p hpm;refine cL (SM (u:=hd p.1.xs) (SL dM rfl (aE hgB rfl)) rfl) ?_;refine fK 1 ?_ ?_<;>intro h40
     ·refine Gz 5 ?_;refine cL (SM (u:=hd p.1.xs) (SL dM rfl (aE hgB rfl)) rfl) ?_;refine cL (SM (u:=hd ⟨p.1.xs.a,10,p.1.xs.c⟩) (S8 lQ rfl rfl (by obtain⟨k1,ys,k2,k3,_⟩:=hn6.2.2;have:=k2.le;omega)) (by rw[bH];rfl)) ?_;refine Gz 1 ?_;refine SN dM rfl rfl rfl hgB rfl ?_;intro w7 hg7 hs7 hf7;have hgC:w7.heap[q]?=some (.cells (aN (bX p)).toArray 68 (0,0)):=by unfold bX;rw[eJ (n:=10) (by omega)];exact hg7
      have hF7:aA nob W w7:=hF6.V5 hf7 (fun k e=>.inr (by have e:k=q:=e;omega));have ho7:=ho6.V9 hf7 hoq;refine Gz 4 ?_;refine cL (SU (cs:=aN (bX p)) fB rfl (cH hgC 0 rfl)) ?_;obtain⟨y,hy⟩:∃ y,y=bX p:=⟨_,rfl⟩
      rw[←hy];refine S7 bF (cs:=(aN y).toArray) mL rfl rfl rfl (by kernel_rfl) rfl ?_;intro w8 hg8 hs8 hf8;have ho8:bN 10 aN 68 w8.heap (some ⟨w7.heap.size,0,none⟩) 1 [y]:=bO (xs:=[y]) aB (by simpa using hg8) (by show 1≤maxLen;decide);refine SW aB rfl bF rfl rfl (ho7.V8 hf8) (ho8.vw aB) (by simp only[length_singleton,length_map,length_take];omega) (by simp only[length_singleton,length_map,length_take];unfold maxLen;omega) rfl ?_;intro o9 c9 w9 ho9 hf9 hr9 hn9;rw[hy,←oB hp] at ho9 ⊢;have hF9:aA nob W w9:=(hF7.trans hf8).V5 hf9 hfo.step;have hfo9:Fr W.heap.size o9:=dG hfo hr9 (by have:=hF7.size;have:=hf8.size;omega);refine Gz 9 ?_;exact aG ⟨i+1,o9,c9⟩ ⟨by omega,by omega,ho9,hfo9,hF9⟩ (by show ps.length-(i+1)<ps.length-i;omega)
     have hgC:w6.heap[q]?=some (.cells (aN (bX p)).toArray 68 (0,0)):=by unfold bX;rw[gC (n:=10) (by omega)];exact hgB
     have hF7:=hF6;have ho7:=ho6
     rename World=>w7
     refine Gz 7 ?_;refine cL (SU (cs:=aN (bX p)) fB rfl (cH hgC 0 rfl)) ?_;obtain⟨y,hy⟩:∃ y,y=bX p:=⟨_,rfl⟩
     rw[←hy];refine S7 bF (cs:=(aN y).toArray) mL rfl rfl rfl (by kernel_rfl) rfl ?_;intro w8 hg8 hs8 hf8;have ho8:bN 10 aN 68 w8.heap (some ⟨w7.heap.size,0,none⟩) 1 [y]:=bO (xs:=[y]) aB (by simpa using hg8) (by show 1≤maxLen;decide);refine SW aB rfl bF rfl rfl (ho7.V8 hf8) (ho8.vw aB) (by simp only[length_singleton,length_map,length_take];omega) (by simp only[length_singleton,length_map,length_take];unfold maxLen;omega) rfl ?_;intro o9 c9 w9 ho9 hf9 hr9 hn9;rw[hy,←oB hp] at ho9 ⊢;have hF9:aA nob W w9:=(hF7.trans hf8).V5 hf9 hfo.step;have hfo9:Fr W.heap.size o9:=dG hfo hr9 (by have:=hF7.size;have:=hf8.size;omega);refine Gz 9 ?_;exact aG ⟨i+1,o9,c9⟩ ⟨by omega,by omega,ho9,hfo9,hF9⟩ (by show ps.length-(i+1)<ps.length-i;omega)
    have hgB:w5.heap[q]?=some (.cells (aN ((⟨iJ p.1.names 18,iJ p.1.data 1500,p.1.xs⟩:NdH),p.2)).toArray 68 (0,0)):=by rw[gC (n:=1500) (by omega)];exact hgA
    have hF6:=hF5;have ho6:=ho5
    rename World=>w6
    refine Gz 9 ?_;have hn6:=(hv.V8 hF6).2 p hpm;refine cL (SM (u:=hd p.1.xs) (SL dM rfl (aE hgB rfl)) rfl) ?_;refine fK 1 ?_ ?_<;>intro h40
    ·refine Gz 5 ?_;refine cL (SM (u:=hd p.1.xs) (SL dM rfl (aE hgB rfl)) rfl) ?_;refine cL (SM (u:=hd ⟨p.1.xs.a,10,p.1.xs.c⟩) (S8 lQ rfl rfl (by obtain⟨k1,ys,k2,k3,_⟩:=hn6.2.2;have:=k2.le;omega)) (by rw[bH];rfl)) ?_;refine Gz 1 ?_;refine SN dM rfl rfl rfl hgB rfl ?_;intro w7 hg7 hs7 hf7;have hgC:w7.heap[q]?=some (.cells (aN (bX p)).toArray 68 (0,0)):=by unfold bX;rw[eJ (n:=10) (by omega)];exact hg7
     have hF7:aA nob W w7:=hF6.V5 hf7 (fun k e=>.inr (by have e:k=q:=e;omega));have ho7:=ho6.V9 hf7 hoq;refine Gz 4 ?_;refine cL (SU (cs:=aN (bX p)) fB rfl (cH hgC 0 rfl)) ?_;obtain⟨y,hy⟩:∃ y,y=bX p:=⟨_,rfl⟩
     rw[←hy];refine S7 bF (cs:=(aN y).toArray) mL rfl rfl rfl (by kernel_rfl) rfl ?_;intro w8 hg8 hs8 hf8;have ho8:bN 10 aN 68 w8.heap (some ⟨w7.heap.size,0,none⟩) 1 [y]:=bO (xs:=[y]) aB (by simpa using hg8) (by show 1≤maxLen;decide);refine SW aB rfl bF rfl rfl (ho7.V8 hf8) (ho8.vw aB) (by simp only[length_singleton,length_map,length_take];omega) (by simp only[length_singleton,length_map,length_take];unfold maxLen;omega) rfl ?_;intro o9 c9 w9 ho9 hf9 hr9 hn9;rw[hy,←oB hp] at ho9 ⊢;have hF9:aA nob W w9:=(hF7.trans hf8).V5 hf9 hfo.step;have hfo9:Fr W.heap.size o9:=dG hfo hr9 (by have:=hF7.size;have:=hf8.size;omega);refine Gz 9 ?_;exact aG ⟨i+1,o9,c9⟩ ⟨by omega,by omega,ho9,hfo9,hF9⟩ (by show ps.length-(i+1)<ps.length-i;omega)
    have hgC:w6.heap[q]?=some (.cells (aN (bX p)).toArray 68 (0,0)):=by unfold bX;rw[gC (n:=10) (by omega)];exact hgB
    have hF7:=hF6;have ho7:=ho6
    rename World=>w7
    refine Gz 7 ?_;refine cL (SU (cs:=aN (bX p)) fB rfl (cH hgC 0 rfl)) ?_;obtain⟨y,hy⟩:∃ y,y=bX p:=⟨_,rfl⟩
    rw[←hy];refine S7 bF (cs:=(aN y).toArray) mL rfl rfl rfl (by kernel_rfl) rfl ?_;intro w8 hg8 hs8 hf8;have ho8:bN 10 aN 68 w8.heap (some ⟨w7.heap.size,0,none⟩) 1 [y]:=bO (xs:=[y]) aB (by simpa using hg8) (by show 1≤maxLen;decide);refine SW aB rfl bF rfl rfl (ho7.V8 hf8) (ho8.vw aB) (by simp only[length_singleton,length_map,length_take];omega) (by simp only[length_singleton,length_map,length_take];unfold maxLen;omega) rfl ?_;intro o9 c9 w9 ho9 hf9 hr9 hn9;rw[hy,←oB hp] at ho9 ⊢;have hF9:aA nob W w9:=(hF7.trans hf8).V5 hf9 hfo.step;have hfo9:Fr W.heap.size o9:=dG hfo hr9 (by have:=hF7.size;have:=hf8.size;omega);refine Gz 9 ?_;exact aG ⟨i+1,o9,c9⟩ ⟨by omega,by omega,ho9,hfo9,hF9⟩ (by show ps.length-(i+1)<ps.length-i;omega)
   have hgA:w4.heap[q]?=some (.cells (aN ((⟨iJ p.1.names 18,p.1.data,p.1.xs⟩:NdH),p.2)).toArray 68 (0,0)):=by rw[gC (by omega)];exact hg4
   have hF5:=hF4;have ho5:=ho4
   rename World=>w5
   refine Gz 9 ?_;have hn5:=(hv.V8 hF5).2 p hpm;refine cL (SM (u:=hd p.1.data) (SL aV rfl (aE hgA rfl)) rfl) ?_;refine fK 1 ?_ ?_<;>intro h32
   ·refine Gz 5 ?_;refine cL (SM (u:=hd p.1.data) (SL aV rfl (aE hgA rfl)) rfl) ?_;refine cL (SM (u:=hd ⟨p.1.data.a,1500,p.1.data.c⟩) (S8 aL rfl rfl (by have:=hn5.2.1.2.1.le;have:=hn5.2.1.1;omega)) (by rw[bH];rfl)) ?_;refine Gz 1 ?_;refine SN aV rfl rfl rfl hgA rfl ?_;intro w6 hg6 hs6 hf6;have hgB:w6.heap[q]?=some (.cells (aN ((⟨iJ p.1.names 18,iJ p.1.data 1500,p.1.xs⟩:NdH),p.2)).toArray 68 (0,0)):=by rw[eJ (n:=1500) (by omega)];exact hg6
    have hF6:aA nob W w6:=hF5.V5 hf6 (fun k e=>.inr (by have e:k=q:=e;omega));have ho6:=ho5.V9 hf6 hoq;refine Gz 6 ?_;have hn6:=(hv.V8 hF6).2 p hpm;refine cL (SM (u:=hd p.1.xs) (SL dM rfl (aE hgB rfl)) rfl) ?_;refine fK 1 ?_ ?_<;>intro h40
    ·refine Gz 5 ?_;refine cL (SM (u:=hd p.1.xs) (SL dM rfl (aE hgB rfl)) rfl) ?_;refine cL (SM (u:=hd ⟨p.1.xs.a,10,p.1.xs.c⟩) (S8 lQ rfl rfl (by obtain⟨k1,ys,k2,k3,_⟩:=hn6.2.2;have:=k2.le;omega)) (by rw[bH];rfl)) ?_;refine Gz 1 ?_;refine SN dM rfl rfl rfl hgB rfl ?_;intro w7 hg7 hs7 hf7;have hgC:w7.heap[q]?=some (.cells (aN (bX p)).toArray 68 (0,0)):=by unfold bX;rw[eJ (n:=10) (by omega)];exact hg7
     have hF7:aA nob W w7:=hF6.V5 hf7 (fun k e=>.inr (by have e:k=q:=e;omega));have ho7:=ho6.V9 hf7 hoq;refine Gz 4 ?_;refine cL (SU (cs:=aN (bX p)) fB rfl (cH hgC 0 rfl)) ?_;obtain⟨y,hy⟩:∃ y,y=bX p:=⟨_,rfl⟩
     rw[←hy];refine S7 bF (cs:=(aN y).toArray) mL rfl rfl rfl (by kernel_rfl) rfl ?_;intro w8 hg8 hs8 hf8;have ho8:bN 10 aN 68 w8.heap (some ⟨w7.heap.size,0,none⟩) 1 [y]:=bO (xs:=[y]) aB (by simpa using hg8) (by show 1≤maxLen;decide);refine SW aB rfl bF rfl rfl (ho7.V8 hf8) (ho8.vw aB) (by simp only[length_singleton,length_map,length_take];omega) (by simp only[length_singleton,length_map,length_take];unfold maxLen;omega) rfl ?_;intro o9 c9 w9 ho9 hf9 hr9 hn9;rw[hy,←oB hp] at ho9 ⊢;have hF9:aA nob W w9:=(hF7.trans hf8).V5 hf9 hfo.step;have hfo9:Fr W.heap.size o9:=dG hfo hr9 (by have:=hF7.size;have:=hf8.size;omega);refine Gz 9 ?_;exact aG ⟨i+1,o9,c9⟩ ⟨by omega,by omega,ho9,hfo9,hF9⟩ (by show ps.length-(i+1)<ps.length-i;omega)
    have hgC:w6.heap[q]?=some (.cells (aN (bX p)).toArray 68 (0,0)):=by unfold bX;rw[gC (n:=10) (by omega)];exact hgB
    have hF7:=hF6;have ho7:=ho6
    rename World=>w7
    refine Gz 7 ?_;refine cL (SU (cs:=aN (bX p)) fB rfl (cH hgC 0 rfl)) ?_;obtain⟨y,hy⟩:∃ y,y=bX p:=⟨_,rfl⟩
    rw[←hy];refine S7 bF (cs:=(aN y).toArray) mL rfl rfl rfl (by kernel_rfl) rfl ?_;intro w8 hg8 hs8 hf8;have ho8:bN 10 aN 68 w8.heap (some ⟨w7.heap.size,0,none⟩) 1 [y]:=bO (xs:=[y]) aB (by simpa using hg8) (by show 1≤maxLen;decide);refine SW aB rfl bF rfl rfl (ho7.V8 hf8) (ho8.vw aB) (by simp only[length_singleton,length_map,length_take];omega) (by simp only[length_singleton,length_map,length_take];unfold maxLen;omega) rfl ?_;intro o9 c9 w9 ho9 hf9 hr9 hn9;rw[hy,←oB hp] at ho9 ⊢;have hF9:aA nob W w9:=(hF7.trans hf8).V5 hf9 hfo.step;have hfo9:Fr W.heap.size o9:=dG hfo hr9 (by have:=hF7.size;have:=hf8.size;omega);refine Gz 9 ?_;exact aG ⟨i+1,o9,c9⟩ ⟨by omega,by omega,ho9,hfo9,hF9⟩ (by show ps.length-(i+1)<ps.length-i;omega)
   have hgB:w5.heap[q]?=some (.cells (aN ((⟨iJ p.1.names 18,iJ p.1.data 1500,p.1.xs⟩:NdH),p.2)).toArray 68 (0,0)):=by rw[gC (n:=1500) (by omega)];exact hgA
   have hF6:=hF5;have ho6:=ho5
   rename World=>w6
   refine Gz 9 ?_;have hn6:=(hv.V8 hF6).2 p hpm;refine cL (SM (u:=hd p.1.xs) (SL dM rfl (aE hgB rfl)) rfl) ?_;refine fK 1 ?_ ?_<;>intro h40
   ·refine Gz 5 ?_;refine cL (SM (u:=hd p.1.xs) (SL dM rfl (aE hgB rfl)) rfl) ?_;refine cL (SM (u:=hd ⟨p.1.xs.a,10,p.1.xs.c⟩) (S8 lQ rfl rfl (by obtain⟨k1,ys,k2,k3,_⟩:=hn6.2.2;have:=k2.le;omega)) (by rw[bH];rfl)) ?_;refine Gz 1 ?_;refine SN dM rfl rfl rfl hgB rfl ?_;intro w7 hg7 hs7 hf7;have hgC:w7.heap[q]?=some (.cells (aN (bX p)).toArray 68 (0,0)):=by unfold bX;rw[eJ (n:=10) (by omega)];exact hg7
    have hF7:aA nob W w7:=hF6.V5 hf7 (fun k e=>.inr (by have e:k=q:=e;omega));have ho7:=ho6.V9 hf7 hoq;refine Gz 4 ?_;refine cL (SU (cs:=aN (bX p)) fB rfl (cH hgC 0 rfl)) ?_;obtain⟨y,hy⟩:∃ y,y=bX p:=⟨_,rfl⟩
    rw[←hy];refine S7 bF (cs:=(aN y).toArray) mL rfl rfl rfl (by kernel_rfl) rfl ?_;intro w8 hg8 hs8 hf8;have ho8:bN 10 aN 68 w8.heap (some ⟨w7.heap.size,0,none⟩) 1 [y]:=bO (xs:=[y]) aB (by simpa using hg8) (by show 1≤maxLen;decide);refine SW aB rfl bF rfl rfl (ho7.V8 hf8) (ho8.vw aB) (by simp only[length_singleton,length_map,length_take];omega) (by simp only[length_singleton,length_map,length_take];unfold maxLen;omega) rfl ?_;intro o9 c9 w9 ho9 hf9 hr9 hn9;rw[hy,←oB hp] at ho9 ⊢;have hF9:aA nob W w9:=(hF7.trans hf8).V5 hf9 hfo.step;have hfo9:Fr W.heap.size o9:=dG hfo hr9 (by have:=hF7.size;have:=hf8.size;omega);refine Gz 9 ?_;exact aG ⟨i+1,o9,c9⟩ ⟨by omega,by omega,ho9,hfo9,hF9⟩ (by show ps.length-(i+1)<ps.length-i;omega)
   have hgC:w6.heap[q]?=some (.cells (aN (bX p)).toArray 68 (0,0)):=by unfold bX;rw[gC (n:=10) (by omega)];exact hgB
   have hF7:=hF6;have ho7:=ho6
   rename World=>w7
   refine Gz 7 ?_;refine cL (SU (cs:=aN (bX p)) fB rfl (cH hgC 0 rfl)) ?_;obtain⟨y,hy⟩:∃ y,y=bX p:=⟨_,rfl⟩
   rw[←hy];refine S7 bF (cs:=(aN y).toArray) mL rfl rfl rfl (by kernel_rfl) rfl ?_;intro w8 hg8 hs8 hf8;have ho8:bN 10 aN 68 w8.heap (some ⟨w7.heap.size,0,none⟩) 1 [y]:=bO (xs:=[y]) aB (by simpa using hg8) (by show 1≤maxLen;decide);refine SW aB rfl bF rfl rfl (ho7.V8 hf8) (ho8.vw aB) (by simp only[length_singleton,length_map,length_take];omega) (by simp only[length_singleton,length_map,length_take];unfold maxLen;omega) rfl ?_;intro o9 c9 w9 ho9 hf9 hr9 hn9;rw[hy,←oB hp] at ho9 ⊢;have hF9:aA nob W w9:=(hF7.trans hf8).V5 hf9 hfo.step;have hfo9:Fr W.heap.size o9:=dG hfo hr9 (by have:=hF7.size;have:=hf8.size;omega);refine Gz 9 ?_;exact aG ⟨i+1,o9,c9⟩ ⟨by omega,by omega,ho9,hfo9,hF9⟩ (by show ps.length-(i+1)<ps.length-i;omega)
  refine Gz 2 ?_;refine aW [(0,_),(3,_),(4,_),(14,_)] ?_;refine Gz 15 ?_;have e:ps.take i=ps.take 40:=by
   by_cases k:i=40
   ·rw[k]
   ·rw[take_of_length_le (by omega),take_of_length_le (by omega)]
  rw[e] at ho2 ⊢;refine⟨_,rfl,o,c,rfl,ho2,hfo,hF2,ho2.vw aB,fun p hp=>?_⟩;obtain⟨r,hr,rfl⟩:=mem_map.1 hp;exact((hv.V8 hF2).2 r (mem_of_mem_take hr)).mfew
 refine Gz 5 ?_;refine aW [(0,_),(3,_),(4,_),(14,_)] ?_;refine Gz 15 ?_;have e:ps.take i=ps.take 40:=by
  by_cases k:i=40
  ·rw[k]
  ·rw[take_of_length_le (by omega),take_of_length_le (by omega)]
 rw[e] at ho2 ⊢;refine⟨_,rfl,o,c,rfl,ho2,hfo,hF2,ho2.vw aB,fun p hp=>?_⟩;obtain⟨r,hr,rfl⟩:=mem_map.1 hp;exact((hv.V8 hF2).2 r (mem_of_mem_take hr)).mfew
theorem GE{qs:List (NdH×Nd)}{ids:List Int}(G:GdT qs)(I:yT qs ids)(h1:qs.length=1):64+((eU (aF qs ids) ids).length:Int)≤1048576:=by
 have F:=Bu (qs:=qs) (fun q hq=>⟨G.ino q hq,(G.may q hq).2.2.2.2.2.2.1⟩);obtain⟨S,e,hI,hB,_⟩:=tI G I F;have e:(aF qs ids).s=S:=e;have hA:=Gh G I;have hm:S.many≤2:=by
  have h1:=List.length_filter_le (fun r:Int=>decide (0<r)) S.refs;rw[hI.many];unfold rH;rw[hI.rl] at h1;omega
 have h2:=hI.bi;have h3:S.lst.length≤10440*S.many:=hB;have h4:=hI.bf;have hT:=F.tn;have hFB:=F.b;rw[length_map] at hT hFB;have hb:=Ig F.t (bM qs).ds;have n4:=hA.n4;have n2:=hA.n2;have d1:=pQ (aF qs ids).s.ino;have d2:=pQ (aF qs ids).s.lst;have d3:=pQ (aJ (aF qs ids).pl 4).1;have d4:=pQ (aJ ids 2).1;have d5:=pQ (aF qs ids).s.fur;rw[e] at d1 d2 d5;have l1:(kY (aF qs ids)).length=(eK (bM qs).tails (bM qs).ds).1.B.length:=rfl;have l2:(iG (aF qs ids)).length=(kY (aF qs ids)).length+(dnW (aF qs ids).s.ino).length:=length_append;have l3:(iB (aF qs ids)).length=(iG (aF qs ids)).length+(dnW (aF qs ids).s.lst).length:=length_append;have l4:(gM (aF qs ids)).length=(iB (aF qs ids)).length+(dnW (aJ (aF qs ids).pl 4).1).length:=length_append;have l5:(fV (aF qs ids) ids).length=(gM (aF qs ids)).length+(dnW (aJ ids 2).1).length:=length_append;have l6:(eU (aF qs ids) ids).length=(fV (aF qs ids) ids).length+(dnW (aF qs ids).s.fur).length:=length_append;rw[e] at l2 l3 l6;omega
theorem Lv{D:Nat→Prop}(H:Array Obj):NdV D H fS:=
 ⟨⟨rfl,VO 0 (Nat.zero_le _),fun h=>absurd rfl h⟩,⟨rfl,VO 0 (Nat.zero_le _),fun h=>absurd rfl h⟩,⟨rfl,[],⟨Nat.zero_le _,Nat.zero_le _,fun h=>absurd rfl h,fun i x hx=>by simp at hx⟩,rfl,fun h=>absurd rfl h,fun i x y hx=>by simp at hx⟩⟩
theorem LU:mnt []=none:=by
 have h:aH []=(zF,2):=by unfold aH;rw[if_neg (fun h=>by have:=h.1;simp at this)]
 unfold mnt;rw[h,if_pos (by decide)]
theorem GM{qs:List (NdH×Nd)}{ids:List Int}(M:ImB qs ids)(h1:qs.length=1){s:MSt}(hs:MI qs ids (iR qs 17 0) s):gP ⟨imB qs ids,bJ qs ids (aF qs ids),plB qs ids,ids,s.1⟩ ((bJ qs ids (aF qs ids)) 9)=([],0):=by
 obtain⟨r,hr,hrn,hrk⟩:=M.G.root;have hF9:(bJ qs ids (aF qs ids)) 9=rfB qs ids r.2:=by
  show (stB qs ids).refs.getD (ndB qs ((0:Nat):Int)).ino.toNat 0-1=_;rw[bD hr];rfl
 have hR:=(M.rk hr).2;have hk:bI qs r.2.names qs.length=[]:=by
  apply List.eq_nil_iff_forall_not_mem.2;intro z hz;obtain⟨k,q,rfl,hq,hn⟩:=fJ hz;have hk:=(List.getElem?_eq_some_iff.1 hq).1;obtain rfl:k=0:=by omega
  rw[hr] at hq;cases hq;have:=congrArg List.length hn;simp at this
 unfold gP;rw[hF9,M.known hs hr];simp only;rw[hR.kd,hrk,if_neg (fun h=>h rfl),hR.ls,hk];rfl
theorem Hk(W:World):Calls Tryz.prog 8 #[] W (Ret fun v w'=>v=.bool true∧aA nob W w'):=by
 refine cS 48 [] Tryz.func8 ?_;refine Gz 7 ?_;refine SH Oi rfl (wD none 0 [] W (VO 0 (Nat.zero_le _)) (by decide)) rfl ?_;intro v w1 h1;obtain⟨hf1,h1⟩:=h1.of;obtain⟨rfl,_⟩:=h1.resolve_right (fun⟨x,g,_,h,_⟩=>by rw[LU] at h;cases h);refine Gz 9 ?_;refine cL (bU (aN fS) OL mL) ?_;refine S7 bF (cs:=(aN fS).toArray) mL rfl rfl rfl (by kernel_rfl) rfl ?_;intro w2 hg2 hs2 hf2;have ho2:bN 10 aN 68 w2.heap (some ⟨w1.heap.size,0,none⟩) 1 [fS]:=bO (xs:=[fS]) aB (by simpa using hg2) (by show 1≤maxLen;decide);refine SH fn9 rfl (zW (some ⟨w1.heap.size,0,none⟩) 1 [fS] w2 ⟨ho2.vw aB,by simp only[mem_singleton];rintro p rfl;exact Lv _⟩ (by simp only[mem_singleton];rintro p rfl;exact Lu) (by decide)) rfl ?_;rintro _ w3 hB;obtain⟨hz,ids,o3,c3,hIds,rfl,ho3,hfr3,hf3⟩:=hB.resolve_left (fun h=>h.1 Do);have hG:=Ey Do (by decide);have hl1:(gI [fS]).length=1:=Dt [fS];have M:ImB (gI [fS]) ids:=⟨hG,hIds,GE hG hIds hl1⟩
 rw[M.img] at ho3 ⊢;obtain⟨s,hs1,hs2⟩:=M.mnt;have himl:(imB (gI [fS]) ids).length≤1048576:=by unfold imB;rw[length_append,kT];have:=M.sz;omega
 refine Gz 10 ?_;refine SH Oi rfl (wD o3 c3 (imB (gI [fS]) ids) w3 ho3.vw (by omega)) rfl ?_;intro v w4 h4;obtain⟨hf4,h4⟩:=h4.of;obtain⟨x,g,rfl,hx,_,_,hI⟩:=h4.resolve_left (fun⟨_,h⟩=>by rw[hs1] at h;cases h);rw[hs1] at hx;cases hx;refine Gz 11 ?_;refine cL (TO MY rfl rfl) ?_;refine Gz 9 ?_;refine SH PI rfl (Ag g _ w4 hI) rfl ?_;rintro _ w5 ⟨rfl,hw⟩;subst hw;have hb9 : -9223372036854775808≤(bJ (gI [fS]) ids (aF (gI [fS]) ids)) 9∧(bJ (gI [fS]) ids (aF (gI [fS]) ids)) 9≤9223372036854775807:=by have h:=M.may;have:=h.2.2.2.2.2.2.2.1;have:=h.2.2.2.2.2.2.2.2;omega
 refine SH Oh rfl (sW g _ ((bJ (gI [fS]) ids (aF (gI [fS]) ids)) 9) w5 hI hb9) rfl ?_;rintro v6 w6 ⟨hL,_⟩;rw[GM M hl1 hs2] at hL;obtain⟨o6,c6,rfl,ho6,hfr6,hf6⟩:=hL;refine Gz 10 ?_;refine cL (TR (TL rfl rfl) rfl) ?_;refine Gz 2 ?_;refine cW (TR (TL rfl rfl) rfl) ?_;refine Gz 4 ?_;refine cW (TR (TL rfl rfl) rfl) ?_;refine Gz 3 ?_;refine cW (TR (TL rfl rfl) rfl) ?_;refine Gz 6 ?_;exact⟨_,rfl,rfl,(((hf1.trans hf2).trans hf3).trans hf4).trans hf6⟩
end
section
open Go Go.RowKit Go.Maps
theorem Mf{qs:List (NdH×Nd)}{ids:List Int}(G:GdT qs)(I:yT qs ids)(h:(rP qs ids).2=0):64≤(rP qs ids).1.length∧(rP qs ids).1.length≤1048576∧rP qs ids=(imB qs ids,0)∧∃ M:ImB qs ids,True:=by
 have hs:64+((eU (aF qs ids) ids).length:Int)≤1048576:=by
  unfold rP at h;by_cases hc:(1048576:Int)<64+((eU (aF qs ids) ids).length:Int)
  ·rw[if_pos hc] at h;cases h
  ·omega
 have M:ImB qs ids:=⟨G,I,hs⟩
 have e:=M.img;rw[e];refine⟨?_,?_,rfl,M,trivial⟩
 ·show 64≤(imB qs ids).length;unfold imB;rw[length_append,kT];omega
 ·show (imB qs ids).length≤1048576;unfold imB;rw[length_append,kT];omega
theorem BuP.of{W w':World}{ps:List (NdH×Nd)}{v:Value}(h:BuP W ps v w')(hl:ps.length≤40):∃ (o:Option Addr) (c:Nat) (b:By) (E:Int),v=.tuple #[.slice o b.length c,iV E]∧Own b8 5 w'.heap o c b∧Fr W.heap.size o∧aA nob W w' ∧
 (E=0→chk (nds ps)=0∧∃ (ids:List Int) (M:ImB (gI ps) ids),b=imB (gI ps) ids∧64≤b.length∧b.length≤1048576):=by
 rcases h with⟨hz,rfl,hf⟩|⟨hz,ids,o,c,hI,rfl,ho,hfr,hf⟩
 ·exact⟨none,0,[],_,rfl,VP,VN,hf,fun e=>absurd e hz⟩
 · refine⟨o,c,_,_,rfl,ho,hfr,hf,fun e=>⟨hz,ids,?_⟩⟩
   obtain⟨h1,h2,h3,M,_⟩:=Mf (Ey hz hl) hI e;exact⟨M,by rw[h3],h1,h2⟩
end
section
open Go Go.RowKit Go.Maps
def DrB(qs:List (NdH×Nd))(ids:List Int)(ref:Int):Prop:=∃ (k:Nat) (q:NdH×Nd),qs[k]?=some q∧q.2.kind=1∧ref=rfB qs ids q.2∧-9223372036854775808≤ref∧ref≤9223372036854775807
section
variable {qs:List (NdH×Nd)}{ids:List Int}(M:ImB qs ids)
include M
theorem ImB.listD{s:MSt}(hs:MI qs ids (iR qs 17 0) s){ref:Int}(h:DrB qs ids ref) :
 ∃ L:List Ent,gP ⟨imB qs ids,bJ qs ids (aF qs ids),plB qs ids,ids,s.1⟩ ref=(L,0)∧aO [] L∧L.length≤40 ∧
  ∀ y∈L,(∃ b c d e f,pI ⟨imB qs ids,bJ qs ids (aF qs ids),plB qs ids,ids,s.1⟩ y.2.2=([y.2.1,b,c,d,e,f],0))∧(y.2.1=1→DrB qs ids y.2.2):=by
 obtain⟨k,q,hq,hk,rfl,_⟩:=h;have hR:=(M.rk hq).2;have hL:gP ⟨imB qs ids,bJ qs ids (aF qs ids),plB qs ids,ids,s.1⟩ (rfB qs ids q.2)=(gG qs (stB qs ids) (bI qs q.2.names qs.length),0):=by
  unfold gP;rw[M.known hs hq];simp only;rw[hR.kd,hk,if_neg (fun h=>h rfl),hR.ls]
 have hset:AX qs (stB qs ids) (bI qs q.2.names qs.length):=fun j hj=>by
  obtain⟨i,p,rfl,hp,_⟩:=fJ hj;rw[bD hp];exact M.st.2 p (mem_of_getElem? hp)
 have hch:=xH M.G M.st.1 hset;refine⟨_,hL,hch,?_,fun y hy=>?_⟩
 ·unfold gG;rw[length_map];exact Nat.le_trans (uQ _) M.G.n.2
 · have hb:0≤y.2.2∧y.2.2≤4294967295:=by
    obtain⟨i,hi⟩:=List.getElem?_of_mem hy;exact(oY hch hi).2.2.2.2
   obtain⟨j,hj,rfl⟩:=mem_map.1 hy;obtain⟨i,p,rfl,hp,_⟩:=fJ hj;rw[bD hp] at hb ⊢;have hkn:=M.known hs hp;have hkd:=(M.rk hp).2.kd;refine⟨?_,fun h1=>⟨i,p,hp,h1,rfl,by omega,by omega⟩⟩;show ∃ b c d e f,pI _ (rfB qs ids p.2)=([p.2.kind,b,c,d,e,f],0)
   unfold pI;rw[hkn];simp only;unfold stM;rw[hkd];exact⟨_,_,_,_,_,rfl⟩
theorem ImB.rootD:DrB qs ids ((bJ qs ids (aF qs ids)) 9):=by
 obtain⟨r,hr,hrn,hrk⟩:=M.G.root;have hb:=M.may.2.2.2.2.2.2.2;refine⟨0,r,hr,hrk,?_,by omega,by omega⟩;show (stB qs ids).refs.getD (ndB qs ((0:Nat):Int)).ino.toNat 0-1=_;rw[bD hr];rfl
end
structure SD (x:Img)(Dr:Int→Prop):Prop where
 root:Dr (x.F 9)
 bd:∀ r,Dr r→-9223372036854775808≤r∧r≤9223372036854775807
 ls:∀ r,Dr r→∃ L:List Ent,gP x r=(L,0)∧aO [] L∧L.length≤40∧∀ y∈L,(∃ b c d e f,pI x y.2.2=([y.2.1,b,c,d,e,f],0))∧(y.2.1=1→Dr y.2.2)∧-9223372036854775808≤y.2.2∧y.2.2≤9223372036854775807
theorem Hn{qs:List (NdH×Nd)}{ids:List Int}(M:ImB qs ids){x:Img}(hx:Go.Proofs.YthdecfkdgdagcaaGreat.mnt (imB qs ids)=some x):∃ Dr,SD x Dr:=by
 obtain⟨s,h1,hs⟩:=M.mnt;rw[h1] at hx;cases hx;refine⟨DrB qs ids,M.rootD,fun r h=>?_,fun r h=>?_⟩
 ·obtain⟨_,_,_,_,_,h⟩:=h;exact h
 · obtain⟨L,h1,h2,h3,h4⟩:=M.listD hs h
   refine⟨L,h1,h2,h3,fun y hy=>⟨(h4 y hy).1,(h4 y hy).2,?_⟩⟩;obtain⟨i,hi⟩:=List.getElem?_of_mem hy;have:=(oY h2 hi).2.2.2.2;omega
theorem L3{x:Img}{ref:Int}{L:List Ent}(hL:gP x ref=(L,0))(hch:aO [] L)(q:By):∃ e,pM x ref q=(e,if decide (∃ z∈L.take L.length,z.1=q)=true then 0 else 20):=by
 unfold pM;rw[hL,take_length];simp only;rw[if_neg (fun h=>h rfl)];by_cases hex:∃ z∈L,z.1=q
 · obtain⟨z,hz,e⟩:=id hex
   obtain⟨i,hi⟩:=List.getElem?_of_mem hz;exact⟨z,by rw[sZ hch hi e,if_pos (decide_eq_true hex)]⟩
 ·exact⟨mW,by rw[CP (fun y hy e=>hex ⟨y,hy,e⟩),if_neg (fun h=>hex (of_decide_eq_true h))]⟩
end
section
open Go Go.RowKit Go.Maps
theorem Vw.tail1{α:Type}{en:α→Value}{H:Array Obj}{ao:Option Addr}{c:Nat}{x:α}{b:List α}(h:Vw en H ao c (x::b)):Vw en H (aR ao c 1 1) (c-1) b:=by
 have:=h.cut (l:=1) (h:=b.length+1) (m:=c) (by omega) (by simp) h.le (Nat.le_refl _);rw[show b.length+1-1=b.length by omega] at this;simpa using this
theorem OE{L:List Ent}{k:Nat}{z:Ent}(hz:L[k]?=some z)(q:By):(∃ y∈L.take (k+1),y.1=q)↔(∃ y∈L.take k,y.1=q)∨z.1=q:=by
 rw[List.take_add_one,hz];constructor
 · rintro⟨y,hy,e⟩
   rcases mem_append.1 hy with hy|hy
   ·exact .inl ⟨y,hy,e⟩
   ·simp at hy;subst hy;exact .inr e
 · rintro(⟨y,hy,e⟩|e)
   ·exact⟨y,List.mem_append_left _ hy,e⟩
   ·exact⟨z,by simp,e⟩
theorem yJ(a0:Option Addr)(cap0:Nat)(x0:List (NdH×Nd))(a1:Option Addr)(cap1:Nat)(x1:List By)(W:World)(hv0:cE (fun k=>k<W.heap.size) W.heap a0 cap0 x0)(hw0:∀ p∈x0,okN p.2∧smN p.2)(hv1:Vw sK W.heap a1 cap1 x1) :
 CA 3 [.slice a0 x0.length cap0,.slice a1 x1.length cap1] W fun v w'=>v=.bool true∧aA nob W w':=by
 have h63:=hv1.V7;have hfl:=JA x0;refine cS 208 [(0,_),(1,_)] Tryz.func3 ?_;refine cA 7 fn8 (Hk W) ?_;rintro _ w1 ⟨rfl,hf1⟩;refine cA 6 St (LX a0 cap0 x0 w1 (hv0.V8 hf1)) ?_;rintro _ w2 ⟨o2,c2,rfl,ho2,hfo2,hf2,hvf⟩;obtain⟨ls,hls⟩:∃ ls,ls=wG x0:=⟨_,rfl⟩
 have hsm2:∀ p∈ls,smN p.2:=by rw[hls];exact JB (fun p hp=>(hw0 p hp).2.mfew)
 rw[←hls] at hvf hfl ⊢;have hF2:=hf1.trans hf2;have hz2:=hF2.size;refine SH fn9 rfl (zW o2 c2 ls w2 ⟨hvf.1,fun p hp=>(hvf.2 p hp).mono (fun k (hk:k<W.heap.size)=>(by omega:k<w2.heap.size))⟩ hsm2 hfl) rfl ?_;intro v w3 hB;obtain⟨o3,c3,B,E,rfl,hoB,hfrB,hf3,hE⟩:=hB.of hfl;have hF3:=hF2.trans hf3;refine fK 11 ?_ ?_<;>intro h33
 ·refine Gz 12 ?_;exact⟨_,rfl,rfl,hF3⟩
 obtain⟨hz,ids,M,hBe,hB64,hBm⟩:=hE (not_not.1 h33);refine Gz 8 ?_;refine SH Oi rfl (wD o3 c3 B w3 hoB.vw (by omega)) rfl ?_;intro v w4 h4;obtain⟨hf4,h4⟩:=h4.of;obtain⟨x,g,rfl,hx,_,_,hI⟩:=h4.resolve_left (fun⟨_,h⟩=>by obtain⟨s,hs,_⟩:=M.mnt;rw[hBe,hs] at h;cases h);rw[hBe] at hx;obtain⟨Dr,hLs⟩:=Hn M hx;have hF4:=hF3.trans hf4;refine Gz 11 ?_;refine cL (Te rfl) ?_;refine Gz 2 ?_;refine cW (TO MY rfl rfl) ?_;refine Gz 3 ?_;refine cW (TG (Ts rfl rfl) (fun h=>h rfl)) ?_;refine Gz 9 ?_;refine SH PI rfl (Ag g _ w4 hI) rfl ?_;rintro _ w5 ⟨rfl,hw⟩;subst w5;refine Tg (enc:=i64) (u:=x.F 9) bG (eX _) rfl rfl ?_;intro w5 ho5 hs5 hf5;refine Gz 10 ?_;refine SQ (β:=Nat×List Int×Option Addr×Nat) (fun⟨n,T,o,c⟩=>[(1,.slice a1 x1.length cap1),(8,pT g),(10,.slice o T.length c),(11,iV n)]) (fun⟨n,T,o,c⟩ w=>n≤60∧T.length≤1+40*n∧Own i64 3 w.heap o c T∧(∀ z∈T,Dr z)∧Fr w4.heap.size o∧aA nob w4 w) (fun⟨n,T,o,c⟩=>60-n) ⟨0,[x.F 9],some ⟨w4.heap.size,0,none⟩,1⟩ ⟨rfl,rfl,rfl,rfl,trivial⟩ ⟨Nat.zero_le _,Nat.le_refl _,ho5,fun z hz=>by rw[mem_singleton] at hz;rw[hz];exact hLs.root,fun a ha=>by cases ha;exact Nat.le_refl _,hf5⟩ ?_;rintro⟨n,T,o,c⟩ w6 ⟨hn60,hTl,ho6,hTD,hfo6,hF6⟩;refine fK 5 ?_ ?_<;>intro h55
 ·refine fW 2 ?_ ?_<;>intro h58
  ·obtain⟨ref,T2,rfl⟩:∃ z r,T=z::r:=by cases T with|nil=>(simp at h55)|cons z r=>exact⟨z,r,rfl⟩
   have hrd:=hTD ref (by simp);have hrb:=hLs.bd _ hrd;obtain⟨L,hL,hch,hLl,hLy⟩:=hLs.ls _ hrd;have hTl2:T2.length≤40*n:=by simp only[length_cons] at hTl;omega
   refine Gz 2 ?_;refine aW [(1,_),(8,_),(10,_),(11,_),(59,_)] ?_;refine Gz 9 ?_;refine cL (SI bG rfl rfl ho6.vw.non (by simp only[length_cons];omega)) ?_;refine cL (SM (u:=iV ref) (SL aI rfl (ho6.vw.gz 0 0 rfl (by simp))) rfl) ?_;refine Gz 5 ?_;refine Ti i64 bG rfl ?_;intro w7 ho7 hs7 hf7;refine Gz 1 ?_;refine cL (SM (u:=.slice (aR o c 1 1) T2.length (c-1)) (Tk bG rfl rfl (by simp only[length_cons];omega)) rfl) ?_;refine SR eX bG rfl rfl ho7 (ho6.V8 hf7).vw.tail1 (by simp only[length_nil];omega) (by simp only[length_nil];unfold maxLen;omega) rfl ?_;intro o8 c8 w8 ho8 hf8 hr8 hn8;have ho8:Own i64 3 w8.heap o8 c8 T2:=ho8;have hF8:aA nob w4 w8:=(hF6.trans hf7).V5 hf8 (fun k hk=>.inr (by obtain⟨a,ha,e⟩:=hk;cases ha;have h1:=hF6.size;have e:w6.heap.size=k:=e;omega));have hfo8:Fr w4.heap.size o8:=fun a ha=>by
    have h1:=hF6.size;rcases hr8 a ha with h|h
    ·cases h;exact h1
    ·have:=hf7.size;omega
   refine cA 7 Oh (sW g x ref w8 (hI.V8 hF8) hrb) ?_;rintro _ w9 ⟨hDP,_⟩;rw[hL] at hDP;obtain⟨o9,c9,rfl,ho9,hfr9,hf9⟩:=hDP;have hF9:=hF8.trans hf9;have hlt8:=ho8.lt;refine Gz 11 ?_;refine cL (TG (Ts rfl rfl) (fun h=>h rfl)) ?_;refine Gz 12 ?_;refine SQ (β:=Nat×List Int×Option Addr×Nat) (fun⟨i,T,o,c⟩=>[(1,.slice a1 x1.length cap1),(8,pT g),(10,.slice o T.length c),(11,iV n),(12,iV ref),(13,.slice o9 L.length c9),(15,iV i)]) (fun⟨i,T,o,c⟩ w=>i≤L.length∧T.length≤T2.length+i∧Own i64 3 w.heap o c T∧(∀ z∈T,Dr z)∧Fr w4.heap.size o∧VwM 3 cD w.heap o9 c9 L∧(∀ a b:Addr,o9=some a→o=some b→¬ a.block=b.block)∧aA nob w4 w) (fun⟨i,T,o,c⟩=>L.length-i) ⟨0,T2,o8,c8⟩ ⟨rfl,rfl,rfl,rfl,rfl,rfl,rfl,trivial⟩ ⟨Nat.zero_le _,Nat.le_refl _,ho8.V8 hf9,fun z hz=>hTD z (by simp[hz]),hfo8,ho9.vw bP,fun a b ha hb e=>by have h1:=hfr9 a ha;have h2:=hlt8 b hb;omega,hF9⟩ ?_;rintro⟨i,T,o,c⟩ w10 ⟨hi,hTl3,ho10,hTD2,hfo10,hLv,hap,hF10⟩;refine fK 6 ?_ ?_<;>intro h80
   ·have hil:i<L.length:=by omega
    obtain⟨y,hy⟩:∃ y,L[i]?=some y:=⟨_,List.getElem?_eq_getElem hil⟩
    have hym:=mem_of_getElem? hy;obtain⟨⟨p1,p2,p3,p4,p5,hst⟩,hyd,hyb⟩:=hLy y hym;have hlk:pM x ref y.1=(y,0):=by
     unfold pM;rw[hL];simp only;rw[if_neg (fun h=>h rfl)];exact sZ hch hy rfl
    refine Gz 1 ?_;refine aW [(1,_),(8,_),(10,_),(11,_),(12,_),(13,_),(15,_),(80,_)] ?_;refine Gz 12 ?_;refine cL (SJ jM rfl rfl hLv.non (by omega)) ?_;refine Gz 1 ?_;refine cL (SL fR rfl (hLv.rowZ i rfl hy 0 _ rfl)) ?_;refine cA 0 Py (Ah g x ref y.1 w10 (hI.V8 hF10) hrb) ?_;rw[hlk];rintro _ w11 ⟨rfl,hf11⟩;refine Gz 3 ?_;refine SP tY rfl ?_;intro w12 hg12 hs12 hf12;obtain⟨d,ed⟩:∃ a,a=w11.heap.size:=⟨_,rfl⟩
    rw[←ed] at hg12 ⊢;refine sA rfl gZ (by exact jD _) hg12 ?_;intro w13 hg13 hs13 hf13;have hf13b:aA nob w10 w13:=(hf11.trans hf12).V5 hf13 (fun k hk=>.inr (by have h:k=d:=hk;have:=hf11.size;omega));have hF13:=hF10.trans hf13b;have hL13:=hLv.V8 hf13b;refine Gz 8 ?_;refine cL (SJ jM rfl rfl hL13.non (by omega)) ?_;refine Gz 1 ?_;refine cL (SL aI rfl (hL13.rowZ i rfl hy 2 _ rfl)) ?_;refine cA 0 Ss (Hl g x y.2.2 w13 (hI.V8 hF13) hyb) ?_;rw[hst];rintro _ w14 ⟨rfl,hf14⟩;refine Gz 3 ?_;refine SP H4 rfl ?_;intro w15 hg15 hs15 hf15;obtain⟨d2,ed2⟩:∃ a,a=w14.heap.size:=⟨_,rfl⟩
    rw[←ed2] at hg15 ⊢;refine sA rfl mK (by exact oQ _) hg15 ?_;intro w16 hg16 hs16 hf16;have hf16b:aA nob w13 w16:=(hf14.trans hf15).V5 hf16 (fun k hk=>.inr (by have h:k=d2:=hk;have:=hf14.size;omega));have hF16:=hF13.trans hf16b;have hL16:=hL13.V8 hf16b;have hd16:=hf16b.obj hg13 id;refine Gz 5 ?_;refine SZ 42 [0,1,2,3,4,5,6,7,8,9,10,11,12,13,14,15,16,17,18,19,20,21,22,23,24,25,26,27,28,29,30,31,32,33,34,35,36,37,38,39,40,41] aK (by kernel_rfl) ?_;refine xC rfl (SU (cs:=cD y) gZ rfl (cH hd16 0 rfl)) ?_;refine Gz 2 ?_;refine xC rfl (SJ jM rfl rfl hL16.non (by omega)) ?_;refine xC rfl (SU (cs:=cD y) gZ rfl (fun j v hj=>hL16.rowZ i rfl hy j v hj)) ?_;refine xC rfl (TG (UW rfl rfl) (fun h=>h rfl)) ?_;refine Gz 2 ?_;refine xV rfl (TG (Ts rfl rfl) (fun h=>h rfl)) ?_;refine Gz 3 ?_;refine xV rfl (TG (Ts rfl rfl) (fun h=>h rfl)) ?_;refine Gz 3 ?_;refine xV rfl (SL aI rfl (aE hg16 rfl)) ?_;refine Gz 2 ?_;refine xV rfl (SJ jM rfl rfl hL16.non (by omega)) ?_;refine Gz 1 ?_;refine xV rfl (SL aI rfl (hL16.rowZ i rfl hy 1 _ rfl)) ?_;refine xV rfl (TG (Ts rfl rfl) (fun h=>h rfl)) ?_;refine xW 3 ?_ ?_<;>intro h130
    ·obtain⟨z,hz⟩:∃ z,L[i-1]?=some z:=⟨_,List.getElem?_eq_getElem (by omega)⟩
     have hlt:=mH hch hz hy (by omega);refine Gz 4 ?_;refine xV rfl (SJ jM rfl rfl hL16.non (by omega)) ?_;refine Gz 1 ?_;refine xV rfl (SL fR rfl (hL16.rowZ (i-1) (by omega) hz 0 _ rfl)) ?_;refine Gz 2 ?_;refine xV rfl (SJ jM rfl rfl hL16.non (by omega)) ?_;refine Gz 1 ?_;refine xV rfl (SL fR rfl (hL16.rowZ i rfl hy 0 _ rfl)) ?_;refine xV rfl (TG (S5 (Uf (a:=z.1) (b:=y.1) rfl rfl)) (by simp[hlt])) ?_;refine xV rfl (Tu rfl rfl) ?_;refine fK 10 ?_ ?_<;>intro h148
     ·have hf16d:aA nob w10 (w16.drewN 1):=(hf13b.trans hf16b).draws 1;have hLd:=hyd h148;obtain⟨w17,ew⟩:∃ w,w=w16.drewN 1:=⟨_,rfl⟩
      rw[←ew] at hf16d ⊢;have hL17:=hLv.V8 hf16d;refine Gz 7 ?_;refine cL (SJ jM rfl rfl hL17.non (by omega)) ?_;refine Gz 1 ?_;refine cL (SL aI rfl (hL17.rowZ i rfl hy 2 _ rfl)) ?_;refine Tg (enc:=i64) (u:=y.2.2) bG (eX _) rfl rfl ?_;intro w18 ho18 hs18 hf18;refine SR eX bG rfl rfl ((ho10.V8 hf16d).V8 hf18) ho18.vw (by simp only[length_singleton];omega) (by simp only[length_singleton];unfold maxLen;omega) rfl ?_;intro o19 c19 w19 ho19 hf19 hr19 hn19;have hz10:=hf16d.size;have hz18:=hf18.size;have hne:L≠[]:=fun e=>by rw[e] at hil;simp at hil
      have hlt9:=hLv.lt hne (fun _ e=>by cases e);have hLv19:VwM 3 cD w19.heap o9 c9 L:=(hL17.V8 hf18).keep' hf19 (fun _ a ha hk=>by obtain⟨b,hb,e⟩:=hk;exact hap a b ha hb e.symm);refine Gz 9 ?_;exact aG ⟨i+1,T++[y.2.2],o19,c19⟩ ⟨by omega,by rw[length_append,length_singleton];omega,ho19,fun z hz=>(mem_append.1 hz).elim (hTD2 z) (fun h=>by rw[mem_singleton] at h;rw[h];exact hLd),dG hfo10 hr19 (by have:=hF10.size;omega),hLv19,fun a b ha hb e=>by
       rcases hr19 b hb with h|h
       ·exact hap a b ha h e
       ·have:=hlt9 a ha;omega,(hF10.trans (hf16d.trans hf18)).V5 hf19 hfo10.step⟩ (by show L.length-(i+1)<L.length-i;omega)
     have hf16d:aA nob w10 (w16.drewN 1):=(hf13b.trans hf16b).draws 1;refine Gz 11 ?_;exact aG ⟨i+1,T,o,c⟩ ⟨by omega,by omega,ho10.V8 hf16d,hTD2,hfo10,hLv.V8 hf16d,hap,hF10.trans hf16d⟩ (by show L.length-(i+1)<L.length-i;omega)
    refine Gz 13 ?_;refine xV rfl (TC rfl rfl) ?_;refine fK 10 ?_ ?_<;>intro h148
    ·have hf16d:aA nob w10 (w16.drewN 1):=(hf13b.trans hf16b).draws 1;have hLd:=hyd h148;obtain⟨w17,ew⟩:∃ w,w=w16.drewN 1:=⟨_,rfl⟩
     rw[←ew] at hf16d ⊢;have hL17:=hLv.V8 hf16d;refine Gz 7 ?_;refine cL (SJ jM rfl rfl hL17.non (by omega)) ?_;refine Gz 1 ?_;refine cL (SL aI rfl (hL17.rowZ i rfl hy 2 _ rfl)) ?_;refine Tg (enc:=i64) (u:=y.2.2) bG (eX _) rfl rfl ?_;intro w18 ho18 hs18 hf18;refine SR eX bG rfl rfl ((ho10.V8 hf16d).V8 hf18) ho18.vw (by simp only[length_singleton];omega) (by simp only[length_singleton];unfold maxLen;omega) rfl ?_;intro o19 c19 w19 ho19 hf19 hr19 hn19;have hz10:=hf16d.size;have hz18:=hf18.size;have hne:L≠[]:=fun e=>by rw[e] at hil;simp at hil
     have hlt9:=hLv.lt hne (fun _ e=>by cases e);have hLv19:VwM 3 cD w19.heap o9 c9 L:=(hL17.V8 hf18).keep' hf19 (fun _ a ha hk=>by obtain⟨b,hb,e⟩:=hk;exact hap a b ha hb e.symm);refine Gz 9 ?_;exact aG ⟨i+1,T++[y.2.2],o19,c19⟩ ⟨by omega,by rw[length_append,length_singleton];omega,ho19,fun z hz=>(mem_append.1 hz).elim (hTD2 z) (fun h=>by rw[mem_singleton] at h;rw[h];exact hLd),dG hfo10 hr19 (by have:=hF10.size;omega),hLv19,fun a b ha hb e=>by
      rcases hr19 b hb with h|h
      ·exact hap a b ha h e
      ·have:=hlt9 a ha;omega,(hF10.trans (hf16d.trans hf18)).V5 hf19 hfo10.step⟩ (by show L.length-(i+1)<L.length-i;omega)
    have hf16d:aA nob w10 (w16.drewN 1):=(hf13b.trans hf16b).draws 1;refine Gz 11 ?_;exact aG ⟨i+1,T,o,c⟩ ⟨by omega,by omega,ho10.V8 hf16d,hTD2,hfo10,hLv.V8 hf16d,hap,hF10.trans hf16d⟩ (by show L.length-(i+1)<L.length-i;omega)
   refine Gz 1 ?_;refine aW [(1,_),(8,_),(10,_),(11,_),(12,_),(13,_),(15,_),(80,_)] ?_;refine Gz 13 ?_;refine SQ (β:=Nat) (fun j=>[(1,.slice a1 x1.length cap1),(8,pT g),(10,.slice o T.length c),(11,iV n),(12,iV ref),(13,.slice o9 L.length c9),(20,iV j)]) (fun j w=>j≤x1.length∧aA nob w10 w) (fun j=>x1.length-j) 0 ⟨rfl,rfl,rfl,rfl,rfl,rfl,rfl,trivial⟩ ⟨Nat.zero_le _,VI _ _⟩ ?_;rintro j w20 ⟨hj,hF20⟩;refine fK 6 ?_ ?_<;>intro h160
   ·refine fW 2 ?_ ?_<;>intro h163
    ·have hjl:j<x1.length:=by omega
     obtain⟨q,hq⟩:∃ q,x1[j]?=some q:=⟨_,List.getElem?_eq_getElem hjl⟩
     have hv20:=hv1.V8 (hF4.trans (hF10.trans hF20));have hL20:=hLv.V8 hF20;refine Gz 20 ?_;refine SQ (β:=Nat) (fun k=>[(1,.slice a1 x1.length cap1),(8,pT g),(10,.slice o T.length c),(11,iV n),(12,iV ref),(13,.slice o9 L.length c9),(20,iV j),(21,.bool (decide (∃ z∈L.take k,z.1=q))),(22,iV k)]) (fun k w=>k≤L.length∧aA nob w20 w) (fun k=>L.length-k) 0 ⟨rfl,rfl,rfl,rfl,rfl,rfl,rfl,(congrArg (fun b=>some (Value.bool b)) (decide_eq_false (by simp)).symm),rfl,trivial⟩ ⟨Nat.zero_le _,VI _ _⟩ ?_;rintro k w21 ⟨hk,hF21⟩;refine fK 6 ?_ ?_<;>intro h170
     ·have hkl:k<L.length:=by omega
      obtain⟨z,hz⟩:∃ z,L[k]?=some z:=⟨_,List.getElem?_eq_getElem hkl⟩
      have hts:=OE hz q;have hL21:=hL20.V8 hF21;have hv21:=hv20.V8 hF21;refine Gz 7 ?_;refine SZ 14 [0,1,2,3,4,5,6,7,8,9,10,11,12,13] aK (by kernel_rfl) ?_;refine Gz 1 ?_;refine UO rfl rfl (S5 (Tf rfl)) rfl (fun h174=>?_) (fun h174=>?_)
      ·have h174:=of_decide_eq_true h174;refine Gz 20 ?_;exact S1 (k+1) ⟨rfl,rfl,rfl,rfl,rfl,rfl,rfl,congrArg (fun b=>some (Value.bool b)) (decide_eq_true (hts.2 (by first|exact .inl h174|exact .inr h184))).symm,rfl,trivial⟩ ⟨by omega,hF21.draws 1⟩ (by show L.length-(k+1)<L.length-k;omega)
      have h174:¬ ∃ y∈L.take k,y.1=q:=fun h=>h174 (decide_eq_true h);refine Gz 2 ?_;refine xV rfl (SJ jM rfl rfl hL21.non (by omega)) ?_;refine Gz 1 ?_;refine xV rfl (SL fR rfl (hL21.rowZ k rfl hz 0 _ rfl)) ?_;refine Gz 2 ?_;refine xV rfl (SI pU rfl rfl hv21.non (by omega)) ?_;refine xV rfl (SL fR rfl (hv21.get j q hq)) ?_;refine xW 0 ?_ ?_<;>intro h184
      ·refine Gz 10 ?_;exact S1 (k+1) ⟨rfl,rfl,rfl,rfl,rfl,rfl,rfl,congrArg (fun b=>some (Value.bool b)) (decide_eq_true (hts.2 (by first|exact .inl h174|exact .inr h184))).symm,rfl,trivial⟩ ⟨by omega,hF21.draws 1⟩ (by show L.length-(k+1)<L.length-k;omega)
      refine Gz 10 ?_;exact S1 (k+1) ⟨rfl,rfl,rfl,rfl,rfl,rfl,rfl,congrArg (fun b=>some (Value.bool b)) (decide_eq_false (fun h=>by rcases hts.1 h with h|h;exact h174 h;exact h184 h)).symm,rfl,trivial⟩ ⟨by omega,hF21.draws 1⟩ (by show L.length-(k+1)<L.length-k;omega)
     have hke:k=L.length:=by omega
     subst hke;obtain⟨th,hth⟩:∃ b,b=decide (∃ z∈L.take L.length,z.1=q):=⟨_,rfl⟩
     obtain⟨e2,hlk2⟩:=L3 hL hch q;rw[←hth] at hlk2 ⊢;have hv21:=hv20.V8 hF21;refine Gz 14 ?_;refine cL (SI pU rfl rfl hv21.non (by omega)) ?_;refine cL (SL fR rfl (hv21.get j q hq)) ?_;refine cA 0 Py (Ah g x ref q w21 (hI.V8 ((hF10.trans hF20).trans hF21)) hrb) ?_;rw[hlk2];rintro _ w22 ⟨rfl,hf22⟩;refine Gz 3 ?_;refine SP tY rfl ?_;intro w23 hg23 hs23 hf23;obtain⟨d,ed⟩:∃ a,a=w22.heap.size:=⟨_,rfl⟩
     rw[←ed] at hg23 ⊢;refine sA rfl gZ (by exact jD _) hg23 ?_;intro w24 hg24 hs24 hf24;have hf24b:aA nob w21 w24:=(hf22.trans hf23).V5 hf24 (fun k hk=>.inr (by have h:k=d:=hk;have:=hf22.size;omega));refine Gz 6 ?_;refine cL (SM (u:=.bool th) (TL rfl rfl) (by cases th<;>rfl)) ?_;refine Gz 1 ?_;refine cL (SM (u:=.bool false) (Tv ty4 (a:=th) (b:=th) rfl rfl) (by cases th<;>rfl)) ?_;refine Gz 2 ?_;refine Th rfl rfl (Tq rfl) rfl (fun h202=>?_) (fun h202=>?_)
     ·refine Gz 2 ?_;refine cW (TG (Ts rfl rfl) (by rw[h202];exact fun h=>h rfl)) ?_;refine Gz 13 ?_;exact aG (j+1) ⟨by omega,(hF20.trans hF21).trans hf24b⟩ (by show x1.length-(j+1)<x1.length-j;omega)
     refine Gz 16 ?_;exact aG (j+1) ⟨by omega,(hF20.trans hF21).trans hf24b⟩ (by show x1.length-(j+1)<x1.length-j;omega)
    refine Gz 15 ?_;exact aG ⟨n+1,T,o,c⟩ ⟨by omega,by omega,ho10.V8 hF20,hTD2,hfo10,hF10.trans hF20⟩ (by show 60-(n+1)<60-n;omega)
   refine Gz 18 ?_;exact aG ⟨n+1,T,o,c⟩ ⟨by omega,by omega,ho10.V8 hF20,hTD2,hfo10,hF10.trans hF20⟩ (by show 60-(n+1)<60-n;omega)
  refine Gz 2 ?_;refine aW [(1,_),(8,_),(10,_),(11,_),(59,_)] ?_;refine Gz 14 ?_;exact⟨_,rfl,rfl,hF4.trans hF6⟩
 refine Gz 5 ?_;refine aW [(1,_),(8,_),(10,_),(11,_),(59,_)] ?_;refine Gz 14 ?_;exact⟨_,rfl,rfl,hF4.trans hF6⟩
theorem wE(a0:Option Addr)(cap0:Nat)(x0:List (NdH×Nd))(z1:Hd)(x1:List By)(W:World)(hv0:cE (fun k=>k<W.heap.size) W.heap a0 cap0 x0)(hw0:∀ p∈x0,okN p.2∧smN p.2){D:Nat→Prop}(hv1:NmV D W.heap z1 x1) :
 CA 3 [.slice a0 x0.length cap0,hd z1] W fun v w'=>v=.bool true∧aA nob W w':=by
 have h:=yJ a0 cap0 x0 z1.a z1.c x1 W hv0 hw0 hv1.2.1;rw[←hv1.1] at h;exact h
end
end Go.Proofs.YthdecfkdgdagcaaGreat
