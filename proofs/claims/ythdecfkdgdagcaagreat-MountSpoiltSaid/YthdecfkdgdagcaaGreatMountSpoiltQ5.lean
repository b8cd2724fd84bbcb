/- lamella: what the law needs. No condition beyond the bounds that each states. -/
import Derived.Deep.Fields
import Derived.Test.YthdecfkdgdagcaaGreatMountSpoiltQ4
namespace Go.Proofs.YthdecfkdgdagcaaGreat
open Go Go.RowKit
set_option linter.unusedVariables false
set_option linter.unusedSectionVars false
set_option maxHeartbeats 64000000
open List (append_assoc ext_getElem? flatMap_cons flatMap_nil length_append length_cons length_map length_nil length_replicate length_singleton length_take map_cons mem_append mem_append_left mem_cons mem_cons_self mem_flatMap mem_map mem_of_getElem? mem_of_mem_take mem_range mem_singleton nil_append nodup_append size_toArray take_append take_length take_of_length_le)
open Classical (byContradiction not_not)
open Option (map_some)
section
open Go Go.RowKit Go.Maps
def iZ(qs:List (NdH×Nd)):Nat→Int→List Int
|0,_=>[]
|n+1,k=>k::(bN qs (ndB qs k).names qs.length).flatMap (iZ qs n)
def vld(qs:List (NdH×Nd))(V:List Int):Prop:=∀ k∈V,∃ (i:Nat) (q:NdH×Nd),k=(i:Int)∧qs[i]?=some q
def cV(qs:List (NdH×Nd))(V:List Int)(z:Int):Nat:=V.countP (fun j=>decide ((ndB qs j).ino=z))
def Rk(qs:List (NdH×Nd))(ids:List Int)(k:Int):Rec:=(eV (imB qs ids) (bO qs ids (aF qs ids)) ids (rfB qs ids (ndB qs k)) (ndB qs k).kind).getD nZ
structure MI (qs:List (NdH×Nd))(ids:List Int)(V:List Int)(s:MSt):Prop where
 cnt:s.2=V.length
 nd:(s.1.map (·.1.ref)).Nodup
 mem:∀ r∈s.1,∃ k∈V,r.1=Rk qs ids k∧r.2=(cV qs V (ndB qs k).ino:Int)
 all:∀ k∈V,∃ r∈s.1,r.1.ref=rfB qs ids (ndB qs k)
section
variable {qs:List (NdH×Nd)}
theorem vL(V:List Int)(k z:Int):cV qs (V++[k]) z=cV qs V z+if (ndB qs k).ino=z then 1 else 0:=by
 unfold cV;rw[List.countP_append,List.countP_singleton];by_cases h:(ndB qs k).ino=z
 ·simp[h]
 ·simp[h]
theorem AF{l:List (Rec×Int)}{ref:Int}(h:fZ l ref=none):∀ r∈l,r.1.ref≠ref:=by
 unfold fZ at h;rw[List.findIdx?_eq_none_iff] at h;intro r hr e;have:=h r hr;simp[e] at this
theorem tQ{l:List (Rec×Int)}{ref:Int}{i:Nat}(h:fZ l ref=some i):∃ r,l[i]?=some r∧r.1.ref=ref:=by
 unfold fZ at h;rw[List.findIdx?_eq_some_iff_getElem] at h;obtain⟨hi,h1,_⟩:=h;exact⟨l[i],List.getElem?_eq_getElem hi,by simpa using h1⟩
theorem oE:∀ (n k:Nat) (q:NdH×Nd),qs[k]?=some q→∀ z∈iZ qs n k,∃ (i:Nat) (p:NdH×Nd) (r:List By),z=(i:Int)∧qs[i]?=some p∧p.2.names=q.2.names++r
|0,k,q,hq,z,hz=>by cases hz
|n+1,k,q,hq,z,hz=>by
   have hz:z∈(k:Int)::(bN qs (ndB qs k).names qs.length).flatMap (iZ qs n):=hz;rcases mem_cons.1 hz with rfl|hz
   ·exact⟨k,q,[],rfl,hq,by simp⟩
   · obtain⟨y,hy,hz⟩:=mem_flatMap.1 hz
     rw[bI hq] at hy;obtain⟨j,p,rfl,hj,hn⟩:=iB hy;obtain⟨i,x,r,h1,h2,h3⟩:=oE n j p hj z hz;obtain⟨a,ha⟩:∃ a,a=aQ p.2.names:=⟨_,rfl⟩
     rw[←ha] at hn;exact⟨i,x,a::r,h1,h2,by rw[h3,hn];simp⟩
theorem oD(n:Nat){k:Nat}{q:NdH×Nd}(hq:qs[k]?=some q):vld qs (iZ qs n k):=fun z hz=>by
 obtain⟨i,p,_,h1,h2,_⟩:=oE n k q hq z hz;exact⟨i,p,h1,h2⟩
variable (G:GdT qs)
include G
theorem mX:∀ (n k:Nat) (q:NdH×Nd),qs[k]?=some q→(iZ qs n k).Nodup
|0,_,_,_=>List.Pairwise.nil
|n+1,k,q,hq=>by
   show ((k:Int)::(bN qs (ndB qs k).names qs.length).flatMap (iZ qs n)).Nodup;rw[bI hq];refine List.nodup_cons.2 ⟨fun hm=>?_,?_⟩
   · obtain⟨y,hy,hz⟩:=mem_flatMap.1 hm
     obtain⟨j,p,rfl,hj,hn⟩:=iB hy;obtain⟨i,x,r,h1,h2,h3⟩:=oE n j p hj _ hz;have e:i=k:=by omega
     subst e;rw[hq] at h2;cases h2;have:=congrArg List.length h3;rw[hn] at this;simp at this
   · unfold List.Nodup
     rw[List.pairwise_flatMap];refine⟨fun y hy=>?_,?_⟩
     · obtain⟨j,p,rfl,hj,_⟩:=iB hy
       exact mX n j p hj
     · refine(mH qs.length).imp_of_mem (fun {a b} ha hb hab=>?_)
       obtain⟨i,p,rfl,hi,hn⟩:=iB ha;obtain⟨j,r,rfl,hj,hm⟩:=iB hb;intro x hx y hy e;subst e;obtain⟨i1,x1,r1,a1,a2,a3⟩:=oE n i p hi x hx;obtain⟨i2,x2,r2,b1,b2,b3⟩:=oE n j r hj x hy;have e:i1=i2:=by omega
       subst e;rw[a2] at b2;cases b2;have hlen:p.2.names.length=r.2.names.length:=by rw[hn,hm];simp
       have h2:=a3.symm.trans b3;have h3:=(List.append_inj h2 hlen).1;have:=G.inj hi hj h3;omega
theorem CW:∀ (n k:Nat) (q:NdH×Nd),qs[k]?=some q→17≤q.2.names.length+n→∀ (i:Nat) (p:NdH×Nd) (r:List By),qs[i]?=some p→p.2.names=q.2.names++r→(i:Int)∈iZ qs n k
|0,k,q,hq,hd,i,p,r,hp,hr=>by have:=G.dep q (mem_of_getElem? hq);omega
|n+1,k,q,hq,hd,i,p,r,hp,hr=>by
   show (i:Int)∈(k:Int)::(bN qs (ndB qs k).names qs.length).flatMap (iZ qs n);rw[bI hq];by_cases h0:r=[]
   · subst h0
     have e:=G.inj hp hq (by rw[hr];simp);rw[e];exact mem_cons_self
   · refine List.mem_cons_of_mem _ (mem_flatMap.2 ?_)
     have hl:p.2.names.length=q.2.names.length+r.length:=by rw[hr,length_append]
     have hr0:=List.length_pos_iff.2 h0;obtain⟨j,y,hj,hy,_⟩:=G.above (mem_of_getElem? hp) (r.length-1) (q.2.names.length+1) (by omega);have hyl:y.2.names=q.2.names++r.take 1:=by
      rw[hy,hr,take_append,take_of_length_le (by omega)];congr 2;omega
     have hne:y.2.names≠[]:=fun e=>by
      have:=congrArg List.length (hyl.symm.trans e);simp only[length_append,length_take,length_nil] at this;omega
     have hdl:y.2.names.dropLast=q.2.names:=by
      rw[hyl];cases r with
     |nil=>exact absurd rfl h0
     |cons a b=>simp
     refine⟨(j:Int),Ku hj hne hdl,?_⟩;have hyn:y.2.names.length=q.2.names.length+1:=by rw[hyl,length_append,length_take];omega
     refine CW n j y hj (by omega) i p (r.drop 1) hp ?_;rw[hyl,hr,append_assoc,List.take_append_drop]
theorem JU{n k:Nat}{q:NdH×Nd}(hq:qs[k]?=some q):(iZ qs n k).length≤qs.length:=by
 have h:=tL (iZ qs n k) ((List.range qs.length).map (fun(i:Nat)=>(i:Int))) (mX G n k q hq) (fun x hx=>by
  obtain⟨i,p,h1,h2⟩:=oD n hq x hx;exact mem_map.2 ⟨i,mem_range.2 (List.getElem?_eq_some_iff.1 h2).1,h1.symm⟩)
 simpa using h
omit G in
theorem CS (n:Nat):((List.range n).map (fun(i:Nat)=>(i:Int))).Nodup:=by
 unfold List.Nodup;rw[List.pairwise_map];exact(List.nodup_range (n:=n)).imp (fun h e=>h (by omega))
theorem Ar:(iZ qs 17 0).Perm ((List.range qs.length).map (fun(i:Nat)=>(i:Int))):=by
 obtain⟨r,hr,hrn,_⟩:=G.root;refine(List.perm_ext_iff_of_nodup (mX G 17 0 r hr) (CS _)).2 (fun x=>⟨fun hx=>?_,fun hx=>?_⟩)
 · obtain⟨i,p,h1,h2⟩:=oD 17 hr x hx
   exact mem_map.2 ⟨i,mem_range.2 (List.getElem?_eq_some_iff.1 h2).1,h1.symm⟩
 · obtain⟨i,hi,rfl⟩:=mem_map.1 hx
   have hi:=mem_range.1 hi;exact CW G 17 0 r hr (by omega) i _ _ (List.getElem?_eq_getElem hi) (by rw[hrn];simp;rfl)
omit G in
theorem Ny {V U:List Int} (h:V.Perm U) (z:Int):cV qs V z=cV qs U z:=h.countP_eq _
omit G in
theorem LC (z:Int):(cV qs ((List.range qs.length).map (fun(i:Nat)=>(i:Int))) z:Int)=jI qs z:=by
 unfold cV jI;congr 1;rw[List.countP_map];have e:qs=(List.range qs.length).map (fun i=>qs.getD i (Bx,nd0)):=by
  apply ext_getElem?;intro i;rw[List.getElem?_map];by_cases hi:i<qs.length
  ·rw[List.getElem?_range hi,List.getElem?_eq_getElem hi];simp[List.getD,hi]
  ·rw[List.getElem?_eq_none (by omega),List.getElem?_eq_none (by rw[List.length_range];omega)];rfl
 conv=>rhs;rw[e]
 rw[List.countP_map];congr 1
end
section
variable {qs:List (NdH×Nd)}{ids:List Int}(M:ImB qs ids)
include M
theorem ImB.rk{k:Nat}{q:NdH×Nd}(hq:qs[k]?=some q):eV (imB qs ids) (bO qs ids (aF qs ids)) ids (rfB qs ids q.2) q.2.kind=some (Rk qs ids k)∧ROk qs ids q.2 (Rk qs ids k):=by
 obtain⟨x,h1,h2⟩:=M.rcd (mem_of_getElem? hq);have e:Rk qs ids k=x:=by unfold Rk;rw[bI hq,h1];rfl
 rw[e];exact⟨h1,h2⟩
theorem ImB.rf_ino{p q:NdH×Nd}(hp:p∈qs)(hq:q∈qs):rfB qs ids p.2=rfB qs ids q.2↔p.2.ino=q.2.ino:=by
 obtain⟨h,hpos⟩:=M.st;have h1:=hpos p hp;have i1:=M.G.ino p hp;have i2:=M.G.ino q hq;unfold rfB;constructor
 · intro e
   have:=h.dist p.2.ino.toNat q.2.ino.toNat h1 (by omega);omega
 ·intro e;rw[e]
theorem ImB.rk_same{j k:Nat}{p q:NdH×Nd}(hp:qs[j]?=some p)(hq:qs[k]?=some q)(e:p.2.ino=q.2.ino):Rk qs ids j=Rk qs ids k:=by
 have h:=M.G.same (mem_of_getElem? hq) (mem_of_getElem? hp) e;unfold Rk rfB;rw[bI hp,bI hq,e,h.1]
theorem MI.new{V:List Int}{s:MSt}(h:MI qs ids V s)(hV:vld qs V){k:Nat}{q:NdH×Nd}(hq:qs[k]?=some q)(hn:fZ s.1 (rfB qs ids q.2)=none):MI qs ids (V++[(k:Int)]) (s.1++[(Rk qs ids k,1)],s.2+1):=by
 have hno:=AF hn;have hR:=(M.rk hq).2;have hnd:=bI hq;refine⟨by show s.2+1=_;rw[h.cnt,length_append];rfl,?_,fun r hr=>?_,fun j hj=>?_⟩
 · show ((s.1++[(Rk qs ids k,1)]).map (fun r:Rec×Int=>r.1.ref)).Nodup
   rw[List.map_append,nodup_append];refine⟨h.nd,by simp,fun a ha b hb e=>?_⟩;obtain⟨r,hr,rfl⟩:=mem_map.1 ha;simp only[map_cons,List.map_nil,mem_singleton] at hb;subst hb;exact hno r hr (e.trans hR.ref)
 · rcases mem_append.1 hr with hr|hr
   · obtain⟨j,hj,h1,h2⟩:=h.mem r hr
     obtain⟨i,p,rfl,hp⟩:=hV j hj;refine⟨(i:Int),mem_append_left _ hj,h1,?_⟩;rw[vL,if_neg (fun e=>?_),h2,Nat.add_zero];rw[hnd,bI hp] at e;have h3:=(M.rk hp).2.ref;rw[←h1,(M.rf_ino (mem_of_getElem? hp) (mem_of_getElem? hq)).2 e.symm] at h3;exact hno r hr h3
   · rw[mem_singleton] at hr;subst hr
     refine⟨(k:Int),by simp,rfl,?_⟩;rw[vL,if_pos rfl];have h0:cV qs V (ndB qs k).ino=0:=List.countP_eq_zero.2 (fun j hj=>by
      obtain⟨i,p,rfl,hp⟩:=hV j hj;obtain⟨r,hr,h1⟩:=h.all _ hj;rw[bI hp] at h1 ⊢;rw[hnd];simp only[decide_eq_true_eq];intro e;rw[(M.rf_ino (mem_of_getElem? hp) (mem_of_getElem? hq)).2 e] at h1;exact hno r hr h1)
     rw[h0];rfl
 · rcases mem_append.1 hj with hj|hj
   · obtain⟨r,hr,h1⟩:=h.all j hj
     exact⟨r,mem_append_left _ hr,h1⟩
   · rw[mem_singleton] at hj;subst hj
     exact⟨(Rk qs ids k,1),by simp,by rw[hnd];exact hR.ref⟩
theorem MI.old{V:List Int}{s:MSt}(h:MI qs ids V s)(hV:vld qs V){k i:Nat}{q:NdH×Nd}(hq:qs[k]?=some q)(hi:fZ s.1 (rfB qs ids q.2)=some i):MI qs ids (V++[(k:Int)]) (dC s.1 i,s.2+1):=by
 obtain⟨r0,hr0,hrf⟩:=tQ hi;have hil:=(List.getElem?_eq_some_iff.1 hr0).1;have hnd:=bI hq;have hb:dC s.1 i=s.1.set i (r0.1,r0.2+1):=by unfold dC;rw[List.getD,hr0];rfl
 have hmap:(dC s.1 i).map (·.1.ref)=s.1.map (·.1.ref):=by
  rw[hb,List.map_set];apply ext_getElem?;intro j;rw[List.getElem?_set];by_cases e:i=j
  · subst e
    rw[if_pos rfl,length_map,if_pos hil,List.getElem?_map,hr0];rfl
  ·rw[if_neg e]
 have at_:∀ (j:Nat) (r:Rec×Int),s.1[j]?=some r→r.1.ref=rfB qs ids q.2→j=i:=fun j r hr e=>by
  have hjl:=(List.getElem?_eq_some_iff.1 hr).1;apply byContradiction;intro hne;have hn:=List.pairwise_iff_getElem.1 h.nd;have e1:(s.1.map (·.1.ref))[j]'(by rw[length_map];exact hjl)=rfB qs ids q.2:=by rw[List.getElem_map,(List.getElem?_eq_some_iff.1 hr).2];exact e
  have e2:(s.1.map (·.1.ref))[i]'(by rw[length_map];exact hil)=rfB qs ids q.2:=by rw[List.getElem_map,(List.getElem?_eq_some_iff.1 hr0).2];exact hrf
  rcases Nat.lt_or_gt_of_ne hne with c|c
  ·exact hn j i (by rw[length_map];exact hjl) (by rw[length_map];exact hil) c (e1.trans e2.symm)
  ·exact hn i j (by rw[length_map];exact hil) (by rw[length_map];exact hjl) c (e2.trans e1.symm)
 refine⟨by show s.2+1=_;rw[h.cnt,length_append];rfl,by rw[hmap];exact h.nd,fun r hr=>?_,fun j hj=>?_⟩
 · obtain⟨j,hj⟩:=List.getElem?_of_mem hr
   have hj:(dC s.1 i)[j]?=some r:=hj;rw[hb,List.getElem?_set] at hj;by_cases e:i=j
   · rw[if_pos e,if_pos hil] at hj
     cases hj;obtain⟨k',hk',h1,h2⟩:=h.mem r0 (mem_of_getElem? hr0);obtain⟨i',p,rfl,hp⟩:=hV k' hk';have h3:=(M.rk hp).2.ref;rw[←h1,hrf] at h3;have h4:=(M.rf_ino (mem_of_getElem? hq) (mem_of_getElem? hp)).1 h3;refine⟨(i':Int),mem_append_left _ hk',h1,?_⟩;rw[vL,if_pos (by rw[hnd,bI hp];exact h4)];show r0.2+1=_;rw[h2];rfl
   · rw[if_neg e] at hj
     obtain⟨k',hk',h1,h2⟩:=h.mem r (mem_of_getElem? hj);obtain⟨i',p,rfl,hp⟩:=hV k' hk';refine⟨(i':Int),mem_append_left _ hk',h1,?_⟩;rw[vL,if_neg (fun e2=>?_),h2,Nat.add_zero];rw[hnd,bI hp] at e2;have h3:=(M.rk hp).2.ref;rw[←h1,(M.rf_ino (mem_of_getElem? hp) (mem_of_getElem? hq)).2 e2.symm] at h3;exact e (at_ j r hj h3).symm
 · rcases mem_append.1 hj with hj|hj
   · obtain⟨r,hr,h1⟩:=h.all j hj
     have h2:r.1.ref∈(dC s.1 i).map (·.1.ref):=by rw[hmap];exact mem_map.2 ⟨r,hr,rfl⟩
     obtain⟨r',hr',h3⟩:=mem_map.1 h2;exact⟨r',hr',h3.trans h1⟩
   · rw[mem_singleton] at hj;subst hj
     have h2:r0.1.ref∈(dC s.1 i).map (·.1.ref):=by rw[hmap];exact mem_map.2 ⟨r0,mem_of_getElem? hr0,rfl⟩
     obtain⟨r',hr',h3⟩:=mem_map.1 h2;exact⟨r',hr',by rw[h3,hnd];exact hrf⟩
omit M in
theorem FE {V U:List Int} (h:vld qs V) (g:vld qs U):vld qs (V++U):=fun k hk=>(mem_append.1 hk).elim (h k) (g k)
theorem Gv{f:Int→Int→MSt→Option MSt}{P:Int→List Int}{S:List By}
 (IH:∀ (k:Nat) (q:NdH×Nd) (V:List Int) (s:MSt),qs[k]?=some q→q.2.names.length=S.length+1→MI qs ids V s→vld qs V→(V++P k).Nodup→(V++P k).length≤1024→∃ s',f (rfB qs ids q.2) q.2.kind s=some s'∧MI qs ids (V++P k) s')
 (hP:∀ z∈bN qs S qs.length,vld qs (P z)):∀ (ys:List Int) (V:List Int) (s:MSt),(∀ z∈ys,z∈bN qs S qs.length)→MI qs ids V s→vld qs V→(V++ys.flatMap P).Nodup→(V++ys.flatMap P).length≤1024→∃ s',goL f (iE qs (stB qs ids) ys) s=some s'∧MI qs ids (V++ys.flatMap P) s'
|[],V,s,_,h,_,_,_=>⟨s,rfl,by simpa using h⟩
|z::r,V,s,hk,h,hV,hn,hl=>by
   obtain⟨k,q,rfl,hq,hnm⟩:=iB (hk z (by simp));rw[flatMap_cons,←append_assoc] at hn hl;have hn1:=(nodup_append.1 hn).1;obtain⟨s1,e1,h1⟩:=IH k q V s hq (by rw[hnm];simp) h hV hn1 (by rw[length_append] at hl;omega);obtain⟨s2,e2,h2⟩:=Gv IH hP r (V++P k) s1 (fun y hy=>hk y (by simp[hy])) h1 (FE hV (hP _ (hk _ (by simp)))) hn hl;refine⟨s2,?_,by rw[flatMap_cons,←append_assoc];exact h2⟩;have e:iE qs (stB qs ids) ((k:Int)::r)=(aQ (ndB qs k).names,(ndB qs k).kind,rfB qs ids (ndB qs k))::iE qs (stB qs ids) r:=rfl;rw[e,bI hq];show (match f (rfB qs ids q.2) q.2.kind s with|none=>none|some s'=>goL f (iE qs (stB qs ids) r) s')=_;rw[e1];exact e2
theorem Gs:∀ (n k:Nat) (q:NdH×Nd) (V:List Int) (s:MSt),qs[k]?=some q→17≤q.2.names.length+n→MI qs ids V s→vld qs V→(V++iZ qs n k).Nodup→(V++iZ qs n k).length≤1024 →
 ∃ s',goM (imB qs ids) (bO qs ids (aF qs ids)) ids n (rfB qs ids q.2) q.2.kind s=some s'∧MI qs ids (V++iZ qs n k) s'
|0,k,q,V,s,hq,hd,_,_,_,_=>by have:=M.G.dep q (mem_of_getElem? hq);omega
|n+1,k,q,V,s,hq,hd,h,hV,hn,hl=>by
   have e:iZ qs (n+1) k=(k:Int)::(bN qs q.2.names qs.length).flatMap (iZ qs n):=by show (k:Int)::_=_;rw[bI hq]
   rw[e] at hn hl ⊢;have hkV:(k:Int)∉V:=fun hm=>(nodup_append.1 hn).2.2 _ hm _ (by simp) rfl;have hc:=h.cnt;have hlen:V.length+1≤1024:=by rw[length_append,length_cons] at hl;omega
   unfold goM;rw[if_neg (by omega)];cases hi:fZ s.1 (rfB qs ids q.2) with
  |some i=>
     obtain⟨r0,hr0,hrf⟩:=tQ hi;obtain⟨k',hk',h1,h2⟩:=h.mem r0 (mem_of_getElem? hr0);obtain⟨i',p,rfl,hp⟩:=hV k' hk';have hpR:=(M.rk hp).2;have h3:=hpR.ref;rw[←h1,hrf] at h3;have h4:=(M.rf_ino (mem_of_getElem? hq) (mem_of_getElem? hp)).1 h3;have hne:k≠i':=fun e=>hkV (by rw[e];exact hk');obtain⟨g1,g2⟩:=M.G.lnk k i' q p hne hq hp h4;have hkids:=M.G.nodir hq g1;have hkd:(s.1.getD i (nZ,0)).1.ino.1 0=q.2.kind:=by rw[List.getD,hr0];show r0.1.ino.1 0=_;rw[h1,hpR.kd,g2.1]
     simp only;rw[if_pos ⟨g1,hkd⟩,hkids];exact⟨_,rfl,MI.old M h hV hq hi⟩
  |none=>
     simp only;rw[(M.rk hq).1];simp only;rw[(M.rk hq).2.ls];have hnew:=MI.new M h hV hq hi;rw[show V++(k:Int)::(bN qs q.2.names qs.length).flatMap (iZ qs n)=(V++[(k:Int)])++(bN qs q.2.names qs.length).flatMap (iZ qs n) by simp] at hn hl ⊢;exact Gv M (S:=q.2.names) (fun k' q' V' s' hq' hnl h' hV' hn' hl'=>Gs n k' q' V' s' hq' (by omega) h' hV' hn' hl') (fun z hz=>by
      obtain⟨j,p,rfl,hj,_⟩:=iB hz;exact oD n hj) _ (V++[(k:Int)]) _ (fun _ hz=>hz) hnew (FE hV (fun z hz=>by rw[mem_singleton] at hz;exact⟨k,q,hz,hq⟩)) hn hl
theorem ImB.mnt:∃ s:MSt,mnt (imB qs ids)=some ⟨imB qs ids,bO qs ids (aF qs ids),plB qs ids,ids,s.1⟩∧MI qs ids (iZ qs 17 0) s:=by
 obtain⟨r,hr,hrn,hrk⟩:=M.G.root;have h0:MI qs ids [] ([],0):=⟨rfl,List.Pairwise.nil,by intro r hr;(cases hr),by intro k hk;(cases hk)⟩
 have hlen:=JU M.G (n:=17) hr;obtain⟨s,e,hs⟩:=Gs M 17 0 r [] ([],0) hr (by omega) h0 (by intro k hk;cases hk) (by rw[nil_append];exact mX M.G 17 0 r hr) (by rw[nil_append];have:=M.G.n.2;have:(iZ qs 17 ((0:Nat):Int)).length≤qs.length:=hlen;omega);rw[nil_append] at hs;have hs:MI qs ids (iZ qs 17 0) s:=hs;have hperm:=Ar M.G;obtain⟨hinv,hpos⟩:=M.st;have hF9:(bO qs ids (aF qs ids)) 9=rfB qs ids r.2:=by
  show (stB qs ids).refs.getD (ndB qs ((0:Nat):Int)).ino.toNat 0-1=_;rw[bI hr];rfl
 have hrise:jJ ids:=fun i hi=>by
  have h:=List.pairwise_iff_getElem.1 M.I.1 i (i+1) (by omega) hi (by omega);rw[List.getD,List.getD,List.getElem?_eq_getElem (by omega),List.getElem?_eq_getElem hi];exact h
 have hvl:vld qs (iZ qs 17 0):=oD 17 hr
 have hcount:(s.1.length:Int)=(bO qs ids (aF qs ids)) 1:=by
  show (s.1.length:Int)=((stB qs ids).many:Int)
  rw[hinv.many];have h1:((rN (stB qs ids)).map (fun z=>z-1)).Nodup:=by
   have hp:(rN (stB qs ids)).Nodup:=by
    have hr2:(stB qs ids).refs.Pairwise (fun a b=>0<a→a≠b):=List.pairwise_iff_getElem.2 (fun i j hi hj hij h0 e=>by
     have e1:(stB qs ids).refs.getD i 0=(stB qs ids).refs[i]:=by simp[List.getD,hi]
     have e2:(stB qs ids).refs.getD j 0=(stB qs ids).refs[j]:=by simp[List.getD,hj]
     have:=hinv.dist i j (by rw[e1];exact h0) (by rw[e1,e2];exact e);omega)
    unfold rN List.Nodup;rw[List.pairwise_filter];exact hr2.imp (fun h a _=>h (by simpa using a))
   unfold List.Nodup;rw[List.pairwise_map];exact hp.imp (fun h e=>h (by omega))
  have h2:(s.1.map (·.1.ref)).Perm ((rN (stB qs ids)).map (fun z=>z-1)):=(List.perm_ext_iff_of_nodup hs.nd h1).2 (fun z=>by
   constructor
   · intro hz
     obtain⟨x,hx,rfl⟩:=mem_map.1 hz;obtain⟨k,hk,e1,_⟩:=hs.mem x hx;obtain⟨i,p,rfl,hp⟩:=hvl k hk;have hpm:=mem_of_getElem? hp;have hpi:=M.G.ino p hpm;refine mem_map.2 ⟨(stB qs ids).refs.getD p.2.ino.toNat 0,?_,by rw[e1,(M.rk hp).2.ref];rfl⟩;unfold rN;rw[List.mem_filter];have hl:p.2.ino.toNat<(stB qs ids).refs.length:=by rw[hinv.rl];omega
     exact⟨by rw[List.getD,List.getElem?_eq_getElem hl];exact List.getElem_mem _,by simpa using hpos p hpm⟩
   · intro hz
     obtain⟨y,hy,rfl⟩:=mem_map.1 hz;unfold rN at hy;rw[List.mem_filter] at hy;obtain⟨m,hm⟩:=List.getElem?_of_mem hy.1;have e1:(stB qs ids).refs.getD m 0=y:=by rw[List.getD,hm];rfl
     obtain⟨k,p,_,_,_,hk,hpi,_⟩:=hinv.std m (by rw[e1];simpa using hy.2);have hmem:(k:Int)∈iZ qs 17 0:=hperm.mem_iff.2 (mem_map.2 ⟨k,mem_range.2 (List.getElem?_eq_some_iff.1 hk).1,rfl⟩);obtain⟨x,hx,e2⟩:=hs.all _ hmem;refine mem_map.2 ⟨x,hx,?_⟩;rw[e2,bI hk];unfold rfB;rw[hpi,Int.toNat_natCast,e1])
  have h3:=h2.length_eq;rw[length_map,length_map] at h3;omega
 have hlinks:∀ x∈s.1,x.2=x.1.ino.1 4:=fun x hx=>by
  obtain⟨k,hk,e1,e2⟩:=hs.mem x hx;obtain⟨i,p,rfl,hp⟩:=hvl k hk;rw[e2,e1,(M.rk hp).2.ln,bI hp,Ny hperm,LC]
 refine⟨s,?_,hs⟩;unfold Go.Proofs.YthdecfkdgdagcaaGreat.mnt;rw[M.sup];simp only;rw[if_neg (fun h=>h rfl),M.pl];simp only;rw[if_neg (fun h=>h rfl),M.id];simp only;rw[if_neg (fun h=>h rfl),if_neg (fun h=>h hrise),hF9];have e:goM (imB qs ids) (bO qs ids (aF qs ids)) ids 17 (rfB qs ids r.2) 1 ([],0)=some s:=by rw[←hrk];exact e
 rw[e];simp only;rw[if_neg (fun h=>h.elim (fun h=>h hcount) (fun h=>h hlinks))]
theorem ImB.known{s:MSt}(hs:MI qs ids (iZ qs 17 0) s){k:Nat}{q:NdH×Nd}(hq:qs[k]?=some q):knM ⟨imB qs ids,bO qs ids (aF qs ids),plB qs ids,ids,s.1⟩ (rfB qs ids q.2)=some (Rk qs ids k):=by
 obtain⟨r,hr,_⟩:=M.G.root;have hmem:(k:Int)∈iZ qs 17 0:=(Ar M.G).mem_iff.2 (mem_map.2 ⟨k,mem_range.2 (List.getElem?_eq_some_iff.1 hq).1,rfl⟩);unfold knM;show (fZ s.1 (rfB qs ids q.2)).map (fun i=>(s.1.getD i (nZ,0)).1)=_;cases hi:fZ s.1 (rfB qs ids q.2) with
|none=>
   obtain⟨x,hx,e⟩:=hs.all _ hmem;rw[bI hq] at e;exact absurd e (AF hi x hx)
|some i=>
   obtain⟨r0,hr0,hrf⟩:=tQ hi;obtain⟨k',hk',h1,_⟩:=hs.mem r0 (mem_of_getElem? hr0);obtain⟨i',p,rfl,hp⟩:=oD 17 hr k' hk';have h3:=(M.rk hp).2.ref;rw[←h1,hrf] at h3;have h4:=(M.rf_ino (mem_of_getElem? hq) (mem_of_getElem? hp)).1 h3;rw[map_some,List.getD,hr0];show some r0.1=_;rw[h1,M.rk_same hp hq h4.symm]
end
end
section
open Go Go.RowKit Go.Maps
def knL(l:List (Rec×Int))(ref:Int):Option Rec:=(fZ l ref).map fun i=>(l.getD i (nZ,0)).1
theorem jC(a:Rec×Int)(l:List (Rec×Int))(ref:Int):knL (a::l) ref=if a.1.ref=ref then some a.1 else knL l ref:=by
 unfold knL fZ;rw[List.findIdx?_cons];by_cases h:a.1.ref=ref
 ·simp[h]
 ·simp[h,Option.map_map,Function.comp_def]
theorem mF:∀ (l:List (Rec×Int)) (i:Nat) (ref:Int),knL (dC l i) ref=knL l ref
|[],_,_=>rfl
|a::l,0,ref=>by
   have e:dC (a::l) 0=(a.1,a.2+1)::l:=rfl;rw[e,jC,jC]
|a::l,i+1,ref=>by
   have e:dC (a::l) (i+1)=a::dC l i:=by unfold dC;simp[List.getD]
   rw[e,jC,jC,mF l i ref]
theorem mE(x:Rec)(c:Int)(ref:Int):∀ l:List (Rec×Int),knL (l++[(x,c)]) ref=(knL l ref).or (if x.ref=ref then some x else none)
|[]=>by rw[nil_append,jC];rfl
|a::l=>by
   rw[List.cons_append,jC,jC,mE x c ref l];by_cases h:a.1.ref=ref
   ·rw[if_pos h,if_pos h];rfl
   ·rw[if_neg h,if_neg h]
theorem MX{l:List (Rec×Int)}{ref:Int}{x:Rec}(h:knL l ref=some x):x.ref=ref∧∃ r∈l,r.1=x:=by
 induction l with
|nil=>cases h
|cons a l ih=>
   rw[jC] at h;by_cases c:a.1.ref=ref
   ·rw[if_pos c] at h;cases h;exact⟨c,a,by simp,rfl⟩
   · rw[if_neg c] at h
     obtain⟨h1,r,h2,h3⟩:=ih h;exact⟨h1,r,by simp[h2],h3⟩
theorem F2{im:By}{F:Nat→Int}{ids:List Int}{ref kind:Int}{x:Rec}(h:eV im F ids ref kind=some x):x.ref=ref∧x.ino.1 0=kind:=by
 refine⟨?_,(F1 h).2⟩;unfold eV at h
 repeat' split at h
 all_goals first
 |(cases h;done)
 |(cases h;rfl)
section
variable {im:List UInt8}{F:Nat→Int}{ids:List Int}
structure StM (im:By)(F:Nat→Int)(ids:List Int)(s t:MSt):Prop where
 ex:∀ r x,knL s.1 r=some x→knL t.1 r=some x
 cl:∀ r x,knL t.1 r=some x→knL s.1 r=some x∨∀ y∈x.list,∃ z,knL t.1 y.2.2=some z∧z.ino.1 0=y.2.1
theorem StM.rfl{s:MSt}:StM im F ids s s:=⟨fun _ _ h=>h,fun _ _ h=>.inl h⟩
theorem StM.trans{s t u:MSt}(h:StM im F ids s t)(k:StM im F ids t u):StM im F ids s u:=⟨fun r x e=>k.ex r x (h.ex r x e),fun r x e=>by
 rcases k.cl r x e with e1|e1
 · rcases h.cl r x e1 with e2|e3
   ·exact .inl e2
   ·exact .inr fun y hy=>by obtain⟨z,h1,h2⟩:=e3 y hy;exact⟨z,k.ex _ _ h1,h2⟩
 ·exact .inr e1⟩
theorem Gu{f:Int→Int→MSt→Option MSt}(hf:∀ r k s t,f r k s=some t→StM im F ids s t∧∃ z,knL t.1 r=some z∧z.ino.1 0=k) :
 ∀ (ys:List Ent) (s t:MSt),goL f ys s=some t→StM im F ids s t∧∀ y∈ys,∃ z,knL t.1 y.2.2=some z∧z.ino.1 0=y.2.1
|[],s,t,h=>by cases h;exact⟨StM.rfl,by simp⟩
|y::r,s,t,h=>by
   have h:(match f y.2.2 y.2.1 s with|none=>none|some s'=>goL f r s')=some t:=h;cases hy:f y.2.2 y.2.1 s with
  |none=>rw[hy] at h;cases h
  |some u=>
     rw[hy] at h;obtain⟨h1,z,h2,h3⟩:=hf _ _ _ _ hy;obtain⟨h4,h5⟩:=Gu hf r u t h;refine⟨h1.trans h4,fun w hw=>?_⟩;rcases mem_cons.1 hw with rfl|hw
     ·exact⟨z,h4.ex _ _ h2,h3⟩
     ·exact h5 w hw
theorem BI:∀ (n:Nat) (ref kind:Int) (s t:MSt),goM im F ids n ref kind s=some t→StM im F ids s t∧∃ z,knL t.1 ref=some z∧z.ino.1 0=kind
|0,ref,kind,s,t,h=>by cases h
|n+1,ref,kind,s,t,h=>by
   unfold goM at h
   split at h
   ·cases h
   · split at h
     · rename_i i hi
       split at h
       · rename_i hc
         cases h;refine⟨⟨fun r x e=>by rw[mF];exact e,fun r x e=>.inl (by rw[mF] at e;exact e)⟩,(s.1.getD i (nZ,0)).1,by rw[mF];unfold knL;rw[hi];rfl,hc.2⟩
       ·cases h
     · rename_i hi
       split at h
       ·cases h
       · rename_i x hx
         obtain⟨k1,k2⟩:=F2 hx;obtain⟨h1,h2⟩:=Gu (fun r k s t=>BI n r k s t) _ _ _ h;have hn:knL s.1 ref=none:=by unfold knL;rw[hi];rfl
         have h0:knL (s.1++[(x,1)]) ref=some x:=by rw[mE,hn,if_pos k1];rfl
         refine⟨⟨fun r y e=>h1.ex r y (by show knL (s.1++[(x,1)]) r=_;rw[mE,e];rfl),fun r y e=>?_⟩,x,h1.ex _ _ h0,k2⟩;rcases h1.cl r y e with e1|e1
         · have e1:knL (s.1++[(x,1)]) r=some y:=e1
           rw[mE] at e1;cases hr:knL s.1 r with
          |some w=>rw[hr] at e1;left;exact e1
          |none=>
             rw[hr] at e1;by_cases c:x.ref=r
             ·rw[if_pos c] at e1;cases e1;exact .inr h2
             ·rw[if_neg c] at e1;cases e1
         ·exact .inr e1
end
def ndM(g:Img)(ref:Int)(nm:List By)(x:Rec):Nd:=
 ⟨nm,ref,x.ino.1 0,x.ino.1 1,g.ids.getD (x.ino.1 2).toNat 0,g.ids.getD (x.ino.1 3).toNat 0,if x.ino.1 0=2 then (jR g ref 0 4096).1 else [],if x.ino.1 0=3 then x.ino.2 else [],x.xs,false⟩
def wlk(g:Img):Nat→Int→List By→List Nd
|0,_,_=>[]
|n+1,ref,nm=>match knM g ref with
  |none=>[]
  |some x=>ndM g ref nm x::x.list.flatMap fun y=>wlk g n y.2.2 (nm++[y.1])
def okW(g:Img):Nat→Int→Prop
|0,_=>False
|n+1,ref=>∃ x,knM g ref=some x∧∀ y∈x.list,okW g n y.2.2
theorem pZ{g:Img}{n:Nat}{ref:Int}{nm:List By}{x:Rec}(h:knM g ref=some x):wlk g (n+1) ref nm=ndM g ref nm x::x.list.flatMap fun y=>wlk g n y.2.2 (nm++[y.1]):=by
 show (match knM g ref with|none=>[]|some x=>ndM g ref nm x::x.list.flatMap fun(y:Ent)=>wlk g n y.2.2 (nm++[y.1]))=_;rw[h]
theorem vT{g:Img}{n:Nat}{ref:Int}{nm:List By}(h:knM g ref=none):wlk g (n+1) ref nm=[]:=by
 show (match knM g ref with|none=>[]|some x=>ndM g ref nm x::x.list.flatMap fun(y:Ent)=>wlk g n y.2.2 (nm++[y.1]))=_;rw[h]
section
variable {im:List UInt8}{F:Nat→Int}{ids:List Int}{g:Img}
structure WkM (g:Img)(s t:MSt)(l:List Nd):Prop where
 len:l.length+s.2=t.2
 fresh:∀ a∈l,a.kind=1→knL s.1 a.ino=none
 old:∀ a∈l,∃ z,knL t.1 a.ino=some z
 one:l.Pairwise fun a b=>a.ino=b.ino→a.kind≠1
 kn:∀ a∈l,∃ z,knM g a.ino=some z∧a=ndM g a.ino a.names z
theorem WkM.app{s t u:MSt}{l m:List Nd}(h:WkM g s t l)(k:WkM g t u m)(e1:∀ r x,knL s.1 r=some x→knL t.1 r=some x)(e2:∀ r x,knL t.1 r=some x→knL u.1 r=some x):WkM g s u (l++m):=by
 refine⟨by have:=h.len;have:=k.len;rw[length_append];omega,fun a ha hk=>?_,fun a ha=>?_,?_,fun a ha=>(mem_append.1 ha).elim (h.kn a) (k.kn a)⟩
 · rcases mem_append.1 ha with ha|ha
   ·exact h.fresh a ha hk
   · have h1:=k.fresh a ha hk
     cases hc:knL s.1 a.ino with
    |none=>rfl
    |some z=>rw[e1 _ _ hc] at h1;cases h1
 · rcases mem_append.1 ha with ha|ha
   · obtain⟨z,hz⟩:=h.old a ha
     exact⟨z,e2 _ _ hz⟩
   ·exact k.old a ha
 · rw[List.pairwise_append]
   refine⟨h.one,k.one,fun a ha b hb e hk=>?_⟩;obtain⟨z,hz⟩:=h.old a ha;obtain⟨za,h1,h2⟩:=h.kn a ha;obtain⟨zb,h3,h4⟩:=k.kn b hb;rw[e,h3] at h1;cases h1;have hkb:b.kind=1:=by
    rw[h4];rw[h2] at hk;exact hk
   have:=k.fresh b hb hkb;rw[←e,hz] at this;cases this
theorem KJ{f:Int→Int→MSt→Option MSt}(hf:∀ r k s t,f r k s=some t→StM im F ids s t):∀ (ys:List Ent) (s t:MSt),goL f ys s=some t→StM im F ids s t∧True
|[],s,t,h=>by cases h;exact⟨StM.rfl,trivial⟩
|y::r,s,t,h=>by
   have h:(match f y.2.2 y.2.1 s with|none=>none|some s'=>goL f r s')=some t:=h;cases hy:f y.2.2 y.2.1 s with
  |none=>rw[hy] at h;cases h
  |some u=>
     rw[hy] at h;exact⟨(hf _ _ _ _ hy).trans (KJ hf r u t h).1,trivial⟩
theorem Dt{f:Int→Int→MSt→Option MSt}{n:Nat}{nm:List By}
 (hs:∀ r k s t,f r k s=some t→StM im F ids s t)
 (hf:∀ r k s t nm,f r k s=some t→(∀ r x,knL t.1 r=some x→knM g r=some x)→okW g n r∧t.2≤1024∧WkM g s t (wlk g n r nm)) :
 ∀ (ys:List Ent) (s t:MSt),goL f ys s=some t→s.2≤1024→(∀ r x,knL t.1 r=some x→knM g r=some x) →
  (∀ y∈ys,okW g n y.2.2)∧t.2≤1024∧StM im F ids s t∧WkM g s t (ys.flatMap fun y=>wlk g n y.2.2 (nm++[y.1]))
|[],s,t,h,hl,hg=>by
   cases h;exact⟨by simp,hl,StM.rfl,by simp,by simp,by simp,by simp,by simp⟩
|y::r,s,t,h,hl,hg=>by
   have h:(match f y.2.2 y.2.1 s with|none=>none|some s'=>goL f r s')=some t:=h;cases hy:f y.2.2 y.2.1 s with
  |none=>rw[hy] at h;cases h
  |some u=>
     rw[hy] at h;have h1:=hs _ _ _ _ hy;have h0:StM im F ids u t:=by
      obtain⟨h4,_⟩:=KJ hs r u t h;exact h4
     obtain⟨a1,a2,a3⟩:=hf _ _ _ _ (nm++[y.1]) hy (fun r x e=>hg r x (h0.ex r x e));obtain⟨b1,b2,b3,b4⟩:=Dt hs hf r u t h a2 hg;refine⟨fun w hw=>?_,b2,h1.trans h0,?_⟩
     · rcases mem_cons.1 hw with rfl|hw
       ·exact a1
       ·exact b1 w hw
     · rw[flatMap_cons]
       exact a3.app b4 h1.ex h0.ex
theorem Dq(hG:∀ r x,knM g r=some x→x.ino.1 0≠1→x.list=[]):∀ (n:Nat) (ref kind:Int) (s t:MSt) (nm:List By),goM im F ids n ref kind s=some t→(∀ r x,knL t.1 r=some x→knM g r=some x)→okW g n ref∧t.2≤1024∧WkM g s t (wlk g n ref nm)
|0,ref,kind,s,t,nm,h,hg=>by cases h
|n+1,ref,kind,s,t,nm,h,hg=>by
   unfold goM at h
   split at h
   ·cases h
   · rename_i hlt
     split at h
     · rename_i i hi
       split at h
       · rename_i hc
         cases h;have hk:knL s.1 ref=some (s.1.getD i (nZ,0)).1:=by unfold knL;rw[hi];rfl
         have hk2:=hg ref _ (by rw[mF];exact hk);obtain⟨x,hx⟩:∃ x,x=(s.1.getD i (nZ,0)).1:=⟨_,rfl⟩
         rw[←hx] at hk hk2 hc;have hnl:=hG ref x hk2 (by rw[hc.2];exact hc.1);refine⟨⟨x,hk2,by rw[hnl];simp⟩,by show s.2+1≤1024;omega,?_⟩;rw[pZ hk2,hnl];refine⟨by simp;omega,fun a ha h1=>?_,fun a ha=>?_,by simp,fun a ha=>?_⟩
         · simp only[flatMap_nil,mem_singleton] at ha
           subst ha;have h1:x.ino.1 0=1:=h1;exact absurd (hc.2.symm.trans h1) hc.1
         · simp only[flatMap_nil,mem_singleton] at ha
           subst ha;exact⟨x,by rw[mF];exact hk⟩
         · simp only[flatMap_nil,mem_singleton] at ha
           subst ha;exact⟨x,hk2,rfl⟩
       ·cases h
     · rename_i hi
       split at h
       ·cases h
       · rename_i x hx
         obtain⟨k1,k2⟩:=F2 hx;have hn:knL s.1 ref=none:=by unfold knL;rw[hi];rfl
         have h0:knL (s.1++[(x,1)]) ref=some x:=by rw[mE,hn,if_pos k1];rfl
         obtain⟨b1,b2,b3,b4⟩:=Dt (n:=n) (nm:=nm) (fun r k s t h=>(BI n r k s t h).1) (fun r k s t nm h hg=>Dq hG n r k s t nm h hg) _ _ _ h (by show s.2+1≤1024;omega) hg;have hk2:=hg _ _ (b3.ex _ _ h0);refine⟨⟨x,hk2,b1⟩,b2,?_⟩;rw[pZ hk2];have hone:WkM g s (s.1++[(x,1)],s.2+1) [ndM g ref nm x]:=by
          refine⟨by simp;omega,fun a ha _=>?_,fun a ha=>?_,by simp,fun a ha=>?_⟩
          ·rw[mem_singleton] at ha;subst ha;exact hn
          ·rw[mem_singleton] at ha;subst ha;exact⟨x,h0⟩
          ·rw[mem_singleton] at ha;subst ha;exact⟨x,hk2,rfl⟩
         exact hone.app b4 (fun r y e=>by show knL (s.1++[(x,1)]) r=_;rw[mE,e];rfl) b3.ex
end
end
section
open Go Go.RowKit Go.Maps
section
variable {g:Img}
theorem sW(hc:∀ r x,knM g r=some x→aO [] x.list):∀ (n:Nat) (ref:Int) (nm:List By),∀ a∈wlk g n ref nm,∃ r,a.names=nm++r∧r.length<n∧∀ s∈r,dV s=0
|0,_,_,a,h=>by cases h
|n+1,ref,nm,a,h=>by
   cases hx:knM g ref with
  |none=>rw[vT hx] at h;cases h
  |some x=>
     rw[pZ hx] at h;rcases mem_cons.1 h with rfl|h
     ·exact⟨[],by simp[ndM],by simp,by simp⟩
     · obtain⟨y,hy,h⟩:=mem_flatMap.1 h
       obtain⟨i,hi⟩:=List.getElem?_of_mem hy;obtain⟨r,h1,h2,h3⟩:=sW hc n _ _ a h;refine⟨y.1::r,by rw[h1];simp,by simp;omega,fun s hs=>?_⟩;rcases mem_cons.1 hs with rfl|hs
       ·exact(pH (hc ref x hx) hi).1
       ·exact h3 s hs
theorem B2(hc:∀ r x,knM g r=some x→aO [] x.list):∀ (n:Nat) (ref:Int) (nm:List By),(wlk g n ref nm).Pairwise (fun a b=>a.names≠b.names)
|0,_,_=>List.Pairwise.nil
|n+1,ref,nm=>by
   cases hx:knM g ref with
  |none=>rw[vT hx];exact List.Pairwise.nil
  |some x=>
     rw[pZ hx];refine List.pairwise_cons.2 ⟨fun b hb e=>?_,?_⟩
     · obtain⟨y,hy,h⟩:=mem_flatMap.1 hb
       obtain⟨r,h1,_⟩:=sW hc n _ _ b h;have e2:=congrArg List.length (h1.symm.trans e.symm);rw[show (ndM g ref nm x).names=nm from rfl] at e2;simp at e2
     · rw[List.pairwise_flatMap]
       refine⟨fun y _=>B2 hc n _ _,((uN (hc ref x hx)).2).imp (fun {y z} hlt a ha b hb e=>?_)⟩;obtain⟨r1,h1,_⟩:=sW hc n _ _ a ha;obtain⟨r2,h2,_⟩:=sW hc n _ _ b hb;rw[h1,h2] at e;have e2:=(List.append_inj e (by simp)).1;have e3:y.1=z.1:=by simpa using e2
       rw[e3,mN] at hlt;cases hlt
theorem IN(hG:∀ r x,knM g r=some x→x.ino.1 0≠1→x.list=[]):∀ (n:Nat) (ref:Int) (nm:List By),∀ a∈wlk g n ref nm,a.names=nm∨∃ b∈wlk g n ref nm,b.names=a.names.dropLast∧b.kind=1
|0,_,_,a,h=>by cases h
|n+1,ref,nm,a,h=>by
   cases hx:knM g ref with
  |none=>rw[vT hx] at h;cases h
  |some x=>
     rw[pZ hx] at h ⊢;rcases mem_cons.1 h with rfl|h
     ·exact .inl rfl
     · obtain⟨y,hy,h⟩:=mem_flatMap.1 h
       right;rcases IN hG n _ _ a h with e|⟨b,hb,h1,h2⟩
       · refine⟨_,mem_cons_self,by rw[e];simp[ndM],?_⟩
         show x.ino.1 0=1;apply byContradiction;intro hc;rw[hG ref x hx hc] at hy;cases hy
       ·exact⟨b,List.mem_cons_of_mem _ (mem_flatMap.2 ⟨y,hy,hb⟩),h1,h2⟩
theorem Fc{im:By}{pl:List Int}{num off n:Int}(h:(fA im pl num off n).2=0):((fA im pl num off n).1.length:Int)=n:=by
 unfold fA at h ⊢
 split at h
 ·cases h
 · rename_i hc
   rw[if_neg hc];unfold kS at h ⊢
   split at h
   ·cases h
   · rename_i hd
     rw[if_neg hd,length_take,List.length_drop];omega
theorem JD(x:Rec)(off n:Int):((tF g x off n).2=0∧((tF g x off n).1.length:Int)=n)∨tF g x off n=([],35):=by
 unfold tF;obtain⟨z,hz⟩:∃ z,z=x.ino.1 9+(if off-x.ino.1 7/128*128<0 then 0 else off-x.ino.1 7/128*128):=⟨_,rfl⟩
 rw[←hz]
 split
 ·exact .inr rfl
 · split
   ·rename_i h;exact .inl ⟨rfl,h⟩
   · split
     ·exact .inr rfl
     · rename_i h1 h2 h3
       refine .inl ⟨rfl,?_⟩;have h4:=Fc (Decidable.not_not.1 h3);show (((_++_:By).length:Nat):Int)=n;rw[length_append];omega
theorem Am{ref:Int}{x:Rec}(hx:knM g ref=some x)(hm:eO x.ino.1 x.ino.2)(hk:x.ino.1 0=2):((jR g ref 0 4096).2=0∧((jR g ref 0 4096).1.length:Int)=x.ino.1 7)∨jR g ref 0 4096=([],35):=by
 have hma:=hm.1;unfold aX at hma;have hs:0≤x.ino.1 7∧x.ino.1 7≤4096:=by omega
 have e:jR g ref 0 4096=if x.ino.1 7≤0 then ([],0) else tF g x 0 (x.ino.1 7):=by
  unfold jR;rw[hx];simp only;rw[if_neg (by omega),if_neg (by omega)];congr 1;congr 1
  split<;>omega
 rw[e]
 split
 ·exact .inl ⟨rfl,by show ((0:Nat):Int)=_;omega⟩
 ·exact JD x 0 _
theorem JI{ref:Int}{x:Rec}(hx:knM g ref=some x)(hm:eO x.ino.1 x.ino.2)(hk:x.ino.1 0=2):(jR g ref 0 4096).1.length≤4096:=by
 have hma:=hm.1;unfold aX at hma;rcases Am hx hm hk with⟨_,h⟩|h
 ·omega
 ·rw[h];exact Nat.zero_le _
theorem MA{ref:Int}{nm:List By}{x:Rec}(hx:knM g ref=some x)(hR:mQ g.im g.F g.ids x)(hI:∀ z∈g.ids,0≤z∧z≤65535):pM (ndM g ref nm x):=by
 obtain⟨hm,_,_,_,_,_,hX⟩:=hR;have hma:=hm.1;unfold aX at hma;have hi:∀ i:Nat,0≤g.ids.getD i 0∧g.ids.getD i 0≤65535:=fun i=>by
  by_cases h:i<g.ids.length
  ·rw[List.getD,List.getElem?_eq_getElem h];exact hI _ (List.getElem_mem _)
  ·rw[List.getD,List.getElem?_eq_none (by omega)];decide
 refine⟨by show 1≤x.ino.1 0∧x.ino.1 0≤3;omega,rfl,by show 0≤x.ino.1 1∧x.ino.1 1≤511;omega,hi _,hi _,?_,?_,?_,hX⟩
 · by_cases h:x.ino.1 0=2
   ·exact .inl h
   ·exact .inr (if_neg h)
 · show (if x.ino.1 0=2 then (jR g ref 0 4096).1 else []).length≤4096
   split
   ·rename_i h;exact JI hx hm h
   ·exact Nat.zero_le _
 · unfold okT
   show if x.ino.1 0=3 then (if x.ino.1 0=3 then x.ino.2 else [])≠[]∧(if x.ino.1 0=3 then x.ino.2 else []).length≤200∧(0:UInt8)∉(if x.ino.1 0=3 then x.ino.2 else []) else (if x.ino.1 0=3 then x.ino.2 else [])=[]
   split
   · rename_i h
     exact⟨fun e=>by rw[e] at hma;simp at hma;omega,by omega,hm.2 h⟩
   ·rfl
end
theorem zR{im:By}{fr to:Int}:∀ (k:Nat) (ref:Int) (os:List Int) (r:Int),kF im fr to 2 k ref=some (os,r)→∀ x∈os,0≤x∧x≤65535
|0,ref,os,r,h=>by simp[kF] at h;rw[h.1];simp
|k+1,ref,os,r,h=>by
   rw[kG] at h;by_cases he:(aD im fr to ref 2).2.2≠0
   ·rw[if_pos he] at h;cases h
   · rw[if_neg he] at h
     obtain⟨⟨l,r'⟩,hl,e⟩:=Option.map_eq_some_iff.1 h;cases e;have hr:=(eC (Decidable.not_not.1 he)).2.2.2.1;have hv:=oV (aD im fr to ref 2).1;have hp:256 ^ (aD im fr to ref 2).1.length≤256 ^ 2:=Nat.pow_le_pow_right (by decide) (by omega);intro x hx;rcases mem_cons.1 hx with rfl|hx
     · have:(256:Nat) ^ 2=65536:=by decide
       omega
     ·exact zR k _ l r' hl x hx
theorem IU(im:By)(fr to many:Int):∀ x∈(tnS im fr to many 2).1,0≤x∧x≤65535:=by
 unfold tnS
 split
 ·simp
 · split
   ·simp
   · split
     ·simp
     · rename_i l r h
       split
       ·simp
       ·exact zR _ _ _ _ h
theorem MG{im:By}{x:Img}(h:mnt im=some x):∃ s:MSt,goM im x.F x.ids 17 (x.F 9) 1 ([],0)=some s∧x.recs=s.1∧(∀ z∈x.ids,0≤z∧z≤65535):=by
 by_cases h0:(aH im).2≠0
 ·rw[BA h0] at h;cases h
 · have e0:aH im=((aH im).1,0):=Prod.ext rfl (Decidable.not_not.1 h0)
   by_cases h1:(mtP im (aH im).1).2=0∧(mtI im (aH im).1).2=0∧jJ (mtI im (aH im).1).1
   · rw[ES e0 h1] at h
     split at h
     ·cases h
     · rename_i s hs
       split at h
       ·cases h
       · cases h
         exact⟨s,hs,rfl,IU _ _ _ _⟩
   ·rw[Bz e0 h1] at h;cases h
theorem Kg{im:By}{g:Img}(h:mnt im=some g):okW g 17 (g.F 9)∧tT (wlk g 17 (g.F 9) [])∧∀ r x,knM g r=some x→mQ g.im g.F g.ids x:=by
 obtain⟨⟨hR,_,_⟩,_,_⟩:=Kh h;obtain⟨s,hs,hrec,hI⟩:=MG h;have hkn:∀ r,knM g r=knL s.1 r:=fun r=>by rw[←hrec];rfl
 have hok:∀ r x,knM g r=some x→mQ g.im g.F g.ids x:=fun r x hx=>by
  obtain⟨_,q,hq,e⟩:=MX (l:=g.recs) hx;rw[←e];exact hR q hq
 have hG:∀ r x,knM g r=some x→x.ino.1 0≠1→x.list=[]:=fun r x hx=>(hok r x hx).2.2.2.1;have hc:∀ r x,knM g r=some x→aO [] x.list:=fun r x hx=>(hok r x hx).2.2.2.2.1;obtain⟨w1,w2,w3⟩:=Dq hG 17 (g.F 9) 1 ([],0) s [] hs (fun r x e=>by rw[hkn];exact e);obtain⟨_,z,hz,hz1⟩:=BI 17 (g.F 9) 1 ([],0) s hs;have hz:knM g (g.F 9)=some z:=by rw[hkn];exact hz
 refine⟨w1,⟨?_,fun a ha t ht=>?_,fun a ha=>?_,B2 hc _ _ _,?_,fun a ha hne=>?_,fun a ha=>?_,?_⟩,hok⟩
 · have:=w3.len
   have e:(([],0):MSt).2=0:=rfl;rw[e] at this;omega
 · obtain⟨r,h1,_,h3⟩:=sW hc _ _ _ a ha
   rw[h1,nil_append] at ht;exact h3 t ht
 · obtain⟨r,h1,h2,_⟩:=sW hc _ _ _ a ha
   rw[h1,nil_append];omega
 ·exact⟨_,by rw[pZ hz];exact mem_cons_self,rfl,hz1⟩
 · rcases IN hG _ _ _ a ha with e|⟨b,hb,h1,h2⟩
   ·exact absurd e hne
   ·exact⟨b,hb,h1,h2⟩
 · obtain⟨x,h1,h2⟩:=w3.kn a ha
   rw[h2];exact MA h1 (hok _ x h1) hI
 · refine List.Pairwise.imp_of_mem (fun {a b} ha hb hab=>?_) w3.one
   intro e;obtain⟨x,h1,h2⟩:=w3.kn a ha;obtain⟨y,h3,h4⟩:=w3.kn b hb;rw[e,h1] at h3;cases h3;have hka:a.kind=x.ino.1 0:=by rw[h2];rfl
   have hkb:b.kind=x.ino.1 0:=by rw[h4];rfl
   refine⟨by rw[hkb,←hka];exact hab e.symm,?_⟩;rw[h2,h4,e];exact⟨rfl,⟨rfl,rfl,rfl⟩,rfl,rfl,rfl,rfl⟩
end
theorem rY{α:Type}{K:Nat}{enc:α→List Value}(hk:∀ x,(enc x).length=K):∀ (xs:List α) (i:Nat) (u:α),i<xs.length→(xs.set i u).flatMap enc=(xs.flatMap enc).take (i*K)++(enc u++(xs.flatMap enc).drop (i*K+K))
|[],i,u,h=>absurd h (Nat.not_lt_zero _)
|x::r,0,u,h=>by
   rw[List.set_cons_zero,flatMap_cons,flatMap_cons,Nat.zero_mul,Nat.zero_add,List.take_zero,nil_append,List.drop_left' (hk x)]
|x::r,i+1,u,h=>by
   rw[List.set_cons_succ,flatMap_cons,flatMap_cons,rY hk r i u (Nat.lt_of_succ_lt_succ h)];have e1:((i+1)*K)=(enc x).length+i*K:=by rw[hk x,Nat.add_mul,Nat.one_mul];omega
   rw[e1,take_append,take_of_length_le (l:=enc x) (by omega),Nat.add_sub_cancel_left,Nat.add_assoc,List.drop_append,List.drop_of_length_le (l:=enc x) (by omega),nil_append,Nat.add_sub_cancel_left,append_assoc]
theorem Oo{α:Type}(cur v:List α){o L:Nat}(h:o+v.length≤L)(hL:L≤cur.length):((cur.take o++v)++cur.drop (o+v.length)).take L=(cur.take L).take o++(v++(cur.take L).drop (o+v.length)):=by
 have e1:(cur.take o++v).length=o+v.length:=by rw[length_append,length_take];omega
 rw[take_append,e1,take_of_length_le (l:=cur.take o++v) (by omega),List.take_take,Nat.min_eq_left (by omega),List.drop_take,append_assoc]
section
variable {P:Program}{N:Nt}{Q:Exit→Act→World→Prop}{l:SF}{w:World}{ops:Array Oper}{rest:List Oper}{ty:TypeId}{pos:String}{aft:Array Edge}{x y:Operand}{t:TypeId}{d:Nat}
theorem VL{α:Type}{K:Nat}{enc:α→List Value}(henc:iF K enc){T:TypeId}{ao:Option Addr}{cap:Nat}{xs:List α}{i:Nat}{u:α}{ad:Addr}(hi:i<xs.length)
 (ht:fJ P t (enc u).length=true)(hx:evL l x=some (.pointer (some ad)))(had:ad=adr ao (i*K))(hy:evL l y=some (.agg (enc u).toArray))(ho:bF K enc T w.heap ao cap xs)
 (h:∀ w',bF K enc T w'.heap ao cap (xs.set i u)→w'.heap.size=w.heap.size→aA (blk ao) w w'→Sl P N ops Q rest l w') :
 Sl P N ops Q (⟨none,.store t x y,ty,pos,aft,none⟩::rest) l w:=by
 have hil:=hi;rcases ho with⟨rfl,rfl,rfl⟩|⟨g,cur,rfl,hg,g1,g2,g3,g4⟩
 ·simp at hil
 · have hK:xs.length*K≤cap*K:=Nat.mul_le_mul_right K g1
   have hiK:(i+1)*K≤xs.length*K:=Nat.mul_le_mul_right K (by omega);rw[Nat.add_mul,Nat.one_mul] at hiK;have hel:(enc u).length=K:=(henc u).1;have hcl:cur.toList.length=cap*K:=by rw[Array.length_toList,g3]
   have hadr:ad=⟨g,i*K,none⟩:=by
    rw[had];show (⟨g,0,none⟩:Addr).add (i*K)=_;rw[Addr.add_lit,Nat.zero_add]
   subst hadr;refine U3 (cur:=cur.toList) ht hx hy (henc u).2 (by simpa using hg) (by omega) (fun w' q1 q2 q3=>h w' ?_ q2 ?_)
   · refine .inr ⟨g,_,rfl,q1,by simpa using g1,g2,?_,?_⟩
     ·simp only[size_toArray,length_append,length_take,List.length_drop];omega
     · rw[List.length_set,rY (fun x=>(henc x).1) xs i u hi,←g4]
       have:=Oo cur.toList (enc u) (o:=i*K) (L:=xs.length*K) (by omega) (by omega);rw[hel] at this;rw[hel];exact this
   ·exact q3.mono (fun k e=>⟨⟨g,0,none⟩,rfl,e.symm⟩)
theorem UG{α:Type}{K:Nat}{enc:α→List Value}(henc:iF K enc)(hK:0<K){e:TypeId}(z0:α){bytes:Nat}(ht:aS P t e K bytes)(hz:(P.info? e).map (fun i=>i.zero.map (·.cells))=some (some (enc z0).toArray)){k k':IntKind}{n m:Int}
 (hx:evL l x=some (.int k n))(hy:evL l y=some (.int k' m))(h0:0≤n)(hnm:n≤m)(hn:(bytes:Int)*m≤281474976710656)(hm:m≤9223372036854775807)(hd:Nat.blt d N.n=true)
 (h:∀ w',bF K enc e w'.heap (some ⟨w.heap.size,0,none⟩) m.toNat (List.replicate n.toNat z0)→w'.heap.size=w.heap.size+1→aA nob w w'→Sl P N ops Q rest ((d,.slice (some ⟨w.heap.size,0,none⟩) n.toNat m.toNat)::l) w') :
 Sl P N ops Q (⟨some d,.makeSlice t x y,ty,pos,aft,none⟩::rest) l w:=by
 obtain⟨i,z,hi,hz1,hzc,h2,h3⟩:=ht.parts;have hc:z.cells=(enc z0).toArray:=by rw[hi] at hz;simp[hz1] at hz;exact hz
 have hr:=run_make (P:=P) w t e i z ht.und hi hz1 k k' n m h0 hnm (by rw[h3];exact hn) hm;have hel:(enc z0).length=K:=(henc z0).1;rw[hc,h2] at hr;refine Ua (w':=w.alloc (.cells (madeCells (enc z0).toArray (m.toNat*K)) e)) (fun a ha=>?_) hd (h _ ?_ (by simp) (aA.alloc _ _ _))
 ·simp only[execOp,ha.ev hx,ha.ev hy,Sem.run_bind,hr,Result.andThen_ok,Sem.run_pure]
 · refine .inr ⟨w.heap.size,_,rfl,heap_alloc_new w _,by simp;omega,by unfold maxLen;omega,size_madeCells _ _,?_⟩
   apply ext_getElem?;intro q;rw[length_replicate];have hle:n.toNat*K≤m.toNat*K:=Nat.mul_le_mul_right K (by omega);by_cases hq:q<n.toNat*K
   · have h1:q/K<n.toNat:=(Nat.div_lt_iff_lt_mul hK).2 hq
     have h4:q%K<K:=Nat.mod_lt _ hK;have e1:(List.replicate n.toNat z0)[q/K]?=some z0:=by rw[List.getElem?_replicate,if_pos h1]
     have e2:(enc z0)[q%K]?=some ((enc z0).toArray[q%K]!):=by
      rw[getElem!_pos (enc z0).toArray (q%K) (by rw[size_toArray];omega)];rw[List.getElem?_eq_getElem (by omega)];rfl
     have e3:=qN (fun x=>(henc x).1) (List.replicate n.toNat z0) (q/K) z0 e1 (q%K) _ e2;rw[Nat.div_add_mod'] at e3;rw[e3,List.getElem?_take,if_pos hq];unfold madeCells;rw[Array.getElem?_toList,Array.getElem?_map,Array.getElem?_range,if_pos (by omega)];simp only[map_some,size_toArray,hel]
   ·rw[List.getElem?_eq_none (by rw[length_take];omega),List.getElem?_eq_none (by rw[cJ (fun x=>(henc x).1),length_replicate];omega)]
end
section
open Go Go.RowKit Go.Maps
theorem zQ:∀ (L:List By) (t:By) (s:DS),eM (L++[t]) s=((nN 64 (eM L s).1 t).1,(eM L s).2++[((nN 64 (eM L s).1 t).2:Int)])
|[],t,s=>rfl
|x::r,t,s=>by
   show ((eM (r++[t]) (nN 64 s x).1).1,_::(eM (r++[t]) (nN 64 s x).1).2)=_;rw[zQ r t];rfl
theorem IV{L:List By}(h:DT L)(s:DS):(eM L s).1.B.length≤s.B.length+135*L.length:=by
 obtain⟨z,hz,hl⟩:=oY L s;have key:∀ M:List By,DT M→(M.map (fun t=>(cF t).1.length)).sum≤135*M.length:=by
  intro M
  induction M with
 |nil=>intro _;exact Nat.le_refl _
 |cons x r ih=>
    intro hb;have h1:=ih (fun y hy=>hb y (by simp[hy]));have h2:=hb x (by simp);have h3:=fS (b:=x) h2.2;rw[map_cons,List.sum_cons,length_cons];omega
 have:=key L h;rw[hz,length_append];omega
theorem pY(T:By):(dnW T).length≤135*((T.length+127)/128):=tU T (nF T)
theorem NV(n:Nat):∀ (L:List Nd) (s:FSt),(L.foldl gJ s).ds.m.length≤s.ds.m.length+L.length
|[],s=>Nat.le_refl _
|x::r,s=>by
   have h:=NV n r (gJ s x)
   have h2:(gJ s x).ds.m.length≤s.ds.m.length+1:=by
    unfold gJ
    split
    ·exact Nat.le_succ _
    · show (iG 64 s.ds x.data).1.m.length≤_
      unfold iG Iz
      split
      ·exact Nat.le_succ _
      · split
        ·exact Nat.le_succ _
        · show (s.ds.m++_).length≤_
          rw[length_append];exact Nat.le_refl _
   rw[List.foldl_cons,length_cons];omega
structure Tq (qs:List (NdH×Nd))(ids:List Int):Prop where
 B:(eM (bM qs).tails (bM qs).ds).1.B.length≤200000
 i:(aF qs ids).s.ino.length≤10000
 l:(aF qs ids).s.lst.length≤500000
 f:(aF qs ids).s.fur.length≤200000
 b:bdB (aF qs ids).s
 m:(aF qs ids).s.many≤41
 d:ids.length≤80
 n4:(aJ (aF qs ids).pl 4).1.length≤160
 n2:(aJ ids 2).1.length≤160
 o1:(lE (aF qs ids)).length≤200000
 o2:(iH (aF qs ids)).length≤400000
 o3:(hO (aF qs ids)).length≤1000000
 o4:(gH (aF qs ids)).length≤1100000
 o5:(fT (aF qs ids) ids).length≤1200000
 o6:(eW (aF qs ids) ids).length≤1500000
theorem Aq(l:List Int)(w:Nat)(hw:w24 w)(h:inW w l):(aJ l w).1.length=w*l.length:=by rw[oC hw h,sF]
theorem GS{qs:List (NdH×Nd)}{ids:List Int}(G:GdT qs)(I:zJ qs ids):Tq qs ids:=by
 have F:=BN (qs:=qs) (fun q hq=>⟨G.ino q hq,(G.may q hq).2.2.2.2.2.2.1⟩);obtain⟨S,e,hI,hB,_⟩:=tZ G I F;have e:(aF qs ids).s=S:=e;have hn:=G.n.2;have h41:=hI.many41 hn;have hid:=vH I;have h1:=hI.bi;have h2:S.lst.length≤10440*S.many:=hB;have h3:=hI.bf;have h4:=hI.sn;have hT:=F.tn;have hFB:=F.b;rw[length_map] at hT hFB;have hb:=IV F.t (bM qs).ds;have hpl:=lT (bM qs).tails (bM qs).ds;have hpi:inW 4 (aF qs ids).pl:=by
  intro x hx;obtain⟨j,hj,rfl⟩:=List.getElem_of_mem hx;have hj2:j<(bM qs).tails.length:=by have:j<(eM (bM qs).tails (bM qs).ds).2.length:=hj;omega
  obtain⟨pre,rest,a1,a2⟩:=uW (bM qs).tails (bM qs).ds j hj2;have e:(aF qs ids).pl[j]=(eM (bM qs).tails (bM qs).ds).2.getD j 0:=by
   have e2:(aF qs ids).pl=(eM (bM qs).tails (bM qs).ds).2:=rfl;rw[List.getD,←e2,List.getElem?_eq_getElem hj];rfl
  have a3:=congrArg List.length a1;rw[length_append] at a3;rw[e,a2];refine⟨by omega,?_⟩;show (64:Int)+pre.length<4294967296;omega
 have hii:inW 2 ids:=by
  intro x hx;have h:=(I.2 x).1 hx;unfold pL at h;obtain⟨q,hq,h1⟩:=mem_flatMap.1 h;obtain⟨_,_,_,m2,m3,_⟩:=G.may q hq;simp only[mem_cons,List.not_mem_nil,or_false] at h1;refine⟨by rcases h1 with rfl|rfl<;>omega,?_⟩;show x<65536;rcases h1 with rfl|rfl<;>omega
 have hp4:(aJ (aF qs ids).pl 4).1.length=4*(aF qs ids).pl.length:=Aq _ 4 (.inr rfl) hpi;have hp2:(aJ ids 2).1.length=2*ids.length:=Aq _ 2 (.inl rfl) hii;have hpl2:(aF qs ids).pl.length=(bM qs).tails.length:=hpl;have d1:=pY (aF qs ids).s.ino;have d2:=pY (aF qs ids).s.lst;have d3:=pY (aJ (aF qs ids).pl 4).1;have d4:=pY (aJ ids 2).1;have d5:=pY (aF qs ids).s.fur;rw[e] at d1 d2 d5;rw[hp4] at d3;rw[hp2] at d4;have l1:(lE (aF qs ids)).length=(eM (bM qs).tails (bM qs).ds).1.B.length:=rfl;have l2:(iH (aF qs ids)).length=(lE (aF qs ids)).length+(dnW (aF qs ids).s.ino).length:=length_append;have l3:(hO (aF qs ids)).length=(iH (aF qs ids)).length+(dnW (aF qs ids).s.lst).length:=length_append;have l4:(gH (aF qs ids)).length=(hO (aF qs ids)).length+(dnW (aJ (aF qs ids).pl 4).1).length:=length_append;have l5:(fT (aF qs ids) ids).length=(gH (aF qs ids)).length+(dnW (aJ ids 2).1).length:=length_append;have l6:(eW (aF qs ids) ids).length=(fT (aF qs ids) ids).length+(dnW (aF qs ids).s.fur).length:=length_append;rw[e] at l2 l3 l6;refine⟨by omega,by rw[e];omega,by rw[e];omega,by rw[e];omega,by rw[e];exact⟨by omega,by omega,by omega,by omega,by omega⟩,by rw[e];omega,by omega,by omega,by omega,by omega,by omega,by omega,by omega,by omega,by omega⟩
theorem RyO.tight{D B:Nat→Prop}{w:World}{g first:Nat}{s:DS}(h:RyO D w.heap g first s)(hB:∀ k,k<w.heap.size→D k→B k):RyO B w.heap g first s:=h.keepTo (Wt nob _) (fun _ _ _=>id) hB
theorem Hy(A:Nat→Prop)(g first:Nat)(s:DS)(bo:Option Addr)(bc:Nat)(b:By)(W:World)(hM:RyO A W.heap g first s)(hv:Vw b8 W.heap bo bc b)(hfi:first≤1000)(hb:s.B.length≤1099511627776)(hbl:b.length≤1048576)(hml:s.m.length≤1048576) :
 CA 24 [pT g,.slice bo b.length bc] W fun v w'=>∃ o c,v=.tuple #[iV ((iG first s b).2:Nat),.slice o (eB b).length c]∧Own b8 5 w'.heap o c (eB b)∧Fr W.heap.size o∧RyO (fun k=>Nx A W w' k∧¬ blk o k) w'.heap g first (iG first s b).1∧aA A W w':=by
 refine(JL (fun k=>A k∨W.heap.size≤k) g first s bo bc b W (hM.tight (fun k _ h=>.inl h)) (fun k h=>.inr h) hv hfi hb hbl hml).mono ?_;rintro e w' ⟨v,rfl,o,c,rfl,h1,h2,h3,h4⟩;exact⟨_,rfl,o,c,rfl,h1,h2,h3.tight (fun k hk h=>⟨h.1.imp id (fun h=>⟨h,hk⟩),h.2⟩),h4.nx⟩
theorem CO(A:Nat→Prop)(g first:Nat)(s:DS)(bo:Option Addr)(bc:Nat)(b:By)(W:World)(hM:RyO A W.heap g first s)(hv:Vw b8 W.heap bo bc b)(hfi:first≤1000)(hb:s.B.length≤1099511627776)(hbl:b.length≤128) :
 CA 26 [pT g,.slice bo b.length bc] W fun v w'=>v=iV ((nN first s b).2:Nat)∧RyO (Nx A W w') w'.heap g first (nN first s b).1∧aA A W w':=by
 refine(EI (fun k=>A k∨W.heap.size≤k) g first s bo bc b W (hM.tight (fun k _ h=>.inl h)) (fun k h=>.inr h) hv hfi hb hbl).mono ?_;rintro e w' ⟨v,rfl,rfl,h3,h4⟩;exact⟨_,rfl,rfl,h3.tight (fun k hk h=>h.imp id (fun h=>⟨h,hk⟩)),h4.nx⟩
theorem RyO.zero{H:Array Obj}{h f:Nat}(hg:H[h]?=some (.cells (rdC f none 0 0 none 0 0).toArray 79 (0,0))):RyO (· = h) H h f ⟨[],[]⟩:=
 ⟨none,0,none,0,[],hg,WA,.inl ⟨rfl,rfl,rfl⟩,⟨rfl,fun i x y hx=>by cases hx⟩,fun⟨a,ha,_⟩=>(by cases ha),fun⟨a,ha,_⟩=>(by cases ha),Ww,rfl,fun k ⟨a,ha,_⟩=>(by cases ha),fun k ⟨a,ha,_⟩=>(by cases ha)⟩
theorem uU.zero{H:Array Obj}{p:Nat}(hg:H[p]?=some (.cells #[sN] 82 (0,0))):uU (· = p) H p []:=
 ⟨fun _=>False,none,0,[],hg,WA,⟨rfl,fun i x y hx=>by cases hx⟩,fun⟨a,ha,_⟩=>(by cases ha),rfl,fun k ⟨a,ha,_⟩=>(by cases ha),fun k h=>h.elim⟩
def fs0(n:Nat):FSt:=⟨⟨[],[]⟩,[],List.replicate n jD⟩
theorem fi0(n:Nat):FI [] n (fs0 n):=⟨yW.zero,(by intro b hb;cases hb),Nat.le_refl _,length_replicate,Nat.le_refl _,fun i f hf=>.inl (List.eq_of_mem_replicate (mem_of_getElem? hf)),(by intro x hx;cases hx)⟩
theorem K9{V:List Nd}{n:Nat}{s:FSt}(h:FI V n s):∀ f∈s.files,f.2.length≤200:=by
 intro f hf;obtain⟨i,hi⟩:=List.getElem?_of_mem hf;rcases h.f i f hi with e|⟨x,_,_,_,st,fr,off,e,_⟩
 ·rw[e];exact Nat.zero_le _
 ·rw[e];exact Nat.zero_le _
theorem Bw{qs:List (NdH×Nd)}{k:Nat}{q:NdH×Nd}(h:qs[k]?=some q):nds (qs.take (k+1))=nds (qs.take k)++[q.2]:=by rw[tkL h];simp[nds]
theorem xY{qs:List (NdH×Nd)}{k:Nat}{q:NdH×Nd}(h:qs[k]?=some q)(s:FSt):(nds (qs.take (k+1))).foldl gJ s=gJ ((nds (qs.take k)).foldl gJ s) q.2:=by rw[Bw h,List.foldl_append];rfl
theorem DC{s:FSt}{x:Nd}(h:x.kind≠2∨(s.files.getD x.ino.toNat jD).1 0=2):gJ s x=s:=by unfold gJ;rw[if_pos h]
def sU(z0 mn z2 z3 z4 z5 z6 nid nfr root:Int):List Value:=[iV z0,iV mn,iV z2,iV z3,iV z4,iV z5,iV z6,iV nid,iV nfr,iV root]
theorem Ov(z0 mn z2 z3 z4 z5 z6 nid nfr root:Int):∀ v∈sU z0 mn z2 z3 z4 z5 z6 nid nfr root,v.oneCell'=true:=by
 intro v hv;simp only[sU,mem_cons,List.not_mem_nil,or_false] at hv;rcases hv with rfl|rfl|rfl|rfl|rfl|rfl|rfl|rfl|rfl|rfl<;>rfl
def BuP(W:World)(ps:List (NdH×Nd)):Value→World→Prop:=fun v w'=>
 (chk (nds ps)≠0∧v=.tuple #[sN,iV (chk (nds ps))]∧aA nob W w') ∨
 (chk (nds ps)=0∧∃ ids o c,zJ (gD ps) ids∧v=.tuple #[.slice o (rW (gD ps) ids).1.length c,iV (rW (gD ps) ids).2]∧Own b8 5 w'.heap o c (rW (gD ps) ids).1∧Fr W.heap.size o∧aA nob W w')
end
section
open Go Go.RowKit Go.Maps
theorem Ao(lo0:Option Addr)(lc0:Nat)(ps:List (NdH×Nd))(W:World)(hv:cD (fun k=>k<W.heap.size) W.heap lo0 lc0 ps)(hsm:∀ p∈ps,smN p.2)(hl:ps.length≤40) :
 CA 9 [.slice lo0 ps.length lc0] W (BuP W ps):=by
 refine cS 221 [(0,_)] Tryz.func9 ?_;refine cA 9 Tf (HC lo0 lc0 ps W hv hsm) ?_;rintro _ w1 ⟨lo,lc,qs,rfl,hqs,hvq,hf1⟩;refine fK 11 ?_ ?_<;>intro h30
 ·refine Gz 13 ?_;exact⟨_,rfl,.inl ⟨h30,rfl,hf1⟩⟩
 have hz:chk (nds ps)=0:=not_not.1 h30;rw[if_pos hz] at hqs;have G:=Fb hz hl;rw[←hqs] at G;have hq40:=G.n.2;have hq0:=G.n.1;have hqne:qs≠[]:=fun e=>by rw[e] at hq0;exact absurd hq0 (by decide)
 have hlo1:∀ k,blk lo k→k<w1.heap.size:=fun k ⟨a,ha,e⟩=>by have:=hvq.1.lt hqne (fun x e=>by cases e) a ha;omega
 have hz1:=hf1.size;have hq1n:((qs.length:Int)+1).toNat=qs.length+1:=by omega
 refine Gz 5 ?_;refine TY (β:=(List Int×(Option Addr×Nat))×(Nat×(Nat×Nat))) (fun⟨⟨ids,⟨io,ic⟩⟩,⟨gr,⟨gf,gm⟩⟩⟩=>[(0,.slice lo qs.length lc),(5,pT gm)]) (fun⟨⟨ids,⟨io,ic⟩⟩,⟨gr,⟨gf,gm⟩⟩⟩ w=>zJ qs ids∧Own i64 3 w.heap io ic ids∧Own i64 3 w.heap (some ⟨gr,0,none⟩) (qs.length+1) (List.replicate (qs.length+1) 0)∧bF 11 zA 84 w.heap (some ⟨gf,0,none⟩) (qs.length+1) (List.replicate (qs.length+1) jD)∧w.heap[gm]?=some (.cells (biC (.slice lo qs.length lc) (.slice io ids.length ic) sN sN sN sN sN sN (.slice (some ⟨gr,0,none⟩) (qs.length+1) (qs.length+1)) (.slice (some ⟨gf,0,none⟩) (qs.length+1) (qs.length+1)) sN sN 0).toArray 76 (0,0))∧(w1.heap.size≤gr∧w1.heap.size≤gf∧gr<gm∧gf<gm∧gf≠gr∧w.heap.size=gm+1)∧(∀ a,io=some a→a.block<gm)∧(∀ a,io=some a→a.block≠gr)∧(∀ a,io=some a→a.block≠gf)∧aA nob w1 w) ?_ ?_
 ·refine U2 (fun _=>True) [2,6,10,12] [0,1,3,4,5,7,8,9] (.alt 2 [] (.alt 6 [] (.alt 10 [11] (.alt 12 [13] .fin .stop) .stop) (.alt 10 [] (.alt 6 [11] (.alt 12 [13] .fin .stop) .stop) .stop)) (.alt 6 [] (.alt 2 [] (.alt 10 [11] (.alt 12 [13] .fin .stop) .stop) (.alt 10 [] (.alt 2 [11] (.alt 12 [13] .fin .stop) .stop) .stop)) (.alt 10 [] (.alt 2 [] (.alt 6 [11] (.alt 12 [13] .fin .stop) .stop) (.alt 6 [] (.alt 2 [11] (.alt 12 [13] .fin .stop) .stop) .stop)) .stop))) aL (by kernel_rfl) (trivial) ?_;have hG0:aA nob w1 (w1.drewN 1):=Wu 1;generalize w1.drewN 1=v0 at hG0 ⊢;refine TC rfl rfl (TR rfl) rfl ?_;refine TC rfl rfl (TR rfl) rfl ?_;refine TC rfl rfl (TR rfl) rfl ?_;refine TC rfl rfl (Vq bH rfl) rfl ?_;refine TC rfl rfl (Us rfl rfl (by omega)) rfl ?_;refine TC rfl rfl (TR rfl) rfl ?_;refine TC rfl rfl (Vq bH rfl) rfl ?_;refine TC rfl rfl (Us rfl rfl (by omega)) rfl ?_;refine TM ?_ ?_
  ·refine TL rfl rfl (Ts K2 rfl (rH lo lc qs v0 (hvq.1.keep' hG0 (fun _ _ _=>id)) (by omega)) rfl ?_);rintro _ v1 ⟨io,ic,ids,rfl,hI1,hfI,hIds,hfx⟩;have hG1:=hG0.trans hfx;refine TQ (by exact trivial) ?_;refine TM ?_ ?_
   ·refine TL rfl rfl (UC i64 0 bP z3 rfl rfl rfl (by omega) (by omega) (by omega) (by omega) rfl ?_);intro v2 hR2 hsx hfx;rw[hq1n] at hR2 ⊢;obtain⟨gr,hgre⟩:∃ x,x=v1.heap.size:=⟨_,rfl⟩
    rw[←hgre] at hR2 ⊢;have hG2:=hG1.trans hfx;have hgrW:w1.heap.size≤gr:=by rw[hgre];exact hG1.size
    have hI2:=hI1.WR hfx;have hnI:∀ a,io=some a→a.block≠gr:=fun a ha=>by have:=hI1.lt a ha;omega
    refine TQ (by exact trivial) ?_;refine TM ?_ ?_
    ·refine TL rfl rfl (UG eY (by decide) jD Bj (by kernel_rfl) rfl rfl (by omega) (by omega) (by omega) (by omega) rfl ?_);intro v3 hF3 hsx hfx;rw[hq1n] at hF3 ⊢;obtain⟨gf,hgfe⟩:∃ x,x=v2.heap.size:=⟨_,rfl⟩
     rw[←hgfe] at hF3 ⊢;have hG3:=hG2.trans hfx;have hgfW:w1.heap.size≤gf:=by rw[hgfe];exact hG2.size
     have hI3:=hI2.WR hfx;have hR3:=hR2.WR hfx;have hnF:∀ a,io=some a→a.block≠gf:=fun a ha=>by have:=hI2.lt a ha;omega
     have hrf:gf≠gr:=by omega
     refine TQ (by exact trivial) ?_;refine TC rfl rfl (bU (biC (.slice lo qs.length lc) (.slice io ids.length ic) sN sN sN sN sN sN (.slice (some ⟨gr,0,none⟩) (qs.length+1) (qs.length+1)) (.slice (some ⟨gf,0,none⟩) (qs.length+1) (qs.length+1)) sN sN 0) As GV) rfl ?_;refine TM ?_ ?_
     ·refine TL rfl rfl (T1 rfl rfl ?_);intro v4 hgm hsx hfx;obtain⟨gm,hgme⟩:∃ x,x=v3.heap.size:=⟨_,rfl⟩
      rw[←hgme] at hgm ⊢;have hG4:=hG3.trans hfx;have hI4:=hI3.WR hfx;have hR4:=hR3.WR hfx;have hF4:=hF3.WR hfx;refine TQ (by exact trivial) ?_;have hgr4:gr<gm:=by rw[hgme];exact hR3.lt _ rfl
      have hgf4:gf<gm:=by rw[hgme];exact hF3.lt _ rfl
      have hI3l:∀ a,io=some a→a.block<gm:=fun a ha=>by rw[hgme];exact hI3.lt a ha
      refine TC rfl rfl (TW rfl) rfl ?_;refine Up ?_;exact aC ⟨⟨ids,⟨io,ic⟩⟩,⟨gr,⟨gf,gm⟩⟩⟩ ⟨hIds,hI4,hR4,hF4,hgm,⟨hgrW,hgfW,hgr4,hgf4,hrf,by omega⟩,hI3l,hnI,hnF,hG4⟩
     exact TK
    exact TK
   refine TM ?_ ?_
   ·refine TL rfl rfl (UG eY (by decide) jD Bj (by kernel_rfl) rfl rfl (by omega) (by omega) (by omega) (by omega) rfl ?_);intro v2 hF2 hsx hfx;rw[hq1n] at hF2 ⊢;obtain⟨gf,hgfe⟩:∃ x,x=v1.heap.size:=⟨_,rfl⟩
    rw[←hgfe] at hF2 ⊢;have hG2:=hG1.trans hfx;have hgfW:w1.heap.size≤gf:=by rw[hgfe];exact hG1.size
    have hI2:=hI1.WR hfx;have hnF:∀ a,io=some a→a.block≠gf:=fun a ha=>by have:=hI1.lt a ha;omega
    refine TQ (by exact trivial) ?_;refine TM ?_ ?_
    ·refine TL rfl rfl (UC i64 0 bP z3 rfl rfl rfl (by omega) (by omega) (by omega) (by omega) rfl ?_);intro v3 hR3 hsx hfx;rw[hq1n] at hR3 ⊢;obtain⟨gr,hgre⟩:∃ x,x=v2.heap.size:=⟨_,rfl⟩
     rw[←hgre] at hR3 ⊢;have hG3:=hG2.trans hfx;have hgrW:w1.heap.size≤gr:=by rw[hgre];exact hG2.size
     have hI3:=hI2.WR hfx;have hF3:=hF2.WR hfx;have hnI:∀ a,io=some a→a.block≠gr:=fun a ha=>by have:=hI2.lt a ha;omega
     have hrf:gf≠gr:=by omega
     refine TQ (by exact trivial) ?_;refine TC rfl rfl (bU (biC (.slice lo qs.length lc) (.slice io ids.length ic) sN sN sN sN sN sN (.slice (some ⟨gr,0,none⟩) (qs.length+1) (qs.length+1)) (.slice (some ⟨gf,0,none⟩) (qs.length+1) (qs.length+1)) sN sN 0) As GV) rfl ?_;refine TM ?_ ?_
     ·refine TL rfl rfl (T1 rfl rfl ?_);intro v4 hgm hsx hfx;obtain⟨gm,hgme⟩:∃ x,x=v3.heap.size:=⟨_,rfl⟩
      rw[←hgme] at hgm ⊢;have hG4:=hG3.trans hfx;have hI4:=hI3.WR hfx;have hR4:=hR3.WR hfx;have hF4:=hF3.WR hfx;refine TQ (by exact trivial) ?_;have hgr4:gr<gm:=by rw[hgme];exact hR3.lt _ rfl
      have hgf4:gf<gm:=by rw[hgme];exact hF3.lt _ rfl
      have hI3l:∀ a,io=some a→a.block<gm:=fun a ha=>by rw[hgme];exact hI3.lt a ha
      refine TC rfl rfl (TW rfl) rfl ?_;refine Up ?_;exact aC ⟨⟨ids,⟨io,ic⟩⟩,⟨gr,⟨gf,gm⟩⟩⟩ ⟨hIds,hI4,hR4,hF4,hgm,⟨hgrW,hgfW,hgr4,hgf4,hrf,by omega⟩,hI3l,hnI,hnF,hG4⟩
     exact TK
    exact TK
   exact TK
  refine TM ?_ ?_
  ·refine TL rfl rfl (UC i64 0 bP z3 rfl rfl rfl (by omega) (by omega) (by omega) (by omega) rfl ?_);intro v1 hR1 hsx hfx;rw[hq1n] at hR1 ⊢;obtain⟨gr,hgre⟩:∃ x,x=v0.heap.size:=⟨_,rfl⟩
   rw[←hgre] at hR1 ⊢;have hG1:=hG0.trans hfx;have hgrW:w1.heap.size≤gr:=by rw[hgre];exact hG0.size
   refine TQ (by exact trivial) ?_;refine TM ?_ ?_
   ·refine TL rfl rfl (Ts K2 rfl (rH lo lc qs v1 (hvq.1.keep' hG1 (fun _ _ _=>id)) (by omega)) rfl ?_);rintro _ v2 ⟨io,ic,ids,rfl,hI2,hfI,hIds,hfx⟩;have hG2:=hG1.trans hfx;have hR2:=hR1.WR hfx;have hgr2:gr<v2.heap.size:=hR2.lt _ rfl;have hnI:∀ a,io=some a→a.block≠gr:=fun a ha=>by have:=hfI a ha;omega
    refine TQ (by exact trivial) ?_;refine TM ?_ ?_
    ·refine TL rfl rfl (UG eY (by decide) jD Bj (by kernel_rfl) rfl rfl (by omega) (by omega) (by omega) (by omega) rfl ?_);intro v3 hF3 hsx hfx;rw[hq1n] at hF3 ⊢;obtain⟨gf,hgfe⟩:∃ x,x=v2.heap.size:=⟨_,rfl⟩
     rw[←hgfe] at hF3 ⊢;have hG3:=hG2.trans hfx;have hgfW:w1.heap.size≤gf:=by rw[hgfe];exact hG2.size
     have hI3:=hI2.WR hfx;have hR3:=hR2.WR hfx;have hnF:∀ a,io=some a→a.block≠gf:=fun a ha=>by have:=hI2.lt a ha;omega
     have hrf:gf≠gr:=by omega
     refine TQ (by exact trivial) ?_;refine TC rfl rfl (bU (biC (.slice lo qs.length lc) (.slice io ids.length ic) sN sN sN sN sN sN (.slice (some ⟨gr,0,none⟩) (qs.length+1) (qs.length+1)) (.slice (some ⟨gf,0,none⟩) (qs.length+1) (qs.length+1)) sN sN 0) As GV) rfl ?_;refine TM ?_ ?_
     ·refine TL rfl rfl (T1 rfl rfl ?_);intro v4 hgm hsx hfx;obtain⟨gm,hgme⟩:∃ x,x=v3.heap.size:=⟨_,rfl⟩
      rw[←hgme] at hgm ⊢;have hG4:=hG3.trans hfx;have hI4:=hI3.WR hfx;have hR4:=hR3.WR hfx;have hF4:=hF3.WR hfx;refine TQ (by exact trivial) ?_;have hgr4:gr<gm:=by rw[hgme];exact hR3.lt _ rfl
      have hgf4:gf<gm:=by rw[hgme];exact hF3.lt _ rfl
      have hI3l:∀ a,io=some a→a.block<gm:=fun a ha=>by rw[hgme];exact hI3.lt a ha
      refine TC rfl rfl (TW rfl) rfl ?_;refine Up ?_;exact aC ⟨⟨ids,⟨io,ic⟩⟩,⟨gr,⟨gf,gm⟩⟩⟩ ⟨hIds,hI4,hR4,hF4,hgm,⟨hgrW,hgfW,hgr4,hgf4,hrf,by omega⟩,hI3l,hnI,hnF,hG4⟩
     exact TK
    exact TK
   refine TM ?_ ?_
   ·refine TL rfl rfl (UG eY (by decide) jD Bj (by kernel_rfl) rfl rfl (by omega) (by omega) (by omega) (by omega) rfl ?_);intro v2 hF2 hsx hfx;rw[hq1n] at hF2 ⊢;obtain⟨gf,hgfe⟩:∃ x,x=v1.heap.size:=⟨_,rfl⟩
    rw[←hgfe] at hF2 ⊢;have hG2:=hG1.trans hfx;have hgfW:w1.heap.size≤gf:=by rw[hgfe];exact hG1.size
    have hR2:=hR1.WR hfx;have hrf:gf≠gr:=by omega
    refine TQ (by exact trivial) ?_;refine TM ?_ ?_
    ·refine TL rfl rfl (Ts K2 rfl (rH lo lc qs v2 (hvq.1.keep' hG2 (fun _ _ _=>id)) (by omega)) rfl ?_);rintro _ v3 ⟨io,ic,ids,rfl,hI3,hfI,hIds,hfx⟩;have hG3:=hG2.trans hfx;have hR3:=hR2.WR hfx;have hF3:=hF2.WR hfx;have hnI:∀ a,io=some a→a.block≠gr:=fun a ha=>by have:=hfI a ha;omega
     have hnF:∀ a,io=some a→a.block≠gf:=fun a ha=>by have:=hfI a ha;omega
     refine TQ (by exact trivial) ?_;refine TC rfl rfl (bU (biC (.slice lo qs.length lc) (.slice io ids.length ic) sN sN sN sN sN sN (.slice (some ⟨gr,0,none⟩) (qs.length+1) (qs.length+1)) (.slice (some ⟨gf,0,none⟩) (qs.length+1) (qs.length+1)) sN sN 0) As GV) rfl ?_;refine TM ?_ ?_
     ·refine TL rfl rfl (T1 rfl rfl ?_);intro v4 hgm hsx hfx;obtain⟨gm,hgme⟩:∃ x,x=v3.heap.size:=⟨_,rfl⟩
      rw[←hgme] at hgm ⊢;have hG4:=hG3.trans hfx;have hI4:=hI3.WR hfx;have hR4:=hR3.WR hfx;have hF4:=hF3.WR hfx;refine TQ (by exact trivial) ?_;have hgr4:gr<gm:=by rw[hgme];exact hR3.lt _ rfl
      have hgf4:gf<gm:=by rw[hgme];exact hF3.lt _ rfl
      have hI3l:∀ a,io=some a→a.block<gm:=fun a ha=>by rw[hgme];exact hI3.lt a ha
      refine TC rfl rfl (TW rfl) rfl ?_;refine Up ?_;exact aC ⟨⟨ids,⟨io,ic⟩⟩,⟨gr,⟨gf,gm⟩⟩⟩ ⟨hIds,hI4,hR4,hF4,hgm,⟨hgrW,hgfW,hgr4,hgf4,hrf,by omega⟩,hI3l,hnI,hnF,hG4⟩
     exact TK
    exact TK
   exact TK
  refine TM ?_ ?_
  ·refine TL rfl rfl (UG eY (by decide) jD Bj (by kernel_rfl) rfl rfl (by omega) (by omega) (by omega) (by omega) rfl ?_);intro v1 hF1 hsx hfx;rw[hq1n] at hF1 ⊢;obtain⟨gf,hgfe⟩:∃ x,x=v0.heap.size:=⟨_,rfl⟩
   rw[←hgfe] at hF1 ⊢;have hG1:=hG0.trans hfx;have hgfW:w1.heap.size≤gf:=by rw[hgfe];exact hG0.size
   refine TQ (by exact trivial) ?_;refine TM ?_ ?_
   ·refine TL rfl rfl (Ts K2 rfl (rH lo lc qs v1 (hvq.1.keep' hG1 (fun _ _ _=>id)) (by omega)) rfl ?_);rintro _ v2 ⟨io,ic,ids,rfl,hI2,hfI,hIds,hfx⟩;have hG2:=hG1.trans hfx;have hF2:=hF1.WR hfx;have hgf2:gf<v2.heap.size:=hF2.lt _ rfl;have hnF:∀ a,io=some a→a.block≠gf:=fun a ha=>by have:=hfI a ha;omega
    refine TQ (by exact trivial) ?_;refine TM ?_ ?_
    ·refine TL rfl rfl (UC i64 0 bP z3 rfl rfl rfl (by omega) (by omega) (by omega) (by omega) rfl ?_);intro v3 hR3 hsx hfx;rw[hq1n] at hR3 ⊢;obtain⟨gr,hgre⟩:∃ x,x=v2.heap.size:=⟨_,rfl⟩
     rw[←hgre] at hR3 ⊢;have hG3:=hG2.trans hfx;have hgrW:w1.heap.size≤gr:=by rw[hgre];exact hG2.size
     have hI3:=hI2.WR hfx;have hF3:=hF2.WR hfx;have hnI:∀ a,io=some a→a.block≠gr:=fun a ha=>by have:=hI2.lt a ha;omega
     have hrf:gf≠gr:=by omega
     refine TQ (by exact trivial) ?_;refine TC rfl rfl (bU (biC (.slice lo qs.length lc) (.slice io ids.length ic) sN sN sN sN sN sN (.slice (some ⟨gr,0,none⟩) (qs.length+1) (qs.length+1)) (.slice (some ⟨gf,0,none⟩) (qs.length+1) (qs.length+1)) sN sN 0) As GV) rfl ?_;refine TM ?_ ?_
     ·refine TL rfl rfl (T1 rfl rfl ?_);intro v4 hgm hsx hfx;obtain⟨gm,hgme⟩:∃ x,x=v3.heap.size:=⟨_,rfl⟩
      rw[←hgme] at hgm ⊢;have hG4:=hG3.trans hfx;have hI4:=hI3.WR hfx;have hR4:=hR3.WR hfx;have hF4:=hF3.WR hfx;refine TQ (by exact trivial) ?_;have hgr4:gr<gm:=by rw[hgme];exact hR3.lt _ rfl
      have hgf4:gf<gm:=by rw[hgme];exact hF3.lt _ rfl
      have hI3l:∀ a,io=some a→a.block<gm:=fun a ha=>by rw[hgme];exact hI3.lt a ha
      refine TC rfl rfl (TW rfl) rfl ?_;refine Up ?_;exact aC ⟨⟨ids,⟨io,ic⟩⟩,⟨gr,⟨gf,gm⟩⟩⟩ ⟨hIds,hI4,hR4,hF4,hgm,⟨hgrW,hgfW,hgr4,hgf4,hrf,by omega⟩,hI3l,hnI,hnF,hG4⟩
     exact TK
    exact TK
   refine TM ?_ ?_
   ·refine TL rfl rfl (UC i64 0 bP z3 rfl rfl rfl (by omega) (by omega) (by omega) (by omega) rfl ?_);intro v2 hR2 hsx hfx;rw[hq1n] at hR2 ⊢;obtain⟨gr,hgre⟩:∃ x,x=v1.heap.size:=⟨_,rfl⟩
    rw[←hgre] at hR2 ⊢;have hG2:=hG1.trans hfx;have hgrW:w1.heap.size≤gr:=by rw[hgre];exact hG1.size
    have hF2:=hF1.WR hfx;have hrf:gf≠gr:=by omega
    refine TQ (by exact trivial) ?_;refine TM ?_ ?_
    ·refine TL rfl rfl (Ts K2 rfl (rH lo lc qs v2 (hvq.1.keep' hG2 (fun _ _ _=>id)) (by omega)) rfl ?_);rintro _ v3 ⟨io,ic,ids,rfl,hI3,hfI,hIds,hfx⟩;have hG3:=hG2.trans hfx;have hR3:=hR2.WR hfx;have hF3:=hF2.WR hfx;have hnI:∀ a,io=some a→a.block≠gr:=fun a ha=>by have:=hfI a ha;omega
     have hnF:∀ a,io=some a→a.block≠gf:=fun a ha=>by have:=hfI a ha;omega
     refine TQ (by exact trivial) ?_;refine TC rfl rfl (bU (biC (.slice lo qs.length lc) (.slice io ids.length ic) sN sN sN sN sN sN (.slice (some ⟨gr,0,none⟩) (qs.length+1) (qs.length+1)) (.slice (some ⟨gf,0,none⟩) (qs.length+1) (qs.length+1)) sN sN 0) As GV) rfl ?_;refine TM ?_ ?_
     ·refine TL rfl rfl (T1 rfl rfl ?_);intro v4 hgm hsx hfx;obtain⟨gm,hgme⟩:∃ x,x=v3.heap.size:=⟨_,rfl⟩
      rw[←hgme] at hgm ⊢;have hG4:=hG3.trans hfx;have hI4:=hI3.WR hfx;have hR4:=hR3.WR hfx;have hF4:=hF3.WR hfx;refine TQ (by exact trivial) ?_;have hgr4:gr<gm:=by rw[hgme];exact hR3.lt _ rfl
      have hgf4:gf<gm:=by rw[hgme];exact hF3.lt _ rfl
      have hI3l:∀ a,io=some a→a.block<gm:=fun a ha=>by rw[hgme];exact hI3.lt a ha
      refine TC rfl rfl (TW rfl) rfl ?_;refine Up ?_;exact aC ⟨⟨ids,⟨io,ic⟩⟩,⟨gr,⟨gf,gm⟩⟩⟩ ⟨hIds,hI4,hR4,hF4,hgm,⟨hgrW,hgfW,hgr4,hgf4,hrf,by omega⟩,hI3l,hnI,hnF,hG4⟩
     exact TK
    exact TK
   exact TK
  exact TK
 rintro⟨⟨ids,⟨io,ic⟩⟩,⟨gr,⟨gf,gm⟩⟩⟩ v4 ⟨hIds,hI4,hR4,hF4,hgm,⟨hgrW,hgfW,hgr4,hgf4,hrf,hsx⟩,hI3l,hnI,hnF,hG4⟩;have hz4:=hG4.size;have hvq4:cD (fun k=>k<W.heap.size) v4.heap lo lc qs:=dJ hvq hG4 (fun _ _=>id) (fun _ _ _=>id) (fun _=>id);have hid80:=vH hIds;have hrep:∀ z∈List.replicate (qs.length+1) (0:Int),z=0:=fun z hz=>List.eq_of_mem_replicate hz;refine Gz 2 ?_;refine cL (TT (cs:=#[iV 64,sN,sN]) Pz Pn rfl (by kernel_rfl)) ?_;refine Tz Pn rfl ?_;intro w5 hg5 hs5 hf5;obtain⟨g7,hg7e⟩:∃ x,x=v4.heap.size:=⟨_,rfl⟩
 rw[←hg7e] at hg5 ⊢;refine sA rfl Rq (by simp[Value.oneCell']) hg5 ?_;intro w6 hg6 hs6 hf6;have hF46:aA nob v4 w6:=hf5.tw hf6;have hR6:RyO (· = g7) w6.heap g7 64 ⟨[],[]⟩:=RyO.zero hg6;refine Gz 4 ?_;refine cL (TT (cs:=#[sN]) Py Pm rfl (by kernel_rfl)) ?_;refine Tz Pm rfl ?_;intro w7 hg7 hs7 hf7;obtain⟨g8,hg8e⟩:∃ x,x=w6.heap.size:=⟨_,rfl⟩
 rw[←hg8e] at hg7 ⊢;refine sA rfl Rp (by simp[Value.oneCell']) hg7 ?_;intro w8 hg8 hs8 hf8;have hF68:aA nob w6 w8:=hf7.tw hf8;have hP8:uU (· = g8) w8.heap g8 []:=uU.zero hg8;have hR8:=hR6.WS hF68 (fun _ _ _=>id);have hF48:=hF46.trans hF68;refine Gz 9 ?_;refine TA (β:=(Nat×FSt)×((Nat→Prop)×(Nat→Prop))) (fun⟨⟨k,s⟩,⟨D7,D8⟩⟩=>[(0,.slice lo qs.length lc),(5,pT gm),(6,pT g7),(7,pT g8),(8,iV k)]) (fun⟨⟨k,s⟩,⟨D7,D8⟩⟩ w=>k≤qs.length∧s=(nds (qs.take k)).foldl gJ (fs0 (qs.length+1))∧s.ds.m.length≤k∧FI (nds (qs.take k)) (qs.length+1) s∧RyO D7 w.heap g7 64 s.ds∧uU D8 w.heap g8 s.tails∧(∀ k,D7 k→v4.heap.size≤k∧k<w.heap.size)∧(∀ k,D8 k→v4.heap.size≤k∧k<w.heap.size)∧(∀ k,D7 k→¬ D8 k)∧bF 11 zA 84 w.heap (some ⟨gf,0,none⟩) (qs.length+1) s.files∧aA (· = gf) v4 w) (fun⟨⟨k,s⟩,⟨D7,D8⟩⟩=>qs.length-k) ⟨⟨0,fs0 (qs.length+1)⟩,⟨(· = g7),(· = g8)⟩⟩ ⟨rfl,rfl,rfl,rfl,rfl,trivial⟩ ⟨Nat.zero_le _,rfl,Nat.zero_le _,fi0 _,hR8,hP8,fun k h=>by have h:k=g7:=h;omega,fun k h=>by have h:k=g8:=h;omega,fun k h h2=>by have h:k=g7:=h;have h2:k=g8:=h2;omega,hF4.WR hF48,hF48.any⟩ ?_;rintro⟨⟨k,s⟩,⟨D7,D8⟩⟩ w9 ⟨hk,hs,hmc,hFI,hM,hP,hd7,hd8,hd78,hFf,hF9⟩;refine fK 6 ?_ ?_<;>intro h50
 ·have hkl:k<qs.length:=by omega
  obtain⟨q,hq⟩:∃ q,qs[k]?=some q:=⟨_,List.getElem?_eq_getElem hkl⟩
  have hqm:=mem_of_getElem? hq;have hqi:=G.ino q hqm;obtain⟨m,hm⟩:=Int.eq_ofNat_of_zero_le (show 0≤q.2.ino by omega);have hml:m<s.files.length:=by rw[hFI.l];omega
  obtain⟨f,hf⟩:∃ f,s.files[m]?=some f:=⟨_,List.getElem?_eq_getElem hml⟩
  have hfd:s.files.getD q.2.ino.toNat jD=f:=by rw[show q.2.ino.toNat=m by omega,List.getD,hf];rfl
  have hdat:q.2.data.length≤4096:=(G.may q hqm).2.2.2.2.2.2.1;have hnd:cD (fun k=>k<W.heap.size) w9.heap lo lc qs:=dJ hvq4 hF9 (fun k hk h=>by have h:k=gf:=h;have hk:k<W.heap.size:=hk;omega) (fun _ k hk h=>by have h:k=gf:=h;have:=hlo1 k hk;omega) (fun _=>id);have hgm9:=hF9.obj hgm (fun h=>by have h:gm=gf:=h;omega);have hz9:=hF9.size;obtain⟨hqv1,hqv2,hqv3⟩:=hnd.2 q hqm;have hFl:=hFI.l;refine Gz 1 ?_;refine aW [(0,_),(5,_),(6,_),(7,_),(8,_),(50,_)] ?_;refine Gz 4 ?_;refine TY (β:=FSt×((Nat→Prop)×(Nat→Prop))) (fun⟨s,⟨D7,D8⟩⟩=>[(0,.slice lo qs.length lc),(5,pT gm),(6,pT g7),(7,pT g8),(8,iV k)]) (fun⟨s,⟨D7,D8⟩⟩ w=>s=(nds (qs.take (k+1))).foldl gJ (fs0 (qs.length+1))∧s.ds.m.length≤k+1∧FI (nds (qs.take (k+1))) (qs.length+1) s∧RyO D7 w.heap g7 64 s.ds∧uU D8 w.heap g8 s.tails∧(∀ k,D7 k→v4.heap.size≤k∧k<w.heap.size)∧(∀ k,D8 k→v4.heap.size≤k∧k<w.heap.size)∧(∀ k,D7 k→¬ D8 k)∧bF 11 zA 84 w.heap (some ⟨gf,0,none⟩) (qs.length+1) s.files∧aA (· = gf) v4 w) ?_ ?_
  ·refine Gz 5 ?_;refine cL (Tv bH rfl rfl hnd.1.non (by omega)) ?_;refine cL (TI (cs:=aM q) eI rfl (fun j v hj=>hnd.1.rowZ k rfl hq j v hj)) ?_;refine Tz kT rfl ?_;intro w10 hg10 hs10 hf10;obtain⟨gn,hgne⟩:∃ x,x=w9.heap.size:=⟨_,rfl⟩
   rw[←hgne] at hg10 ⊢;refine TX (vs:=aM q) eI rfl rfl (aB q).2 hg10 rfl ?_;intro w11 hgn hs11 hf11;have hf911:aA nob w9 w11:=hf10.tw hf11;have hgm11:=hf911.obj hgm9 id;have hFf11:=hFf.WR hf911;have hM11:=hM.WS hf911 (fun _ _ _=>id);have hP11:=hP.WS hf911 (fun _ _=>id);have hFv:=hFf11.vw eY;have hF11:aA (· = gf) v4 w11:=hF9.trans hf911.any;refine Gz 4 ?_;refine TN 15 [0,1,2,3,4,5,6,7,8,9,10,11,12,13,14] aL (by kernel_rfl) ?_;refine Gz 1 ?_;refine xC rfl (Tu aI rfl (aE hgn rfl)) ?_;refine xK 0 ?_ ?_<;>intro h59
   ·have hsk:gJ s q.2=s:=DC (.inl h59);refine Gz 18 ?_;have hs2:=xY hq (fs0 (qs.length+1));rw[←hs] at hs2;have hFI2:=sB hFI (x:=q.2) ⟨by omega,by omega⟩ hdat;rw[←Bw hq] at hFI2;rw[hsk] at hs2 hFI2;exact aC ⟨s,⟨D7,D8⟩⟩ ⟨hs2.symm,by omega,hFI2,hM11,hP11,fun k hk=>by have:=hd7 k hk;exact⟨by omega,by show k<w11.heap.size;omega⟩,fun k hk=>by have:=hd8 k hk;exact⟨by omega,by show k<w11.heap.size;omega⟩,hd78,hFf11,hF11.draws 1⟩
   have hk2:q.2.kind=2:=not_not.1 h59;have hf11d:aA nob w11 (w11.drewN 1):=Wu 1;refine Gz 4 ?_;refine xV rfl (Tu NK rfl (aE hgm11 rfl)) ?_;refine Gz 1 ?_;refine xV rfl (Tu aI rfl (aE hgn rfl)) ?_;refine xV rfl (Tv Bj rfl rfl (by simp) (by omega)) ?_;refine Gz 1 ?_;refine xV rfl (Tu aI rfl (hFv.rowZ m hm hf 0 _ rfl)) ?_;refine xW 0 ?_ ?_<;>intro h70
   ·have hsk:gJ s q.2=s:=DC (.inr (by rw[hfd];exact h70));refine Gz 7 ?_;have hs2:=xY hq (fs0 (qs.length+1));rw[←hs] at hs2;have hFI2:=sB hFI (x:=q.2) ⟨by omega,by omega⟩ hdat;rw[←Bw hq] at hFI2;rw[hsk] at hs2 hFI2;exact aC ⟨s,⟨D7,D8⟩⟩ ⟨hs2.symm,by omega,hFI2,hM11,hP11,fun k hk=>by have:=hd7 k hk;exact⟨by omega,by show k<w11.heap.size;omega⟩,fun k hk=>by have:=hd8 k hk;exact⟨by omega,by show k<w11.heap.size;omega⟩,hd78,hFf11,hF11.draws 1⟩
   have hnf:¬ (q.2.kind≠2∨(s.files.getD q.2.ino.toNat jD).1 0=2):=by rw[hfd];rintro(h|h);exact h hk2;exact h70 h
   obtain⟨R1,hR1⟩:∃ R,R=iG 64 s.ds q.2.data:=⟨_,rfl⟩
   obtain⟨R2,hR2⟩:∃ R,R=dU s.tails (eB q.2.data):=⟨_,rfl⟩
   obtain⟨fN,hfN⟩:∃ f:Ino,f=(fun j=>[2,0,0,0,0,0,(R1.2:Int),q.2.data.length,(R2.2.1:Int),(R2.2.2:Int)].getD j 0,[]):=⟨_,rfl⟩
   have hsn:gJ s q.2=⟨R1.1,R2.1,s.files.set m fN⟩:=by unfold gJ;rw[if_neg hnf,←hR1,←hR2,hfN,show q.2.ino.toNat=m by omega]
   refine Gz 9 ?_;refine cL (Tw (u:=.slice q.1.data.a q.2.data.length q.1.data.c) (Tu aT rfl (aE hgn rfl)) (by rw[←hqv2.1];rfl)) ?_;refine Ts Tc rfl (Hy D7 g7 64 s.ds q.1.data.a q.1.data.c q.2.data (w11.drewN 1) (hM11.WS hf11d (fun _ _ _=>id)) ((hqv2.2.1.WR hf911).WR hf11d) (by decide) (by have:=hFI.b;rw[length_map,length_take] at this;omega) (by omega) (by omega)) rfl ?_;rw[←hR1];rintro _ w12 ⟨o12,c12,rfl,ho12,hfr12,hM12,hf12⟩;have hf12:=hf12.WP;have hM12:RyO (fun k=>Nx D7 w11 w12 k∧¬ blk o12 k) w12.heap g7 64 R1.1:=hM12;have hz12:=hf12.size;have hP12:=hP11.WS hf12 (fun k hk h=>hd78 k h hk);refine Gz 10 ?_;refine Ts Tb rfl (Mq D8 g8 s.tails o12 c12 (eB q.2.data) w12 hP12 (fun k hk=>by have:=hd8 k hk;omega) ho12.vw (by have:=hFI.tn;rw[length_map,length_take] at this;omega) (fun x hx=>by have:=hFI.t x hx;omega)) rfl ?_;rw[←hR2];rintro _ w13 ⟨rfl,D8b,hP13,hD8a,hD8b,hf13⟩;have hz13:=hf13.size;have hgm13:=hf13.obj (hf12.obj hgm11 (fun h=>by have:=hd7 gm h;omega)) (fun h=>by have:=hd8 gm h;omega);have hgn13:=hf13.obj (hf12.obj hgn (fun h=>by have:=hd7 gn h;omega)) (fun h=>by have:=hd8 gn h;omega);have hFf13:=(hFf11.WS hf12 (fun a ha h=>by cases ha;have:=hd7 gf h;omega)).WS hf13 (fun a ha h=>by cases ha;have:=hd8 gf h;omega);have hM13:=hM12.WS hf13 (fun k _ hk h=>by rcases hk.1 with h2|h2;exact hd78 k h2 h;have:=hd8 k h;omega);have hF13:aA (· = gf) v4 w13:=(hF11.WO hf12 (fun k h=>.inr (hd7 k h).1)).WO hf13 (fun k h=>.inr (hd8 k h).1);refine Gz 7 ?_;refine TG 14 (fun H=>H[gm]?=some (.cells (biC (.slice lo qs.length lc) (.slice io ids.length ic) sN sN sN sN sN sN (.slice (some ⟨gr,0,none⟩) (qs.length+1) (qs.length+1)) (.slice (some ⟨gf,0,none⟩) (qs.length+1) (qs.length+1)) sN sN 0).toArray 76 (0,0))∧H[gn]?=some (.cells (aM q).toArray 68 (0,0))) [14] [0,1,2,3,4,5,6,7,8,9,10,11,12,13,14] aL (by kernel_rfl) (⟨hgm13,hgn13⟩) ?_;refine Gz 8 ?_;refine xC rfl (Tw (u:=.slice q.1.data.a q.2.data.length q.1.data.c) (TF aT rfl (fun H hH=>aE hH.2 rfl)) (by rw[←hqv2.1];rfl)) ?_;refine Gz 3 ?_;refine xC rfl (bU (zA (fun j=>[2,0,0,0,0,0,(R1.2:Int),q.2.data.length,(R2.2.1:Int),(R2.2.2:Int)].getD j 0,[])) CY vO) ?_;rw[←hfN];refine xC rfl (Tv Bj rfl rfl (by simp) (by omega)) ?_;refine Ty rfl rfl (VL eY (u:=fN) (i:=m) hml cT rfl (by rw[hm,Int.toNat_natCast]) rfl hFf13 ?_);intro w14 ho14 hs14 hf14;refine T6 rfl ?_;have hs14b:w14.heap.size=w13.heap.size:=hs14;have hgb:∀ k,blk (some (⟨gf,0,none⟩:Addr)) k→k=gf:=fun k ⟨a,ha,e⟩=>by cases ha;exact e.symm
   have hf14:=hf14.WP;have hM14:=hM13.WS (hf14.mono hgb) (fun k _ hk h=>by rw[h] at hk;rcases hk.1 with h2|h2;have:=hd7 gf h2;omega;omega);have hP14:=hP13.WS (hf14.mono hgb) (fun k hk h=>by have h:k=gf:=h;rw[h] at hk;rcases hD8a gf hk with h2|h2;have:=hd8 gf h2;omega;omega);have hF14:aA (· = gf) v4 w14:=hF13.trans (hf14.mono hgb);refine Gz 2 ?_;have hs2:=xY hq (fs0 (qs.length+1));rw[←hs] at hs2;have hFI2:=sB hFI (x:=q.2) ⟨by omega,by omega⟩ hdat;rw[←Bw hq] at hFI2;have hmm:=NV 0 [q.2] s;have hmm:(gJ s q.2).ds.m.length≤s.ds.m.length+1:=hmm;rw[hsn] at hs2 hFI2 hmm;exact aC ⟨⟨R1.1,R2.1,s.files.set m fN⟩,⟨(fun k=>Nx D7 w11 w12 k∧¬ blk o12 k),D8b⟩⟩ ⟨hs2.symm,by omega,hFI2,hM14,hP14,fun k hk=>by rcases hk.1 with h|h;have:=hd7 k h;omega;omega,fun k hk=>by have:=hD8b k hk;rcases hD8a k hk with h|h;have:=hd8 k h;omega;omega,fun k hk h=>by rcases hD8a k h with h2|h2;rcases hk.1 with h3|h3;exact hd78 k h3 h2;have:=hd8 k h2;omega;rcases hk.1 with h3|h3;have:=hd7 k h3;omega;omega,ho14,hF14⟩
  rintro⟨s,⟨D7,D8⟩⟩ w15 ⟨hs,hmc,hFI,hM,hP,hd7,hd8,hd78,hFf,hF9⟩;refine Gz 5 ?_;exact aG ⟨⟨k+1,s⟩,⟨D7,D8⟩⟩ ⟨by omega,hs,hmc,hFI,hM,hP,hd7,hd8,hd78,hFf,hF9⟩ (by show qs.length-(k+1)<qs.length-k;omega)
 have hke:k=qs.length:=by omega
 subst hke;rw[take_length] at hs hFI;have hs:s=bM qs:=hs;subst hs;have hz9:=hF9.size;refine Gz 1 ?_;refine aW [(0,_),(5,_),(6,_),(7,_),(8,_),(50,_)] ?_;refine Gz 9 ?_;refine T2 i64 bP rfl ?_;intro w10 ho10 hs10 hf10;obtain⟨pb,hpb⟩:∃ x,x=w9.heap.size:=⟨_,rfl⟩
 rw[←hpb] at ho10 ⊢;obtain⟨L,hL⟩:∃ L,L=(bM qs).tails:=⟨_,rfl⟩
 have hLn:L.length≤40:=by have:=hFI.tn;rw[length_map] at this;rw[hL];omega
 have hLb:DT L:=by rw[hL];exact hFI.t
 have hdB:(bM qs).ds.B.length≤172800:=by have:=hFI.b;rw[length_map] at this;omega
 rw[←hL] at hP;refine Gz 10 ?_;refine TA (β:=(Nat×(DS×List Int))×((Nat→Prop)×(Option Addr×Nat))) (fun⟨⟨j,⟨d9,pl9⟩⟩,⟨D9,⟨po,pc⟩⟩⟩=>[(0,.slice lo qs.length lc),(5,pT gm),(6,pT g7),(7,pT g8),(14,.slice po pl9.length pc),(15,iV j)]) (fun⟨⟨j,⟨d9,pl9⟩⟩,⟨D9,⟨po,pc⟩⟩⟩ w=>j≤L.length∧eM (L.take j) (bM qs).ds=(d9,pl9)∧w9.heap.size≤w.heap.size∧RyO D9 w.heap g7 64 d9∧uU D8 w.heap g8 L∧(∀ k,D9 k→v4.heap.size≤k∧k<w.heap.size)∧(∀ k,D9 k→¬ D8 k)∧Own i64 3 w.heap po pc pl9∧(∀ k,blk po k→v4.heap.size≤k∧¬ D9 k∧¬ D8 k)∧bF 11 zA 84 w.heap (some ⟨gf,0,none⟩) (qs.length+1) (bM qs).files∧aA (· = gf) v4 w) (fun⟨⟨j,⟨d9,pl9⟩⟩,⟨D9,⟨po,pc⟩⟩⟩=>L.length-j) ⟨⟨0,⟨(bM qs).ds,[]⟩⟩,⟨D7,⟨some ⟨pb,0,none⟩,0⟩⟩⟩ ⟨rfl,rfl,rfl,rfl,rfl,rfl,trivial⟩ ⟨Nat.zero_le _,rfl,by omega,hM.WS hf10 (fun _ _ _=>id),hP.WS hf10 (fun _ _=>id),fun k h=>by have:=hd7 k h;omega,hd78,ho10,fun k ⟨a,ha,e⟩=>by cases ha;have e:pb=k:=e;exact⟨by omega,fun h=>by have:=hd7 k h;omega,fun h=>by have:=hd8 k h;omega⟩,hFf.WR hf10,hF9.trans hf10.any⟩ ?_;rintro⟨⟨j,⟨d9,pl9⟩⟩,⟨D9,⟨po,pc⟩⟩⟩ w11 ⟨hj,htl,hz911,hM9,hPr,hd9,hd98,hpo,hpd,hFl,hF11⟩;obtain⟨Din,ao,ac,gs,hgT,hgo,hrw,_⟩:=id hPr;have hgl:=hrw.1;refine fK 7 ?_ ?_<;>intro h102
 ·have hjl:j<L.length:=by omega
  have hjg:j<gs.length:=by omega
  obtain⟨t,ht⟩:∃ t,L[j]?=some t:=⟨_,List.getElem?_eq_getElem hjl⟩
  obtain⟨g,hg⟩:∃ g,gs[j]?=some g:=⟨_,List.getElem?_eq_getElem hjg⟩
  obtain⟨hgn,hgv,_⟩:=hrw.2 j g t hg ht;have htb:=hLb t (mem_of_getElem? ht);have htk:L.take (j+1)=L.take j++[t]:=tkL ht;have hsn:=zQ (L.take j) t (bM qs).ds;rw[←htk,htl] at hsn;have hdb9:d9.B.length≤200000:=by have h:=IV (L:=L.take j) (fun b hb=>hLb b (mem_of_mem_take hb)) (bM qs).ds;rw[htl,length_take] at h;have h:d9.B.length≤_:=h;omega
  have hplj:pl9.length=j:=by have h:=lT (L.take j) (bM qs).ds;rw[htl,length_take] at h;have h:pl9.length=_:=h;omega
  refine Gz 1 ?_;refine aW [(0,_),(5,_),(6,_),(7,_),(14,_),(15,_),(102,_)] ?_;refine Gz 11 ?_;refine cL (Tt pJ rfl rfl hgo.vw.non (by omega)) ?_;refine cL (Tw (u:=.slice g.a t.length g.c) (Tu aT rfl (by rw[Int.toNat_natCast];exact hgo.vw.get j g hg)) (by rw[←hgn];rfl)) ?_;refine Ts Ta rfl (CO D9 g7 64 d9 g.a g.c t w11 hM9 hgv (by decide) (by omega) htb.2) rfl ?_;obtain⟨R,hR⟩:∃ R,R=nN 64 d9 t:=⟨_,rfl⟩
  rw[←hR] at hsn ⊢;rintro _ w12 ⟨rfl,hM12,hf12⟩;have hz12:=hf12.size;have hpo12:=hpo.WS hf12 (fun a ha h=>(hpd _ ⟨a,ha,rfl⟩).2.1 h);have hP12:=hPr.WS hf12 (fun k hk h=>hd98 k h hk);refine T3 (enc:=i64) (u:=(R.2:Int)) bP rfl rfl rfl ?_;intro w13 ho13 hs13 hf13;refine TB kR bP rfl rfl (hpo12.WR hf13) ho13.vw (by simp only[length_singleton];omega) (by simp only[length_singleton];unfold maxLen;omega) rfl ?_;intro po14 pc14 w14 ho14 hf14 hr14 hn14;have hz14:=hf14.size;have hnx:∀ k,Nx D9 w11 w12 k→v4.heap.size≤k∧k<w14.heap.size∧¬ D8 k∧¬ blk po k:=fun k hk=>by
   rcases hk with h|h
   ·have:=hd9 k h;exact⟨by omega,by omega,hd98 k h,fun hb=>(hpd k hb).2.1 h⟩
   ·exact⟨by omega,by omega,fun h2=>by have:=hd8 k h2;omega,fun⟨a,ha,e⟩=>by have:=hpo.lt a ha;omega⟩
  have hM14:=(hM12.WS hf13 (fun _ _ _=>id)).WS hf14 (fun k _ hk=>(hnx k hk).2.2.2);have hP14:=(hP12.WS hf13 (fun _ _=>id)).WS hf14 (fun k hk hb=>(hpd k hb).2.2 hk);have hF14:aA (· = gf) v4 w14:=((hF11.WO hf12 (fun k h=>.inr (hd9 k h).1)).trans hf13.any).WO hf14 (fun k h=>.inr (hpd k h).1);have hpd14:∀ k,blk po14 k→v4.heap.size≤k∧¬ Nx D9 w11 w12 k∧¬ D8 k:=fun k ⟨a,ha,e⟩=>by
   rcases hr14 a ha with h|h
   ·have:=hpd k ⟨a,h,e⟩;exact⟨this.1,fun h2=>(hnx k h2).2.2.2 ⟨a,h,e⟩,this.2.2⟩
   ·exact⟨by omega,fun h2=>by rcases h2 with h2|h2;have:=hd9 k h2;omega;omega,fun h2=>by have:=hd8 k h2;omega⟩
  refine Gz 9 ?_;exact aG ⟨⟨j+1,⟨R.1,pl9++[(R.2:Int)]⟩⟩,⟨Nx D9 w11 w12,⟨po14,pc14⟩⟩⟩ ⟨by omega,hsn,by omega,hM14,hP14,fun k hk=>by have:=hnx k hk;omega,fun k hk=>(hnx k hk).2.2.1,ho14,hpd14,((hFl.WS hf12 (fun a ha h=>by cases ha;have:=hd9 gf h;omega)).WR hf13).WS hf14 (fun a ha h=>by cases ha;have:=(hpd gf h).1;omega),hF14⟩ (by show L.length-(j+1)<L.length-j;omega)
 have hje:j=L.length:=by omega
 subst hje;rw[take_length] at htl;refine Gz 1 ?_;refine aW [(0,_),(5,_),(6,_),(7,_),(14,_),(15,_),(102,_)] ?_;refine Gz 10 ?_;have hz11:=hF11.size;have hAll:=GS G hIds;have hGd:=G.gdB hFI.l (K9 hFI);have htl2:eM (bM qs).tails (bM qs).ds=(d9,pl9):=by rw[←hL];exact htl
 have hpl9:pl9.length=L.length:=by have h:=lT L (bM qs).ds;rw[htl] at h;exact h
 obtain⟨ow0,how⟩:∃ f:Nat→Nat,f=fun k=>if k=gm then 6 else if k=gr then 5 else if k<v4.heap.size then 4 else 0:=⟨_,rfl⟩
 have o6:ow0 gm=6:=by rw[how];exact if_pos rfl
 have o4:∀ k,k<v4.heap.size→k≠gm→k≠gr→ow0 k=4:=fun k h1 h2 h3=>by rw[how];show (if k=gm then 6 else if k=gr then 5 else if k<v4.heap.size then 4 else 0)=4;rw[if_neg h2,if_neg h3,if_pos h1]
 have o0:∀ k,v4.heap.size≤k→ow0 k=0:=fun k h=>by rw[how];show (if k=gm then 6 else if k=gr then 5 else if k<v4.heap.size then 4 else 0)=0;rw[if_neg (by omega),if_neg (by omega),if_neg (by omega)]
 have o5:ow0 gr=5:=by rw[how];show (if gr=gm then 6 else if gr=gr then 5 else if gr<v4.heap.size then 4 else 0)=5;rw[if_neg (by omega),if_pos rfl]
 have hn0:∀ k,w11.heap.size≤k→ow0 k=0:=fun k hk=>o0 k (by omega);have hnd11:cD (fun k=>ow0 k=4) w11.heap lo lc qs:=dJ hvq4 hF11 (fun k hk h=>by have h:k=gf:=h;have hk:k<W.heap.size:=hk;omega) (fun _ k hk h=>by have h:k=gf:=h;have:=hlo1 k hk;omega) (fun k hk=>o4 k (by omega) (by omega) (by omega));have hI11:=hI4.WS hF11 (fun a ha h=>by have h:a.block=gf:=h;exact absurd h (hnF a ha));have hR11:=hR4.WS hF11 (fun a ha h=>by cases ha;exact hrf h.symm);have hgm11:=hF11.obj hgm (fun h=>by have h:gm=gf:=h;omega);obtain⟨a0,ha0⟩:∃ a:BiA,a=⟨lo,lc,io,ic,none,0,none,0,none,0,none,0,none,0,none,0,some ⟨gr,0,none⟩,qs.length+1,some ⟨gf,0,none⟩,qs.length+1,none,0,none,0,[]⟩:=⟨_,rfl⟩
 have hW0:∀ z,WrM ow0 z w11.heap [] none 0 none 0:=fun z=>by
  have e:aY [] []=(([]:By),([]:By)):=cZ (by decide);unfold WrM;rw[e];exact⟨WA,WA,Ww,fun k ⟨a,ha,_⟩=>(by cases ha),fun k ⟨a,ha,_⟩=>(by cases ha)⟩
 have hBi:BiW a0 ow0 w11.heap gm qs ids (bM qs).files (sQ (qs.length+1)):=by
  have e:aY [] []=(([]:By),([]:By)):=cZ (by decide);subst ha0;refine⟨?_,o6,⟨hnd11,fun _ k hk=>o4 k (by have:=hlo1 k hk;omega) (by have:=hlo1 k hk;omega) (by have:=hlo1 k hk;omega)⟩,⟨hI11.vw,fun k ⟨a,ha,e⟩=>o4 k (by have:=hI3l a ha;omega) (by have:=hI3l a ha;omega) (by have:=hnI a ha;omega)⟩,⟨hFl.vw eY,fun k ⟨a,ha,e⟩=>by cases ha;have e:gf=k:=e;rw[←e];exact o4 gf (by omega) (by omega) hrf⟩,hW0 1,hW0 2,hW0 3,⟨hR11,fun k ⟨a,ha,e⟩=>by cases ha;have e:gr=k:=e;rw[←e];exact o5⟩,⟨WA,fun k ⟨a,ha,_⟩=>(by cases ha)⟩,⟨rfl,fun i h y hh _=>(by cases hh)⟩,WA,fun k ⟨a,ha,_⟩=>(by cases ha)⟩;unfold biK;rw[hFI.l];have e1:(sQ (qs.length+1)).refs.length=qs.length+1:=length_replicate;rw[e1];show w11.heap[gm]?=some (.cells (biC _ _ (.slice none (aY [] []).1.length 0) (.slice none (aY [] []).2.length 0) (.slice none (aY [] []).1.length 0) (.slice none (aY [] []).2.length 0) (.slice none (aY [] []).1.length 0) (.slice none (aY [] []).2.length 0) _ _ _ _ _).toArray _ _);rw[e];exact hgm11
 have hok0:okS qs (sQ (qs.length+1)):=⟨length_replicate,⟨fun z hz=>by rw[hrep z hz];decide,fun y hy=>(by cases hy)⟩,fun y hy=>(by cases hy)⟩
 refine Ts PU rfl (Ab gm qs ids (bM qs).files hGd 17 a0 ow0 (sQ (qs.length+1)) ((0:Nat):Int) w11 hBi hn0 ⟨by omega,by omega⟩ (by omega) hok0 hAll.b) rfl ?_;rintro _ w15 hP15;obtain⟨S,hS⟩:∃ S,S=wrB qs ids (bM qs).files 17 ((0:Nat):Int) (sQ (qs.length+1)):=⟨_,rfl⟩
 rw[←hS] at hP15;obtain⟨hf15,a15,ow15,hM15,hl15,hn15,hbr15⟩:=hP15;have hz15:=hf15.size;have hAs:(aF qs ids).s=S:=hS.symm;have hAd:(aF qs ids).d=d9:=by show (eM (bM qs).tails (bM qs).ds).1=d9;rw[htl2]
 have hAp:(aF qs ids).pl=pl9:=by show (eM (bM qs).tails (bM qs).ds).2=pl9;rw[htl2]
 have hAm:=hAll.m;have hAi:=hAll.i;have hAl:=hAll.l;have hAf:=hAll.f;rw[hAs] at hAm hAi hAl hAf;have hAn4:=hAll.n4;have hAn2:=hAll.n2;rw[hAp] at hAn4;have hv15:=hnd11.1.keep' hf15 (fun hne a ha h=>h.2 (o4 a.block (by have:=hlo1 _ ⟨a,ha,rfl⟩;omega) (by have:=hlo1 _ ⟨a,ha,rfl⟩;omega) (by have:=hlo1 _ ⟨a,ha,rfl⟩;omega)));have hd9o:∀ k,D9 k→¬ Lb ow0 k:=fun k hk h=>h.1 (o0 k (hd9 k hk).1);have hM15b:=hM9.WS hf15 (fun k _ hk=>hd9o k hk);have hpo15:=hpo.WS hf15 (fun a ha h=>h.1 (o0 _ (hpd _ ⟨a,ha,rfl⟩).1));have hFw:aA nob w1 w15:=(hG4.any (S:=nob)).WO ((hF11.mono (S':=fun k=>k=gf∨Lb ow0 k) (fun k h=>.inl h)).WO hf15 (fun k h=>.inl (.inr h))) (fun k h=>.inr (by rcases h with h|h;omega;have h2:=h.1;have h3:=h.2;by_cases hk:k<w1.heap.size;exact absurd (o4 k (by omega) (by omega) (by omega)) h3;omega));refine Gz 4 ?_;refine cL (TT (cs:=#[sN,sN]) NO LO rfl (by kernel_rfl)) ?_;refine Tz LO rfl ?_;intro w16 hg16 hs16 hf16;obtain⟨gA,hgA⟩:∃ x,x=w15.heap.size:=⟨_,rfl⟩
 rw[←hgA] at hg16 ⊢;refine sA rfl Od (by simp[Value.oneCell']) hg16 ?_;intro w17 hg17 hs17 hf17;have hf1517:aA nob w15 w17:=hf16.tw hf17;have hA17:=RwO.zero hg17;refine Gz 5 ?_;refine Ts PT rfl (uH po pc pl9 4 w17 (hpo15.WR hf1517).vw (by omega)) rfl ?_;rintro _ w18 ⟨o18,c18,rfl,ho18,hfr18,hf18⟩;have hz18:=hf18.size;refine Gz 10 ?_;refine Ts K1 rfl (Ag (· = gA) gA [] o18 c18 (aJ pl9 4).1 w18 (hA17.WS hf18 (fun _ _=>id)) ho18.vw (fun _ k ⟨a,ha,e⟩ h=>by have:=hfr18 a ha;have h:k=gA:=h;omega) (by simp only[length_nil];omega)) rfl ?_;rw[nil_append];rintro _ w19 ⟨_,hA19,hf19⟩;have hz19:=hf19.size;refine Gz 4 ?_;refine cL (TT (cs:=#[sN,sN]) NO LO rfl (by kernel_rfl)) ?_;refine Tz LO rfl ?_;intro w20 hg20 hs20 hf20;obtain⟨gB,hgB⟩:∃ x,x=w19.heap.size:=⟨_,rfl⟩
 rw[←hgB] at hg20 ⊢;refine sA rfl Od (by simp[Value.oneCell']) hg20 ?_;intro w21 hg21 hs21 hf21;have hf1921:aA nob w19 w21:=hf20.tw hf21;have hB21:=RwO.zero hg21;have hA21:=hA19.WS hf1921 (fun _ _=>id);have hf1519:aA (· = gA) w15 w19:=(((hf1517.trans hf18).any)).trans hf19;have hf1521:aA (· = gA) w15 w21:=hf1519.trans hf1921.any;have hM21:=hM15.WS hf1521 (fun k hk h=>hk (by have h:k=gA:=h;exact hn15 k (by omega))) (fun _ _=>rfl);refine Gz 7 ?_;refine cL (Tu pS rfl (aE hM21.1 rfl)) ?_;refine Ts PT rfl (uH a15.io a15.ic ids 2 w21 hM21.2.2.2.1.1 (by omega)) rfl ?_;rintro _ w22 ⟨o22,c22,rfl,ho22,hfr22,hf22⟩;have hz22:=hf22.size;refine Gz 9 ?_;refine Ts K1 rfl (Ag (· = gB) gB [] o22 c22 (aJ ids 2).1 w22 (hB21.WS hf22 (fun _ _=>id)) ho22.vw (fun _ k ⟨a,ha,e⟩ h=>by have:=hfr22 a ha;have h:k=gB:=h;omega) (by simp only[length_nil];omega)) rfl ?_;rw[nil_append];rintro _ w23 ⟨_,hB23,hf23⟩;have hz23:=hf23.size;have hnB:∀ k,ow15 k≠0→¬ k=gB:=fun k hk h=>hk (hn15 k (by omega));have hM23:=(hM21.WR hf22).WS hf23 (fun k hk h=>hnB k hk h) (fun _ _=>rfl);have hA23:=(hA21.WS hf22 (fun _ _=>id)).WS hf23 (fun k hk h=>by have h:k=gB:=h;rcases hk with h2|h2;have h2:k=gA:=h2;omega;omega);have hf1523:aA (fun k=>k=gA∨k=gB) w15 w23:=((hf1521.mono (fun k h=>.inl h)).trans hf22.any).trans (hf23.mono (fun k h=>.inr h));have hM23b:=hM15b.WS hf1523 (fun k hk _ h=>by rcases h with h|h<;>omega);have hv23:=hv15.keep' hf1523 (fun hne a ha h=>by have:=hlo1 _ ⟨a,ha,rfl⟩;rcases h with h|h<;>omega);obtain⟨r0,hr0,hr0n,hr0k⟩:=G.root;have hi0:=G.ino r0 (mem_of_getElem? hr0);obtain⟨m0,hm0⟩:=Int.eq_ofNat_of_zero_le (show 0≤r0.2.ino by omega);have hrl:S.refs.length=qs.length+1:=by have h:=(A9 (qs:=qs) (ids:=ids) (files:=(bM qs).files) 17 ((0:Nat):Int) (sQ (qs.length+1))).r;rw[←hS] at h;rw[h];exact length_replicate
 have hz0:0≤S.refs.getD m0 0∧S.refs.getD m0 0≤1152921504606846977:=hbr15.1 _ (by rw[List.getD,List.getElem?_eq_getElem (by omega)];exact List.getElem_mem _);refine Gz 3 ?_;refine TG 24 (fun H=>H[gm]?=some (.cells (biK a15 qs ids (bM qs).files S).toArray 76 (0,0))∧VwM 10 aM H lo lc qs∧Vw i64 H a15.ro a15.rc S.refs) [23,24] [0,1,2,3,4,5,6,7,8,9,10,11,12,13,14,15,16,17,18,19,20,21,22,23,24] aL (by kernel_rfl) (⟨hM23.1,hv23,hM23.2.2.2.2.2.2.2.2.1.1.vw⟩) ?_;refine Gz 16 ?_;refine xC rfl (Tv bH rfl rfl hv23.non (by omega)) ?_;refine Gz 1 ?_;refine xC rfl (TF aI rfl (fun H hH=>hH.2.1.rowZ 0 rfl hr0 1 _ rfl)) ?_;refine xC rfl (Tt bP rfl rfl hM23.2.2.2.2.2.2.2.2.1.1.vw.non (by omega)) ?_;refine xC rfl (TF aI rfl (fun H hH=>hH.2.2.gz 0 m0 hm0 (by omega))) ?_;refine Gz 1 ?_;refine xC rfl (bU (sU 0 S.many 0 0 0 0 0 ids.length pl9.length (S.refs.getD m0 0-1)) uI sV) ?_;refine Ty rfl rfl (Tz sV rfl ?_);intro w24 hg24 hs24 hf24;have hf24:=hf24.WP;obtain⟨gS,hgS⟩:∃ x,x=w23.heap.size:=⟨_,rfl⟩
 rw[show (w23.drewN 1).heap.size=gS from hgS.symm] at hg24 ⊢;refine TE (by exact⟨(hM23.WR hf24).1,hv23.WR hf24,(hM23.WR hf24).2.2.2.2.2.2.2.2.1.1.vw⟩) ?_;refine Ty rfl rfl (TX (vs:=sU 0 S.many 0 0 0 0 0 ids.length pl9.length (S.refs.getD m0 0-1)) dS rfl rfl (Ov _ _ _ _ _ _ _ _ _ _) hg24 rfl ?_);intro w25 hg25 hs25 hf25;refine T6 rfl ?_;have hf2325:aA nob w23 w25:=hf24.tw hf25;have hM25:=hM23.WR hf2325;have hA25:=hA23.WS hf2325 (fun _ _=>id);have hB25:=hB23.WS hf2325 (fun _ _=>id);have hM25b:=hM23b.WS hf2325 (fun _ _ _=>id);have hs24b:w24.heap.size=w23.heap.size+1:=hs24;obtain⟨bo,bc,ro,rc,ys,hg7c,hB7,_⟩:=hM25b;have hg7c25:=hg7c;obtain⟨dI,hdI⟩:∃ d,d=dnW S.ino:=⟨_,rfl⟩
 obtain⟨dL,hdL⟩:∃ d,d=dnW S.lst:=⟨_,rfl⟩
 obtain⟨dP,hdP⟩:∃ d,d=dnW (aJ pl9 4).1:=⟨_,rfl⟩
 obtain⟨dD,hdD⟩:∃ d,d=dnW (aJ ids 2).1:=⟨_,rfl⟩
 obtain⟨dF,hdF⟩:∃ d,d=dnW S.fur:=⟨_,rfl⟩
 have q1:lE (aF qs ids)=d9.B:=by unfold lE;rw[hAd]
 have q2:iH (aF qs ids)=d9.B++dI:=by unfold iH;rw[q1,hAs,←hdI]
 have q3:hO (aF qs ids)=d9.B++dI++dL:=by unfold hO;rw[q2,hAs,←hdL]
 have q4:gH (aF qs ids)=d9.B++dI++dL++dP:=by unfold gH;rw[q3,hAp,←hdP]
 have q5:fT (aF qs ids) ids=d9.B++dI++dL++dP++dD:=by unfold fT;rw[q4,←hdD]
 have q6:eW (aF qs ids) ids=d9.B++dI++dL++dP++dD++dF:=by unfold eW;rw[q5,hAs,←hdF]
 have p1:=hAll.o1;have p2:=hAll.o2;have p3:=hAll.o3;have p4:=hAll.o4;have p5:=hAll.o5;have p6:=hAll.o6;rw[q1] at p1;rw[q2] at p2;rw[q3] at p3;rw[q4] at p4;rw[q5] at p5;rw[q6] at p6;have hsup:bO qs ids (aF qs ids)=fun j=>[64+(((d9.B++dI++dL++dP++dD++dF).length:Nat):Int),S.many,64+((d9.B.length:Nat):Int),64+(((d9.B++dI).length:Nat):Int),64+(((d9.B++dI++dL).length:Nat):Int),64+(((d9.B++dI++dL++dP).length:Nat):Int),64+(((d9.B++dI++dL++dP++dD).length:Nat):Int),ids.length,pl9.length,S.refs.getD m0 0-1].getD j 0:=by
  have hnd0:(ndB qs 0).ino.toNat=m0:=by rw[show ndB qs 0=ndB qs ((0:Nat):Int) from rfl,bI hr0];omega
  unfold bO;rw[q1,q2,q3,q4,q5,q6,hAs,hAp,hnd0]
 obtain⟨A1,hA1⟩:∃ x,x=d9.B:=⟨_,rfl⟩
 obtain⟨A2,hA2⟩:∃ x,x=A1++dI:=⟨_,rfl⟩
 obtain⟨A3,hA3⟩:∃ x,x=A2++dL:=⟨_,rfl⟩
 obtain⟨A4,hA4⟩:∃ x,x=A3++dP:=⟨_,rfl⟩
 obtain⟨A5,hA5⟩:∃ x,x=A4++dD:=⟨_,rfl⟩
 obtain⟨A6,hA6⟩:∃ x,x=A5++dF:=⟨_,rfl⟩
 rw[←hA1,←hA2,←hA3,←hA4,←hA5,←hA6] at hsup;rw[←hA1,←hA2,←hA3,←hA4,←hA5,←hA6] at p6 q6;rw[←hA1,←hA2,←hA3,←hA4,←hA5] at p5;rw[←hA1,←hA2,←hA3,←hA4] at p4;rw[←hA1,←hA2,←hA3] at p3;rw[←hA1,←hA2] at p2;rw[←hA1] at p1 hg7c25 hB7;have hW25:aA nob w1 w25:=(hFw.WO hf1523 (fun k h=>.inr (by have:=hFw.size;rcases h with h|h<;>omega))).trans hf2325;refine Gz 4 ?_;refine T2 b8 aK rfl ?_;intro w26 ho26 hs26 hf26;obtain⟨gO,hgO⟩:∃ x,x=w25.heap.size:=⟨_,rfl⟩
 rw[←hgO] at ho26 ⊢;refine Gz 1 ?_;refine cL (Tu aT rfl (aE (hf26.obj hg7c25 id) rfl)) ?_;refine TB aV aK rfl rfl ho26 (hB7.WR hf26).vw (by simp only[length_nil];omega) (by simp only[length_nil];unfold maxLen;omega) rfl ?_;intro o27 c27 w27 ho27 hf27 hr27 hn27;rw[nil_append] at ho27 ⊢;have hfr27:Fr w25.heap.size o27:=fun a ha=>by rcases hr27 a ha with h|h;cases h;exact Nat.le_of_eq hgO.symm;exact Nat.le_trans hf26.size h
 have hf2527:aA nob w25 w27:=hf26.WO hf27 (fun k ⟨a,ha,e⟩=>.inr (by cases ha;have e:gO=k:=e;omega));have hgS27:=hf2527.obj hg25 id;have hn27:∀ a,o27=some a→a.block≠gS:=fun a ha=>by have:=hfr27 a ha;omega
 refine Gz 9 ?_;refine Tx aI rfl rfl rfl hgS27 rfl ?_;intro w28 hgS28 hs28 hf28;have ho28:=ho27.WS hf28 (fun a ha h=>hn27 a ha h);have hf2528:aA (· = gS) w25 w28:=hf2527.any.trans hf28;have hz27:=hf2527.size;have hM28:=hM25.WS hf2528 (fun k hk h=>hk (by have h:k=gS:=h;exact hn15 k (by omega))) (fun _ _=>rfl);refine Gz 8 ?_;refine Ts KZ rfl (nU (Gh a15 qs ids (bM qs).files S) _ gm S.ino w28 hM28.rwi1 (by omega)) rfl ?_;rintro _ w29 ⟨o29,c29,rfl,ho29,hfr29,hf29⟩;have ho29:Own b8 5 w29.heap o29 c29 dI:=by rw[hdI];exact ho29
 have h29:(frW S.ino (nF S.ino))=dI:=hdI.symm;rw[h29];refine TB aV aK rfl rfl (ho28.WR hf29) ho29.vw (by rw[hA2,length_append] at p2;omega) (by rw[hA2,length_append] at p2;unfold maxLen;omega) rfl ?_;intro o30 c30 w30 ho30 hf30 hr30 hn30;rw[←hA2] at ho30 ⊢;have hfr30:Fr w25.heap.size o30:=fun a ha=>by rcases hr30 a ha with h|h;exact hfr27 a h;have:=hf29.size;omega
 have hnS30:∀ a,o30=some a→a.block≠gS:=fun a ha=>by rcases hr30 a ha with h|h;exact hn27 a h;have:=hf29.size;omega
 have hgS30:=hf30.obj (hf29.obj hgS28 id) (fun⟨a,ha,e⟩=>hn27 a ha e);have hf2530:aA (· = gS) w25 w30:=(hf2528.trans hf29.any).WO hf30 (fun k ⟨a,ha,e⟩=>.inr (by have:=hfr27 a ha;omega));have hz30:=hf2530.size;refine Gz 9 ?_;refine Tx aI rfl rfl rfl hgS30 rfl ?_;intro w31 hgS31 hs31 hf31;have ho31:=ho30.WS hf31 (fun a ha h=>hnS30 a ha h);have hf2531:aA (· = gS) w25 w31:=hf2530.trans hf31;have hM31:=hM25.WS hf2531 (fun k hk h=>hk (by have h:k=gS:=h;exact hn15 k (by omega))) (fun _ _=>rfl);refine Gz 8 ?_;refine Ts KZ rfl (nU (Gg a15 qs ids (bM qs).files S) _ gm S.lst w31 hM31.rwi2 (by omega)) rfl ?_;rintro _ w32 ⟨o32,c32,rfl,ho32,hfr32,hf32⟩;have ho32:Own b8 5 w32.heap o32 c32 dL:=by rw[hdL];exact ho32
 have h32:(frW S.lst (nF S.lst))=dL:=hdL.symm;rw[h32];refine TB aV aK rfl rfl (ho31.WR hf32) ho32.vw (by rw[hA3,length_append] at p3;omega) (by rw[hA3,length_append] at p3;unfold maxLen;omega) rfl ?_;intro o33 c33 w33 ho33 hf33 hr33 hn33;rw[←hA3] at ho33 ⊢;have hfr33:Fr w25.heap.size o33:=fun a ha=>by rcases hr33 a ha with h|h;exact hfr30 a h;have:=hf32.size;omega
 have hnS33:∀ a,o33=some a→a.block≠gS:=fun a ha=>by rcases hr33 a ha with h|h;exact hnS30 a h;have:=hf32.size;omega
 have hgS33:=hf33.obj (hf32.obj hgS31 id) (fun⟨a,ha,e⟩=>hnS30 a ha e);have hf2533:aA (· = gS) w25 w33:=(hf2531.trans hf32.any).WO hf33 (fun k ⟨a,ha,e⟩=>.inr (by have:=hfr30 a ha;omega));have hz33:=hf2533.size;refine Gz 9 ?_;refine Tx aI rfl rfl rfl hgS33 rfl ?_;intro w34 hgS34 hs34 hf34;have ho34:=ho33.WS hf34 (fun a ha h=>hnS33 a ha h);have hf2534:aA (· = gS) w25 w34:=hf2533.trans hf34;have hA34:=hA25.WS hf2534 (fun k hk h=>by have h:k=gS:=h;rcases hk with h2|h2;have h2:k=gA:=h2;omega;omega);refine Gz 5 ?_;refine Ts KZ rfl (wI _ gA (aJ pl9 4).1 w34 hA34 (by omega)) rfl ?_;rintro _ w35 ⟨o35,c35,rfl,ho35,hfr35,hf35⟩;have ho35:Own b8 5 w35.heap o35 c35 dP:=by rw[hdP];exact ho35
 have h35:(frW (aJ pl9 4).1 (nF (aJ pl9 4).1))=dP:=hdP.symm;rw[h35];refine TB aV aK rfl rfl (ho34.WR hf35) ho35.vw (by rw[hA4,length_append] at p4;omega) (by rw[hA4,length_append] at p4;unfold maxLen;omega) rfl ?_;intro o36 c36 w36 ho36 hf36 hr36 hn36;rw[←hA4] at ho36 ⊢;have hfr36:Fr w25.heap.size o36:=fun a ha=>by rcases hr36 a ha with h|h;exact hfr33 a h;have:=hf35.size;omega
 have hnS36:∀ a,o36=some a→a.block≠gS:=fun a ha=>by rcases hr36 a ha with h|h;exact hnS33 a h;have:=hf35.size;omega
 have hgS36:=hf36.obj (hf35.obj hgS34 id) (fun⟨a,ha,e⟩=>hnS33 a ha e);have hf2536:aA (· = gS) w25 w36:=(hf2534.trans hf35.any).WO hf36 (fun k ⟨a,ha,e⟩=>.inr (by have:=hfr33 a ha;omega));have hz36:=hf2536.size;refine Gz 9 ?_;refine Tx aI rfl rfl rfl hgS36 rfl ?_;intro w37 hgS37 hs37 hf37;have ho37:=ho36.WS hf37 (fun a ha h=>hnS36 a ha h);have hf2537:aA (· = gS) w25 w37:=hf2536.trans hf37;have hB37:=hB25.WS hf2537 (fun k hk h=>by have h:k=gS:=h;rcases hk with h2|h2;have h2:k=gB:=h2;omega;omega);refine Gz 5 ?_;refine Ts KZ rfl (wI _ gB (aJ ids 2).1 w37 hB37 (by omega)) rfl ?_;rintro _ w38 ⟨o38,c38,rfl,ho38,hfr38,hf38⟩;have ho38:Own b8 5 w38.heap o38 c38 dD:=by rw[hdD];exact ho38
 have h38:(frW (aJ ids 2).1 (nF (aJ ids 2).1))=dD:=hdD.symm;rw[h38];refine TB aV aK rfl rfl (ho37.WR hf38) ho38.vw (by rw[hA5,length_append] at p5;omega) (by rw[hA5,length_append] at p5;unfold maxLen;omega) rfl ?_;intro o39 c39 w39 ho39 hf39 hr39 hn39;rw[←hA5] at ho39 ⊢;have hfr39:Fr w25.heap.size o39:=fun a ha=>by rcases hr39 a ha with h|h;exact hfr36 a h;have:=hf38.size;omega
 have hnS39:∀ a,o39=some a→a.block≠gS:=fun a ha=>by rcases hr39 a ha with h|h;exact hnS36 a h;have:=hf38.size;omega
 have hgS39:=hf39.obj (hf38.obj hgS37 id) (fun⟨a,ha,e⟩=>hnS36 a ha e);have hf2539:aA (· = gS) w25 w39:=(hf2537.trans hf38.any).WO hf39 (fun k ⟨a,ha,e⟩=>.inr (by have:=hfr36 a ha;omega));have hz39:=hf2539.size;refine Gz 9 ?_;refine Tx aI rfl rfl rfl hgS39 rfl ?_;intro w40 hgS40 hs40 hf40;have ho40:=ho39.WS hf40 (fun a ha h=>hnS39 a ha h);have hf2540:aA (· = gS) w25 w40:=hf2539.trans hf40;have hM40:=hM25.WS hf2540 (fun k hk h=>hk (by have h:k=gS:=h;exact hn15 k (by omega))) (fun _ _=>rfl);refine Gz 8 ?_;refine Ts KZ rfl (nU (Gf a15 qs ids (bM qs).files S) _ gm S.fur w40 hM40.rwi3 (by omega)) rfl ?_;rintro _ w41 ⟨o41,c41,rfl,ho41,hfr41,hf41⟩;have ho41:Own b8 5 w41.heap o41 c41 dF:=by rw[hdF];exact ho41
 have h41:(frW S.fur (nF S.fur))=dF:=hdF.symm;rw[h41];refine TB aV aK rfl rfl (ho40.WR hf41) ho41.vw (by rw[hA6,length_append] at p6;omega) (by rw[hA6,length_append] at p6;unfold maxLen;omega) rfl ?_;intro o42 c42 w42 ho42 hf42 hr42 hn42;rw[←hA6] at ho42 ⊢;have hnS42:∀ a,o42=some a→a.block≠gS:=fun a ha=>by rcases hr42 a ha with h|h;exact hnS39 a h;have:=hf41.size;omega
 have hgS42:=hf42.obj (hf41.obj hgS40 id) (fun⟨a,ha,e⟩=>hnS39 a ha e);have hf2542:aA (· = gS) w25 w42:=(hf2540.trans hf41.any).WO hf42 (fun k ⟨a,ha,e⟩=>.inr (by have:=hfr39 a ha;omega));have hz42:=hf2542.size;refine Gz 9 ?_;refine Tx aI rfl rfl rfl hgS42 rfl ?_;intro w43 hgS43 hs43 hf43;have ho43:=ho42.WS hf43 (fun a ha h=>hnS42 a ha h);have hf2543:aA (· = gS) w25 w43:=hf2542.trans hf43;have hW43:aA nob w1 w43:=hW25.tw hf2543;have hgS43:w43.heap[gS]?=some (.cells (dB (bO qs ids (aF qs ids))).toArray 93 (0,0)):=by rw[hsup];exact hgS43
 refine Gz 6 ?_;refine cL (Tw (u:=iV (64+(A6.length:Int))) (Tu aI rfl (aE (i:=0) hgS43 rfl)) (by rw[hsup];rfl)) ?_;refine fK 0 ?_ ?_<;>intro h212
 ·have hib:rW qs ids=([],3):=by unfold rW;rw[q6,if_pos h212]
  refine Gz 12 ?_;refine⟨_,rfl,.inr ⟨hz,?_⟩⟩;rw[←hqs];exact⟨ids,none,0,hIds,by rw[hib];rfl,by rw[hib];exact WA,Wy,hf1.trans hW43⟩
 have hib:rW qs ids=((mW (bO qs ids (aF qs ids))).1++A6,0):=by unfold rW;rw[q6,if_neg h212]
 refine Gz 7 ?_;refine cL (TI (cs:=dB (bO qs ids (aF qs ids))) dS rfl (cC hgS43 0 rfl)) ?_;refine cA 0 S9 (Jp (bO qs ids (aF qs ids)) w43) ?_;rintro _ w44 ⟨o44,c44,rfl,ho44,hfr44,hf44⟩;have hpsl:(mW (bO qs ids (aF qs ids))).1.length≤64:=by unfold mW;split;exact Nat.le_of_eq (kZ _);exact Nat.zero_le _
 refine Gz 11 ?_;refine TB aV aK rfl rfl ho44 (ho43.WR hf44).vw (by omega) (by unfold maxLen;omega) rfl ?_;intro o45 c45 w45 ho45 hf45 hr45 hn45;refine Gz 6 ?_;have hfin:aA nob W w45:=((hf1.trans hW43).trans hf44).WO hf45 (fun k ⟨a,ha,e⟩=>.inr (by have:=hfr44 a ha;have:=(hf1.trans hW43).size;omega));refine⟨_,rfl,.inr ⟨hz,?_⟩⟩;rw[←hqs];exact⟨ids,o45,c45,hIds,by rw[hib],by rw[hib];exact ho45,fun a ha=>by have:=(hf1.trans hW43).size;rcases hr45 a ha with h|h;have:=hfr44 a h;omega;have:=hf44.size;omega,hfin⟩
end
section
open Go Go.RowKit Go.Maps
def Kk(n:Nd):Nd:={ n with names:=n.names.take 18,data:=n.data.take 1500,xs:=n.xs.take 10 }
def bW(p:NdH×Nd):NdH×Nd:=(⟨iK p.1.names 18,iK p.1.data 1500,iK p.1.xs 10⟩,Kk p.2)
def wW(ps:List (NdH×Nd)):List (NdH×Nd):=(ps.take 40).map bW
variable {D:Nat→Prop}
theorem NdV.mfew{H:Array Obj}{p:NdH×Nd}(v:NdV D H p):NdV D H (bW p):=⟨v.1.cut 18,v.2.1.cut 1500,v.2.2.cut 10⟩
theorem smN.mfew{n:Nd}(h:smN n):smN (Kk n):=⟨h.1,fun s hs=>h.2.1 s (mem_of_mem_take hs),fun x hx=>h.2.2 x (mem_of_mem_take hx)⟩
theorem Kj{R:Nd→Prop}{ps:List (NdH×Nd)}(h:∀ p∈ps,R (Kk p.2)):∀ p∈wW ps,R p.2:=by
 intro p hp;obtain⟨q,hq,rfl⟩:=mem_map.1 hp;exact h q (mem_of_mem_take hq)
theorem Ki(ps:List (NdH×Nd)):(wW ps).length≤40:=by unfold wW;rw[length_map,length_take];omega
theorem oH{ps:List (NdH×Nd)}{i:Nat}{p:NdH×Nd}(hp:ps[i]?=some p):(ps.take (i+1)).map bW=(ps.take i).map bW++[bW p]:=by rw[tkL hp];simp
theorem MK(lo:Option Addr)(lc:Nat)(ps:List (NdH×Nd))(W:World)(hv:cD D W.heap lo lc ps) :
 CA 10 [.slice lo ps.length lc] W fun v w'=>∃ o c,v=.slice o (wW ps).length c∧bF 10 aM 68 w'.heap o c (wW ps)∧Fr W.heap.size o∧aA nob W w'∧cD D w'.heap o c (wW ps):=by
 refine cS 50 [(0,_)] Tryz.func10 ?_;refine Gz 7 ?_;refine Uk aB bH rfl ?_;intro w1 ho1 hs1 hf1;refine Gz 10 ?_;refine TA (β:=Nat×Option Addr×Nat) (fun⟨i,o,c⟩=>[(0,.slice lo ps.length lc),(3,.slice o ((ps.take i).map bW).length c),(4,iV i)]) (fun⟨i,o,c⟩ w=>i≤ps.length∧i≤40∧bF 10 aM 68 w.heap o c ((ps.take i).map bW)∧Fr W.heap.size o∧aA nob W w) (fun⟨i,o,c⟩=>ps.length-i) ⟨0,some ⟨W.heap.size,0,none⟩,0⟩ ⟨rfl,rfl,rfl,trivial⟩ ⟨Nat.zero_le _,Nat.zero_le _,ho1,fun a ha=>by cases ha;exact Nat.le_refl _,hf1⟩ ?_;rintro⟨i,o,c⟩ w2 ⟨hi,hi60,ho2,hfo,hF2⟩;refine fK 6 ?_ ?_<;>intro h10
 ·refine fW 2 ?_ ?_<;>intro h13
  ·have hil:i<ps.length:=by omega
   obtain⟨p,hp⟩:∃ p,ps[i]?=some p:=⟨_,List.getElem?_eq_getElem hil⟩
   have hpm:=mem_of_getElem? hp;have hv2:=hv.WR hF2;refine Gz 2 ?_;refine aW [(0,_),(3,_),(4,_),(14,_)] ?_;refine Gz 10 ?_;refine cL (Tv bH rfl rfl hv2.1.non (by omega)) ?_;refine cL (TI (cs:=aM p) eI rfl (fun j v hj=>hv2.1.rowZ i rfl hp j v hj)) ?_;refine Tz kT rfl ?_;intro w3 hg3 hs3 hf3;obtain⟨q,hq⟩:∃ q,q=w2.heap.size:=⟨_,rfl⟩
   rw[←hq] at hg3 ⊢;have hqW:W.heap.size≤q:=by rw[hq];exact hF2.size
   refine TX (vs:=aM p) eI rfl rfl (aB p).2 hg3 rfl ?_;intro w4 hg4 hs4 hf4;have hf24:aA nob w2 w4:=hf3.WO hf4 (fun k e=>.inr (by have e:k=q:=e;omega));have hF4:aA nob W w4:=hF2.trans hf24;have hn4:=(hv.WR hF4).2 p hpm;have ho4:=ho2.WR hf24;have hoq:∀ a,o=some a→¬ a.block=q:=fun a ha=>by have:=ho2.lt a ha;omega
   refine fK 8 ?_ ?_<;>intro h24
   ·refine Gz 6 ?_;refine cL (Tw (u:=hd ⟨p.1.names.a,18,p.1.names.c⟩) (TP jO rfl rfl (by have:=hn4.1.2.1.le;have:=hn4.1.1;omega)) (by rw[aU];rfl)) ?_;refine Gz 1 ?_;refine Tx kI rfl rfl rfl hg4 rfl ?_;intro w5 hg5 hs5 hf5;have hgA:w5.heap[q]?=some (.cells (aM ((⟨iK p.1.names 18,p.1.data,p.1.xs⟩:NdH),p.2)).toArray 68 (0,0)):=by rw[eL (by omega)];exact hg5
    have hF5:aA nob W w5:=hF4.WO hf5 (fun k e=>.inr (by have e:k=q:=e;omega));have ho5:=ho4.WS hf5 hoq;refine Gz 6 ?_;have hn5:=(hv.WR hF5).2 p hpm;refine cL (Tw (u:=hd p.1.data) (Tu aT rfl (aE hgA rfl)) rfl) ?_;refine fK 1 ?_ ?_<;>intro h32
    ·refine Gz 5 ?_;refine cL (Tw (u:=hd p.1.data) (Tu aT rfl (aE hgA rfl)) rfl) ?_;refine cL (Tw (u:=hd ⟨p.1.data.a,1500,p.1.data.c⟩) (TP aK rfl rfl (by have:=hn5.2.1.2.1.le;have:=hn5.2.1.1;omega)) (by rw[aU];rfl)) ?_;refine Gz 1 ?_;refine Tx aT rfl rfl rfl hgA rfl ?_;intro w6 hg6 hs6 hf6;have hgB:w6.heap[q]?=some (.cells (aM ((⟨iK p.1.names 18,iK p.1.data 1500,p.1.xs⟩:NdH),p.2)).toArray 68 (0,0)):=by rw[eL (n:=1500) (by omega)];exact hg6
     have hF6:aA nob W w6:=hF5.WO hf6 (fun k e=>.inr (by have e:k=q:=e;omega));have ho6:=ho5.WS hf6 hoq;refine Gz 6 ?_;have hn6:=(hv.WR hF6).2 p hpm;refine cL (Tw (u:=hd p.1.xs) (Tu dN rfl (aE hgB rfl)) rfl) ?_;refine fK 1 ?_ ?_<;>intro h40
     ·refine Gz 5 ?_;refine cL (Tw (u:=hd p.1.xs) (Tu dN rfl (aE hgB rfl)) rfl) ?_;refine cL (Tw (u:=hd ⟨p.1.xs.a,10,p.1.xs.c⟩) (TP jH rfl rfl (by obtain⟨k1,ys,k2,k3,_⟩:=hn6.2.2;have:=k2.le;omega)) (by rw[aU];rfl)) ?_;refine Gz 1 ?_;refine Tx dN rfl rfl rfl hgB rfl ?_;intro w7 hg7 hs7 hf7;have hgC:w7.heap[q]?=some (.cells (aM (bW p)).toArray 68 (0,0)):=by unfold bW;rw[eL (n:=10) (by omega)];exact hg7
      have hF7:aA nob W w7:=hF6.WO hf7 (fun k e=>.inr (by have e:k=q:=e;omega));have ho7:=ho6.WS hf7 hoq;refine Gz 4 ?_;refine cL (TI (cs:=aM (bW p)) eI rfl (cC hgC 0 rfl)) ?_;obtain⟨y,hy⟩:∃ y,y=bW p:=⟨_,rfl⟩
      rw[←hy];refine TS bH (cs:=(aM y).toArray) kT rfl rfl rfl (by kernel_rfl) rfl ?_;intro w8 hg8 hs8 hf8;have ho8:bF 10 aM 68 w8.heap (some ⟨w7.heap.size,0,none⟩) 1 [y]:=bL (xs:=[y]) aB (by simpa using hg8) (by show 1≤maxLen;decide);refine TH aB rfl bH rfl rfl (ho7.WR hf8) (ho8.vw aB) (by simp only[length_singleton,length_map,length_take];omega) (by simp only[length_singleton,length_map,length_take];unfold maxLen;omega) rfl ?_;intro o9 c9 w9 ho9 hf9 hr9 hn9;rw[hy,←oH hp] at ho9 ⊢;have hF9:aA nob W w9:=(hF7.trans hf8).WO hf9 hfo.step;have hfo9:Fr W.heap.size o9:=cQ hfo hr9 (by have:=hF7.size;have:=hf8.size;omega);refine Gz 9 ?_;exact aG ⟨i+1,o9,c9⟩ ⟨by omega,by omega,ho9,hfo9,hF9⟩ (by show ps.length-(i+1)<ps.length-i;omega)
     have hgC:w6.heap[q]?=some (.cells (aM (bW p)).toArray 68 (0,0)):=by unfold bW;rw[fX (n:=10) (by omega)];exact hgB
     have hF7:=hF6;have ho7:=ho6
     rename World=>w7
     refine Gz 7 ?_;refine cL (TI (cs:=aM (bW p)) eI rfl (cC hgC 0 rfl)) ?_;obtain⟨y,hy⟩:∃ y,y=bW p:=⟨_,rfl⟩
     rw[←hy];refine TS bH (cs:=(aM y).toArray) kT rfl rfl rfl (by kernel_rfl) rfl ?_;intro w8 hg8 hs8 hf8;have ho8:bF 10 aM 68 w8.heap (some ⟨w7.heap.size,0,none⟩) 1 [y]:=bL (xs:=[y]) aB (by simpa using hg8) (by show 1≤maxLen;decide);refine TH aB rfl bH rfl rfl (ho7.WR hf8) (ho8.vw aB) (by simp only[length_singleton,length_map,length_take];omega) (by simp only[length_singleton,length_map,length_take];unfold maxLen;omega) rfl ?_;intro o9 c9 w9 ho9 hf9 hr9 hn9;rw[hy,←oH hp] at ho9 ⊢;have hF9:aA nob W w9:=(hF7.trans hf8).WO hf9 hfo.step;have hfo9:Fr W.heap.size o9:=cQ hfo hr9 (by have:=hF7.size;have:=hf8.size;omega);refine Gz 9 ?_;exact aG ⟨i+1,o9,c9⟩ ⟨by omega,by omega,ho9,hfo9,hF9⟩ (by show ps.length-(i+1)<ps.length-i;omega)
    have hgB:w5.heap[q]?=some (.cells (aM ((⟨iK p.1.names 18,iK p.1.data 1500,p.1.xs⟩:NdH),p.2)).toArray 68 (0,0)):=by rw[fX (n:=1500) (by omega)];exact hgA
    have hF6:=hF5;have ho6:=ho5
    rename World=>w6
    refine Gz 9 ?_;have hn6:=(hv.WR hF6).2 p hpm;refine cL (Tw (u:=hd p.1.xs) (Tu dN rfl (aE hgB rfl)) rfl) ?_;refine fK 1 ?_ ?_<;>intro h40
    ·refine Gz 5 ?_;refine cL (Tw (u:=hd p.1.xs) (Tu dN rfl (aE hgB rfl)) rfl) ?_;refine cL (Tw (u:=hd ⟨p.1.xs.a,10,p.1.xs.c⟩) (TP jH rfl rfl (by obtain⟨k1,ys,k2,k3,_⟩:=hn6.2.2;have:=k2.le;omega)) (by rw[aU];rfl)) ?_;refine Gz 1 ?_;refine Tx dN rfl rfl rfl hgB rfl ?_;intro w7 hg7 hs7 hf7;have hgC:w7.heap[q]?=some (.cells (aM (bW p)).toArray 68 (0,0)):=by unfold bW;rw[eL (n:=10) (by omega)];exact hg7
     have hF7:aA nob W w7:=hF6.WO hf7 (fun k e=>.inr (by have e:k=q:=e;omega));have ho7:=ho6.WS hf7 hoq;refine Gz 4 ?_;refine cL (TI (cs:=aM (bW p)) eI rfl (cC hgC 0 rfl)) ?_;obtain⟨y,hy⟩:∃ y,y=bW p:=⟨_,rfl⟩
     rw[←hy];refine TS bH (cs:=(aM y).toArray) kT rfl rfl rfl (by kernel_rfl) rfl ?_;intro w8 hg8 hs8 hf8;have ho8:bF 10 aM 68 w8.heap (some ⟨w7.heap.size,0,none⟩) 1 [y]:=bL (xs:=[y]) aB (by simpa using hg8) (by show 1≤maxLen;decide);refine TH aB rfl bH rfl rfl (ho7.WR hf8) (ho8.vw aB) (by simp only[length_singleton,length_map,length_take];omega) (by simp only[length_singleton,length_map,length_take];unfold maxLen;omega) rfl ?_;intro o9 c9 w9 ho9 hf9 hr9 hn9;rw[hy,←oH hp] at ho9 ⊢;have hF9:aA nob W w9:=(hF7.trans hf8).WO hf9 hfo.step;have hfo9:Fr W.heap.size o9:=cQ hfo hr9 (by have:=hF7.size;have:=hf8.size;omega);refine Gz 9 ?_;exact aG ⟨i+1,o9,c9⟩ ⟨by omega,by omega,ho9,hfo9,hF9⟩ (by show ps.length-(i+1)<ps.length-i;omega)
    have hgC:w6.heap[q]?=some (.cells (aM (bW p)).toArray 68 (0,0)):=by unfold bW;rw[fX (n:=10) (by omega)];exact hgB
    have hF7:=hF6;have ho7:=ho6
    rename World=>w7
    refine Gz 7 ?_;refine cL (TI (cs:=aM (bW p)) eI rfl (cC hgC 0 rfl)) ?_;obtain⟨y,hy⟩:∃ y,y=bW p:=⟨_,rfl⟩
    rw[←hy];refine TS bH (cs:=(aM y).toArray) kT rfl rfl rfl (by kernel_rfl) rfl ?_;intro w8 hg8 hs8 hf8;have ho8:bF 10 aM 68 w8.heap (some ⟨w7.heap.size,0,none⟩) 1 [y]:=bL (xs:=[y]) aB (by simpa using hg8) (by show 1≤maxLen;decide);refine TH aB rfl bH rfl rfl (ho7.WR hf8) (ho8.vw aB) (by simp only[length_singleton,length_map,length_take];omega) (by simp only[length_singleton,length_map,length_take];unfold maxLen;omega) rfl ?_;intro o9 c9 w9 ho9 hf9 hr9 hn9;rw[hy,←oH hp] at ho9 ⊢;have hF9:aA nob W w9:=(hF7.trans hf8).WO hf9 hfo.step;have hfo9:Fr W.heap.size o9:=cQ hfo hr9 (by have:=hF7.size;have:=hf8.size;omega);refine Gz 9 ?_;exact aG ⟨i+1,o9,c9⟩ ⟨by omega,by omega,ho9,hfo9,hF9⟩ (by show ps.length-(i+1)<ps.length-i;omega)
   have hgA:w4.heap[q]?=some (.cells (aM ((⟨iK p.1.names 18,p.1.data,p.1.xs⟩:NdH),p.2)).toArray 68 (0,0)):=by rw[fX (by omega)];exact hg4
   have hF5:=hF4;have ho5:=ho4
   rename World=>w5
   refine Gz 9 ?_;have hn5:=(hv.WR hF5).2 p hpm;refine cL (Tw (u:=hd p.1.data) (Tu aT rfl (aE hgA rfl)) rfl) ?_;refine fK 1 ?_ ?_<;>intro h32
   ·refine Gz 5 ?_;refine cL (Tw (u:=hd p.1.data) (Tu aT rfl (aE hgA rfl)) rfl) ?_;refine cL (Tw (u:=hd ⟨p.1.data.a,1500,p.1.data.c⟩) (TP aK rfl rfl (by have:=hn5.2.1.2.1.le;have:=hn5.2.1.1;omega)) (by rw[aU];rfl)) ?_;refine Gz 1 ?_;refine Tx aT rfl rfl rfl hgA rfl ?_;intro w6 hg6 hs6 hf6;have hgB:w6.heap[q]?=some (.cells (aM ((⟨iK p.1.names 18,iK p.1.data 1500,p.1.xs⟩:NdH),p.2)).toArray 68 (0,0)):=by rw[eL (n:=1500) (by omega)];exact hg6
    have hF6:aA nob W w6:=hF5.WO hf6 (fun k e=>.inr (by have e:k=q:=e;omega));have ho6:=ho5.WS hf6 hoq;refine Gz 6 ?_;have hn6:=(hv.WR hF6).2 p hpm;refine cL (Tw (u:=hd p.1.xs) (Tu dN rfl (aE hgB rfl)) rfl) ?_;refine fK 1 ?_ ?_<;>intro h40
    ·refine Gz 5 ?_;refine cL (Tw (u:=hd p.1.xs) (Tu dN rfl (aE hgB rfl)) rfl) ?_;refine cL (Tw (u:=hd ⟨p.1.xs.a,10,p.1.xs.c⟩) (TP jH rfl rfl (by obtain⟨k1,ys,k2,k3,_⟩:=hn6.2.2;have:=k2.le;omega)) (by rw[aU];rfl)) ?_;refine Gz 1 ?_;refine Tx dN rfl rfl rfl hgB rfl ?_;intro w7 hg7 hs7 hf7;have hgC:w7.heap[q]?=some (.cells (aM (bW p)).toArray 68 (0,0)):=by unfold bW;rw[eL (n:=10) (by omega)];exact hg7
     have hF7:aA nob W w7:=hF6.WO hf7 (fun k e=>.inr (by have e:k=q:=e;omega));have ho7:=ho6.WS hf7 hoq;refine Gz 4 ?_;refine cL (TI (cs:=aM (bW p)) eI rfl (cC hgC 0 rfl)) ?_;obtain⟨y,hy⟩:∃ y,y=bW p:=⟨_,rfl⟩
     rw[←hy];refine TS bH (cs:=(aM y).toArray) kT rfl rfl rfl (by kernel_rfl) rfl ?_;intro w8 hg8 hs8 hf8;have ho8:bF 10 aM 68 w8.heap (some ⟨w7.heap.size,0,none⟩) 1 [y]:=bL (xs:=[y]) aB (by simpa using hg8) (by show 1≤maxLen;decide);refine TH aB rfl bH rfl rfl (ho7.WR hf8) (ho8.vw aB) (by simp only[length_singleton,length_map,length_take];omega) (by simp only[length_singleton,length_map,length_take];unfold maxLen;omega) rfl ?_;intro o9 c9 w9 ho9 hf9 hr9 hn9;rw[hy,←oH hp] at ho9 ⊢;have hF9:aA nob W w9:=(hF7.trans hf8).WO hf9 hfo.step;have hfo9:Fr W.heap.size o9:=cQ hfo hr9 (by have:=hF7.size;have:=hf8.size;omega);refine Gz 9 ?_;exact aG ⟨i+1,o9,c9⟩ ⟨by omega,by omega,ho9,hfo9,hF9⟩ (by show ps.length-(i+1)<ps.length-i;omega)
    have hgC:w6.heap[q]?=some (.cells (aM (bW p)).toArray 68 (0,0)):=by unfold bW;rw[fX (n:=10) (by omega)];exact hgB
    have hF7:=hF6;have ho7:=ho6
    rename World=>w7
    refine Gz 7 ?_;refine cL (TI (cs:=aM (bW p)) eI rfl (cC hgC 0 rfl)) ?_;obtain⟨y,hy⟩:∃ y,y=bW p:=⟨_,rfl⟩
    rw[←hy];refine TS bH (cs:=(aM y).toArray) kT rfl rfl rfl (by kernel_rfl) rfl ?_;intro w8 hg8 hs8 hf8;have ho8:bF 10 aM 68 w8.heap (some ⟨w7.heap.size,0,none⟩) 1 [y]:=bL (xs:=[y]) aB (by simpa using hg8) (by show 1≤maxLen;decide);refine TH aB rfl bH rfl rfl (ho7.WR hf8) (ho8.vw aB) (by simp only[length_singleton,length_map,length_take];omega) (by simp only[length_singleton,length_map,length_take];unfold maxLen;omega) rfl ?_;intro o9 c9 w9 ho9 hf9 hr9 hn9;rw[hy,←oH hp] at ho9 ⊢;have hF9:aA nob W w9:=(hF7.trans hf8).WO hf9 hfo.step;have hfo9:Fr W.heap.size o9:=cQ hfo hr9 (by have:=hF7.size;have:=hf8.size;omega);refine Gz 9 ?_;exact aG ⟨i+1,o9,c9⟩ ⟨by omega,by omega,ho9,hfo9,hF9⟩ (by show ps.length-(i+1)<ps.length-i;omega)
   have hgB:w5.heap[q]?=some (.cells (aM ((⟨iK p.1.names 18,iK p.1.data 1500,p.1.xs⟩:NdH),p.2)).toArray 68 (0,0)):=by rw[fX (n:=1500) (by omega)];exact hgA
   have hF6:=hF5;have ho6:=ho5
   rename World=>w6
   refine Gz 9 ?_;have hn6:=(hv.WR hF6).2 p hpm;refine cL (Tw (u:=hd p.1.xs) (Tu dN rfl (aE hgB rfl)) rfl) ?_;refine fK 1 ?_ ?_<;>intro h40
   ·refine Gz 5 ?_;refine cL (Tw (u:=hd p.1.xs) (Tu dN rfl (aE hgB rfl)) rfl) ?_;refine cL (Tw (u:=hd ⟨p.1.xs.a,10,p.1.xs.c⟩) (TP jH rfl rfl (by obtain⟨k1,ys,k2,k3,_⟩:=hn6.2.2;have:=k2.le;omega)) (by rw[aU];rfl)) ?_;refine Gz 1 ?_;refine Tx dN rfl rfl rfl hgB rfl ?_;intro w7 hg7 hs7 hf7;have hgC:w7.heap[q]?=some (.cells (aM (bW p)).toArray 68 (0,0)):=by unfold bW;rw[eL (n:=10) (by omega)];exact hg7
    have hF7:aA nob W w7:=hF6.WO hf7 (fun k e=>.inr (by have e:k=q:=e;omega));have ho7:=ho6.WS hf7 hoq;refine Gz 4 ?_;refine cL (TI (cs:=aM (bW p)) eI rfl (cC hgC 0 rfl)) ?_;obtain⟨y,hy⟩:∃ y,y=bW p:=⟨_,rfl⟩
    rw[←hy];refine TS bH (cs:=(aM y).toArray) kT rfl rfl rfl (by kernel_rfl) rfl ?_;intro w8 hg8 hs8 hf8;have ho8:bF 10 aM 68 w8.heap (some ⟨w7.heap.size,0,none⟩) 1 [y]:=bL (xs:=[y]) aB (by simpa using hg8) (by show 1≤maxLen;decide);refine TH aB rfl bH rfl rfl (ho7.WR hf8) (ho8.vw aB) (by simp only[length_singleton,length_map,length_take];omega) (by simp only[length_singleton,length_map,length_take];unfold maxLen;omega) rfl ?_;intro o9 c9 w9 ho9 hf9 hr9 hn9;rw[hy,←oH hp] at ho9 ⊢;have hF9:aA nob W w9:=(hF7.trans hf8).WO hf9 hfo.step;have hfo9:Fr W.heap.size o9:=cQ hfo hr9 (by have:=hF7.size;have:=hf8.size;omega);refine Gz 9 ?_;exact aG ⟨i+1,o9,c9⟩ ⟨by omega,by omega,ho9,hfo9,hF9⟩ (by show ps.length-(i+1)<ps.length-i;omega)
   have hgC:w6.heap[q]?=some (.cells (aM (bW p)).toArray 68 (0,0)):=by unfold bW;rw[fX (n:=10) (by omega)];exact hgB
   have hF7:=hF6;have ho7:=ho6
   rename World=>w7
   refine Gz 7 ?_;refine cL (TI (cs:=aM (bW p)) eI rfl (cC hgC 0 rfl)) ?_;obtain⟨y,hy⟩:∃ y,y=bW p:=⟨_,rfl⟩
   rw[←hy];refine TS bH (cs:=(aM y).toArray) kT rfl rfl rfl (by kernel_rfl) rfl ?_;intro w8 hg8 hs8 hf8;have ho8:bF 10 aM 68 w8.heap (some ⟨w7.heap.size,0,none⟩) 1 [y]:=bL (xs:=[y]) aB (by simpa using hg8) (by show 1≤maxLen;decide);refine TH aB rfl bH rfl rfl (ho7.WR hf8) (ho8.vw aB) (by simp only[length_singleton,length_map,length_take];omega) (by simp only[length_singleton,length_map,length_take];unfold maxLen;omega) rfl ?_;intro o9 c9 w9 ho9 hf9 hr9 hn9;rw[hy,←oH hp] at ho9 ⊢;have hF9:aA nob W w9:=(hF7.trans hf8).WO hf9 hfo.step;have hfo9:Fr W.heap.size o9:=cQ hfo hr9 (by have:=hF7.size;have:=hf8.size;omega);refine Gz 9 ?_;exact aG ⟨i+1,o9,c9⟩ ⟨by omega,by omega,ho9,hfo9,hF9⟩ (by show ps.length-(i+1)<ps.length-i;omega)
  refine Gz 2 ?_;refine aW [(0,_),(3,_),(4,_),(14,_)] ?_;refine Gz 15 ?_;have e:ps.take i=ps.take 40:=by
   by_cases k:i=40
   ·rw[k]
   ·rw[take_of_length_le (by omega),take_of_length_le (by omega)]
  rw[e] at ho2 ⊢;refine⟨_,rfl,o,c,rfl,ho2,hfo,hF2,ho2.vw aB,fun p hp=>?_⟩;obtain⟨r,hr,rfl⟩:=mem_map.1 hp;exact((hv.WR hF2).2 r (mem_of_mem_take hr)).mfew
 refine Gz 5 ?_;refine aW [(0,_),(3,_),(4,_),(14,_)] ?_;refine Gz 15 ?_;have e:ps.take i=ps.take 40:=by
  by_cases k:i=40
  ·rw[k]
  ·rw[take_of_length_le (by omega),take_of_length_le (by omega)]
 rw[e] at ho2 ⊢;refine⟨_,rfl,o,c,rfl,ho2,hfo,hF2,ho2.vw aB,fun p hp=>?_⟩;obtain⟨r,hr,rfl⟩:=mem_map.1 hp;exact((hv.WR hF2).2 r (mem_of_mem_take hr)).mfew
theorem Ha{qs:List (NdH×Nd)}{ids:List Int}(G:GdT qs)(I:zJ qs ids)(h1:qs.length=1):64+((eW (aF qs ids) ids).length:Int)≤1048576:=by
 have F:=BN (qs:=qs) (fun q hq=>⟨G.ino q hq,(G.may q hq).2.2.2.2.2.2.1⟩);obtain⟨S,e,hI,hB,_⟩:=tZ G I F;have e:(aF qs ids).s=S:=e;have hA:=GS G I;have hm:S.many≤2:=by
  have h1:=List.length_filter_le (fun r:Int=>decide (0<r)) S.refs;rw[hI.many];unfold rN;rw[hI.rl] at h1;omega
 have h2:=hI.bi;have h3:S.lst.length≤10440*S.many:=hB;have h4:=hI.bf;have hT:=F.tn;have hFB:=F.b;rw[length_map] at hT hFB;have hb:=IV F.t (bM qs).ds;have n4:=hA.n4;have n2:=hA.n2;have d1:=pY (aF qs ids).s.ino;have d2:=pY (aF qs ids).s.lst;have d3:=pY (aJ (aF qs ids).pl 4).1;have d4:=pY (aJ ids 2).1;have d5:=pY (aF qs ids).s.fur;rw[e] at d1 d2 d5;have l1:(lE (aF qs ids)).length=(eM (bM qs).tails (bM qs).ds).1.B.length:=rfl;have l2:(iH (aF qs ids)).length=(lE (aF qs ids)).length+(dnW (aF qs ids).s.ino).length:=length_append;have l3:(hO (aF qs ids)).length=(iH (aF qs ids)).length+(dnW (aF qs ids).s.lst).length:=length_append;have l4:(gH (aF qs ids)).length=(hO (aF qs ids)).length+(dnW (aJ (aF qs ids).pl 4).1).length:=length_append;have l5:(fT (aF qs ids) ids).length=(gH (aF qs ids)).length+(dnW (aJ ids 2).1).length:=length_append;have l6:(eW (aF qs ids) ids).length=(fT (aF qs ids) ids).length+(dnW (aF qs ids).s.fur).length:=length_append;rw[e] at l2 l3 l6;omega
theorem Mg{D:Nat→Prop}(H:Array Obj):NdV D H fQ:=
 ⟨⟨rfl,Wz 0 (Nat.zero_le _),fun h=>absurd rfl h⟩,⟨rfl,Wz 0 (Nat.zero_le _),fun h=>absurd rfl h⟩,⟨rfl,[],⟨Nat.zero_le _,Nat.zero_le _,fun h=>absurd rfl h,fun i x hx=>by simp at hx⟩,rfl,fun h=>absurd rfl h,fun i x y hx=>by simp at hx⟩⟩
theorem MF:mnt []=none:=by
 have h:aH []=(zF,2):=by unfold aH;rw[if_neg (fun h=>by have:=h.1;simp at this)]
 unfold mnt;rw[h,if_pos (by decide)]
theorem Hj{qs:List (NdH×Nd)}{ids:List Int}(M:ImB qs ids)(h1:qs.length=1){s:MSt}(hs:MI qs ids (iZ qs 17 0) s):mB ⟨imB qs ids,bO qs ids (aF qs ids),plB qs ids,ids,s.1⟩ ((bO qs ids (aF qs ids)) 9)=([],0):=by
 obtain⟨r,hr,hrn,hrk⟩:=M.G.root;have hF9:(bO qs ids (aF qs ids)) 9=rfB qs ids r.2:=by
  show (stB qs ids).refs.getD (ndB qs ((0:Nat):Int)).ino.toNat 0-1=_;rw[bI hr];rfl
 have hR:=(M.rk hr).2;have hk:bN qs r.2.names qs.length=[]:=by
  apply List.eq_nil_iff_forall_not_mem.2;intro z hz;obtain⟨k,q,rfl,hq,hn⟩:=iB hz;have hk:=(List.getElem?_eq_some_iff.1 hq).1;obtain rfl:k=0:=by omega
  rw[hr] at hq;cases hq;have:=congrArg List.length hn;simp at this
 unfold mB;rw[hF9,M.known hs hr];simp only;rw[hR.kd,hrk,if_neg (fun h=>h rfl),hR.ls,hk];rfl
theorem HU(W:World):Calls Tryz.prog 8 #[] W (Ret fun v w'=>v=.bool true∧aA nob W w'):=by
 refine cS 48 [] Tryz.func8 ?_;refine Gz 7 ?_;refine Ts M9 rfl (rP none 0 [] W (Wz 0 (Nat.zero_le _)) (by decide)) rfl ?_;intro v w1 h1;obtain⟨hf1,h1⟩:=h1.of;obtain⟨rfl,_⟩:=h1.resolve_right (fun⟨x,g,_,h,_⟩=>by rw[MF] at h;cases h);refine Gz 9 ?_;refine cL (bU (aM fQ) NP kT) ?_;refine TS bH (cs:=(aM fQ).toArray) kT rfl rfl rfl (by kernel_rfl) rfl ?_;intro w2 hg2 hs2 hf2;have ho2:bF 10 aM 68 w2.heap (some ⟨w1.heap.size,0,none⟩) 1 [fQ]:=bL (xs:=[fQ]) aB (by simpa using hg2) (by show 1≤maxLen;decide);refine Ts fn9 rfl (Ao (some ⟨w1.heap.size,0,none⟩) 1 [fQ] w2 ⟨ho2.vw aB,by simp only[mem_singleton];rintro p rfl;exact Mg _⟩ (by simp only[mem_singleton];rintro p rfl;exact Mf) (by decide)) rfl ?_;rintro _ w3 hB;obtain⟨hz,ids,o3,c3,hIds,rfl,ho3,hfr3,hf3⟩:=hB.resolve_left (fun h=>h.1 DL);have hG:=Fb DL (by decide);have hl1:(gD [fQ]).length=1:=DP [fQ];have M:ImB (gD [fQ]) ids:=⟨hG,hIds,Ha hG hIds hl1⟩
 rw[M.img] at ho3 ⊢;obtain⟨s,hs1,hs2⟩:=M.mnt;have himl:(imB (gD [fQ]) ids).length≤1048576:=by unfold imB;rw[length_append,kZ];have:=M.sz;omega
 refine Gz 10 ?_;refine Ts M9 rfl (rP o3 c3 (imB (gD [fQ]) ids) w3 ho3.vw (by omega)) rfl ?_;intro v w4 h4;obtain⟨hf4,h4⟩:=h4.of;obtain⟨x,g,rfl,hx,_,_,hI⟩:=h4.resolve_left (fun⟨_,h⟩=>by rw[hs1] at h;cases h);rw[hs1] at hx;cases hx;refine Gz 11 ?_;refine cL (Uq JT rfl rfl) ?_;refine Gz 9 ?_;refine Ts O9 rfl (tM g _ w4 hI) rfl ?_;rintro _ w5 ⟨rfl,hw⟩;subst hw;have hb9 : -9223372036854775808≤(bO (gD [fQ]) ids (aF (gD [fQ]) ids)) 9∧(bO (gD [fQ]) ids (aF (gD [fQ]) ids)) 9≤9223372036854775807:=by have h:=M.may;have:=h.2.2.2.2.2.2.2.1;have:=h.2.2.2.2.2.2.2.2;omega
 refine Ts Qn rfl (Az g _ ((bO (gD [fQ]) ids (aF (gD [fQ]) ids)) 9) w5 hI hb9) rfl ?_;rintro v6 w6 ⟨hL,_⟩;rw[Hj M hl1 hs2] at hL;obtain⟨o6,c6,rfl,ho6,hfr6,hf6⟩:=hL;refine Gz 10 ?_;refine cL (Ug (Ud rfl rfl) rfl) ?_;refine Gz 2 ?_;refine cW (Ug (Ud rfl rfl) rfl) ?_;refine Gz 4 ?_;refine cW (Ug (Ud rfl rfl) rfl) ?_;refine Gz 3 ?_;refine cW (Ug (Ud rfl rfl) rfl) ?_;refine Gz 6 ?_;exact⟨_,rfl,rfl,(((hf1.trans hf2).trans hf3).trans hf4).trans hf6⟩
end
section
open Go Go.RowKit Go.Maps
def Bd(H:Array Obj)(o:Option Addr):Nat→Prop:=fun k=>k<H.size∧¬ blk o k
theorem Bd.step{H H':Array Obj}{o o':Option Addr}{n:Nat}(hr:∀ a,o'=some a→o=some a∨n≤a.block)(hn:H.size≤n)(hs:H.size≤H'.size):∀ k,Bd H o k→Bd H' o' k:=fun k ⟨h1,h2⟩=>⟨by omega,fun⟨a,ha,e⟩=>by
 rcases hr a ha with h|h
 ·exact h2 ⟨a,h,e⟩
 ·omega⟩
theorem Bd.mono{H H':Array Obj}{o:Option Addr}(hs:H.size≤H'.size):∀ k,Bd H o k→Bd H' o k:=fun k ⟨h1,h2⟩=>⟨by omega,h2⟩
theorem Nc{β:Type}{L:List Ent}{i:Nat}{e:Ent}(he:L[i]?=some e)(f:Ent→List β):(L.take (i+1)).flatMap f=(L.take i).flatMap f++f e∧((L.take i).flatMap f).length+(f e).length≤(L.flatMap f).length:=by
 have h1:L.take (i+1)=L.take i++[e]:=by rw[List.take_add_one,he];rfl
 have h2:(L.take (i+1)).flatMap f=(L.take i).flatMap f++f e:=by rw[h1,List.flatMap_append];simp
 refine⟨h2,?_⟩;have h3:=congrArg (fun z=>(List.flatMap f z).length) (List.take_append_drop (i+1) L);simp only[List.flatMap_append,length_append] at h3;have h4:((L.take (i+1)).flatMap f).length=((L.take i).flatMap f).length+(f e).length:=by rw[h2,length_append]
 omega
abbrev Tl(x:Img)(W0 W:World)(lo:Option Addr)(ns:List Nd):Value→World→Prop:=fun v w'=>
 ∃ (o:Option Addr) (c:Nat) (qs:List (NdH×Nd)),v=.tuple #[.slice o qs.length c,.bool true]∧nds qs=ns∧bF 10 aM 68 w'.heap o c qs∧(∀ p∈qs,NdV (Bd w'.heap o) w'.heap p)∧Fr W0.heap.size o∧(∀ a,o=some a→lo=some a∨W.heap.size≤a.block)∧aA (blk lo) W w'
def Pj(g:Nat)(x:Img)(W0:World)(m:Nat):Prop:=∀ (ref:Int) (no:Option Addr) (nc:Nat) (nm:List By) (lo:Option Addr) (lc:Nat) (ps:List (NdH×Nd)) (W:World),okW x m ref→nm.length+m≤17→-9223372036854775808≤ref∧ref≤9223372036854775807→aA nob W0 W →
 bF 10 aM 68 W.heap lo lc ps→Fr W0.heap.size lo→(∀ p∈ps,NdV (Bd W.heap lo) W.heap p)→NmV (Bd W.heap lo) W.heap ⟨no,nm.length,nc⟩ nm→ps.length+(wlk x m ref nm).length≤1024 →
 CA 16 [pT g,iV ref,.slice no nm.length nc,.slice lo ps.length lc] W (Tl x W0 W lo (nds ps++wlk x m ref nm))
theorem B5(g:Nat)(x:Img)(W0:World)(hI:ImV W0.heap g x)(hR:∀ r y,knM x r=some y→mQ x.im x.F x.ids y)(m:Nat)(IH:Pj g x W0 m):Pj g x W0 (m+1):=by
 intro ref no nc nm lo lc ps W hok hnm hrb hF0 ho hlo hps hn hlen;obtain⟨y,hy,hLk⟩:=hok;rw[pZ hy] at hlen ⊢;obtain⟨hmi,_,_,hdir,hch,hsh,hmx⟩:=hR ref y hy;have hma:=hmi.1;unfold aX at hma;obtain⟨k,hk⟩:∃ k,k=y.ino.1 0:=⟨_,rfl⟩
 obtain⟨md,hmd⟩:∃ k,k=y.ino.1 1:=⟨_,rfl⟩
 obtain⟨ud,hud⟩:∃ k,k=x.ids.getD (y.ino.1 2).toNat 0:=⟨_,rfl⟩
 obtain⟨gd,hgd⟩:∃ k,k=x.ids.getD (y.ino.1 3).toNat 0:=⟨_,rfl⟩
 obtain⟨lk,hlk⟩:∃ k,k=y.ino.1 4:=⟨_,rfl⟩
 obtain⟨sz,hsz⟩:∃ k,k=wD y:=⟨_,rfl⟩
 have hst:uG x ref=([k,md,ud,gd,lk,sz],0):=by unfold uG;rw[hy,hk,hmd,hud,hgd,hlk,hsz];rfl
 have hxa:vP x ref=(y.xs,0):=by unfold vP;rw[hy]
 obtain⟨nd,hnd0⟩:∃ nd,nd=ndM x ref nm y:=⟨_,rfl⟩
 have hnd:nd=(⟨nm,ref,k,md,ud,gd,if k=2 then (jR x ref 0 4096).1 else [],if k=3 then y.ino.2 else [],y.xs,false⟩:Nd):=by rw[hnd0,hk,hmd,hud,hgd];rfl
 rw[←hnd0] at hlen ⊢;obtain⟨L,hLe⟩:∃ L,L=y.list:=⟨_,rfl⟩
 have hq1:k=1→sz=(L.length:Int):=fun h=>by rw[hsz,hLe];unfold wD;rw[if_pos (by omega)]
 have hq2:k=2→sz=y.ino.1 7:=fun h=>by rw[hsz];unfold wD;rw[if_neg (by omega),if_neg (by omega)]
 have hq3:k=3→sz=(y.ino.2.length:Int):=fun h=>by rw[hsz];unfold wD;rw[if_neg (by omega),if_pos (by omega)]
 rw[←hLe] at hLk hlen hch hdir hsh ⊢;have hLl:=oO L;have hltW:=ho.lt;rw[length_cons] at hlen;refine cS 162 [(0,_),(1,_),(2,_),(3,_)] Tryz.func16 ?_;refine cA 10 Tg (HV g x ref W (hI.WR hF0) hrb) ?_;rw[hst];rintro _ w1 ⟨rfl,hf1⟩;refine Gz 3 ?_;refine Tz IF rfl ?_;intro w2 hg2 hs2 hf2;obtain⟨a,ea⟩:∃ a,a=w1.heap.size:=⟨_,rfl⟩
 rw[←ea] at hg2 ⊢;refine sA rfl mP (by exact oZ _) hg2 ?_;intro w3 hg3 hs3 hf3;have hf3b:aA nob W w3:=(hf1.trans hf2).WO hf3 (fun k hk=>.inr (by have h:k=a:=hk;have:=hf1.size;omega));have hF3:=hF0.trans hf3b;have haW:W.heap.size≤a:=by rw[ea];exact hf1.size
 refine cA 7 S4 (Kc g x ref w3 (hI.WR hF3) hrb) ?_;rw[hxa];rintro _ w4 ⟨o3,c3,rfl,hX,hmx2,hf4⟩;have hf4b:=hf3b.trans hf4;have hg4:=hf4.obj hg3 id;have ha4:=(Array.getElem?_eq_some_iff.1 hg4).1;refine Gz 11 ?_;refine cL (Um (Ub rfl rfl) (fun h=>h rfl)) ?_;refine Gz 2 ?_;refine cW (Um (Ub rfl rfl) (fun h=>h rfl)) ?_;refine Gz 4 ?_;refine cW (Um (UH rfl rfl) (by omega)) ?_;refine Gz 13 ?_;refine cL (TI (cs:=stC [md,ud,gd]) DY rfl (cC hg4 1 rfl)) ?_;refine Gz 1 ?_;refine cL (bU (aM ((⟨⟨no,nm.length,nc⟩,hd0,⟨o3,y.xs.length,c3⟩⟩:NdH),(⟨nm,ref,k,md,ud,gd,[],[],y.xs,false⟩:Nd))) NP kT) ?_;refine Tz kT rfl ?_;intro w5 hg5 hs5 hf5;obtain⟨b,eb⟩:∃ a,a=w4.heap.size:=⟨_,rfl⟩
 rw[←eb] at hg5 ⊢;refine TX (vs:=aM ((⟨⟨no,nm.length,nc⟩,hd0,⟨o3,y.xs.length,c3⟩⟩:NdH),(⟨nm,ref,k,md,ud,gd,[],[],y.xs,false⟩:Nd))) eI rfl rfl (aB _).2 hg5 rfl ?_;intro w6 hg6 hs6 hf6;have hf46:aA nob w4 w6:=hf5.tw hf6;have hf6b:=hf4b.trans hf46;have hF6:=hF0.trans hf6b;have hgs6:=hf46.obj hg4 id;have hbW:W.heap.size≤b:=by rw[eb];exact hf4b.size
 have hb6:=(Array.getElem?_eq_some_iff.1 hg6).1;have fin:∀ (w:World) (zd:Hd) (d t:By),aA nob w4 w→ByV (Bd w.heap lo) w.heap zd d→nd=(⟨nm,ref,k,md,ud,gd,d,t,y.xs,false⟩:Nd)→w.heap[b]?=some (.cells (aM ((⟨⟨no,nm.length,nc⟩,zd,⟨o3,y.xs.length,c3⟩⟩:NdH),(⟨nm,ref,k,md,ud,gd,d,t,y.xs,false⟩:Nd))).toArray 68 (0,0))→w.heap[a]?=some (.cells (stC [k,md,ud,gd,lk,sz]).toArray 45 (0,0))→∃ p:NdH×Nd,p.2=nd∧NdV (Bd w.heap lo) w.heap p∧w.heap[b]?=some (.cells (aM p).toArray 68 (0,0))∧w.heap[a]?=some (.cells (stC [k,md,ud,gd,lk,sz]).toArray 45 (0,0))∧aA nob W w:=fun w zd d t hf hd he hg hgs=>by
  have hfW:=hf4b.trans hf;refine⟨((⟨⟨no,nm.length,nc⟩,zd,⟨o3,y.xs.length,c3⟩⟩:NdH),(⟨nm,ref,k,md,ud,gd,d,t,y.xs,false⟩:Nd)),he.symm,⟨(hn.WS hfW (fun _ _=>id)).mono (Bd.mono hfW.size),hd,(hX.WS hf (fun _ _=>id)).mono (fun k hk=>⟨by have:=hf.size;omega,fun⟨z,hz,e⟩=>by have h1:=hltW z hz;have h2:=hf3b.size;omega⟩)⟩,hg,hgs,hfW⟩
 have hno:∀ H:Array Obj,ByV (Bd H lo) H hd0 []:=fun H=>⟨rfl,Wz 0 (Nat.zero_le _),fun h=>absurd rfl h⟩
 refine Gz 2 ?_;refine TY (β:=NdH×Nd) (fun p=>[(0,pT g),(1,iV ref),(2,.slice no nm.length nc),(3,.slice lo ps.length lc),(10,pT a),(14,pT b)]) (fun p w=>p.2=nd∧NdV (Bd w.heap lo) w.heap p∧w.heap[b]?=some (.cells (aM p).toArray 68 (0,0))∧w.heap[a]?=some (.cells (stC [k,md,ud,gd,lk,sz]).toArray 45 (0,0))∧aA nob W w) ?_ ?_
 ·refine fK 9 ?_ ?_<;>intro h59
  ·have hk2:k=2:=h59;have hrf:=Am hy hmi (hk.symm.trans hk2);obtain⟨r,hr⟩:∃ r,r=jR x ref 0 4096:=⟨_,rfl⟩
   rw[←hr] at hrf hnd;have hsz2:=hq2 hk2;rw[if_pos hk2,if_neg (by omega)] at hnd;refine Gz 8 ?_;refine Ts S3 rfl (HX g x ref 0 4096 w6 (hI.WR hF6) hrb (by decide) (by decide)) rfl ?_;rw[←hr];rintro _ w7 ⟨ao,ac,rfl,ho7,hfr7,hf7⟩;have hg7:=hf7.obj hg6 id;have hgs7:=hf7.obj hgs6 id;refine fK 11 ?_ ?_<;>intro h67
   ·have hE:r=([],35):=hrf.resolve_left (fun h=>h67 h.1);have hE2:r.2=35:=by rw[hE]
    refine Gz 2 ?_;refine cW (Um (Ub rfl rfl) (fun h=>h hE2)) ?_;refine Gz 3 ?_;refine cW (Um (Ud rfl rfl) (by omega)) ?_;refine Gz 16 ?_;refine Tx aT rfl rfl rfl hg7 rfl ?_;intro w8 hg8 hs8 hf8;have hf48:aA nob w4 w8:=(hf46.trans hf7).tw hf8;have hlt7:=ho7.lt;have hJz:=fin w8 ⟨ao,r.1.length,ac⟩ r.1 [] hf48 ⟨rfl,ho7.vw.keep' hf8 (fun _ a ha h=>by have h1:=hfr7 a ha;have h:a.block=b:=h;omega),fun _ k ⟨z,hz,e⟩=>⟨by have h1:=hlt7 z hz;have:=hf8.size;omega,fun⟨u,hu,e2⟩=>by have h1:=hfr7 z hz;have h2:=hltW u hu;have:=hf6b.size;omega⟩⟩ hnd hg8 (hf8.obj hgs7 (fun h=>by have h:a=b:=h;omega));refine Gz 2 ?_;obtain⟨pz,hp⟩:=hJz;exact aC pz hp
   have hE2:r.2=0:=not_not.1 h67;have hEl:(r.1.length:Int)=y.ino.1 7:=by
    rcases hrf with h|h
    ·exact h.2
    ·rw[h] at hE2;cases hE2
   refine Gz 6 ?_;refine cW (Ug (Ud rfl rfl) (by omega)) ?_;refine Gz 4 ?_;refine cW (Tu aI rfl (aE (i:=5) hgs7 rfl)) ?_;refine cW (Um (Ub rfl rfl) (by omega)) ?_;refine Gz 10 ?_;refine Tx aT rfl rfl rfl hg7 rfl ?_;intro w8 hg8 hs8 hf8;have hf48:aA nob w4 w8:=(hf46.trans hf7).tw hf8;have hlt7:=ho7.lt;have hJz:=fin w8 ⟨ao,r.1.length,ac⟩ r.1 [] hf48 ⟨rfl,ho7.vw.keep' hf8 (fun _ a ha h=>by have h1:=hfr7 a ha;have h:a.block=b:=h;omega),fun _ k ⟨z,hz,e⟩=>⟨by have h1:=hlt7 z hz;have:=hf8.size;omega,fun⟨u,hu,e2⟩=>by have h1:=hfr7 z hz;have h2:=hltW u hu;have:=hf6b.size;omega⟩⟩ hnd hg8 (hf8.obj hgs7 (fun h=>by have h:a=b:=h;omega));refine Gz 2 ?_;obtain⟨pz,hp⟩:=hJz;exact aC pz hp
  refine fK 6 ?_ ?_<;>intro h87
  ·have hk3:k=3:=h87;have htg:yY x ref=(y.ino.2,0):=by unfold yY;rw[hy];simp only;rw[if_neg (fun h=>h (hk.symm.trans hk3))]
   have hsz3:=hq3 hk3;rw[if_neg (by omega),if_pos hk3] at hnd;refine cA 8 S2 (Kd g x ref w6 (hI.WR hF6) hrb) ?_;rw[htg];rintro _ w7 ⟨rfl,hf7⟩;have hg7:=hf7.obj hg6 id;have hgs7:=hf7.obj hgs6 id;refine Gz 11 ?_;refine cL (Um (Ub rfl rfl) (fun h=>h rfl)) ?_;refine Gz 2 ?_;refine cW (TU ty9 rfl) ?_;refine Gz 1 ?_;refine cW (Tu aI rfl (aE (i:=5) hgs7 rfl)) ?_;refine cW (Um (Ub rfl rfl) (fun h=>h hsz3.symm)) ?_;refine Gz 9 ?_;refine Tx gU rfl rfl rfl hg7 rfl ?_;intro w8 hg8 hs8 hf8;have hJz:=fin w8 hd0 [] y.ino.2 ((hf46.trans hf7).tw hf8) (hno _) hnd hg8 (hf8.obj hgs7 (fun h=>by have h:a=b:=h;omega));refine Gz 2 ?_;obtain⟨pz,hp⟩:=hJz;exact aC pz hp
  rw[if_neg (by omega),if_neg (by omega)] at hnd;have hJz:=fin w6 hd0 [] [] hf46 (hno _) hnd hg6 hgs6;refine Gz 6 ?_;obtain⟨pz,hp⟩:=hJz;exact aC pz hp
 rintro p w9 ⟨hp2,hpv,hg9,hgs9,hf9⟩;refine Gz 3 ?_;refine cL (TI (cs:=aM p) eI rfl (cC hg9 0 rfl)) ?_;refine TS bH (cs:=(aM p).toArray) kT rfl rfl rfl (by kernel_rfl) rfl ?_;intro w10 hg10 hs10 hf10;have ho10:bF 10 aM 68 w10.heap (some ⟨w9.heap.size,0,none⟩) 1 [p]:=bL (xs:=[p]) aB (by simpa using hg10) (by show 1≤maxLen;decide);have hfW10:=hf9.trans hf10;refine TH aB rfl bH rfl rfl (ho.WR hfW10) (ho10.vw aB) (by simp only[length_singleton];omega) (by simp only[length_singleton];unfold maxLen;omega) rfl ?_;intro o11 c11 w11 ho11 hf11 hr11 hn11;have hfW11:aA (blk lo) W w11:=(hfW10.mono (fun _ h=>h.elim)).WO hf11 (fun _ h=>.inl h);have hz11:=hf11.size;have hz10:=hfW10.size;have hz910:=hf10.size;have hps11:∀ q∈ps++[p],NdV (Bd w11.heap o11) w11.heap q:=fun q hq=>(mem_append.1 hq).elim (fun h=>((hps q h).WS hfW11 (fun k hk=>hk.2)).mono (Bd.step hr11 (by omega) (by omega))) (fun h=>by
  rw[mem_singleton] at h;rw[h];exact((hpv.WS hf10 (fun _ _=>id)).WS hf11 (fun k hk=>hk.2)).mono (Bd.step hr11 hz910 (by omega)))
 have hr11W:∀ a,o11=some a→lo=some a∨W.heap.size≤a.block:=fun a ha=>(hr11 a ha).imp id (fun h=>by omega);have hF11:aA nob W0 w11:=hF0.WO hfW11 hlo.step;have hfr11:Fr W0.heap.size o11:=cQ hlo hr11W hF0.size;have hgs11:=hf11.obj (hf10.obj hgs9 id) (fun⟨u,hu,e⟩=>by have:=hltW u hu;omega);have hn11b:NmV (Bd w11.heap o11) w11.heap ⟨no,nm.length,nc⟩ nm:=(hn.WS hfW11 (fun k hk=>hk.2)).mono (Bd.step hr11W (Nat.le_refl _) (by omega));have hnds:nds (ps++[p])=nds ps++[nd]:=by simp[nds,hp2]
 refine fK 8 ?_ ?_<;>intro h112
 ·have hnl:=hdir (by omega);refine Gz 13 ?_;exact⟨_,rfl,o11,c11,ps++[p],rfl,by rw[hnds,hnl];rfl,ho11,hps11,hfr11,hr11W,hfW11⟩
 have hk1:k=1:=not_not.1 h112;have hli:mB x ref=(L,0):=by unfold mB;rw[hy];simp only;rw[if_neg (fun h=>h (hk.symm.trans hk1)),hLe]
 have hsz1:=hq1 hk1;refine cA 9 Qn (Az g x ref w11 (hI.WR hF11) hrb) ?_;rintro _ w12 ⟨hDP,_⟩;rw[hli] at hDP;obtain⟨o12,c12,rfl,ho12,hfr12,hf12⟩:=hDP;have hgs12:=hf12.obj hgs11 id;have hv12:=ho12.vw cH;have hlt11:=ho11.lt;refine Gz 11 ?_;refine cL (Um (Ub rfl rfl) (fun h=>h rfl)) ?_;refine Gz 4 ?_;refine cW (Tu aI rfl (aE (i:=5) hgs12 rfl)) ?_;refine cW (Um (Ub rfl rfl) (fun h=>h hsz1.symm)) ?_;refine Gz 13 ?_;refine TA (β:=Nat×List (NdH×Nd)×Option Addr×Nat) (fun⟨i,qs,o,c⟩=>[(0,pT g),(2,.slice no nm.length nc),(3,.slice o qs.length c),(19,.slice o12 L.length c12),(21,iV i)]) (fun⟨i,qs,o,c⟩ w=>i≤L.length∧nds qs=nds ps++(nd::(L.take i).flatMap fun e=>wlk x m e.2.2 (nm++[e.1]))∧bF 10 aM 68 w.heap o c qs∧(∀ p∈qs,NdV (Bd w.heap o) w.heap p)∧Fr W0.heap.size o∧(∀ a,o=some a→lo=some a∨W.heap.size≤a.block)∧NmV (Bd w.heap o) w.heap ⟨no,nm.length,nc⟩ nm∧VwM 3 fV w.heap o12 c12 L∧(∀ a b:Addr,o12=some a→o=some b→¬ a.block=b.block)∧aA (blk lo) W w) (fun⟨i,qs,o,c⟩=>L.length-i) ⟨0,ps++[p],o11,c11⟩ ⟨rfl,rfl,rfl,rfl,rfl,trivial⟩ ⟨Nat.zero_le _,by rw[hnds];simp,ho11.WR hf12,fun q hq=>((hps11 q hq).WR hf12).mono (Bd.mono hf12.size),hfr11,hr11W,(hn11b.WS hf12 (fun _ _=>id)).mono (Bd.mono hf12.size),hv12,fun a b ha hb e=>by have h1:=hfr12 a ha;have h2:=hlt11 b hb;omega,hfW11.WO hf12 (fun _ h=>h.elim)⟩ ?_;rintro⟨i,qs,o,c⟩ w13 ⟨hi,hqs,hoq,hqv,hfo,hro,hn13,hv13,hap,hf13⟩;have hF13:aA nob W0 w13:=hF0.WO hf13 hlo.step;have hz13:=hf13.size;refine fK 6 ?_ ?_<;>intro h133
 ·have hil:i<L.length:=by omega
  obtain⟨e,he⟩:∃ e,L[i]?=some e:=⟨_,List.getElem?_eq_getElem hil⟩
  have hem:=mem_of_getElem? he;have heb:=(pH hch he).2.2.2.2;have hft:=Nc he (fun e=>wlk x m e.2.2 (nm++[e.1]));have hql:=congrArg List.length hqs;simp only[nds,length_map,length_append,length_cons] at hql;have hltq:=hoq.lt;have hne:L≠[]:=fun h=>by rw[h] at hil;simp at hil
  have hlt12:=hv13.lt hne (fun _ h=>by cases h);refine Gz 1 ?_;refine aW [(0,_),(2,_),(3,_),(19,_),(21,_),(133,_)] ?_;refine Gz 7 ?_;refine U2 (fun H=>VwM 3 fV H o12 c12 L) [6,8,14,15,17] [0,1,2,3,4,5,7,9,10,11,12,13,16] (.alt 6 [] (.alt 8 [] (.alt 14 [] (.alt 15 [] (.alt 17 [18,19,20,21,22] .fin .stop) .stop) .stop) (.alt 14 [] (.alt 8 [] (.alt 15 [] (.alt 17 [18,19,20,21,22] .fin .stop) .stop) .stop) .stop)) (.alt 14 [] (.alt 6 [] (.alt 8 [] (.alt 15 [] (.alt 17 [18,19,20,21,22] .fin .stop) .stop) .stop) .stop) .stop)) aL (by kernel_rfl) (hv13) ?_;have hcd:aA nob w13 (w13.drewN 1):=Wu 1;generalize w13.drewN 1=wd at hcd ⊢;have hvd:=hv13.WR hcd;refine TC rfl rfl (TR rfl) rfl ?_;refine TC rfl rfl (TR rfl) rfl ?_;refine TC rfl rfl (TR rfl) rfl ?_;refine TC rfl rfl (Tv rA rfl rfl hvd.non (by omega)) rfl ?_;refine TC rfl rfl (UZ Na.h rfl) rfl ?_;refine TC rfl rfl (TF aI rfl (fun H hH=>hH.rowZ i rfl he 2 _ rfl)) rfl ?_;refine TC rfl rfl (TR rfl) rfl ?_;refine TC rfl rfl (TR rfl) rfl ?_;refine TC rfl rfl (TR rfl) rfl ?_;refine TC rfl rfl (Tv rA rfl rfl hvd.non (by omega)) rfl ?_;refine TC rfl rfl (UZ Nb.h rfl) rfl ?_;refine TC rfl rfl (TF gU rfl (fun H hH=>hH.rowZ i rfl he 0 _ rfl)) rfl ?_;refine TC rfl rfl (TR rfl) rfl ?_;refine TM ?_ ?_
  ·refine TL rfl rfl (T2 lJ jO rfl ?_);intro w14 ho14 hs14 hf14;have hc14:=hcd.trans hf14;refine TQ (by exact(hv13.WR hc14)) ?_;refine TM ?_ ?_
   ·refine TL rfl rfl (TB gQ jO rfl rfl ho14 (hn13.2.1.WS hc14 (fun _ _=>id)) (by simp only[length_nil];omega) (by simp only[length_nil];unfold maxLen;omega) rfl ?_);intro o15 c15 w15 ho15 hf15 hr15 hn15;have ho15:Own lJ 9 w15.heap o15 c15 nm:=ho15;have hc15:aA nob w13 w15:=hc14.WO hf15 (fun k hk=>.inr (by obtain⟨a,ha,e⟩:=hk;cases ha;have e:wd.heap.size=k:=e;have:=hcd.size;omega));have hfr15:Fr w13.heap.size o15:=fun a ha=>by
     rcases hr15 a ha with h|h
     ·cases h;exact hcd.size
     ·have:=hc14.size;omega
    refine TQ (by exact(hv13.WR hc15)) ?_;refine TM ?_ ?_
    ·refine TL rfl rfl (T3 (enc:=lJ) (u:=e.1) jO (gQ _) rfl rfl ?_);intro w16 ho16 hs16 hf16;have hc16:=hc15.trans hf16;have ho15:=ho15.WR hf16;refine TQ (by exact(hv13.WR hc16)) ?_;refine TM ?_ ?_
     ·refine TL rfl rfl (TB gQ jO rfl rfl ho15 ho16.vw (by simp only[nil_append,length_singleton];omega) (by simp only[nil_append,length_singleton];unfold maxLen;omega) rfl ?_);intro o17 c17 w17 ho17 hf17 hr17 hn17;have hf1317:aA nob w13 w17:=hc16.WO hf17 hfr15.step;have hfr17:Fr w13.heap.size o17:=cQ hfr15 hr17 hc16.size;refine TQ (by exact(hv13.WR hf1317)) ?_;refine TM ?_ ?_
      ·refine TL rfl rfl (Ts K3 rfl (IH e.2.2 o17 c17 (nm++[e.1]) o c qs w17 (hLk e hem) (by rw[length_append,length_singleton];omega) (by omega) (hF13.trans hf1317) (hoq.WR hf1317) hfo (fun q hq=>((hqv q hq).WR hf1317).mono (Bd.mono hf1317.size)) ⟨rfl,ho17.vw,fun _ k ⟨z,hz,ez⟩=>⟨by have:=ho17.lt z hz;omega,fun⟨u,hu,eu⟩=>by have h1:=hfr17 z hz;have h2:=hltq u hu;omega⟩⟩ (by omega)) rfl ?_);rintro _ w18 ⟨o18,c18,qs18,rfl,hq18,ho18,hqv18,hfo18,hr18,hf18⟩;have hf1318:aA (blk o) w13 w18:=(hf1317.mono (fun _ h=>h.elim)).WO hf18 (fun _ h=>.inl h);have hv18:VwM 3 fV w18.heap o12 c12 L:=hv13.keep' hf1318 (fun _ a ha ⟨b,hb,e⟩=>hap a b ha hb e.symm);refine TQ (by exact hv18) ?_;have hz1317:=hf1317.size;have hz1718:=hf18.size;refine TC rfl rfl (TR rfl) rfl ?_;refine TC rfl rfl (T9 rfl rfl) rfl ?_;refine TC rfl rfl (T9 rfl rfl) rfl ?_;refine TC rfl rfl (TW rfl) rfl ?_;refine TC rfl rfl (TW rfl) rfl ?_;refine Up ?_;refine Gz 5 ?_;refine cL (T0 rfl) ?_;refine Gz 16 ?_;exact aG ⟨i+1,qs18,o18,c18⟩ ⟨by omega,by rw[hq18,hqs,hft.1,append_assoc];rfl,ho18,hqv18,hfo18,fun a ha=>(hr18 a ha).elim (hro a) (fun h=>.inr (by omega)),(hn13.WS hf1318 (fun k hk=>hk.2)).mono (Bd.step hr18 hz1317 (by omega)),hv18,fun a b ha hb e=>by
        rcases hr18 b hb with h|h
        ·exact hap a b ha h e
        ·have:=hlt12 a ha;omega
       ,hf13.WO hf1318 (fun k ⟨z,hz,ez⟩=>(hro z hz).imp (fun h=>⟨z,h,ez⟩) (fun h=>by omega))⟩ (by show L.length-(i+1)<L.length-i;omega)
      exact TK
     exact TK
    exact TK
   refine TM ?_ ?_
   ·refine TL rfl rfl (T3 (enc:=lJ) (u:=e.1) jO (gQ _) rfl rfl ?_);intro w16 ho16 hs16 hf16;have hc16:=hc14.trans hf16;have ho14:=ho14.WR hf16;refine TQ (by exact(hv13.WR hc16)) ?_;refine TM ?_ ?_
    ·refine TL rfl rfl (TB gQ jO rfl rfl ho14 (hn13.2.1.WS hc16 (fun _ _=>id)) (by simp only[length_nil];omega) (by simp only[length_nil];unfold maxLen;omega) rfl ?_);intro o15 c15 w15 ho15 hf15 hr15 hn15;have ho15:Own lJ 9 w15.heap o15 c15 nm:=ho15;have hc15:aA nob w13 w15:=hc16.WO hf15 (fun k hk=>.inr (by obtain⟨a,ha,e⟩:=hk;cases ha;have e:wd.heap.size=k:=e;have:=hcd.size;omega));have hfr15:Fr w13.heap.size o15:=fun a ha=>by
      rcases hr15 a ha with h|h
      ·cases h;exact hcd.size
      ·have:=hc16.size;omega
     have ho16:=ho16.WS hf15 (fun a ha ⟨u,hu,e⟩=>by cases ha;cases hu;have e:wd.heap.size=w14.heap.size:=e;omega);refine TQ (by exact(hv13.WR hc15)) ?_;refine TM ?_ ?_
     ·refine TL rfl rfl (TB gQ jO rfl rfl ho15 ho16.vw (by simp only[nil_append,length_singleton];omega) (by simp only[nil_append,length_singleton];unfold maxLen;omega) rfl ?_);intro o17 c17 w17 ho17 hf17 hr17 hn17;have hf1317:aA nob w13 w17:=hc15.WO hf17 hfr15.step;have hfr17:Fr w13.heap.size o17:=cQ hfr15 hr17 hc15.size;refine TQ (by exact(hv13.WR hf1317)) ?_;refine TM ?_ ?_
      ·refine TL rfl rfl (Ts K3 rfl (IH e.2.2 o17 c17 (nm++[e.1]) o c qs w17 (hLk e hem) (by rw[length_append,length_singleton];omega) (by omega) (hF13.trans hf1317) (hoq.WR hf1317) hfo (fun q hq=>((hqv q hq).WR hf1317).mono (Bd.mono hf1317.size)) ⟨rfl,ho17.vw,fun _ k ⟨z,hz,ez⟩=>⟨by have:=ho17.lt z hz;omega,fun⟨u,hu,eu⟩=>by have h1:=hfr17 z hz;have h2:=hltq u hu;omega⟩⟩ (by omega)) rfl ?_);rintro _ w18 ⟨o18,c18,qs18,rfl,hq18,ho18,hqv18,hfo18,hr18,hf18⟩;have hf1318:aA (blk o) w13 w18:=(hf1317.mono (fun _ h=>h.elim)).WO hf18 (fun _ h=>.inl h);have hv18:VwM 3 fV w18.heap o12 c12 L:=hv13.keep' hf1318 (fun _ a ha ⟨b,hb,e⟩=>hap a b ha hb e.symm);refine TQ (by exact hv18) ?_;have hz1317:=hf1317.size;have hz1718:=hf18.size;refine TC rfl rfl (TR rfl) rfl ?_;refine TC rfl rfl (T9 rfl rfl) rfl ?_;refine TC rfl rfl (T9 rfl rfl) rfl ?_;refine TC rfl rfl (TW rfl) rfl ?_;refine TC rfl rfl (TW rfl) rfl ?_;refine Up ?_;refine Gz 5 ?_;refine cL (T0 rfl) ?_;refine Gz 16 ?_;exact aG ⟨i+1,qs18,o18,c18⟩ ⟨by omega,by rw[hq18,hqs,hft.1,append_assoc];rfl,ho18,hqv18,hfo18,fun a ha=>(hr18 a ha).elim (hro a) (fun h=>.inr (by omega)),(hn13.WS hf1318 (fun k hk=>hk.2)).mono (Bd.step hr18 hz1317 (by omega)),hv18,fun a b ha hb e=>by
        rcases hr18 b hb with h|h
        ·exact hap a b ha h e
        ·have:=hlt12 a ha;omega
       ,hf13.WO hf1318 (fun k ⟨z,hz,ez⟩=>(hro z hz).imp (fun h=>⟨z,h,ez⟩) (fun h=>by omega))⟩ (by show L.length-(i+1)<L.length-i;omega)
      exact TK
     exact TK
    exact TK
   exact TK
  refine TM ?_ ?_
  ·refine TL rfl rfl (T3 (enc:=lJ) (u:=e.1) jO (gQ _) rfl rfl ?_);intro w16 ho16 hs16 hf16;have hc16:=hcd.trans hf16;refine TQ (by exact(hv13.WR hc16)) ?_;refine TM ?_ ?_
   ·refine TL rfl rfl (T2 lJ jO rfl ?_);intro w14 ho14 hs14 hf14;have hc14:=hc16.trans hf14;have ho16:=ho16.WR hf14;refine TQ (by exact(hv13.WR hc14)) ?_;refine TM ?_ ?_
    ·refine TL rfl rfl (TB gQ jO rfl rfl ho14 (hn13.2.1.WS hc14 (fun _ _=>id)) (by simp only[length_nil];omega) (by simp only[length_nil];unfold maxLen;omega) rfl ?_);intro o15 c15 w15 ho15 hf15 hr15 hn15;have ho15:Own lJ 9 w15.heap o15 c15 nm:=ho15;have hc15:aA nob w13 w15:=hc14.WO hf15 (fun k hk=>.inr (by obtain⟨a,ha,e⟩:=hk;cases ha;have e:w16.heap.size=k:=e;have:=hc16.size;omega));have hfr15:Fr w13.heap.size o15:=fun a ha=>by
      rcases hr15 a ha with h|h
      ·cases h;exact hc16.size
      ·have:=hc14.size;omega
     have ho16:=ho16.WS hf15 (fun a ha ⟨u,hu,e⟩=>by cases ha;cases hu;have e:w16.heap.size=wd.heap.size:=e;omega);refine TQ (by exact(hv13.WR hc15)) ?_;refine TM ?_ ?_
     ·refine TL rfl rfl (TB gQ jO rfl rfl ho15 ho16.vw (by simp only[nil_append,length_singleton];omega) (by simp only[nil_append,length_singleton];unfold maxLen;omega) rfl ?_);intro o17 c17 w17 ho17 hf17 hr17 hn17;have hf1317:aA nob w13 w17:=hc15.WO hf17 hfr15.step;have hfr17:Fr w13.heap.size o17:=cQ hfr15 hr17 hc15.size;refine TQ (by exact(hv13.WR hf1317)) ?_;refine TM ?_ ?_
      ·refine TL rfl rfl (Ts K3 rfl (IH e.2.2 o17 c17 (nm++[e.1]) o c qs w17 (hLk e hem) (by rw[length_append,length_singleton];omega) (by omega) (hF13.trans hf1317) (hoq.WR hf1317) hfo (fun q hq=>((hqv q hq).WR hf1317).mono (Bd.mono hf1317.size)) ⟨rfl,ho17.vw,fun _ k ⟨z,hz,ez⟩=>⟨by have:=ho17.lt z hz;omega,fun⟨u,hu,eu⟩=>by have h1:=hfr17 z hz;have h2:=hltq u hu;omega⟩⟩ (by omega)) rfl ?_);rintro _ w18 ⟨o18,c18,qs18,rfl,hq18,ho18,hqv18,hfo18,hr18,hf18⟩;have hf1318:aA (blk o) w13 w18:=(hf1317.mono (fun _ h=>h.elim)).WO hf18 (fun _ h=>.inl h);have hv18:VwM 3 fV w18.heap o12 c12 L:=hv13.keep' hf1318 (fun _ a ha ⟨b,hb,e⟩=>hap a b ha hb e.symm);refine TQ (by exact hv18) ?_;have hz1317:=hf1317.size;have hz1718:=hf18.size;refine TC rfl rfl (TR rfl) rfl ?_;refine TC rfl rfl (T9 rfl rfl) rfl ?_;refine TC rfl rfl (T9 rfl rfl) rfl ?_;refine TC rfl rfl (TW rfl) rfl ?_;refine TC rfl rfl (TW rfl) rfl ?_;refine Up ?_;refine Gz 5 ?_;refine cL (T0 rfl) ?_;refine Gz 16 ?_;exact aG ⟨i+1,qs18,o18,c18⟩ ⟨by omega,by rw[hq18,hqs,hft.1,append_assoc];rfl,ho18,hqv18,hfo18,fun a ha=>(hr18 a ha).elim (hro a) (fun h=>.inr (by omega)),(hn13.WS hf1318 (fun k hk=>hk.2)).mono (Bd.step hr18 hz1317 (by omega)),hv18,fun a b ha hb e=>by
        rcases hr18 b hb with h|h
        ·exact hap a b ha h e
        ·have:=hlt12 a ha;omega
       ,hf13.WO hf1318 (fun k ⟨z,hz,ez⟩=>(hro z hz).imp (fun h=>⟨z,h,ez⟩) (fun h=>by omega))⟩ (by show L.length-(i+1)<L.length-i;omega)
      exact TK
     exact TK
    exact TK
   exact TK
  exact TK
 have hie:i=L.length:=by omega
 subst hie;rw[take_length] at hqs;refine Gz 1 ?_;refine aW [(0,_),(2,_),(3,_),(19,_),(21,_),(133,_)] ?_;refine Gz 16 ?_;exact⟨_,rfl,o,c,qs,rfl,hqs,hoq,hqv,hfo,hro,hf13⟩
theorem zL(g:Nat)(x:Img)(W0:World)(hI:ImV W0.heap g x)(hR:∀ r y,knM x r=some y→mQ x.im x.F x.ids y):∀ m:Nat,Pj g x W0 m
|0=>fun ref no nc nm lo lc ps W hok=>hok.elim
|m+1=>B5 g x W0 hI hR m (zL g x W0 hI hR m)
end
section
open Go Go.RowKit Go.ChangeShapes Go.WideShapes Go.ChangeAt Go.Deep
def AZ(x:Int×Int):List Value:=[iV x.1,iV x.2]
def LF(P:Program)(fs:Array Field):Bool:=oneCellFields P fs && Nat.beq fs.size 2 && (List.range 2).all fun i=>match fs[i]? with
|some f=>(match P.underlying f.type with|some (.int .i64)=>true|_=>false)
|none=>false
section
variable {H:Type}{enc:TypeId×Value→H}{P:Program}{w:World}{t e:TypeId}{d:DataW H}{p:List MemPlace}
theorem HP{fs:Array Field}(ht:P.underlying e=some (.struct fs))(hb:LF P fs=true)(hc:P.cellsOf e=2){fuel:Nat}{cs:List Value}{x:DataW H×List MemPlace}
 (h:DataW.trod enc P w 0 (fun _=>true) true fuel e cs=some x):∃ y:Int×Int,cs=AZ y∧(Lit.int .i64 y.1).wf=true∧(Lit.int .i64 y.2).wf=true:=by
 simp only[LF,Bool.and_eq_true,Nat.beq_eq] at hb;obtain⟨⟨h1,h2⟩,h3⟩:=hb;obtain⟨xs,n,_,_,hl,hxl,hf⟩:=DataW.trod_struct ht h;rw[hc] at hl
 have key:∀ i,i<2→∃ n:Int,cs[i]?=some (iV n)∧(Lit.int .i64 n).wf=true:=fun i hi=>by
  have h4:=List.all_eq_true.1 h3 i (mem_range.2 hi);cases hfi:fs[i]? with
 |none=>simp[hfi] at h4
 |some f=>
    obtain⟨ho,h5⟩:=hone_of h1 i f hfi;have g:=hf i f hfi;rw[ho,h5,take1_drop cs i undef (by omega),List.getElem?_eq_getElem (by omega)] at g;simp only[hfi] at h4;have hty:P.underlying f.type=some (.int .i64):=by
     split at h4
     ·assumption
     ·cases h4
    obtain⟨m,hm,_,hw⟩:=DataW.trod_int hty g;refine⟨m,?_,hw⟩;rw[List.getElem?_eq_getElem (by omega)];have:cs.getD i undef=iV m:=by simpa using hm
    rw[←this];simp[List.getD,List.getElem?_eq_getElem (show i<cs.length by omega)]
 obtain⟨a,ha,wa⟩:=key 0 (by decide);obtain⟨b,hb,wb⟩:=key 1 (by decide);refine⟨(a,b),?_,wa,wb⟩;apply ext_getElem?;intro i
 match i with
|0=>rw[ha];rfl
|1=>rw[hb];rfl
|i+2=>rw[List.getElem?_eq_none (by omega)];rfl
theorem EP{fs:Array Field}(ht:P.underlying t=some (.slice e))(he:P.underlying e=some (.struct fs))(hb:LF P fs=true)(hc:P.cellsOf e=2){v:Value}(h:DataW.Trod enc P w 0 (fun _=>true) true t v d p)(hv:∃ a n c,v=.slice a n c) :
 ∃ (a:Option Addr) (cap:Nat) (xs:List (Int×Int)),v=.slice a xs.length cap∧VwM 2 AZ w.heap a cap xs∧∀ x∈xs,(Lit.int .i64 x.1).wf=true∧(Lit.int .i64 x.2).wf=true:=by
 obtain⟨fuel,hf⟩:=h;obtain⟨a,n,c,rfl⟩:=hv;rcases open_slice ht hf with⟨hcs,_⟩|⟨x,l,c',m,n',D,Pl,hcs,_,hl,hm,hmm,_,hx⟩
 ·refine⟨none,0,[],by simpa[Value.cells] using hcs,WD 0 (Nat.zero_le _),by simp⟩
 · simp only[if_true] at hmm
   have:Inhabited (Int×Int):=⟨(0,0)⟩
   obtain⟨Y,hY⟩:=choose_lt (α:=Int×Int) (p:=fun i y=>(∀ j v,(AZ y)[j]?=some v→w.cell? ((x.add (i*2)).add j)=some v)∧(Lit.int .i64 y.1).wf=true∧(Lit.int .i64 y.2).wf=true) (n:=m) (fun i hi=>by
    obtain⟨cs',h1,h2⟩:=hx i hi;rw[hc] at h1;obtain⟨_,hlen,hcell⟩:=World.cells?_some h1;obtain⟨y,hy,w1,w2⟩:=HP he hb hc h2;refine⟨y,fun j v hj=>?_,w1,w2⟩;rw[←hy] at hj;have hjl:=(List.getElem?_eq_some_iff.1 hj).1;rw[hcell j (by omega)];rw[←hj])
   refine⟨some x,c',(List.range l).map Y,by simpa[Value.cells] using hcs,⟨by simp;omega,hm,fun _=>by simp,fun i u hu j v hj=>?_⟩,fun y hy=>?_⟩
   · rw[List.getElem?_map] at hu
     obtain⟨k,hk,rfl⟩:=Option.map_eq_some_iff.1 hu;have hki:k=i∧i<l:=by
      have:=List.getElem?_eq_some_iff.1 hk;obtain⟨h1,h2⟩:=this;simp at h1 h2;omega
     obtain⟨rfl,hil⟩:=hki;have h1:=(hY k (by omega)).1 j v hj;show w.cell? (x.add (k*2+j))=some v;rw[←sS];exact h1
   · obtain⟨k,hk,rfl⟩:=mem_map.1 hy
     exact(hY k (by have:=mem_range.1 hk;omega)).2
end
end
section
open Go Go.RowKit Go.Maps
theorem M0{qs:List (NdH×Nd)}{ids:List Int}(G:GdT qs)(I:zJ qs ids)(h:(rW qs ids).2=0):64≤(rW qs ids).1.length∧(rW qs ids).1.length≤1048576∧rW qs ids=(imB qs ids,0)∧∃ M:ImB qs ids,True:=by
 have hs:64+((eW (aF qs ids) ids).length:Int)≤1048576:=by
  unfold rW at h;by_cases hc:(1048576:Int)<64+((eW (aF qs ids) ids).length:Int)
  ·rw[if_pos hc] at h;cases h
  ·omega
 have M:ImB qs ids:=⟨G,I,hs⟩
 have e:=M.img;rw[e];refine⟨?_,?_,rfl,M,trivial⟩
 ·show 64≤(imB qs ids).length;unfold imB;rw[length_append,kZ];omega
 ·show (imB qs ids).length≤1048576;unfold imB;rw[length_append,kZ];omega
theorem BuP.of{W w':World}{ps:List (NdH×Nd)}{v:Value}(h:BuP W ps v w')(hl:ps.length≤40):∃ (o:Option Addr) (c:Nat) (b:By) (E:Int),v=.tuple #[.slice o b.length c,iV E]∧Own b8 5 w'.heap o c b∧Fr W.heap.size o∧aA nob W w' ∧
 (E=0→chk (nds ps)=0∧∃ (ids:List Int) (M:ImB (gD ps) ids),b=imB (gD ps) ids∧64≤b.length∧b.length≤1048576):=by
 rcases h with⟨hz,rfl,hf⟩|⟨hz,ids,o,c,hI,rfl,ho,hfr,hf⟩
 ·exact⟨none,0,[],_,rfl,WA,Wy,hf,fun e=>absurd e hz⟩
 · refine⟨o,c,_,_,rfl,ho,hfr,hf,fun e=>⟨hz,ids,?_⟩⟩
   obtain⟨h1,h2,h3,M,_⟩:=M0 (Fb hz hl) hI e;exact⟨M,by rw[h3],h1,h2⟩
theorem Pt{a:Int}{n:Nat}(h:0<n) : -(n:Int)<a.tmod n∧a.tmod n<n:=by
 have h1:=Int.tmod_lt_of_pos a (show (0:Int)<n by omega);have h2:=Int.tmod_lt_of_pos (-a) (show (0:Int)<n by omega);rw[Int.neg_tmod] at h2;omega
theorem LQ(z:Int):∃ u:UInt8,IntKind.u8.wrap z=u.toNat:=by
 have h:IntKind.u8.wrap z=z%256:=by unfold IntKind.wrap;simp[IntKind.bits,IntKind.signed]
 refine⟨UInt8.ofNat (z%256).toNat,?_⟩;rw[h,UInt8.toNat_ofNat'];omega
end
section
open Go Go.RowKit Go.Maps
theorem B1(g:Nat)(x:Img)(im:By)(hx:Go.Proofs.YthdecfkdgdagcaaGreat.mnt im=some x)(W:World)(hI:ImV W.heap g x)(hb : -9223372036854775808≤x.F 9∧x.F 9≤9223372036854775807) :
 CA 16 [pT g,iV (x.F 9),sN,sN] W fun v w'=>∃ (o:Option Addr) (c:Nat) (qs:List (NdH×Nd)),v=.tuple #[.slice o qs.length c,.bool true]∧nds qs=wlk x 17 (x.F 9) []∧tT (nds qs)∧cD (Bd w'.heap o) w'.heap o c qs∧aA nob W w':=by
 obtain⟨h1,h2,h3⟩:=Kg hx;have h:=zL g x W hI h3 17 (x.F 9) none 0 [] none 0 [] W h1 (by decide) hb (Wt _ _) WE Wy (by simp) ⟨rfl,Wz 0 (Nat.zero_le _),fun h=>absurd rfl h⟩ (by simpa using h2.1);refine h.mono (fun e w' hR=>?_);obtain⟨v,rfl,o,c,qs,rfl,hq,ho,hqv,_,_,hf⟩:=hR;have hq:nds qs=wlk x 17 (x.F 9) []:=hq;exact⟨_,rfl,o,c,qs,rfl,hq,by rw[hq];exact h2,⟨ho.vw aB,hqv⟩,hf.mono (fun k ⟨a,ha,_⟩=>by cases ha)⟩
theorem Gn{qs:List (NdH×Nd)}(h:tT (nds qs)):∀ p∈qs,smN p.2:=fun p hp=>by
 have hm:p.2∈nds qs:=mem_map.2 ⟨p,hp,rfl⟩;obtain⟨_,_,_,_,_,_,_,hT,hX⟩:=h.2.2.2.2.2.2.1 p.2 hm;refine⟨?_,fun s hs=>?_,fun x hx=>?_⟩
 · unfold okT at hT
   split at hT
   ·have:=hT.2.1;unfold maxLen;omega
   ·rw[hT];exact Nat.zero_le _
 ·have:=(kX (h.2.1 p.2 hm s hs)).1;unfold maxLen;omega
 ·have:=EU hX x hx;unfold maxLen;omega
theorem wV(a0:Option Addr)(cap0:Nat)(x0:List (NdH×Nd))(a1:Option Addr)(cap1:Nat)(x1:List (Int×Int))(z2:Int)(W:World)(hv0:cD (fun k=>k<W.heap.size) W.heap a0 cap0 x0)(hw0:∀ p∈x0,okN p.2∧smN p.2)(hv1:VwM 2 AZ W.heap a1 cap1 x1)(hw1:∀ z∈x1,(-9223372036854775808≤z.1∧z.1≤9223372036854775807)∧(-9223372036854775808≤z.2∧z.2≤9223372036854775807))(hz2 : -9223372036854775808≤z2∧z2≤9223372036854775807) :
 CA 5 [.slice a0 x0.length cap0,.slice a1 x1.length cap1,iV z2] W fun v w'=>v=.bool true∧aA nob W w':=by
 have h63:=hv1.WQ;have hfl:=Ki x0;refine cS 108 [(0,_),(1,_),(2,_)] Tryz.func5 ?_;refine cA 7 fn8 (HU W) ?_;rintro _ w1 ⟨rfl,hf1⟩;refine cA 6 Th (MK a0 cap0 x0 w1 (hv0.WR hf1)) ?_;rintro _ w2 ⟨o2,c2,rfl,ho2,hfo2,hf2,hvf⟩;obtain⟨ls,hls⟩:∃ ls,ls=wW x0:=⟨_,rfl⟩
 have hsm2:∀ p∈ls,smN p.2:=by rw[hls];exact Kj (fun p hp=>(hw0 p hp).2.mfew)
 rw[←hls] at hvf hfl ⊢;have hF2:=hf1.trans hf2;have hzs2:=hF2.size;refine Ts fn9 rfl (Ao o2 c2 ls w2 ⟨hvf.1,fun p hp=>(hvf.2 p hp).mono (fun k (hk:k<W.heap.size)=>(by omega:k<w2.heap.size))⟩ hsm2 hfl) rfl ?_;intro v w3 hB;obtain⟨o3,c3,B,E,rfl,hoB,hfrB,hf3,hE⟩:=hB.of hfl;have hF3:=hF2.trans hf3;refine fK 11 ?_ ?_<;>intro h24
 ·refine Gz 12 ?_;exact⟨_,rfl,rfl,hF3⟩
 obtain⟨hz,ids,M,hBe,hB64,hBm⟩:=hE (not_not.1 h24);obtain⟨nb,hnb⟩:∃ n,n=B.length:=⟨_,rfl⟩
 rw[←hnb];have hnb3:∀ a,o3=some a→W.heap.size≤a.block:=fun a ha=>by have:=hfrB a ha;omega
 refine Gz 12 ?_;refine TA (β:=Nat×By) (fun⟨i,b⟩=>[(1,.slice a1 x1.length cap1),(2,iV z2),(7,.bool true),(8,.slice o3 nb c3),(10,iV i)]) (fun⟨i,b⟩ w=>i≤x1.length∧b.length=nb∧Own b8 5 w.heap o3 c3 b∧aA (blk o3) w3 w) (fun⟨i,b⟩=>x1.length-i) ⟨0,B⟩ ⟨rfl,rfl,rfl,rfl,rfl,trivial⟩ ⟨Nat.zero_le _,hnb.symm,hoB,Wt _ _⟩ ?_;rintro⟨i,b⟩ w4 ⟨hi,hbl,ho4,hf4⟩;refine fK 6 ?_ ?_<;>intro h29
 ·refine fW 2 ?_ ?_<;>intro h32
  ·have hil:i<x1.length:=by omega
   obtain⟨x,hx⟩:∃ x,x1[i]?=some x:=⟨_,List.getElem?_eq_getElem hil⟩
   have hxb:=hw1 x (mem_of_getElem? hx);have htd:=Pt (a:=x.1) (n:=nb) (by omega);have hv1w:VwM 2 AZ w4.heap a1 cap1 x1:=(hv1.keep' hF3 (fun _ _ _=>id)).keep' hf4 (fun hne a ha hb=>by obtain⟨c,hc,e⟩:=hb;have h1:=hnb3 c hc;have h2:=hv1.lt hne (fun x e=>by cases e) a ha;omega);refine Gz 2 ?_;refine aW [(1,_),(2,_),(7,_),(8,_),(10,_),(33,_)] ?_;refine Gz 10 ?_;refine cL (Tv Oq rfl rfl hv1w.non (by omega)) ?_;refine Gz 1 ?_;refine cL (Tu aI rfl (hv1w.rowZ i rfl hx 0 _ rfl)) ?_;refine Gz 2 ?_;refine cL (Vz rfl rfl (by omega)) ?_;refine Gz 3 ?_;refine TY (β:=Nat) (fun tn=>[(1,.slice a1 x1.length cap1),(2,iV z2),(7,.bool true),(8,.slice o3 nb c3),(10,iV i),(11,iV tn)]) (fun tn w=>tn<nb∧w=w4) ?_ ?_
   ·refine fK 3 ?_ ?_<;>intro h45
    ·refine Gz 5 ?_;refine cL (VN rfl (by omega)) ?_;refine Gz 2 ?_;exact T8 (- x.1.tmod nb).toNat ⟨rfl,rfl,rfl,rfl,rfl,congrArg (fun z:Int=>some (Value.int .i64 z)) (by omega),trivial⟩ ⟨by omega,rfl⟩
    refine Gz 4 ?_;exact T8 (x.1.tmod nb).toNat ⟨rfl,rfl,rfl,rfl,rfl,congrArg (fun z:Int=>some (Value.int .i64 z)) (by omega),trivial⟩ ⟨by omega,rfl⟩
   rintro tn w5 ⟨htn,hw5⟩;subst w5;refine TG 14 (fun H=>Vw b8 H o3 c3 b∧VwM 2 AZ H a1 cap1 x1) [14] [0,1,2,3,4,5,6,7,8,9,10,11,12,13,14] aL (by kernel_rfl) (⟨ho4.vw,hv1w⟩) ?_;refine Gz 4 ?_;refine xC rfl (Tt aK rfl rfl (by rw[←hbl];exact ho4.vw.non) (by omega)) ?_;refine xC rfl (TF gW rfl (fun H hH=>hH.1.gd 0 (by omega))) ?_;refine Gz 2 ?_;refine xC rfl (Tv Oq rfl rfl hv1w.non (by omega)) ?_;refine Gz 1 ?_;refine xC rfl (TF aI rfl (fun H hH=>hH.2.rowZ i rfl hx 1 _ rfl)) ?_;obtain⟨u,hu⟩:=LQ x.2;refine xC rfl (TD (n:=(u.toNat:Int)) is3 ty5 rfl hu) ?_;refine xC rfl (Tw (u:=b8 (b.getD tn 0 ^^^ u)) (UX rfl rfl (b.getD tn 0).toNat_lt u.toNat_lt) (by unfold b8;rw[UInt8.toNat_xor];rfl)) ?_;refine xC rfl (Tt aK rfl rfl (by rw[←hbl];exact ho4.vw.non) (by omega)) ?_;refine Ty rfl rfl (T7 aV gW rfl rfl ho4 (by omega) ?_);intro w6 ho6 hs6 hf6;refine T6 rfl ?_;refine Gz 8 ?_;exact aG ⟨i+1,b.set tn (b.getD tn 0 ^^^ u)⟩ ⟨by omega,by rw[List.length_set];exact hbl,by rw[Int.toNat_natCast] at ho6;exact ho6,hf4.trans hf6.WP⟩ (by show x1.length-(i+1)<x1.length-i;omega)
  refine Gz 2 ?_;refine aW [(1,_),(2,_),(7,_),(8,_),(10,_),(33,_)] ?_;refine Gz 7 ?_;refine TY (β:=By) (fun d=>[(7,.bool true),(8,.slice o3 d.length c3)]) (fun d w=>Vw b8 w.heap o3 c3 d∧d.length≤1073741824∧w=w4) ?_ ?_
  ·refine fK 3 ?_ ?_<;>intro h63
   ·refine fW 4 ?_ ?_<;>intro h68
    ·have hcl:(nb:Int)-z2≤c3:=by have:=ho4.vw.le;omega
     refine Gz 10 ?_;refine cL (Tw (u:=.slice o3 (b.take ((nb:Int)-z2).toNat).length c3) (TP aK rfl rfl (by omega)) (by rw[aU,length_take,Nat.min_eq_left (by omega)])) ?_;refine Gz 2 ?_;exact aC (b.take ((nb:Int)-z2).toNat) ⟨ho4.vw.take _,by rw[length_take];omega,rfl⟩
    refine Gz 5 ?_;exact T8 b ⟨rfl,by rw[hbl];rfl,trivial⟩ ⟨ho4.vw,by omega,rfl⟩
   refine Gz 10 ?_;exact T8 b ⟨rfl,by rw[hbl];rfl,trivial⟩ ⟨ho4.vw,by omega,rfl⟩
  rintro d w5 ⟨hvd,hdl,hw5⟩;subst w5;refine Gz 3 ?_;refine Ts M9 rfl (rP o3 c3 d w4 hvd (by omega)) rfl ?_;intro v w5 h5;obtain⟨hf5,h5⟩:=h5.of;have hF4:aA nob W w4:=hF3.WO hf4 (fun k ⟨a,ha,e⟩=>.inr (by have:=hnb3 a ha;omega));have hv5:∃ pp E,v=.tuple #[.pointer pp,iV E]∧((pp=none∧E=2)∨∃ x g,pp=some ⟨g,0,none⟩∧E=0∧Go.Proofs.YthdecfkdgdagcaaGreat.mnt d=some x∧ImV w5.heap g x∧-9223372036854775808≤x.F 9∧x.F 9≤9223372036854775807):=by
   rcases h5 with⟨rfl,_⟩|⟨x,g,rfl,h1,h2,h3,h4⟩
   ·exact⟨none,2,rfl,.inl ⟨rfl,rfl⟩⟩
   · refine⟨_,0,rfl,.inr ⟨x,g,rfl,rfl,h1,h4,?_⟩⟩
     obtain⟨_,_,_,_,_,_,hq,_⟩:=h4;have h:=hq.2.2.2.2.2.2.2;omega
  obtain⟨pp,E5,rfl,hv5⟩:=hv5;refine Gz 11 ?_;refine TZ (TV (Uq JT rfl rfl)) rfl (fun h82=>?_) (fun h82=>?_)
  ·obtain⟨rfl,rfl⟩:=hv5.resolve_right (fun⟨_,_,e,_⟩=>by rw[e] at h82;cases h82);refine Gz 8 ?_;refine cW (Ug (Ud rfl rfl) rfl) ?_;refine Gz 7 ?_
   first
   |exact⟨_,rfl,rfl,((hF4.trans hf5).trans hf6).trans hf7⟩
   |exact⟨_,rfl,rfl,hF4.trans hf5⟩
  obtain⟨x,g,rfl,rfl,hx,hI,hb9⟩:=hv5.resolve_left (fun h=>by rw[h.1] at h82;exact h82 rfl);refine Gz 9 ?_;refine Ts O9 rfl (tM g _ w5 hI) rfl ?_;rintro _ w6 ⟨rfl,hw⟩;subst w6;refine cA 0 K3 (B1 g x d hx w5 hI hb9) ?_;rintro _ w6 ⟨o6,c6,got,rfl,hgt,hgd,hgv,hf6⟩;refine Gz 15 ?_;refine cW (Ug (Ud rfl rfl) rfl) ?_;refine Gz 3 ?_;refine TJ rfl rfl O8 rfl (tK o6 c6 got w6 hgv (Gn hgd)) rfl ?_;rintro _ w7 ⟨rfl,hf7⟩;rw[(yJ _).2 hgd];refine cW (Ug (Ud rfl rfl) rfl) ?_;refine Gz 6 ?_
  first
  |exact⟨_,rfl,rfl,((hF4.trans hf5).trans hf6).trans hf7⟩
  |exact⟨_,rfl,rfl,hF4.trans hf5⟩
 refine Gz 5 ?_;refine aW [(1,_),(2,_),(7,_),(8,_),(10,_),(33,_)] ?_;refine Gz 7 ?_;refine TY (β:=By) (fun d=>[(7,.bool true),(8,.slice o3 d.length c3)]) (fun d w=>Vw b8 w.heap o3 c3 d∧d.length≤1073741824∧w=w4) ?_ ?_
 ·refine fK 3 ?_ ?_<;>intro h63
  ·refine fW 4 ?_ ?_<;>intro h68
   ·have hcl:(nb:Int)-z2≤c3:=by have:=ho4.vw.le;omega
    refine Gz 10 ?_;refine cL (Tw (u:=.slice o3 (b.take ((nb:Int)-z2).toNat).length c3) (TP aK rfl rfl (by omega)) (by rw[aU,length_take,Nat.min_eq_left (by omega)])) ?_;refine Gz 2 ?_;exact aC (b.take ((nb:Int)-z2).toNat) ⟨ho4.vw.take _,by rw[length_take];omega,rfl⟩
   refine Gz 5 ?_;exact T8 b ⟨rfl,by rw[hbl];rfl,trivial⟩ ⟨ho4.vw,by omega,rfl⟩
  refine Gz 10 ?_;exact T8 b ⟨rfl,by rw[hbl];rfl,trivial⟩ ⟨ho4.vw,by omega,rfl⟩
 rintro d w5 ⟨hvd,hdl,hw5⟩;subst w5;refine Gz 3 ?_;refine Ts M9 rfl (rP o3 c3 d w4 hvd (by omega)) rfl ?_;intro v w5 h5;obtain⟨hf5,h5⟩:=h5.of;have hF4:aA nob W w4:=hF3.WO hf4 (fun k ⟨a,ha,e⟩=>.inr (by have:=hnb3 a ha;omega));have hv5:∃ pp E,v=.tuple #[.pointer pp,iV E]∧((pp=none∧E=2)∨∃ x g,pp=some ⟨g,0,none⟩∧E=0∧Go.Proofs.YthdecfkdgdagcaaGreat.mnt d=some x∧ImV w5.heap g x∧-9223372036854775808≤x.F 9∧x.F 9≤9223372036854775807):=by
  rcases h5 with⟨rfl,_⟩|⟨x,g,rfl,h1,h2,h3,h4⟩
  ·exact⟨none,2,rfl,.inl ⟨rfl,rfl⟩⟩
  · refine⟨_,0,rfl,.inr ⟨x,g,rfl,rfl,h1,h4,?_⟩⟩
    obtain⟨_,_,_,_,_,_,hq,_⟩:=h4;have h:=hq.2.2.2.2.2.2.2;omega
 obtain⟨pp,E5,rfl,hv5⟩:=hv5;refine Gz 11 ?_;refine TZ (TV (Uq JT rfl rfl)) rfl (fun h82=>?_) (fun h82=>?_)
 ·obtain⟨rfl,rfl⟩:=hv5.resolve_right (fun⟨_,_,e,_⟩=>by rw[e] at h82;cases h82);refine Gz 8 ?_;refine cW (Ug (Ud rfl rfl) rfl) ?_;refine Gz 7 ?_
  first
  |exact⟨_,rfl,rfl,((hF4.trans hf5).trans hf6).trans hf7⟩
  |exact⟨_,rfl,rfl,hF4.trans hf5⟩
 obtain⟨x,g,rfl,rfl,hx,hI,hb9⟩:=hv5.resolve_left (fun h=>by rw[h.1] at h82;exact h82 rfl);refine Gz 9 ?_;refine Ts O9 rfl (tM g _ w5 hI) rfl ?_;rintro _ w6 ⟨rfl,hw⟩;subst w6;refine cA 0 K3 (B1 g x d hx w5 hI hb9) ?_;rintro _ w6 ⟨o6,c6,got,rfl,hgt,hgd,hgv,hf6⟩;refine Gz 15 ?_;refine cW (Ug (Ud rfl rfl) rfl) ?_;refine Gz 3 ?_;refine TJ rfl rfl O8 rfl (tK o6 c6 got w6 hgv (Gn hgd)) rfl ?_;rintro _ w7 ⟨rfl,hf7⟩;rw[(yJ _).2 hgd];refine cW (Ug (Ud rfl rfl) rfl) ?_;refine Gz 6 ?_
 first
 |exact⟨_,rfl,rfl,((hF4.trans hf5).trans hf6).trans hf7⟩
 |exact⟨_,rfl,rfl,hF4.trans hf5⟩
end
end Go.Proofs.YthdecfkdgdagcaaGreat
