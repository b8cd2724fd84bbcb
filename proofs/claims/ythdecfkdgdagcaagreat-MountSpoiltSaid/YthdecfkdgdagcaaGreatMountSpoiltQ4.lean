/- lamella: what the law needs. No condition beyond the bounds that each states. -/
import Derived.Test.YthdecfkdgdagcaaGreatMountSpoiltQ3
namespace Go.Proofs.YthdecfkdgdagcaaGreat
open Go Go.RowKit
set_option linter.unusedVariables false
set_option linter.unusedSectionVars false
set_option maxHeartbeats 64000000
open List (append_assoc append_nil drop_drop drop_eq_getElem_cons drop_left' length_append length_cons length_drop length_eq_zero_iff length_map length_nil length_pos_iff length_set length_singleton length_take map_cons mem_append mem_cons mem_flatMap mem_map mem_of_getElem? mem_singleton not_mem_nil take_append_drop take_left' take_length)
open Classical (byContradiction not_not)
open Option (getD_some map_some)
theorem GV:(Tryz.prog.info? 76).map (fun i=>i.zero.map (·.cells))=some (some #[sN,sN,sN,sN,sN,sN,sN,sN,sN,sN,sN,sN,iV 0]):=by kernel_rfl
def biC(lv iv a1 b1 a2 b2 a3 b3 rv fv sv tv:Value)(many:Int):List Value:=[lv,iv,a1,b1,a2,b2,a3,b3,rv,fv,sv,tv,iV many]
structure BiA where
 lo:Option Addr
 lc:Nat
 io:Option Addr
 ic:Nat
 f1:Option Addr
 c1:Nat
 t1:Option Addr
 d1:Nat
 f2:Option Addr
 c2:Nat
 t2:Option Addr
 d2:Nat
 f3:Option Addr
 c3:Nat
 t3:Option Addr
 d3:Nat
 ro:Option Addr
 rc:Nat
 fo:Option Addr
 fc:Nat
 so:Option Addr
 sc:Nat
 tr:Option Addr
 tc:Nat
 hs:List Hd
def biK(a:BiA)(qs:List (NdH×Nd))(ids:List Int)(files:List Ino)(s:BSt):List Value:=
 biC (.slice a.lo qs.length a.lc) (.slice a.io ids.length a.ic) (.slice a.f1 (aY [] s.ino).1.length a.c1) (.slice a.t1 (aY [] s.ino).2.length a.d1) (.slice a.f2 (aY [] s.lst).1.length a.c2) (.slice a.t2 (aY [] s.lst).2.length a.d2)
  (.slice a.f3 (aY [] s.fur).1.length a.c3) (.slice a.t3 (aY [] s.fur).2.length a.d3) (.slice a.ro s.refs.length a.rc) (.slice a.fo files.length a.fc) (.slice a.so s.sets.length a.sc) (.slice a.tr s.sets.length a.tc) s.many
def WrM(ow:Nat→Nat)(z:Nat)(H:Array Obj)(Q:By)(fo:Option Addr)(fc:Nat)(to:Option Addr)(tc:Nat):Prop:=
 Own b8 5 H fo fc (aY [] Q).1∧Own b8 5 H to tc (aY [] Q).2∧Ap fo to∧(∀ k,blk fo k→ow k=z)∧(∀ k,blk to k→ow k=z)
def BiW(a:BiA)(ow:Nat→Nat)(H:Array Obj)(g:Nat)(qs:List (NdH×Nd))(ids:List Int)(files:List Ino)(s:BSt):Prop:=
 H[g]?=some (.cells (biK a qs ids files s).toArray 76 (0,0))∧ow g=6 ∧
 (cD (fun k=>ow k=4) H a.lo a.lc qs∧(qs≠[]→∀ k,blk a.lo k→ow k=4))∧(Vw i64 H a.io a.ic ids∧∀ k,blk a.io k→ow k=4)∧(VwM 11 zA H a.fo a.fc files∧∀ k,blk a.fo k→ow k=4) ∧
 WrM ow 1 H s.ino a.f1 a.c1 a.t1 a.d1∧WrM ow 2 H s.lst a.f2 a.c2 a.t2 a.d2∧WrM ow 3 H s.fur a.f3 a.c3 a.t3 a.d3 ∧
 (Own i64 3 H a.ro a.rc s.refs∧∀ k,blk a.ro k→ow k=5)∧(Own hd 66 H a.so a.sc a.hs∧∀ k,blk a.so k→ow k=7) ∧
 (a.hs.length=s.sets.length∧∀ (i:Nat) (h:Hd) (y:List Xa×Int),a.hs[i]?=some h→s.sets[i]?=some y→XsV (fun k=>ow k=4) H h y.1)∧(Own i64 3 H a.tr a.tc (s.sets.map (·.2))∧∀ k,blk a.tr k→ow k=8)
def Lb(ow:Nat→Nat):Nat→Prop:=fun k=>ow k≠0∧ow k≠4
theorem WrM.WS{ow ow':Nat→Nat}{z:Nat}{S:Nat→Prop}{w w':World}{Q:By}{fo to:Option Addr}{fc tc:Nat}(h:WrM ow z w.heap Q fo fc to tc)(f:aA S w w')(hS:∀ k,ow k=z→¬ S k)(ho:∀ k,ow k=z→ow' k=z):WrM ow' z w'.heap Q fo fc to tc:=
 ⟨h.1.WS f (fun a ha=>hS _ (h.2.2.2.1 _ ⟨a,ha,rfl⟩)),h.2.1.WS f (fun a ha=>hS _ (h.2.2.2.2 _ ⟨a,ha,rfl⟩)),h.2.2.1,fun k hk=>ho k (h.2.2.2.1 k hk),fun k hk=>ho k (h.2.2.2.2 k hk)⟩
section
variable {a:BiA}{ow ow':Nat→Nat}{g:Nat}{qs:List (NdH×Nd)}{ids:List Int}{files:List Ino}{s:BSt}
theorem dJ{D D' S:Nat→Prop}{w w':World}{lo:Option Addr}{lc:Nat}(h:cD D w.heap lo lc qs)(f:aA S w w')(hS:∀ k,D k→¬ S k)(hl:qs≠[]→∀ k,blk lo k→¬ S k)(hD:∀ k,D k→D' k):cD D' w'.heap lo lc qs:=
 ⟨h.1.keep' f (fun hne a ha=>hl hne _ ⟨a,ha,rfl⟩),fun p hp=>((h.2 p hp).WS f hS).mono hD⟩
theorem BiW.WS{S:Nat→Prop}{w w':World}(h:BiW a ow w.heap g qs ids files s)(f:aA S w w')(hS:∀ k,ow k≠0→¬ S k)(ho:∀ k,ow k≠0→ow' k=ow k):BiW a ow' w'.heap g qs ids files s:=by
 obtain⟨hg,hl,⟨n1,n2⟩,⟨i1,i2⟩,⟨f1,f2⟩,w1,w2,w3,⟨r1,r2⟩,⟨s1,s2⟩,⟨e1,e2⟩,t1,t2⟩:=h;have key:∀ z,z≠0→∀ k,ow k=z→¬ S k:=fun z hz k hk=>hS k (by omega);have kz:∀ z,z≠0→∀ k,ow k=z→ow' k=z:=fun z hz k hk=>by rw[ho k (by omega)];exact hk
 exact⟨f.obj hg (hS g (by omega)),kz 6 (by decide) g hl,⟨dJ n1 f (key 4 (by decide)) (fun hne k hk=>key 4 (by decide) k (n2 hne k hk)) (kz 4 (by decide)),fun hne k hk=>kz 4 (by decide) k (n2 hne k hk)⟩,
  ⟨i1.WS f (fun a ha=>key 4 (by decide) _ (i2 _ ⟨a,ha,rfl⟩)),fun k hk=>kz 4 (by decide) k (i2 k hk)⟩,⟨f1.WS f (fun a ha=>key 4 (by decide) _ (f2 _ ⟨a,ha,rfl⟩)),fun k hk=>kz 4 (by decide) k (f2 k hk)⟩,
  w1.WS f (key 1 (by decide)) (kz 1 (by decide)),w2.WS f (key 2 (by decide)) (kz 2 (by decide)),w3.WS f (key 3 (by decide)) (kz 3 (by decide)),
  ⟨r1.WS f (fun a ha=>key 5 (by decide) _ (r2 _ ⟨a,ha,rfl⟩)),fun k hk=>kz 5 (by decide) k (r2 k hk)⟩,⟨s1.WS f (fun a ha=>key 7 (by decide) _ (s2 _ ⟨a,ha,rfl⟩)),fun k hk=>kz 7 (by decide) k (s2 k hk)⟩,
  ⟨e1,fun i h y hh hy=>((e2 i h y hh hy).WS f (key 4 (by decide))).mono (kz 4 (by decide))⟩,t1.WS f (fun a ha=>key 8 (by decide) _ (t2 _ ⟨a,ha,rfl⟩)),fun k hk=>kz 8 (by decide) k (t2 k hk)⟩
theorem BiW.WR{w w':World}(h:BiW a ow w.heap g qs ids files s)(f:aA nob w w'):BiW a ow w'.heap g qs ids files s:=h.WS f (fun _ _=>id) (fun _ _=>rfl)
def NY(a:BiA)(qs:List (NdH×Nd))(ids:List Int)(files:List Ino)(s:BSt)(x y:Value):List Value:=
 biC (.slice a.lo qs.length a.lc) (.slice a.io ids.length a.ic) x y (.slice a.f2 (aY [] s.lst).1.length a.c2) (.slice a.t2 (aY [] s.lst).2.length a.d2) (.slice a.f3 (aY [] s.fur).1.length a.c3) (.slice a.t3 (aY [] s.fur).2.length a.d3) (.slice a.ro s.refs.length a.rc) (.slice a.fo files.length a.fc) (.slice a.so s.sets.length a.sc) (.slice a.tr s.sets.length a.tc) s.many
theorem Gh(a:BiA)(qs:List (NdH×Nd))(ids:List Int)(files:List Ino)(s:BSt):yV 2 (NY a qs ids files s):=⟨fun _ _=>rfl,fun _ _=>rfl,fun _ _ _=>rfl,fun _ _ _=>rfl,fun _ _=>rfl,fun _ _=>rfl⟩
theorem BiW.rwi1{H:Array Obj}(h:BiW a ow H g qs ids files s):RwI (NY a qs ids files s) 76 (fun k=>k=g∨ow k=1) H g (aY [] s.ino).1 (aY [] s.ino).2:=by
 obtain⟨hg,hl,_,_,_,w1,w2,w3,_⟩:=h;exact⟨a.f1,a.c1,a.t1,a.d1,hg,w1.1,w1.2.1,fun h=>by have:=w1.2.2.2.1 g h;omega,fun h=>by have:=w1.2.2.2.2 g h;omega,w1.2.2.1,.inl rfl,fun k hk=>.inr (w1.2.2.2.1 k hk),fun k hk=>.inr (w1.2.2.2.2 k hk)⟩
theorem Iy(bo:Option Addr)(bc:Nat)(b:By)(W:World)(hM:BiW a ow W.heap g qs ids files s)(hn:∀ k,W.heap.size≤k→ow k=0)(hv:Vw b8 W.heap bo bc b)(hb:b≠[]→∀ k,blk bo k→ow k=0∨ow k=4)(hl:s.ino.length+b.length≤274877906944) :
 CA 29 [.pointer (some ⟨g,2,none⟩),.slice bo b.length bc] W fun v w'=>v=iV (aN s.ino s.ino.length:Nat)∧∃ (a':BiA) (ow':Nat→Nat),BiW a' ow' w'.heap g qs ids files { s with ino:=s.ino++b } ∧
  (a'.lo=a.lo∧a'.lc=a.lc∧a'.ro=a.ro∧a'.rc=a.rc)∧(∀ k,k<W.heap.size→ow' k=ow k)∧(∀ k,w'.heap.size≤k→ow' k=0)∧aA (fun k=>k=g∨ow k=1) W w':=by
 have hle:∀ z,z≠0→∀ k,ow k=z→k<W.heap.size:=fun z hz k hk=>byContradiction fun hc=>by have:=hn k (by omega);omega
 have h6:=hM.2.1;refine(qC (Gh a qs ids files s) (fun k=>k=g∨ow k=1) g s.ino bo bc b W hM.rwi1 hv (fun hne k hk h=>by rcases hb hne k hk with h2|h2<;>rcases h with rfl|h<;>omega) hl).mono ?_;rintro e w' ⟨v,rfl,rfl,⟨fo,fc,to,tc,hg',o1,o2,n1,n2,ap,_,l1,l2⟩,hf⟩;obtain⟨hg,_,⟨nd1,nd2⟩,⟨i1,i2⟩,⟨f1,f2⟩,w1,w2,w3,⟨r1,r2⟩,⟨s1,s2⟩,⟨e1,e2⟩,t1,t2⟩:=hM;obtain⟨ow',eo⟩:∃ o:Nat→Nat,o=fun k=>if k<W.heap.size then ow k else if k<w'.heap.size then 1 else 0:=⟨_,rfl⟩
 have c1:∀ k,k<W.heap.size→ow' k=ow k:=fun k hk=>by rw[eo];exact if_pos hk
 have c2:∀ k,w'.heap.size≤k→ow' k=0:=fun k hk=>by
  rw[eo];have:=hf.size;show (if k<W.heap.size then ow k else if k<w'.heap.size then 1 else 0)=0;rw[if_neg (by omega),if_neg (by omega)]
 have c3:∀ k,k≠g→Nx (fun k=>k=g∨ow k=1) W w' k→ow' k=1:=fun k hk h=>by
  rcases h with(h|h)|⟨h,h2⟩
  ·exact absurd h hk
  ·rw[c1 k (hle 1 (by decide) k h)];exact h
  · rw[eo]
    show (if k<W.heap.size then ow k else if k<w'.heap.size then 1 else 0)=1;rw[if_neg (by omega),if_pos h2]
 have key:∀ z,z≠0→z≠1→z≠6→∀ k,ow k=z→¬ (k=g∨ow k=1):=fun z _ h1 h2 k hk h=>by rcases h with rfl|h<;>omega
 have kz:∀ z,z≠0→∀ k,ow k=z→ow' k=z:=fun z hz k hk=>by rw[c1 k (hle z hz k hk)];exact hk
 refine⟨_,rfl,rfl,{ a with f1:=fo,c1:=fc,t1:=to,d1:=tc },ow',⟨hg',kz 6 (by decide) g h6,⟨dJ nd1 hf (key 4 (by decide) (by decide) (by decide)) (fun hne k hk=>key 4 (by decide) (by decide) (by decide) k (nd2 hne k hk)) (kz 4 (by decide)),fun hne k hk=>kz 4 (by decide) k (nd2 hne k hk)⟩,
  ⟨i1.WS hf (fun a ha=>key 4 (by decide) (by decide) (by decide) _ (i2 _ ⟨a,ha,rfl⟩)),fun k hk=>kz 4 (by decide) k (i2 k hk)⟩,⟨f1.WS hf (fun a ha=>key 4 (by decide) (by decide) (by decide) _ (f2 _ ⟨a,ha,rfl⟩)),fun k hk=>kz 4 (by decide) k (f2 k hk)⟩,
  ⟨o1,o2,ap,fun k hk=>c3 k (fun e=>n1 (e ▸ hk)) (l1 k hk),fun k hk=>c3 k (fun e=>n2 (e ▸ hk)) (l2 k hk)⟩,w2.WS hf (key 2 (by decide) (by decide) (by decide)) (kz 2 (by decide)),w3.WS hf (key 3 (by decide) (by decide) (by decide)) (kz 3 (by decide)),
  ⟨r1.WS hf (fun a ha=>key 5 (by decide) (by decide) (by decide) _ (r2 _ ⟨a,ha,rfl⟩)),fun k hk=>kz 5 (by decide) k (r2 k hk)⟩,⟨s1.WS hf (fun a ha=>key 7 (by decide) (by decide) (by decide) _ (s2 _ ⟨a,ha,rfl⟩)),fun k hk=>kz 7 (by decide) k (s2 k hk)⟩,
  ⟨e1,fun i h y hh hy=>((e2 i h y hh hy).WS hf (key 4 (by decide) (by decide) (by decide))).mono (kz 4 (by decide))⟩,t1.WS hf (fun a ha=>key 8 (by decide) (by decide) (by decide) _ (t2 _ ⟨a,ha,rfl⟩)),fun k hk=>kz 8 (by decide) k (t2 k hk)⟩,⟨rfl,rfl,rfl,rfl⟩,c1,c2,hf⟩
def NX(a:BiA)(qs:List (NdH×Nd))(ids:List Int)(files:List Ino)(s:BSt)(x y:Value):List Value:=
 biC (.slice a.lo qs.length a.lc) (.slice a.io ids.length a.ic) (.slice a.f1 (aY [] s.ino).1.length a.c1) (.slice a.t1 (aY [] s.ino).2.length a.d1) x y (.slice a.f3 (aY [] s.fur).1.length a.c3) (.slice a.t3 (aY [] s.fur).2.length a.d3) (.slice a.ro s.refs.length a.rc) (.slice a.fo files.length a.fc) (.slice a.so s.sets.length a.sc) (.slice a.tr s.sets.length a.tc) s.many
theorem Gg(a:BiA)(qs:List (NdH×Nd))(ids:List Int)(files:List Ino)(s:BSt):yV 4 (NX a qs ids files s):=⟨fun _ _=>rfl,fun _ _=>rfl,fun _ _ _=>rfl,fun _ _ _=>rfl,fun _ _=>rfl,fun _ _=>rfl⟩
theorem BiW.rwi2{H:Array Obj}(h:BiW a ow H g qs ids files s):RwI (NX a qs ids files s) 76 (fun k=>k=g∨ow k=2) H g (aY [] s.lst).1 (aY [] s.lst).2:=by
 obtain⟨hg,hl,_,_,_,w1,w2,w3,_⟩:=h;exact⟨a.f2,a.c2,a.t2,a.d2,hg,w2.1,w2.2.1,fun h=>by have:=w2.2.2.2.1 g h;omega,fun h=>by have:=w2.2.2.2.2 g h;omega,w2.2.2.1,.inl rfl,fun k hk=>.inr (w2.2.2.2.1 k hk),fun k hk=>.inr (w2.2.2.2.2 k hk)⟩
theorem Iw(bo:Option Addr)(bc:Nat)(b:By)(W:World)(hM:BiW a ow W.heap g qs ids files s)(hn:∀ k,W.heap.size≤k→ow k=0)(hv:Vw b8 W.heap bo bc b)(hb:b≠[]→∀ k,blk bo k→ow k=0∨ow k=4)(hl:s.lst.length+b.length≤274877906944) :
 CA 29 [.pointer (some ⟨g,4,none⟩),.slice bo b.length bc] W fun v w'=>v=iV (aN s.lst s.lst.length:Nat)∧∃ (a':BiA) (ow':Nat→Nat),BiW a' ow' w'.heap g qs ids files { s with lst:=s.lst++b } ∧
  (a'.lo=a.lo∧a'.lc=a.lc∧a'.ro=a.ro∧a'.rc=a.rc)∧(∀ k,k<W.heap.size→ow' k=ow k)∧(∀ k,w'.heap.size≤k→ow' k=0)∧aA (fun k=>k=g∨ow k=2) W w':=by
 have hle:∀ z,z≠0→∀ k,ow k=z→k<W.heap.size:=fun z hz k hk=>byContradiction fun hc=>by have:=hn k (by omega);omega
 have h6:=hM.2.1;refine(qC (Gg a qs ids files s) (fun k=>k=g∨ow k=2) g s.lst bo bc b W hM.rwi2 hv (fun hne k hk h=>by rcases hb hne k hk with h2|h2<;>rcases h with rfl|h<;>omega) hl).mono ?_;rintro e w' ⟨v,rfl,rfl,⟨fo,fc,to,tc,hg',o1,o2,n1,n2,ap,_,l1,l2⟩,hf⟩;obtain⟨hg,_,⟨nd1,nd2⟩,⟨i1,i2⟩,⟨f1,f2⟩,w1,w2,w3,⟨r1,r2⟩,⟨s1,s2⟩,⟨e1,e2⟩,t1,t2⟩:=hM;obtain⟨ow',eo⟩:∃ o:Nat→Nat,o=fun k=>if k<W.heap.size then ow k else if k<w'.heap.size then 2 else 0:=⟨_,rfl⟩
 have c1:∀ k,k<W.heap.size→ow' k=ow k:=fun k hk=>by rw[eo];exact if_pos hk
 have c2:∀ k,w'.heap.size≤k→ow' k=0:=fun k hk=>by
  rw[eo];have:=hf.size;show (if k<W.heap.size then ow k else if k<w'.heap.size then 2 else 0)=0;rw[if_neg (by omega),if_neg (by omega)]
 have c3:∀ k,k≠g→Nx (fun k=>k=g∨ow k=2) W w' k→ow' k=2:=fun k hk h=>by
  rcases h with(h|h)|⟨h,h2⟩
  ·exact absurd h hk
  ·rw[c1 k (hle 2 (by decide) k h)];exact h
  · rw[eo]
    show (if k<W.heap.size then ow k else if k<w'.heap.size then 2 else 0)=2;rw[if_neg (by omega),if_pos h2]
 have key:∀ z,z≠0→z≠2→z≠6→∀ k,ow k=z→¬ (k=g∨ow k=2):=fun z _ h1 h2 k hk h=>by rcases h with rfl|h<;>omega
 have kz:∀ z,z≠0→∀ k,ow k=z→ow' k=z:=fun z hz k hk=>by rw[c1 k (hle z hz k hk)];exact hk
 refine⟨_,rfl,rfl,{ a with f2:=fo,c2:=fc,t2:=to,d2:=tc },ow',⟨hg',kz 6 (by decide) g h6,⟨dJ nd1 hf (key 4 (by decide) (by decide) (by decide)) (fun hne k hk=>key 4 (by decide) (by decide) (by decide) k (nd2 hne k hk)) (kz 4 (by decide)),fun hne k hk=>kz 4 (by decide) k (nd2 hne k hk)⟩,
  ⟨i1.WS hf (fun a ha=>key 4 (by decide) (by decide) (by decide) _ (i2 _ ⟨a,ha,rfl⟩)),fun k hk=>kz 4 (by decide) k (i2 k hk)⟩,⟨f1.WS hf (fun a ha=>key 4 (by decide) (by decide) (by decide) _ (f2 _ ⟨a,ha,rfl⟩)),fun k hk=>kz 4 (by decide) k (f2 k hk)⟩,
  w1.WS hf (key 1 (by decide) (by decide) (by decide)) (kz 1 (by decide)),⟨o1,o2,ap,fun k hk=>c3 k (fun e=>n1 (e ▸ hk)) (l1 k hk),fun k hk=>c3 k (fun e=>n2 (e ▸ hk)) (l2 k hk)⟩,w3.WS hf (key 3 (by decide) (by decide) (by decide)) (kz 3 (by decide)),
  ⟨r1.WS hf (fun a ha=>key 5 (by decide) (by decide) (by decide) _ (r2 _ ⟨a,ha,rfl⟩)),fun k hk=>kz 5 (by decide) k (r2 k hk)⟩,⟨s1.WS hf (fun a ha=>key 7 (by decide) (by decide) (by decide) _ (s2 _ ⟨a,ha,rfl⟩)),fun k hk=>kz 7 (by decide) k (s2 k hk)⟩,
  ⟨e1,fun i h y hh hy=>((e2 i h y hh hy).WS hf (key 4 (by decide) (by decide) (by decide))).mono (kz 4 (by decide))⟩,t1.WS hf (fun a ha=>key 8 (by decide) (by decide) (by decide) _ (t2 _ ⟨a,ha,rfl⟩)),fun k hk=>kz 8 (by decide) k (t2 k hk)⟩,⟨rfl,rfl,rfl,rfl⟩,c1,c2,hf⟩
def NW(a:BiA)(qs:List (NdH×Nd))(ids:List Int)(files:List Ino)(s:BSt)(x y:Value):List Value:=
 biC (.slice a.lo qs.length a.lc) (.slice a.io ids.length a.ic) (.slice a.f1 (aY [] s.ino).1.length a.c1) (.slice a.t1 (aY [] s.ino).2.length a.d1) (.slice a.f2 (aY [] s.lst).1.length a.c2) (.slice a.t2 (aY [] s.lst).2.length a.d2) x y (.slice a.ro s.refs.length a.rc) (.slice a.fo files.length a.fc) (.slice a.so s.sets.length a.sc) (.slice a.tr s.sets.length a.tc) s.many
theorem Gf(a:BiA)(qs:List (NdH×Nd))(ids:List Int)(files:List Ino)(s:BSt):yV 6 (NW a qs ids files s):=⟨fun _ _=>rfl,fun _ _=>rfl,fun _ _ _=>rfl,fun _ _ _=>rfl,fun _ _=>rfl,fun _ _=>rfl⟩
theorem BiW.rwi3{H:Array Obj}(h:BiW a ow H g qs ids files s):RwI (NW a qs ids files s) 76 (fun k=>k=g∨ow k=3) H g (aY [] s.fur).1 (aY [] s.fur).2:=by
 obtain⟨hg,hl,_,_,_,w1,w2,w3,_⟩:=h;exact⟨a.f3,a.c3,a.t3,a.d3,hg,w3.1,w3.2.1,fun h=>by have:=w3.2.2.2.1 g h;omega,fun h=>by have:=w3.2.2.2.2 g h;omega,w3.2.2.1,.inl rfl,fun k hk=>.inr (w3.2.2.2.1 k hk),fun k hk=>.inr (w3.2.2.2.2 k hk)⟩
theorem Iv(bo:Option Addr)(bc:Nat)(b:By)(W:World)(hM:BiW a ow W.heap g qs ids files s)(hn:∀ k,W.heap.size≤k→ow k=0)(hv:Vw b8 W.heap bo bc b)(hb:b≠[]→∀ k,blk bo k→ow k=0∨ow k=4)(hl:s.fur.length+b.length≤274877906944) :
 CA 29 [.pointer (some ⟨g,6,none⟩),.slice bo b.length bc] W fun v w'=>v=iV (aN s.fur s.fur.length:Nat)∧∃ (a':BiA) (ow':Nat→Nat),BiW a' ow' w'.heap g qs ids files { s with fur:=s.fur++b } ∧
  (a'.lo=a.lo∧a'.lc=a.lc∧a'.ro=a.ro∧a'.rc=a.rc)∧(∀ k,k<W.heap.size→ow' k=ow k)∧(∀ k,w'.heap.size≤k→ow' k=0)∧aA (fun k=>k=g∨ow k=3) W w':=by
 have hle:∀ z,z≠0→∀ k,ow k=z→k<W.heap.size:=fun z hz k hk=>byContradiction fun hc=>by have:=hn k (by omega);omega
 have h6:=hM.2.1;refine(qC (Gf a qs ids files s) (fun k=>k=g∨ow k=3) g s.fur bo bc b W hM.rwi3 hv (fun hne k hk h=>by rcases hb hne k hk with h2|h2<;>rcases h with rfl|h<;>omega) hl).mono ?_;rintro e w' ⟨v,rfl,rfl,⟨fo,fc,to,tc,hg',o1,o2,n1,n2,ap,_,l1,l2⟩,hf⟩;obtain⟨hg,_,⟨nd1,nd2⟩,⟨i1,i2⟩,⟨f1,f2⟩,w1,w2,w3,⟨r1,r2⟩,⟨s1,s2⟩,⟨e1,e2⟩,t1,t2⟩:=hM;obtain⟨ow',eo⟩:∃ o:Nat→Nat,o=fun k=>if k<W.heap.size then ow k else if k<w'.heap.size then 3 else 0:=⟨_,rfl⟩
 have c1:∀ k,k<W.heap.size→ow' k=ow k:=fun k hk=>by rw[eo];exact if_pos hk
 have c2:∀ k,w'.heap.size≤k→ow' k=0:=fun k hk=>by
  rw[eo];have:=hf.size;show (if k<W.heap.size then ow k else if k<w'.heap.size then 3 else 0)=0;rw[if_neg (by omega),if_neg (by omega)]
 have c3:∀ k,k≠g→Nx (fun k=>k=g∨ow k=3) W w' k→ow' k=3:=fun k hk h=>by
  rcases h with(h|h)|⟨h,h2⟩
  ·exact absurd h hk
  ·rw[c1 k (hle 3 (by decide) k h)];exact h
  · rw[eo]
    show (if k<W.heap.size then ow k else if k<w'.heap.size then 3 else 0)=3;rw[if_neg (by omega),if_pos h2]
 have key:∀ z,z≠0→z≠3→z≠6→∀ k,ow k=z→¬ (k=g∨ow k=3):=fun z _ h1 h2 k hk h=>by rcases h with rfl|h<;>omega
 have kz:∀ z,z≠0→∀ k,ow k=z→ow' k=z:=fun z hz k hk=>by rw[c1 k (hle z hz k hk)];exact hk
 refine⟨_,rfl,rfl,{ a with f3:=fo,c3:=fc,t3:=to,d3:=tc },ow',⟨hg',kz 6 (by decide) g h6,⟨dJ nd1 hf (key 4 (by decide) (by decide) (by decide)) (fun hne k hk=>key 4 (by decide) (by decide) (by decide) k (nd2 hne k hk)) (kz 4 (by decide)),fun hne k hk=>kz 4 (by decide) k (nd2 hne k hk)⟩,
  ⟨i1.WS hf (fun a ha=>key 4 (by decide) (by decide) (by decide) _ (i2 _ ⟨a,ha,rfl⟩)),fun k hk=>kz 4 (by decide) k (i2 k hk)⟩,⟨f1.WS hf (fun a ha=>key 4 (by decide) (by decide) (by decide) _ (f2 _ ⟨a,ha,rfl⟩)),fun k hk=>kz 4 (by decide) k (f2 k hk)⟩,
  w1.WS hf (key 1 (by decide) (by decide) (by decide)) (kz 1 (by decide)),w2.WS hf (key 2 (by decide) (by decide) (by decide)) (kz 2 (by decide)),⟨o1,o2,ap,fun k hk=>c3 k (fun e=>n1 (e ▸ hk)) (l1 k hk),fun k hk=>c3 k (fun e=>n2 (e ▸ hk)) (l2 k hk)⟩,
  ⟨r1.WS hf (fun a ha=>key 5 (by decide) (by decide) (by decide) _ (r2 _ ⟨a,ha,rfl⟩)),fun k hk=>kz 5 (by decide) k (r2 k hk)⟩,⟨s1.WS hf (fun a ha=>key 7 (by decide) (by decide) (by decide) _ (s2 _ ⟨a,ha,rfl⟩)),fun k hk=>kz 7 (by decide) k (s2 k hk)⟩,
  ⟨e1,fun i h y hh hy=>((e2 i h y hh hy).WS hf (key 4 (by decide) (by decide) (by decide))).mono (kz 4 (by decide))⟩,t1.WS hf (fun a ha=>key 8 (by decide) (by decide) (by decide) _ (t2 _ ⟨a,ha,rfl⟩)),fun k hk=>kz 8 (by decide) k (t2 k hk)⟩,⟨rfl,rfl,rfl,rfl⟩,c1,c2,hf⟩
end
theorem Dk{im:By}{fr to ref:Int}(h:(bJ im fr to ref).2.2=0):eO (bJ im fr to ref).1.1 (bJ im fr to ref).1.2:=by
 unfold bJ at h ⊢
 split at h
 ·cases h
 · rename_i h1
   rw[if_neg h1]
   split at h
   ·cases h
   · rename_i h2
     rw[if_neg h2]
     split at h
     ·rename_i h3;rw[if_pos h3];exact h3.2
     ·cases h
def uR(x:Rec)(nm:Int)(lo:Option Addr)(lc:Nat)(xo:Option Addr)(xc:Nat):List Value:=
 [iV (x.ino.1 0),iV (x.ino.1 1),iV (x.ino.1 2),iV (x.ino.1 3),iV (x.ino.1 4),iV (x.ino.1 5),iV (x.ino.1 6),iV (x.ino.1 7),iV (x.ino.1 8),iV (x.ino.1 9),.string (bs x.ino.2),iV nm,.slice lo x.list.length lc,.slice xo x.xs.length xc]
def RcV(E:Nat→Prop)(H:Array Obj)(x:Rec)(nm:Int)(p:Nat):Prop:=
 ∃ lo lc xo xc,H[p]?=some (.cells (uR x nm lo lc xo xc).toArray 112 (0,0))∧VwM 3 fV H lo lc x.list∧(x.list≠[]→∀ k,blk lo k→E k)∧XsV E H ⟨xo,x.xs.length,xc⟩ x.xs∧∀ y∈x.xs,y.1.length≤255
theorem MW(ow:Nat→Nat)(a b q c:Nat)(B L:Nat→Prop)(hab:a≤b)(hbc:b≤c)(hqb:b≤q)(hqc:q<c)(hB:∀ k,B k→k<c)(hL:∀ k,L k→k<c):∃ ow':Nat→Nat,(∀ k,k<a→ow' k=ow k)∧(∀ k,a≤k→k<b→ow' k=1)∧ow' q=5 ∧
 (∀ k,b≤k→k≠q→B k→ow' k=3)∧(∀ k,b≤k→k≠q→¬ B k→L k→ow' k=2)∧(∀ k,b≤k→k<c→k≠q→¬ B k→¬ L k→ow' k=4)∧(∀ k,c≤k→ow' k=0):=by
 classical
 refine⟨fun k=>if k<a then ow k else if k<b then 1 else if k=q then 5 else if B k then 3 else if L k then 2 else if k<c then 4 else 0,?_,?_,?_,?_,?_,?_,?_⟩
 ·intro k h;simp[h]
 ·intro k h1 h2;simp[show ¬ k<a by omega,h2]
 ·simp[show ¬ q<a by omega,show ¬ q<b by omega]
 ·intro k h1 h2 h3;simp[show ¬ k<a by omega,show ¬ k<b by omega,h2,h3]
 ·intro k h1 h2 h3 h4;simp[show ¬ k<a by omega,show ¬ k<b by omega,h2,h3,h4]
 ·intro k h1 h2 h3 h4 h5;simp[show ¬ k<a by omega,show ¬ k<b by omega,h2,h3,h4,h5]
 · intro k h
   have h1:¬ B k:=fun h'=>by have:=hB k h';omega
   have h2:¬ L k:=fun h'=>by have:=hL k h';omega
   simp[show ¬ k<a by omega,show ¬ k<b by omega,show ¬ k=q by omega,h1,h2,show ¬ k<c by omega]
theorem JE{im:By}{F:Nat→Int}{n:Int}(h:0<n):fD im F n=iO im (F 6) (F 0) (n-1):=if_pos h
theorem JF{im:By}{F:Nat→Int}{n:Int}(h:¬ 0<n):fD im F n=([],0):=if_neg h
section
variable {im:List UInt8}{F:Nat→Int}{ids:List Int}{ref kind:Int}
theorem rK(h:mO F ids (bJ im (F 2) (F 3) ref) kind):eV im F ids ref kind=none:=if_pos h
theorem Hq(h:¬ mO F ids (bJ im (F 2) (F 3) ref) kind)(h2:(fD im F ((bJ im (F 2) (F 3) ref).1.1 5)).2≠0):eV im F ids ref kind=none:=by unfold eV;rw[if_neg h,if_pos h2]
theorem Ak(h:¬ mO F ids (bJ im (F 2) (F 3) ref) kind)(h2:(fD im F ((bJ im (F 2) (F 3) ref).1.1 5)).2=0)(hk:kind=2)(h3:zG im F (bJ im (F 2) (F 3) ref).1.1):eV im F ids ref kind=none:=by
 unfold eV;rw[if_neg h,if_neg (fun e=>e h2),if_pos hk,if_pos h3]
theorem Aj(h:¬ mO F ids (bJ im (F 2) (F 3) ref) kind)(h2:(fD im F ((bJ im (F 2) (F 3) ref).1.1 5)).2=0)(hk:kind=2)(h3:¬ zG im F (bJ im (F 2) (F 3) ref).1.1) :
 eV im F ids ref kind=some ⟨ref,(bJ im (F 2) (F 3) ref).1,[],(fD im F ((bJ im (F 2) (F 3) ref).1.1 5)).1⟩:=by
 unfold eV;rw[if_neg h,if_neg (fun e=>e h2),if_pos hk,if_neg h3]
theorem Al(h:¬ mO F ids (bJ im (F 2) (F 3) ref) kind)(h2:(fD im F ((bJ im (F 2) (F 3) ref).1.1 5)).2=0)(hk:kind=1)(h3:(qH im F (bJ im (F 2) (F 3) ref).1.1).2≠0):eV im F ids ref kind=none:=by
 unfold eV;rw[if_neg h,if_neg (fun e=>e h2),if_neg (by omega),if_pos hk,if_pos h3]
theorem JG(h:¬ mO F ids (bJ im (F 2) (F 3) ref) kind)(h2:(fD im F ((bJ im (F 2) (F 3) ref).1.1 5)).2=0)(hk:kind=1)(h3:(qH im F (bJ im (F 2) (F 3) ref).1.1).2=0) :
 eV im F ids ref kind=some ⟨ref,(bJ im (F 2) (F 3) ref).1,(qH im F (bJ im (F 2) (F 3) ref).1.1).1,(fD im F ((bJ im (F 2) (F 3) ref).1.1 5)).1⟩:=by
 unfold eV;rw[if_neg h,if_neg (fun e=>e h2),if_neg (by omega),if_pos hk,if_neg (fun e=>e h3)]
theorem Hs(h:¬ mO F ids (bJ im (F 2) (F 3) ref) kind)(h2:(fD im F ((bJ im (F 2) (F 3) ref).1.1 5)).2=0)(hk:kind≠2)(hk1:kind≠1) :
 eV im F ids ref kind=some ⟨ref,(bJ im (F 2) (F 3) ref).1,[],(fD im F ((bJ im (F 2) (F 3) ref).1.1 5)).1⟩:=by
 unfold eV;rw[if_neg h,if_neg (fun e=>e h2),if_neg hk,if_neg hk1]
end
def Rds(ow:Nat→Nat):Nat→Prop:=fun k=>ow k=1∨ow k=2∨ow k=3
def yT(ow:Nat→Nat)(W:World)(tp g1 g2 g3:Nat)(im:By)(F:Nat→Int)(r:Option Rec)(v:Value)(w':World):Prop:=aA (Rds ow) W w'∧match r with
|none=>v=.pointer none
|some x=>∃ (ow':Nat→Nat) (q:Nat),v=.pointer (some ⟨q,0,none⟩)∧W.heap.size≤q∧q<w'.heap.size∧(∀ k,k<W.heap.size→ow' k=ow k)∧(∀ k,w'.heap.size≤k→ow' k=0)∧(∀ k,W.heap.size≤k→k≠q→ow' k≤4)∧ow' q=5∧RcV (fun k=>ow' k=4) w'.heap x 0 q ∧
   MrO (fun k=>ow' k=1) w'.heap g1 tp im (F 2) (F 3)∧MrO (fun k=>ow' k=2) w'.heap g2 tp im (F 3) (F 4)∧MrO (fun k=>ow' k=3) w'.heap g3 tp im (F 6) (F 0)
theorem jS{ow:Nat→Nat}{W w':World}{tp g1 g2 g3:Nat}{im:By}{F:Nat→Int}{r:Option Rec}(hf:aA (Rds ow) W w')(hn:r=none):yT ow W tp g1 g2 g3 im F r (.pointer none) w':=by
 subst hn;exact⟨hf,rfl⟩
theorem F3{ow:Nat→Nat}{W w1 w':World}{tp g1 g2 g3 q z:Nat}{im:By}{F:Nat→Int}{x:Rec}{r:Option Rec}(hx:r=some x){B L:Nat→Prop}{lo xo:Option Addr}{lc xc:Nat}
 (hnew:∀ k,W.heap.size≤k→ow k=0)(hot:ow tp=0)(hf:aA (Rds ow) W w')(hs1:W.heap.size≤w1.heap.size)(hs2:w1.heap.size≤q)(hs3:q<z)(hs4:z≤w'.heap.size)(htl:tp<W.heap.size)
 (h1:MrO (Nx (fun k=>ow k=1) W w1) w'.heap g1 tp im (F 2) (F 3))(h2:MrO L w'.heap g2 tp im (F 3) (F 4))(h3:MrO B w'.heap g3 tp im (F 6) (F 0))
 (hL:∀ k,L k→ow k=2∨(z≤k∧k<w'.heap.size))(hB:∀ k,B k→ow k=3∨(z≤k∧k<w'.heap.size))(hLB:∀ k,z≤k→L k→¬ B k)
 (hq:w'.heap[q]?=some (.cells (uR x 0 lo lc xo xc).toArray 112 (0,0)))(hl:VwM 3 fV w'.heap lo lc x.list)(hld:x.list≠[]→∀ k,blk lo k→z≤k∧k<w'.heap.size∧¬ B k∧¬ L k)
 (hxs:XsV (fun k=>z≤k∧k<w'.heap.size∧¬ B k∧¬ L k) w'.heap ⟨xo,x.xs.length,xc⟩ x.xs)(hx5:∀ y∈x.xs,y.1.length≤255):yT ow W tp g1 g2 g3 im F r (pT q) w':=by
 subst hx;obtain⟨ow',o1,o2,o3,o4,o5,o6,o7⟩:=MW ow W.heap.size w1.heap.size q w'.heap.size (fun k=>B k∧z≤k∧k<w'.heap.size) (fun k=>L k∧z≤k∧k<w'.heap.size) hs1 (by omega) hs2 (by omega) (fun k h=>h.2.2) (fun k h=>h.2.2);have hlt:∀ n,n≠0→∀ k,ow k=n→k<W.heap.size:=fun n hn k hk=>byContradiction fun hc=>by have:=hnew k (by omega);omega
 have htp:ow' tp=0:=by rw[o1 tp htl];exact hot
 have e4:∀ k,z≤k∧k<w'.heap.size∧¬ B k∧¬ L k→ow' k=4:=fun k h=>o6 k (by omega) h.2.1 (by omega) (fun h'=>h.2.2.1 h'.1) (fun h'=>h.2.2.2 h'.1);refine⟨hf,ow',q,rfl,by omega,by omega,o1,o7,fun k hk hkq=>?_,o3,⟨lo,lc,xo,xc,hq,hl,fun hne k hk=>e4 k (hld hne k hk),hxs.mono e4,hx5⟩,h1.mono (fun k hk=>?_) (by rw[htp];decide),h2.mono (fun k hk=>?_) (by rw[htp];decide),h3.mono (fun k hk=>?_) (by rw[htp];decide)⟩
 · by_cases c1:k<w1.heap.size
   ·rw[o2 k hk c1];decide
   · by_cases c2:w'.heap.size≤k
     ·rw[o7 k c2];decide
     · by_cases c3:B k∧z≤k∧k<w'.heap.size
       ·rw[o4 k (by omega) hkq c3];decide
       · by_cases c4:L k∧z≤k∧k<w'.heap.size
         ·rw[o5 k (by omega) hkq c3 c4];decide
         ·rw[o6 k (by omega) (by omega) hkq c3 c4];decide
 · rcases hk with hk|hk
   ·rw[o1 k (hlt 1 (by decide) k hk)];exact hk
   ·exact o2 k hk.1 hk.2
 · rcases hL k hk with h|h
   ·rw[o1 k (hlt 2 (by decide) k h)];exact h
   ·exact o5 k (by omega) (by omega) (fun h'=>hLB k h.1 hk h'.1) ⟨hk,h⟩
 · rcases hB k hk with h|h
   ·rw[o1 k (hlt 3 (by decide) k h)];exact h
   ·exact o4 k (by omega) (by omega) ⟨hk,h⟩
theorem wN{ow:Nat→Nat}{W w1 w':World}{tp g1 g2 g3 q z:Nat}{im:By}{F:Nat→Int}{x:Rec}{r:Option Rec}(hx:r=some x){B:Nat→Prop}{xo:Option Addr}{xc:Nat}
 (hnew:∀ k,W.heap.size≤k→ow k=0)(hot:ow tp=0)(hf:aA (Rds ow) W w')(hs1:W.heap.size≤w1.heap.size)(hs2:w1.heap.size≤q)(hs3:q<z)(hs4:z≤w'.heap.size)(htl:tp<W.heap.size)
 (h1:MrO (Nx (fun k=>ow k=1) W w1) w'.heap g1 tp im (F 2) (F 3))(h2:MrO (fun k=>ow k=2) w'.heap g2 tp im (F 3) (F 4))(h3:MrO B w'.heap g3 tp im (F 6) (F 0))
 (hB:∀ k,B k→ow k=3∨(z≤k∧k<w'.heap.size))
 (hq:w'.heap[q]?=some (.cells (uR x 0 none 0 xo xc).toArray 112 (0,0)))(hl:x.list=[]){n:Nat}
 (hxs:XsV (fun k=>z≤k∧k<n∧¬ B k) w'.heap ⟨xo,x.xs.length,xc⟩ x.xs)(hn:n≤w'.heap.size)(hx5:∀ y∈x.xs,y.1.length≤255):yT ow W tp g1 g2 g3 im F r (pT q) w':=by
 have hle2:∀ k,ow k=2→k<W.heap.size:=fun k hk=>byContradiction fun hc=>by have:=hnew k (by omega);omega
 refine F3 (L:=fun k=>ow k=2) hx hnew hot hf hs1 hs2 hs3 hs4 htl h1 h2 h3 (fun k h=>.inl h) hB (fun k hz hk=>absurd (hle2 k hk) (by omega)) hq (by rw[hl];exact WD 0 (Nat.zero_le _)) (fun h=>absurd hl h) (hxs.mono (fun k hk=>⟨hk.1,by have:=hk.2.1;omega,hk.2.2,fun e=>by have:=hle2 k e;have:=hk.1;omega⟩)) hx5
theorem HW(ow:Nat→Nat)(g tp g1 g2 g3 gm:Nat)(bo po io:Option Addr)(bc pl pc ic:Nat)(im:By)(F:Nat→Int)(ids:List Int)(nm ref kind:Int)(W:World)
 (hg:W.heap[g]?=some (.cells (moC tp bo im.length bc F (.slice po pl pc) (.slice io ids.length ic) (pnV g1) (pnV g2) (pnV g3) gm nm).toArray 107 (0,0)))(hv:Vw b8 W.heap bo bc im)(hbo:∀ k,blk bo k→ow k=4)(hog:ow g=6)(hot:ow tp=0)
 (h1:MrO (fun k=>ow k=1) W.heap g1 tp im (F 2) (F 3))(h2:MrO (fun k=>ow k=2) W.heap g2 tp im (F 3) (F 4))(h3:MrO (fun k=>ow k=3) W.heap g3 tp im (F 6) (F 0))
 (hnew:∀ k,W.heap.size≤k→ow k=0)(hb:im.length≤1073741824)(href:0≤ref∧ref≤4294967295) :
 CA 82 [pT g,iV ref,iV kind] W fun v w'=>yT ow W tp g1 g2 g3 im F (eV im F ids ref kind) v w':=by
 have hgl:=(Array.getElem?_eq_some_iff.1 hg).1;have hle:∀ n,n≠0→∀ k,ow k=n→k<W.heap.size:=fun n hn k hk=>byContradiction fun hc=>by have:=hnew k (by omega);omega
 have htl:=(Array.getElem?_eq_some_iff.1 h1.tab.1).1;obtain⟨R,hR⟩:∃ R,R=bJ im (F 2) (F 3) ref:=⟨_,rfl⟩
 refine cS 137 [(0,_),(1,_),(2,_)] Tryz.func82 ?_;refine Gz 12 ?_;refine Ts Qr rfl (Kz (fun k=>ow k=1) g1 tp im (F 2) (F 3) ref W h1 (hle 1 (by decide)) (by omega) (by omega)) rfl ?_;rw[←hR];rintro _ w1 ⟨rfl,hM1,hF1⟩;have hz1:=hF1.size;have hg1:=hF1.obj hg (by omega);refine Gz 4 ?_;refine Tz vO rfl ?_;intro w2 hg2 hs2 hf2;obtain⟨a,ea⟩:∃ a,a=w1.heap.size:=⟨_,rfl⟩
 rw[←ea] at hg2 ⊢;refine sA rfl cT (by intro v hv;exact dQ _ _ v hv) hg2 ?_;intro w3 hg3 hs3 hf3;have hf13:aA nob w1 w3:=hf2.tw hf3;have hgA:=hf13.obj hg1 id;have hA3:aA (Rds ow) W w3:=(hF1.mono (fun k h=>.inl h)).trans hf13.any;refine Gz 6 ?_;refine TN 31 [0,1,2,3,4,5,6,7,8,9,10,11,12,13,14,15,16,17,18,19,20,21,22,23,24,25,26,27,28,29,30] aL (by kernel_rfl) ?_;refine xK 1 ?_ ?_<;>intro h25
 ·have hbad:mO F ids R kind:=.inl h25;refine Gz 40 ?_;exact⟨_,rfl,jS (hA3.draws 1) (rK (by rw[←hR];exact hbad))⟩
 have e0:R.2.2=0:=Decidable.not_not.1 h25;have hmay:eO R.1.1 R.1.2:=by rw[hR] at e0 ⊢;exact Dk e0
 have hma:=hmay.1;unfold aX at hma;refine Gz 2 ?_;refine xV rfl (Tu aI rfl (aE hg3 rfl)) ?_;refine xW 1 ?_ ?_<;>intro h30
 ·have hbad:mO F ids R kind:=.inr (.inl h30);refine Gz 35 ?_;exact⟨_,rfl,jS (hA3.draws 1) (rK (by rw[←hR];exact hbad))⟩
 refine Gz 3 ?_;refine xV rfl (Tu aI rfl (aE hg3 rfl)) ?_;refine Gz 1 ?_;refine xV rfl (Tu aI rfl (aE hg3 rfl)) ?_;refine xV rfl (UT rfl rfl) ?_;refine Gz 3 ?_;refine xV rfl (Tu pS rfl (aE hgA rfl)) ?_;refine xW 1 ?_ ?_<;>intro h43
 ·have hbad:mO F ids R kind:=by
   unfold mO
   split at h43<;>omega
  refine Gz 22 ?_;exact⟨_,rfl,jS (hA3.draws 1) (rK (by rw[←hR];exact hbad))⟩
 have hids:¬ (ids.length:Int)≤R.1.1 2∧¬ (ids.length:Int)≤R.1.1 3:=by split at h43<;>omega
 refine Gz 3 ?_;refine xV rfl (Tu aI rfl (aE hg3 rfl)) ?_;refine Gz 4 ?_;refine xV rfl (Tu aI rfl (aE (i:=10) hgA rfl)) ?_;refine xW 0 ?_ ?_<;>intro h53
 ·have hbad:mO F ids R kind:=.inr (.inr (.inr (.inr h53)));refine Gz 12 ?_;exact⟨_,rfl,jS (hA3.draws 1) (rK (by rw[←hR];exact hbad))⟩
 have hgood:¬ mO F ids R kind:=by
  rintro(h|h|h|h|h)
  ·exact h25 h
  ·exact h30 h
  ·exact hids.1 h
  ·exact hids.2 h
  ·exact h53 h
 refine Gz 8 ?_;refine cL (TI (cs:=aZ R.1.1 R.1.2) cT rfl (cC hg3 0 rfl)) ?_;refine cL (bU (uR ⟨ref,R.1,[],[]⟩ 0 none 0 none 0) OG Pr) ?_;refine T1 rfl rfl ?_;intro w4 hg4 hs4 hf4;obtain⟨q,eq⟩:∃ q,q=(w3.drewN 1).heap.size:=⟨_,rfl⟩
 have eq3:q=w3.heap.size:=eq;have hf4:=hf4.WP;have hg4:w4.heap[(w3.drewN 1).heap.size]?=some (.cells (uR ⟨ref,R.1,[],[]⟩ 0 none 0 none 0).toArray 112 (0,0)):=hg4;rw[←eq] at hg4 ⊢;have hga4:=hf4.obj hg3 id;have hgA4:=hf4.obj hgA id;have hf14:=hf13.trans hf4;refine Gz 3 ?_;refine TY (β:=(Option Addr×Nat)×(Nat→Prop)) (fun⟨⟨xo,xc⟩,B⟩=>[(0,pT g),(1,iV ref),(2,iV kind),(7,pT a),(10,pT q)]) (fun⟨⟨xo,xc⟩,B⟩ w=>(fD im F (R.1.1 5)).2=0∧w.heap[q]?=some (.cells (uR ⟨ref,R.1,[],(fD im F (R.1.1 5)).1⟩ 0 none 0 xo xc).toArray 112 (0,0))∧MrO B w.heap g3 tp im (F 6) (F 0)∧(∀ k,B k→ow k=3∨(w4.heap.size≤k∧k<w.heap.size))∧XsV (fun k=>w4.heap.size≤k∧k<w.heap.size∧¬ B k) w.heap ⟨xo,(fD im F (R.1.1 5)).1.length,xc⟩ (fD im F (R.1.1 5)).1∧(∀ x∈(fD im F (R.1.1 5)).1,x.1.length≤255)∧aA (fun k=>k=q∨ow k=3) w4 w) ?_ ?_
 ·refine fK 4 ?_ ?_<;>intro h60
  ·have hrx:=JE (im:=im) (F:=F) h60;refine Gz 4 ?_;refine TG 16 (fun H=>H[g]?=some (.cells (moC tp bo im.length bc F (.slice po pl pc) (.slice io ids.length ic) (pnV g1) (pnV g2) (pnV g3) gm nm).toArray 107 (0,0))∧H[a]?=some (.cells (aZ R.1.1 R.1.2).toArray 84 (0,0))) [8,14] [0,1,2,3,4,5,6,7,8,9,10,11,12,13,14,15] aL (by kernel_rfl) (⟨hgA4,hga4⟩) ?_;refine Gz 8 ?_;refine Ty rfl rfl (Ts Qq rfl (Ce (fun k=>ow k=3) g3 tp im (F 6) (F 0) (R.1.1 5-1) (w4.drewN 1) ((h3.WS hF1 (fun k hk e=>by omega) (by omega)).WR (hf14.draws 1)) (fun k hk=>by have:=hle 3 (by decide) k hk;show k<w4.heap.size;omega) hb (by constructor<;>omega)) rfl ?_);rw[←hrx];rintro _ w5 ⟨xo,xc,rfl,B,hX,hX5,hM5,hB5,hF5⟩;have hF5:=hF5.WP;have hq5:∀ k,k=q∨k=a∨k=g→¬ ow k=3:=fun k hk e=>by have:=hle 3 (by decide) k e;rcases hk with h|h|h<;>first|omega|(rw[h,hog] at e;cases e)
   refine TE (by exact⟨hF5.obj hgA4 (hq5 g (.inr (.inr rfl))),hF5.obj hga4 (hq5 a (.inr (.inl rfl)))⟩) ?_;refine Gz 5 ?_;refine Ty rfl rfl (Tx dN rfl rfl rfl (hF5.obj hg4 (hq5 q (.inl rfl))) rfl ?_);intro w6 hg6 hs6 hf6;have hq6:∀ k,k=q→¬ B k:=fun k hk e=>by rcases hB5 k e with h|h;have:=hle 3 (by decide) k h;omega;have h7:w4.heap.size≤k:=h.1;omega
   have hqa:¬ a=q:=by omega
   have hqg:¬ g=q:=by omega
   refine TE (by exact⟨hf6.obj (hF5.obj hgA4 (hq5 g (.inr (.inr rfl)))) hqg,hf6.obj (hF5.obj hga4 (hq5 a (.inr (.inl rfl)))) hqa⟩) ?_;refine fK 6 ?_ ?_<;>intro h76
   ·have hno:=Hq (im:=im) (ref:=ref) (by rw[←hR];exact hgood) (by rw[←hR];exact h76);refine Gz 11 ?_;exact⟨_,rfl,jS (((hA3.trans hf4.any).trans (hF5.mono (fun k h=>.inr (.inr h)))).tw hf6) hno⟩
   have ex:(fD im F (R.1.1 5)).2=0:=Decidable.not_not.1 h76;refine Gz 4 ?_;refine aC ⟨⟨xo,xc⟩,B⟩ ⟨ex,hg6,hM5.WS hf6 (fun k hk e=>hq6 k e hk) (by intro e;have e:tp=q:=e;omega),(fun k hk=>(hB5 k hk).imp id (fun h=>⟨h.1,by have h8:=h.2;have h9:w6.heap.size=w5.heap.size:=hs6;omega⟩)),?_,hX5,(hF5.mono (fun k h=>.inr h)).trans (hf6.mono (fun k h=>.inl h))⟩;exact(hX.WS hf6 (fun k hk e=>by have e:k=q:=e;have h7:w4.heap.size≤k:=hk.1;omega)).mono (fun k hk=>⟨hk.1,by have h8:=hk.2.1;have h9:w6.heap.size=w5.heap.size:=hs6;omega,hk.2.2⟩)
  have hrx:=JF (im:=im) (F:=F) h60;refine Gz 4 ?_;refine aC ⟨⟨none,0⟩,fun k=>ow k=3⟩ ⟨by rw[hrx],by rw[hrx];exact hg4,(h3.WS hF1 (fun k hk e=>by omega) (by omega)).WR hf14,(fun k hk=>.inl hk),by rw[hrx];exact XsV.zero,by rw[hrx];simp,Wt _ _⟩
 rintro⟨⟨xo,xc⟩,B⟩ w7 ⟨ex,hq7,hM7,hB7,hX7,hX75,hF7⟩;have hz7:=hF7.size;have hS7:∀ k,k≠q→ow k≠3→¬ (k=q∨ow k=3):=fun k h1 h2 h=>h.elim h1 h2;have hg7:=hF7.obj hgA4 (hS7 g (by omega) (by omega));have ha7:=hF7.obj hga4 (hS7 a (by omega) (fun e=>by have:=hle 3 (by decide) a e;omega));have hF17:aA (fun k=>ow k=3∨w1.heap.size≤k) w1 w7:=hf14.any.WO hF7 (fun k h=>h.elim (fun h=>.inr (by omega)) (fun h=>.inl (.inl h)));have hvb:Vw b8 w7.heap bo bc im:=(hv.WS hF1 (fun x hx e=>by have:=hbo _ ⟨x,hx,rfl⟩;omega)).WS hF17 (fun x hx e=>by have h4:=hbo _ ⟨x,hx,rfl⟩;have:=hle 4 (by decide) _ h4;rcases e with e|e<;>omega);have h2b:MrO (fun k=>ow k=2) w7.heap g2 tp im (F 3) (F 4):=(h2.WS hF1 (fun k hk e=>by omega) (by omega)).WS hF17 (fun k hk e=>by have:=hle 2 (by decide) k hk;rcases e with e|e<;>omega) (by intro e;rcases e with e|e<;>omega);have hM17:=hM1.WS hF17 (fun k hk e=>by rcases hk with hk|hk<;>rcases e with e|e<;>first|omega|(have:=hle 1 (by decide) k hk;omega)|(have:=hle 3 (by decide) k e;omega)) (by intro e;rcases e with e|e<;>omega);have hA7:aA (Rds ow) W w7:=(hF1.mono (fun k h=>.inl h)).WO hF17 (fun k h=>h.elim (fun h=>.inl (.inr (.inr h))) (fun h=>.inr (by omega)));refine fK 9 ?_ ?_<;>intro h79
 ·have hk2:kind=2:=h79;refine Gz 5 ?_;refine TG 18 (fun H=>H[g]?=some (.cells (moC tp bo im.length bc F (.slice po pl pc) (.slice io ids.length ic) (pnV g1) (pnV g2) (pnV g3) gm nm).toArray 107 (0,0))∧H[a]?=some (.cells (aZ R.1.1 R.1.2).toArray 84 (0,0))) [13] [0,1,2,3,4,5,6,7,8,9,10,11,12,13,14,15,16,17] aL (by kernel_rfl) (⟨hg7,ha7⟩) ?_;refine Gz 12 ?_;refine xC rfl (TF aI rfl (fun H hH=>aE (i:=4) hH.1 rfl)) ?_;refine Ty rfl rfl (Ts Qp rfl (Lj bo bc im (R.1.1 6) (R.1.1 7) (F 2) (w7.drewN 1) (hvb.WR (Wu 1)) (by omega) (by omega)) rfl ?_);rintro _ w8 ⟨rfl,hf8⟩;have hf8:=hf8.WP;refine TE (by exact⟨hf8.obj hg7 id,hf8.obj ha7 id⟩) ?_;have ha8:=hf8.obj ha7 id;refine fK 10 ?_ ?_<;>intro h99
  ·refine fW 2 ?_ ?_<;>intro h102
   ·refine Gz 18 ?_;exact⟨_,rfl,jS (hA7.trans hf8.any) (Ak (by rw[←hR];exact hgood) (by rw[←hR];exact ex) hk2 (by rw[←hR];exact⟨h99,by first|exact .inl h102|exact .inr h106⟩))⟩
   refine fW 3 ?_ ?_<;>intro h106
   ·refine Gz 14 ?_;exact⟨_,rfl,jS (hA7.trans hf8.any) (Ak (by rw[←hR];exact hgood) (by rw[←hR];exact ex) hk2 (by rw[←hR];exact⟨h99,by first|exact .inl h102|exact .inr h106⟩))⟩
   have hnb:¬ zG im F R.1.1:=fun h=>h.2.elim h102 h106;refine Gz 16 ?_;have hrec:eV im F ids ref kind=some ⟨ref,R.1,[],(fD im F (R.1.1 5)).1⟩:=by rw[hR];exact Aj (by rw[←hR];exact hgood) (by rw[←hR];exact ex) hk2 (by rw[←hR];exact hnb)
   have hz8:=hf8.size;exact⟨_,rfl,wN hrec hnew hot (hA7.trans hf8.any) hz1 (by omega) (by omega) (by omega) htl (hM17.WR hf8) (h2b.WR hf8) (hM7.WR hf8) (fun k h=>(hB7 k h).imp id (fun h=>⟨h.1,by omega⟩)) (hf8.obj hq7 id) rfl (hX7.WS hf8 (fun _ _=>id)) hz8 hX75⟩
  have hnb:¬ zG im F R.1.1:=fun h=>h99 h.1;refine Gz 23 ?_;have hrec:eV im F ids ref kind=some ⟨ref,R.1,[],(fD im F (R.1.1 5)).1⟩:=by rw[hR];exact Aj (by rw[←hR];exact hgood) (by rw[←hR];exact ex) hk2 (by rw[←hR];exact hnb)
  have hz8:=hf8.size;exact⟨_,rfl,wN hrec hnew hot (hA7.trans hf8.any) hz1 (by omega) (by omega) (by omega) htl (hM17.WR hf8) (h2b.WR hf8) (hM7.WR hf8) (fun k h=>(hB7 k h).imp id (fun h=>⟨h.1,by omega⟩)) (hf8.obj hq7 id) rfl (hX7.WS hf8 (fun _ _=>id)) hz8 hX75⟩
 have hk2:¬ kind=2:=h79;refine fK 6 ?_ ?_<;>intro h110
 ·have hk1:kind=1:=h110;refine Gz 5 ?_;refine TG 16 (fun H=>H[g]?=some (.cells (moC tp bo im.length bc F (.slice po pl pc) (.slice io ids.length ic) (pnV g1) (pnV g2) (pnV g3) gm nm).toArray 107 (0,0))∧H[a]?=some (.cells (aZ R.1.1 R.1.2).toArray 84 (0,0))) [8] [0,1,2,3,4,5,6,7,8,9,10,11,12,13,14,15] aL (by kernel_rfl) (⟨hg7,ha7⟩) ?_;refine Gz 8 ?_;refine Ty rfl rfl (Ts pX rfl (eJ (fun k=>ow k=2) g2 tp im (F 3) (F 4) (R.1.1 6) (R.1.1 7) (w7.drewN 1) (h2b.WR (Wu 1)) (by omega) (by omega) (by omega)) rfl ?_);obtain⟨S,hS⟩:∃ S,S=aD im (F 3) (F 4) (R.1.1 6) (R.1.1 7):=⟨_,rfl⟩
  rw[←hS];rintro _ w8 ⟨so,sc,rfl,hso,hsf,hM8,hF8⟩;have hF8:=hF8.WP;have hz8:=hF8.size;have hq8:∀ k,k=q∨k=a∨k=g→¬ ow k=2:=fun k hk e=>by have:=hle 2 (by decide) k e;rcases hk with h|h|h<;>first|omega|(rw[h,hog] at e;cases e)
  refine TE (by exact⟨hF8.obj hg7 (hq8 g (.inr (.inr rfl))),hF8.obj ha7 (hq8 a (.inr (.inl rfl)))⟩) ?_;have hq8b:=hF8.obj hq7 (hq8 q (.inl rfl));refine fK 13 ?_ ?_<;>intro h125
  ·have hno:=Al (im:=im) (ref:=ref) (by rw[←hR];exact hgood) (by rw[←hR];exact ex) hk1 (by rw[←hR];unfold qH;rw[←hS,if_pos h125];decide);refine Gz 13 ?_;exact⟨_,rfl,jS (hA7.trans (hF8.mono (fun k h=>.inr (.inl h)))) hno⟩
  have es:S.2.2=0:=Decidable.not_not.1 h125;have hSl:(S.1.length:Int)=R.1.1 7:=by rw[hS] at es ⊢;exact(eC es).2.2.2.1
  have hlr:qH im F R.1.1=nO S.1:=by unfold qH;rw[←hS,if_neg h125]
  refine Gz 9 ?_;refine Ts Qo rfl (Im so sc S.1 w8 hso.vw (by omega)) rfl ?_;rintro _ w9 ⟨lo,lc,rfl,hlo,hlf,hf9⟩;have hz9:=hf9.size;refine Gz 5 ?_;refine Tx NL rfl rfl rfl (hf9.obj hq8b id) rfl ?_;intro w10 hg10 hs10 hf10;refine fK 6 ?_ ?_<;>intro h135
  ·have hno:=Al (im:=im) (ref:=ref) (by rw[←hR];exact hgood) (by rw[←hR];exact ex) hk1 (by rw[←hR,hlr];exact h135);refine Gz 12 ?_;exact⟨_,rfl,jS ((hA7.trans (hF8.mono (fun k h=>.inr (.inl h)))).trans hf9.any |>.tw hf10) hno⟩
  have es2:(nO S.1).2=0:=Decidable.not_not.1 h135;refine Gz 14 ?_;have hrec:eV im F ids ref kind=some ⟨ref,R.1,(nO S.1).1,(fD im F (R.1.1 5)).1⟩:=by rw[hR];rw[hR] at hlr;rw[←hlr];exact JG (by rw[←hR];exact hgood) (by rw[←hR];exact ex) hk1 (by rw[hlr];exact es2)
  have hq10:w10.heap[q]?=some (.cells (uR ⟨ref,R.1,(nO S.1).1,(fD im F (R.1.1 5)).1⟩ 0 lo lc xo xc).toArray 112 (0,0)):=hg10;have hlt:=hlo.lt;have hf810:aA (· = q) w8 w10:=hf9.any.trans hf10;have hlq:∀ k,(Nx (fun k=>ow k=2) (w7.drewN 1) w8 k∧¬ blk so k)→ow k=2∨(w7.heap.size≤k∧k<w8.heap.size):=fun k hk=>hk.1;have hlo10:=hlo.WS hf10 (fun x hx e=>by have:=hlf x hx;have e:x.block=q:=e;omega);exact⟨_,rfl,F3 (z:=w4.heap.size) hrec hnew hot ((hA7.trans (hF8.mono (fun k h=>.inr (.inl h)))).tw hf810) hz1 (by omega) (by omega) (by omega) htl ((hM17.WS hF8 (fun k hk e=>by rcases hk with hk|hk<;>first|omega|(have:=hle 2 (by decide) k e;omega)) (by omega)).WS hf810 (fun k hk e=>by have e:k=q:=e;rcases hk with hk|hk<;>first|omega|(have:=hle 1 (by decide) k hk;omega)) (by intro e;have e:tp=q:=e;omega)) (hM8.WS hf810 (fun k hk e=>by have e:k=q:=e;rcases hlq k hk with h|h<;>first|omega|(have:=hle 2 (by decide) k h;omega)) (by intro e;have e:tp=q:=e;omega)) ((hM7.WS hF8 (fun k hk e=>by rcases hB7 k hk with h|h<;>first|omega|(have:=hle 2 (by decide) k e;omega)) (by omega)).WS hf810 (fun k hk e=>by have e:k=q:=e;rcases hB7 k hk with h|h<;>first|omega|(have:=hle 3 (by decide) k h;omega)) (by intro e;have e:tp=q:=e;omega)) (fun k hk=>(hlq k hk).imp id (fun h=>by omega)) (fun k hk=>(hB7 k hk).imp id (fun h=>by omega)) (fun k hz hk hb=>by rcases hlq k hk with h|h<;>rcases hB7 k hb with h2|h2<;>first|omega|(have:=hle 2 (by decide) k h;omega)|(have:=hle 3 (by decide) k h2;omega)) hq10 (hlo10.vw cH) (fun _ k ⟨x,hx,e⟩=>by have h5:=hlf x hx;have h6:=hlt x hx;refine⟨by omega,by omega,fun hb=>?_,fun hl=>?_⟩;(rcases hB7 k hb with h2|h2<;>first|omega|(have:=hle 3 (by decide) k h2;omega));rcases hlq k hl with h|h<;>first|omega|(have:=hle 2 (by decide) k h;omega)) (((hX7.WS hF8 (fun k hk e=>by have:=hle 2 (by decide) k e;have h7:=hk.1;omega)).WS hf810 (fun k hk e=>by have e:k=q:=e;have h7:=hk.1;omega)).mono (fun k hk=>⟨hk.1,by have h7:=hk.2.1;omega,hk.2.2,fun hl=>by have h7:=hk.1;have h8:=hk.2.1;rcases hlq k hl with h|h<;>first|omega|(have:=hle 2 (by decide) k h;omega)⟩)) hX75⟩
 have hk1:¬ kind=1:=h110;refine Gz 15 ?_;have hrec:eV im F ids ref kind=some ⟨ref,R.1,[],(fD im F (R.1.1 5)).1⟩:=by rw[hR];exact Hs (by rw[←hR];exact hgood) (by rw[←hR];exact ex) hk2 hk1
 exact⟨_,rfl,wN hrec hnew hot hA7 hz1 (by omega) (by omega) hz7 htl hM17 h2b hM7 hB7 hq7 rfl hX7 (Nat.le_refl _) hX75⟩
def k6(z:Int):I6:=if h : -9223372036854775808≤z∧z≤9223372036854775807 then ⟨z,h⟩ else ⟨0,by decide⟩
theorem BF{z:Int}(h:0≤z∧z≤4294967295):(k6 z).1=z:=by unfold k6;rw[dif_pos (by omega)]
def iT(l:List (Rec×Int))(ps:List Nat):List (I6×Value):=(l.zip ps).map fun z=>(k6 z.1.1.ref,pnV z.2)
def PlM(s:MSt):Prop:=s.2≤1024∧(∀ r∈s.1,(0≤r.1.ref∧r.1.ref≤4294967295)∧0≤r.2∧r.2≤s.2)∧(s.1.map (·.1.ref)).Nodup∧s.1.length≤s.2
theorem Dl(r:Rec×Int)(l:List (Rec×Int))(ref:Int):fZ (r::l) ref=if r.1.ref=ref then some 0 else (fZ l ref).map (· + 1):=by
 unfold fZ;rw[List.findIdx?_cons];by_cases h:r.1.ref=ref<;>simp[h]
theorem xM{l:List (Rec×Int)}{ref:Int}{i:Nat}(h:fZ l ref=some i):∃ r,l[i]?=some r∧r.1.ref=ref:=by
 unfold fZ at h;obtain⟨hi,hp,_⟩:=List.findIdx?_eq_some_iff_getElem.1 h;exact⟨l[i],List.getElem?_eq_getElem hi,of_decide_eq_true hp⟩
theorem KD{l:List (Rec×Int)}{ref:Int}(h:fZ l ref=none):∀ r∈l,r.1.ref≠ref:=by
 unfold fZ at h;rw[List.findIdx?_eq_none_iff] at h;intro r hr e;have:=h r hr;simp[e] at this
theorem xO{ref:Int}(hr:0≤ref∧ref≤4294967295):∀ {l:List (Rec×Int)} {ps:List Nat},ps.length=l.length→(∀ r∈l,0≤r.1.ref∧r.1.ref≤4294967295)→mI (iT l ps) (k6 ref)=(fZ l ref).map (fun i=>pnV (ps.getD i 0))
|[],ps,_,_=>rfl
|r::l,[],h,_=>by simp at h
|r::l,p::ps,h,hb=>by
   have ih:=xO hr (l:=l) (ps:=ps) (by simpa using h) (fun r hr=>hb r (by simp[hr]));have e:iT (r::l) (p::ps)=(k6 r.1.ref,pnV p)::iT l ps:=rfl;rw[e,Dl];unfold mI;have hk:(k6 r.1.ref=k6 ref)↔r.1.ref=ref:=⟨fun h=>by rw[←BF (hb r (by simp)),←BF hr,h],fun h=>by rw[h]⟩
   by_cases h2:r.1.ref=ref
   ·rw[if_pos (hk.2 h2),if_pos h2];rfl
   · rw[if_neg (fun h'=>h2 (hk.1 h')),if_neg h2,ih]
     cases fZ l ref<;>simp
theorem H1{l:List (Rec×Int)}{ps:List Nat}(h:ps.length=l.length)(r:Rec×Int)(p:Nat):iT (l++[r]) (ps++[p])=iT l ps++[(k6 r.1.ref,pnV p)]:=by
 unfold iT;rw[List.zip_append h.symm];simp
theorem H2{l:List (Rec×Int)}{ps:List Nat}(i:Nat)(r:Rec×Int)(hi:l[i]?=some r)(n:Int):iT (l.set i (r.1,n)) ps=iT l ps:=by
 unfold iT;apply List.ext_getElem?;intro j;simp only[List.getElem?_map,List.zip,List.getElem?_zipWith,List.getElem?_set];by_cases hj:i=j
 · subst hj
   have hlt:=(List.getElem?_eq_some_iff.1 hi).1;rw[if_pos rfl,if_pos hlt,hi];cases ps[i]?<;>rfl
 ·rw[if_neg hj]
def MoV(ow:Nat→Nat)(H:Array Obj)(g tp:Nat)(im:By)(F:Nat→Int)(P ids:List Int)(s:MSt)(ps:List Nat):Prop:=
 ∃ bo bc po pc io ic g1 g2 g3 gm,
  H[g]?=some (.cells (moC tp bo im.length bc F (.slice po P.length pc) (.slice io ids.length ic) (pnV g1) (pnV g2) (pnV g3) gm s.2).toArray 107 (0,0)) ∧
  (Vw b8 H bo bc im∧∀ k,blk bo k→ow k=4)∧(Vw i64 H po pc P∧∀ k,blk po k→ow k=4)∧(Vw i64 H io ic ids∧∀ k,blk io k→ow k=4) ∧
  MrO (fun k=>ow k=1) H g1 tp im (F 2) (F 3)∧MrO (fun k=>ow k=2) H g2 tp im (F 3) (F 4)∧MrO (fun k=>ow k=3) H g3 tp im (F 6) (F 0) ∧
  jG enI H gm (iT s.1 ps)∧ps.length=s.1.length∧(∀ (i:Nat) (r:Rec×Int) (p:Nat),s.1[i]?=some r→ps[i]?=some p→RcV (fun k=>ow k=4) H r.1 r.2 p∧ow p=5)∧ps.Nodup ∧
  ow g=6∧ow gm=7∧ow tp=0
theorem RcV.WS{E E' S:Nat→Prop}{w w':World}{x:Rec}{nm:Int}{p:Nat}(h:RcV E w.heap x nm p)(f:aA S w w')(hp:¬ S p)(hS:∀ k,E k→¬ S k)(hE:∀ k,E k→E' k):RcV E' w'.heap x nm p:=by
 obtain⟨lo,lc,xo,xc,h1,h2,h3,h4,h5⟩:=h;exact⟨lo,lc,xo,xc,f.obj h1 hp,h2.keep' f (fun hne a ha=>hS _ (h3 hne _ ⟨a,ha,rfl⟩)),fun hne k hk=>hE k (h3 hne k hk),(h4.WS f hS).mono hE,h5⟩
theorem MoV.WS{ow:Nat→Nat}{S:Nat→Prop}{w w':World}{g tp:Nat}{im:By}{F:Nat→Int}{P ids:List Int}{s:MSt}{ps:List Nat}(h:MoV ow w.heap g tp im F P ids s ps)(f:aA S w w')(hS:∀ k,S k→ow k=0)(htp:¬ S tp):MoV ow w'.heap g tp im F P ids s ps:=by
 obtain⟨bo,bc,po,pc,io,ic,g1,g2,g3,gm,hg,⟨v1,l1⟩,⟨v2,l2⟩,⟨v3,l3⟩,m1,m2,m3,hm,hl,hr,hn,o1,o2,o3⟩:=h;have key:∀ n k,n≠0→ow k=n→¬ S k:=fun n k hn0 h e=>by have:=hS k e;omega
 exact⟨bo,bc,po,pc,io,ic,g1,g2,g3,gm,f.obj hg (key 6 g (by decide) o1),⟨v1.WS f (fun a ha=>key 4 _ (by decide) (l1 _ ⟨a,ha,rfl⟩)),l1⟩,⟨v2.WS f (fun a ha=>key 4 _ (by decide) (l2 _ ⟨a,ha,rfl⟩)),l2⟩,⟨v3.WS f (fun a ha=>key 4 _ (by decide) (l3 _ ⟨a,ha,rfl⟩)),l3⟩,
  m1.WS f (fun k hk=>key 1 k (by decide) hk) htp,m2.WS f (fun k hk=>key 2 k (by decide) hk) htp,m3.WS f (fun k hk=>key 3 k (by decide) hk) htp,hm.WS f (key 7 gm (by decide) o2),hl,
  fun i r p h1 h2=>⟨(hr i r p h1 h2).1.WS f (key 5 p (by decide) (hr i r p h1 h2).2) (fun k hk=>key 4 k (by decide) hk) (fun _ h=>h),(hr i r p h1 h2).2⟩,hn,o1,o2,o3⟩
theorem MoV.WR{ow:Nat→Nat}{w w':World}{g tp:Nat}{im:By}{F:Nat→Int}{P ids:List Int}{s:MSt}{ps:List Nat}(h:MoV ow w.heap g tp im F P ids s ps)(f:aA nob w w'):MoV ow w'.heap g tp im F P ids s ps:=h.WS f (fun _ h=>h.elim) id
theorem Hr{im:By}{F:Nat→Int}{ids:List Int}{ref kind:Int}{x:Rec}(h:eV im F ids ref kind=some x):x.ref=ref∧∀ y∈x.list,Ie y:=by
 unfold eV at h
 split at h
 ·cases h
 · split at h
   ·cases h
   · split at h
     · split at h
       ·cases h
       ·cases h;exact⟨rfl,by simp⟩
     · split at h
       · split at h
         ·cases h
         · rename_i h5
           cases h;refine⟨rfl,fun y hy=>?_⟩;unfold qH at hy
           split at hy
           ·cases hy
           · rcases yB (aD im (F 3) (F 4) ((bJ im (F 2) (F 3) ref).1.1 6) ((bJ im (F 2) (F 3) ref).1.1 7)).1 with⟨L,e,hc,_⟩|e
             ·rw[e] at hy;exact yK hc y hy
             ·rw[e] at hy;cases hy
       ·cases h;exact⟨rfl,by simp⟩
theorem PlM.snoc{s:MSt}(h:PlM s){x:Rec}(hx:0≤x.ref∧x.ref≤4294967295)(hn:∀ r∈s.1,r.1.ref≠x.ref)(h2:s.2+1≤1024):PlM (s.1++[(x,1)],s.2+1):=by
 obtain⟨h1,h3,h4,h5⟩:=h;refine⟨h2,fun r hr=>?_,?_,by simp;omega⟩
 · rcases mem_append.1 hr with hr|hr
   ·have:=h3 r hr;exact⟨this.1,this.2.1,by have:=this.2.2;show r.2≤((s.2+1:Nat):Int);omega⟩
   ·rw[mem_singleton] at hr;subst hr;exact⟨hx,by show (0:Int)≤1;decide,by show (1:Int)≤((s.2+1:Nat):Int);omega⟩
 · rw[List.map_append,List.map_singleton]
   refine List.nodup_append.2 ⟨h4,by simp,?_⟩;intro a ha b hb e;rw[mem_singleton] at hb;obtain⟨r,hr,rfl⟩:=mem_map.1 ha;exact hn r hr (e.trans hb)
theorem PlM.bump{s:MSt}(h:PlM s){i:Nat}{r:Rec×Int}(hi:s.1[i]?=some r)(h2:s.2+1≤1024):PlM (dC s.1 i,s.2+1):=by
 obtain⟨h1,h3,h4,h5⟩:=h;have hd:s.1.getD i (nZ,0)=r:=by rw[List.getD,hi];rfl
 refine⟨h2,fun t ht=>?_,?_,by unfold dC;rw[length_set];show _≤s.2+1;omega⟩
 · unfold dC at ht
   rw[hd] at ht;have hrm:=h3 r (mem_of_getElem? hi);rcases List.mem_or_eq_of_mem_set ht with ht|rfl
   ·have:=h3 t ht;exact⟨this.1,this.2.1,by have:=this.2.2;show t.2≤((s.2+1:Nat):Int);omega⟩
   ·exact⟨hrm.1,by have:=hrm.2.1;show 0≤r.2+1;omega,by have:=hrm.2.2;show r.2+1≤((s.2+1:Nat):Int);omega⟩
 · have e:(dC s.1 i).map (·.1.ref)=s.1.map (·.1.ref):=by
    unfold dC;rw[List.map_set,hd];apply List.ext_getElem?;intro j;rw[List.getElem?_set];by_cases hj:i=j
    · subst hj
      have hlt:=(List.getElem?_eq_some_iff.1 hi).1;rw[if_pos rfl,if_pos (by simpa using hlt),List.getElem?_map,hi];rfl
    ·rw[if_neg hj]
   show ((dC s.1 i).map (·.1.ref)).Nodup;rw[e];exact h4
theorem mpR:LK Tryz.prog 104 3 110 (.pointer none):=⟨by kernel_rfl,Sr⟩
theorem NZ{z:Int}(h:0≤z∧z≤4294967295)(h' : -9223372036854775808≤z∧z≤9223372036854775807):(⟨z,h'⟩:I6)=k6 z:=by unfold k6;rw[dif_pos h']
theorem JM{ow:Nat→Nat}{W w':World}{tp g1 g2 g3:Nat}{im:By}{F:Nat→Int}{r:Option Rec}{v:Value}(h:yT ow W tp g1 g2 g3 im F r v w'):∃ pq:Option Addr,v=.pointer pq∧aA (Rds ow) W w'∧((pq.isNone=true∧r=none)∨∃ (x:Rec) (q:Nat) (ow':Nat→Nat),pq=some ⟨q,0,none⟩∧r=some x∧W.heap.size≤q∧q<w'.heap.size∧(∀ k,k<W.heap.size→ow' k=ow k)∧(∀ k,w'.heap.size≤k→ow' k=0)∧(∀ k,W.heap.size≤k→k≠q→ow' k≤4)∧ow' q=5∧RcV (fun k=>ow' k=4) w'.heap x 0 q ∧
 MrO (fun k=>ow' k=1) w'.heap g1 tp im (F 2) (F 3)∧MrO (fun k=>ow' k=2) w'.heap g2 tp im (F 3) (F 4)∧MrO (fun k=>ow' k=3) w'.heap g3 tp im (F 6) (F 0)):=by
 obtain⟨hf,h⟩:=h;cases r with
|none=>exact⟨none,h,hf,.inl ⟨rfl,rfl⟩⟩
|some x=>obtain⟨ow',q,rfl,h1⟩:=h;exact⟨_,rfl,hf,.inr ⟨x,q,ow',rfl,rfl,h1⟩⟩
def Lbs(ow:Nat→Nat):Nat→Prop:=fun k=>ow k≠0∧ow k≠4
def Fx(ow:Nat→Nat)(W:World)(g tp:Nat)(im:By)(F:Nat→Int)(P ids:List Int)(r:Option MSt)(v:Value)(w':World):Prop:=aA (Lbs ow) W w'∧((v=.bool false∧r=none) ∨
 ∃ (s':MSt) (ow':Nat→Nat) (ps':List Nat),v=.bool true∧r=some s'∧MoV ow' w'.heap g tp im F P ids s' ps'∧(∀ k,k<W.heap.size→ow' k=ow k)∧(∀ k,w'.heap.size≤k→ow' k=0)∧PlM s')
theorem B3{ow:Nat→Nat}{W w':World}{g tp:Nat}{im:By}{F:Nat→Int}{P ids:List Int}{r:Option MSt}{v:Value}(h:Fx ow W g tp im F P ids r v w'):∃ b:Bool,v=.bool b∧aA (Lbs ow) W w'∧((b=false∧r=none) ∨
 ∃ (s':MSt) (ow':Nat→Nat) (ps':List Nat),b=true∧r=some s'∧MoV ow' w'.heap g tp im F P ids s' ps'∧(∀ k,k<W.heap.size→ow' k=ow k)∧(∀ k,w'.heap.size≤k→ow' k=0)∧PlM s'):=by
 obtain⟨hf,⟨h1,h2⟩|⟨s',ow',ps',h1,h2⟩⟩:=h
 ·exact⟨false,h1,hf,.inl ⟨rfl,h2⟩⟩
 ·exact⟨true,h1,hf,.inr ⟨s',ow',ps',rfl,h2⟩⟩
section
variable {im:List UInt8}{F:Nat→Int}{ids:List Int}{n:Nat}{ref kind:Int}{s:MSt}
theorem Ds(h:1024<s.2+1):goM im F ids (n+1) ref kind s=none:=by unfold goM;rw[if_pos h]
theorem Gq{i:Nat}(h:¬ 1024<s.2+1)(hi:fZ s.1 ref=some i)(hk:kind≠1∧(s.1.getD i (nZ,0)).1.ino.1 0=kind):goM im F ids (n+1) ref kind s=some (dC s.1 i,s.2+1):=by
 unfold goM;rw[if_neg h,hi];exact if_pos hk
theorem qL{i:Nat}(h:¬ 1024<s.2+1)(hi:fZ s.1 ref=some i)(hk:¬ (kind≠1∧(s.1.getD i (nZ,0)).1.ino.1 0=kind)):goM im F ids (n+1) ref kind s=none:=by
 unfold goM;rw[if_neg h,hi];exact if_neg hk
theorem Gt(h:¬ 1024<s.2+1)(hi:fZ s.1 ref=none)(hx:eV im F ids ref kind=none):goM im F ids (n+1) ref kind s=none:=by
 unfold goM;rw[if_neg h,hi];simp only[hx]
theorem Gr{x:Rec}(h:¬ 1024<s.2+1)(hi:fZ s.1 ref=none)(hx:eV im F ids ref kind=some x):goM im F ids (n+1) ref kind s=goL (goM im F ids n) x.list (s.1++[(x,1)],s.2+1):=by
 conv=>lhs;unfold goM
 rw[if_neg h,hi];simp only[hx]
end
theorem PlM.lt{s:MSt}(h:PlM s){i:Nat}{r:Rec×Int}(hi:s.1[i]?=some r):0≤r.2∧r.2≤1024:=by
 have h1:=h.2.1 r (mem_of_getElem? hi);have:=h.1;exact⟨h1.2.1,by have:=h1.2.2;omega⟩
theorem HR{α:Type}{l:List α}(h:l.Nodup){i j:Nat}{x:α}(hi:l[i]?=some x)(hj:l[j]?=some x):i=j:=by
 obtain⟨h1,e1⟩:=List.getElem?_eq_some_iff.1 hi;obtain⟨h2,e2⟩:=List.getElem?_eq_some_iff.1 hj;have hp:=List.pairwise_iff_getElem.1 h;rcases Nat.lt_trichotomy i j with h3|h3|h3
 ·exact absurd (e1.trans e2.symm) (hp i j h1 h2 h3)
 ·exact h3
 ·exact absurd (e2.trans e1.symm) (hp j i h2 h1 h3)
def WkS(g tp:Nat)(im:By)(F:Nat→Int)(P ids:List Int)(n:Nat):Prop:=∀ (ow:Nat→Nat) (s:MSt) (ps:List Nat) (ref kind:Int) (W:World),MoV ow W.heap g tp im F P ids s ps→(∀ k,W.heap.size≤k→ow k=0)→PlM s→(0≤ref∧ref≤4294967295) →
 CA 37 [pT g,iV ref,iV kind,iV (17-n)] W (Fx ow W g tp im F P ids (goM im F ids n ref kind s))
theorem ER(g tp:Nat)(im:By)(F:Nat→Int)(P ids:List Int):WkS g tp im F P ids 0:=by
 intro ow s ps ref kind W hM hnew hp href;obtain⟨bo,bc,po,pc,io,ic,g1,g2,g3,gm,hg,_,_,_,_,_,_,_,_,_,_,o1,_,_⟩:=hM;have hp1:=hp.1;refine cS 92 [(0,_),(1,_),(2,_),(3,_)] Tryz.func37 ?_;refine Gz 14 ?_;refine Tx aI rfl rfl rfl hg rfl ?_;intro w1 hg1 hs1 hf1;refine Gz 6 ?_;refine cL (Ug (UH rfl rfl) (by decide)) ?_;refine Gz 18 ?_;exact⟨_,rfl,hf1.mono (fun k h=>by have h:k=g:=h;subst h;show _∧_;omega),.inl ⟨rfl,rfl⟩⟩
theorem EQ(g tp:Nat)(im:By)(F:Nat→Int)(P ids:List Int)(hb:im.length≤1073741824)(n:Nat)(hn:n+1≤17)(ih:WkS g tp im F P ids n):WkS g tp im F P ids (n+1):=by
 intro ow s ps ref kind W hM hnew hp href;have hle:∀ z,z≠0→∀ k,ow k=z→k<W.heap.size:=fun z hz k hk=>byContradiction fun hc=>by have:=hnew k (by omega);omega
 obtain⟨bo,bc,po,pc,io,ic,g1,g2,g3,gm,hg,⟨v1,l1⟩,⟨v2,l2⟩,⟨v3,l3⟩,m1,m2,m3,hm,hl,hr,hnd,o1,o2,o3⟩:=hM;have hp1:=hp.1;have hgl:=(Array.getElem?_eq_some_iff.1 hg).1;have htl:=(Array.getElem?_eq_some_iff.1 m1.tab.1).1;have hog:∀ k,ow k≠6→¬ k=g:=fun k h e=>h (e ▸ o1);have h4g:∀ k,ow k=4→¬ k=g:=fun k h=>hog k (by omega);obtain⟨oi,hoi⟩:∃ oi,oi=fZ s.1 ref:=⟨_,rfl⟩
 refine cS 92 [(0,_),(1,_),(2,_),(3,_)] Tryz.func37 ?_;refine Gz 14 ?_;refine Tx aI rfl rfl rfl hg rfl ?_;intro w1 hg1 hs1 hf1;have hg1:w1.heap[g]?=some (.cells (moC tp bo im.length bc F (.slice po P.length pc) (.slice io ids.length ic) (pnV g1) (pnV g2) (pnV g3) gm ((s.2+1:Nat):Int)).toArray 107 (0,0)):=hg1;have hF1:aA (Lbs ow) W w1:=hf1.mono (fun k h=>by have h:k=g:=h;subst h;show _∧_;omega);have hm1:=hm.WS hf1 (hog gm (by omega));have v11:=v1.WS hf1 (fun a ha=>h4g _ (l1 _ ⟨a,ha,rfl⟩));have v21:=v2.WS hf1 (fun a ha=>h4g _ (l2 _ ⟨a,ha,rfl⟩));have v31:=v3.WS hf1 (fun a ha=>h4g _ (l3 _ ⟨a,ha,rfl⟩));have m11:=m1.WS hf1 (fun k hk=>hog k (by omega)) (hog tp (by omega));have m21:=m2.WS hf1 (fun k hk=>hog k (by omega)) (hog tp (by omega));have m31:=m3.WS hf1 (fun k hk=>hog k (by omega)) (hog tp (by omega));have hr1:∀ (i:Nat) (r:Rec×Int) (p:Nat),s.1[i]?=some r→ps[i]?=some p→RcV (fun k=>ow k=4) w1.heap r.1 r.2 p∧ow p=5:=fun i r p h1 h2=>⟨(hr i r p h1 h2).1.WS hf1 (hog p (by have:=(hr i r p h1 h2).2;omega)) (fun k hk=>h4g k hk) (fun _ h=>h),(hr i r p h1 h2).2⟩
 refine Gz 6 ?_;refine cL (Um (UH rfl rfl) (by omega)) ?_;refine fW 5 ?_ ?_<;>intro h28
 ·have hres:goM im F ids (n+1) ref kind s=none:=Ds (by omega);refine Gz 12 ?_;exact⟨_,rfl,hF1,.inl ⟨rfl,hres⟩⟩
 have h28:¬ 1024<s.2+1:=by omega
 refine Gz 14 ?_;refine cL (Tw (u:=.tuple [(oi.map (fun i=>pnV (ps.getD i 0))).getD (.pointer none),.bool (decide (oi.isSome=true))].toArray) (UF mpR (a:=(⟨ref,by omega⟩:I6)) Kv rfl rfl (fun _ e=>by rw[e];exact hm1)) (by rw[NZ href,xO href hl (fun r h=>(hp.2.1 r h).1),←hoi];cases oi<;>rfl)) ?_;refine Gz 2 ?_;refine TZ (T9 rfl rfl) rfl (fun h38=>?_) (fun h38=>?_)
 ·obtain⟨i,rfl⟩:∃ i,oi=some i:=Option.isSome_iff_exists.1 h38;obtain⟨r,hri,hrr⟩:=xM hoi.symm;have hil:=(List.getElem?_eq_some_iff.1 hri).1;obtain⟨p,hpi⟩:∃ p,ps[i]?=some p:=⟨_,List.getElem?_eq_getElem (by omega)⟩
  have hpd:ps.getD i 0=p:=by rw[List.getD,hpi];rfl
  have hrd:s.1.getD i (nZ,0)=r:=by rw[List.getD,hri];rfl
  obtain⟨hrv,hop⟩:=hr1 i r p hri hpi;obtain⟨lo,lc,xo,xc,hpc,hvl,hvd,hvx,hx5⟩:=hrv;have hr2:=hp.lt hri;rw[show ((some i).map (fun i=>pnV (ps.getD i 0))).getD (.pointer none)=pT p by rw[map_some,getD_some,hpd];rfl];refine Gz 19 ?_;refine Tx aI rfl rfl rfl hpc rfl ?_;intro w2 hpc2 hs2 hf2;have hpc2:w2.heap[p]?=some (.cells (uR r.1 (r.2+1) lo lc xo xc).toArray 112 (0,0)):=hpc2;refine fK 5 ?_ ?_<;>intro h48
  ·refine Gz 5 ?_;refine cW (Tu aI rfl (aE (i:=0) hpc2 rfl)) ?_;refine fW 1 ?_ ?_<;>intro h56
   ·have hres:goM im F ids (n+1) ref kind s=some (dC s.1 i,s.2+1):=Gq h28 hoi.symm ⟨h48,by rw[hrd];exact h56⟩;refine Gz 7 ?_;have hpn:∀ k,ow k≠5→¬ k=p:=fun k h e=>h (e ▸ hop);have h4p:∀ k,ow k=4→¬ k=p:=fun k h=>hpn k (by omega);refine⟨_,rfl,hF1.trans (hf2.mono (fun k h=>by have h:k=p:=h;subst h;show _∧_;omega)),.inr ⟨_,ow,ps,rfl,hres,⟨bo,bc,po,pc,io,ic,g1,g2,g3,gm,hf2.obj hg1 (hpn g (by omega)),⟨v11.WS hf2 (fun a ha=>h4p _ (l1 _ ⟨a,ha,rfl⟩)),l1⟩,⟨v21.WS hf2 (fun a ha=>h4p _ (l2 _ ⟨a,ha,rfl⟩)),l2⟩,⟨v31.WS hf2 (fun a ha=>h4p _ (l3 _ ⟨a,ha,rfl⟩)),l3⟩,m11.WS hf2 (fun k hk=>hpn k (by omega)) (hpn tp (by omega)),m21.WS hf2 (fun k hk=>hpn k (by omega)) (hpn tp (by omega)),m31.WS hf2 (fun k hk=>hpn k (by omega)) (hpn tp (by omega)),?_,by unfold dC;rw[length_set];exact hl,fun i2 r2 p2 h1 h2=>?_,hnd,o1,o2,o3⟩,fun _ _=>rfl,fun k hk=>hnew k (by have h:w2.heap.size=w1.heap.size:=hs2;omega),hp.bump hri (by omega)⟩⟩
    · show jG enI w2.heap gm (iT (dC s.1 i) ps)
      unfold dC;rw[hrd,H2 i r hri];exact hm1.WS hf2 (hpn gm (by omega))
    · by_cases hi2:i=i2
      · subst hi2
        rw[hpi] at h2;cases h2;have h1:(dC s.1 i)[i]?=some r2:=h1;unfold dC at h1;rw[List.getElem?_set,if_pos rfl,if_pos hil,hrd] at h1;cases h1;exact⟨⟨lo,lc,xo,xc,hpc2,hvl.keep' hf2 (fun hne a ha=>h4p _ (hvd hne _ ⟨a,ha,rfl⟩)),hvd,hvx.WS hf2 (fun k hk=>h4p k hk),hx5⟩,hop⟩
      · have h1:(dC s.1 i)[i2]?=some r2:=h1
        unfold dC at h1;rw[List.getElem?_set,if_neg hi2] at h1;obtain⟨h3,h5⟩:=hr1 i2 r2 p2 h1 h2;have hpp:¬ p2=p:=fun e=>by
         subst e;exact hi2 (HR hnd hpi h2)
        exact⟨h3.WS hf2 hpp (fun k hk=>h4p k hk) (fun _ h=>h),h5⟩
   have hres:goM im F ids (n+1) ref kind s=none:=qL h28 hoi.symm (fun h=>h56 (by rw[hrd] at h;exact h.2));refine Gz 7 ?_;exact⟨_,rfl,hF1.trans (hf2.mono (fun k h=>by have h:k=p:=h;subst h;show _∧_;omega)),.inl ⟨rfl,hres⟩⟩
  have hres:goM im F ids (n+1) ref kind s=none:=qL h28 hoi.symm (fun h=>h48 h.1);refine Gz 15 ?_;exact⟨_,rfl,hF1.trans (hf2.mono (fun k h=>by have h:k=p:=h;subst h;show _∧_;omega)),.inl ⟨rfl,hres⟩⟩
 obtain rfl:oi=none:=by cases oi;rfl;exact absurd rfl h38
 refine Gz 17 ?_;refine Ts SG rfl (HW ow g tp g1 g2 g3 gm bo po io bc P.length pc ic im F ids _ ref kind w1 hg1 v11 l1 o1 o3 m11 m21 m31 (fun k hk=>hnew k (by omega)) hb href) rfl ?_;intro v2 w2 hR2;obtain⟨pq,rfl,hF2,hR2⟩:=JM hR2;refine Gz 7 ?_;refine TZ (TV (Uq OA rfl rfl)) rfl (fun h63=>?_) (fun h63=>?_)
 ·have hrm:eV im F ids ref kind=none:=by
   rcases hR2 with h|⟨x,q,ow2,rfl,h⟩
   ·exact h.2
   ·cases h63
  have hres:goM im F ids (n+1) ref kind s=none:=Gt h28 hoi.symm hrm;refine Gz 11 ?_;exact⟨_,rfl,hF1.trans (hF2.mono (fun k h=>by have h:ow k=1∨ow k=2∨ow k=3:=h;show _∧_;omega)),.inl ⟨rfl,hres⟩⟩
 obtain⟨x,q,ow2,rfl,hrm,hq1,hq2,c1,c2,c3,c4,hrv,m12,m22,m32⟩:=hR2.resolve_left (fun h=>h63 h.1);have hres:=Gr (n:=n) h28 hoi.symm hrm;have hqg:¬ q=g:=by omega
 have hRd:∀ k,(k=g∨ow k=4∨ow k=5∨ow k=7)→¬ Rds ow k:=fun k h e=>by
  have e:ow k=1∨ow k=2∨ow k=3:=e;rcases h with rfl|h|h|h<;>omega
 have hg2:=hF2.obj hg1 (hRd g (.inl rfl));have hm2:=hm1.WS hF2 (hRd gm (.inr (.inr (.inr o2))));obtain⟨lo,lc,xo,xc,hqc,hvl,hvd,hvx,hx5⟩:=hrv;have hxr:=Hr hrm;have hgml:=hm1.obj;refine Gz 10 ?_;refine Tx aI rfl rfl rfl hqc rfl ?_;intro w3 hqc3 hs3 hf3;have hqc3:w3.heap[q]?=some (.cells (uR x 1 lo lc xo xc).toArray 112 (0,0)):=hqc3;have hg3:=hf3.obj hg2 (by intro e;have e:g=q:=e;omega);have hm3:=hm2.WS hf3 (by intro e;have e:gm=q:=e;omega);refine Gz 10 ?_;refine UM mpR (a:=(⟨ref,by omega⟩:I6)) Kv rfl rfl rfl hm3 ?_;intro w4 hm4 hs4 hf4;have hget:mI (iT s.1 ps) (k6 ref)=none:=by rw[xO href hl (fun r h=>(hp.2.1 r h).1),←hoi];rfl
 have hm4:jG enI w4.heap gm (iT (s.1++[(x,1)]) (ps++[q])):=by
  rw[NZ href,tB _ hget] at hm4;rw[H1 hl];show jG enI w4.heap gm (iT s.1 ps++[(k6 x.ref,pnV q)]);rw[hxr.1];exact hm4
 have hf34:aA (fun k=>k=q∨k=gm) w2 w4:=(hf3.mono (fun k h=>.inl h)).trans (hf4.mono (fun k h=>.inr h));have hq7:∀ k,k<w1.heap.size→ow k≠7→¬ (k=q∨k=gm):=fun k h1 h2 e=>by rcases e with e|e;omega;rw[e] at h2;exact h2 o2
 have hn7:∀ k,ow2 k≤4→ow2 k≠0→¬ (k=q∨k=gm):=fun k h1 h0 e=>by rcases e with e|e;rw[e,c4] at h1;omega;rw[e,c1 gm hgml,o2] at h1;omega
 have hg4:=hf34.obj hg2 (hq7 g (by omega) (by omega));have hpm:PlM (s.1++[(x,1)],s.2+1):=hp.snoc (by rw[hxr.1];exact href) (fun r h=>by rw[hxr.1];exact KD hoi.symm r h) (by omega);have hkv:∀ {α:Type} {en:α→Value} {ao:Option Addr} {c:Nat} {y:List α},Vw en w1.heap ao c y→(∀ k,blk ao k→ow k=4)→Vw en w4.heap ao c y∧∀ k,blk ao k→ow2 k=4:=fun hv hl4=>⟨(hv.WS hF2 (fun a ha=>hRd _ (.inr (.inl (hl4 _ ⟨a,ha,rfl⟩))))).WS hf34 (fun a ha=>hq7 _ (by have:=hle 4 (by decide) _ (hl4 _ ⟨a,ha,rfl⟩);omega) (by have:=hl4 _ ⟨a,ha,rfl⟩;omega)),fun k hk=>by rw[c1 k (by have:=hle 4 (by decide) _ (hl4 _ hk);omega)];exact hl4 k hk⟩
 have hx4:RcV (fun k=>ow2 k=4) w4.heap x 1 q:=⟨lo,lc,xo,xc,hf4.obj hqc3 (by intro e;have e:q=gm:=e;omega),hvl.keep' hf34 (fun hne a ha=>hn7 _ (by have:=hvd hne _ ⟨a,ha,rfl⟩;omega) (by have:=hvd hne _ ⟨a,ha,rfl⟩;omega)),hvd,hvx.WS hf34 (fun k hk=>hn7 k (by have hk:ow2 k=4:=hk;omega) (by have hk:ow2 k=4:=hk;omega)),hx5⟩
 have htq:¬ (tp=q∨tp=gm):=hq7 tp (by omega) (by omega)
 have hM4:MoV ow2 w4.heap g tp im F P ids (s.1++[(x,1)],s.2+1) (ps++[q]):=by
  refine⟨bo,bc,po,pc,io,ic,g1,g2,g3,gm,hg4,hkv v11 l1,hkv v21 l2,hkv v31 l3,m12.WS hf34 (fun k hk=>hn7 k (by omega) (by omega)) htq,m22.WS hf34 (fun k hk=>hn7 k (by omega) (by omega)) htq,m32.WS hf34 (fun k hk=>hn7 k (by omega) (by omega)) htq,hm4,by simp[hl],fun i r p h1 h2=>?_,?_,by rw[c1 g (by omega)];exact o1,by rw[c1 gm hgml];exact o2,by rw[c1 tp (by omega)];exact o3⟩
  · by_cases hi:i<s.1.length
    · have h1:(s.1++[(x,1)])[i]?=some r:=h1
      rw[List.getElem?_append_left hi] at h1;rw[List.getElem?_append_left (by omega)] at h2;obtain⟨h3,h5⟩:=hr1 i r p h1 h2;have hpl:=hle 5 (by decide) p h5;refine⟨(h3.WS hF2 (hRd p (.inr (.inr (.inl h5)))) (fun k hk=>hRd k (.inr (.inl hk))) (fun _ h=>h)).WS hf34 (hq7 p (by omega) (by omega)) (fun k hk=>hq7 k (by have:=hle 4 (by decide) k hk;omega) (by omega)) (fun k hk=>by rw[c1 k (by have:=hle 4 (by decide) k hk;omega)];exact hk),by rw[c1 p (by omega)];exact h5⟩
    · have h1:(s.1++[(x,1)])[i]?=some r:=h1
      have hi2:i=s.1.length:=by have:=(List.getElem?_eq_some_iff.1 h1).1;simp at this;omega
      subst hi2;rw[List.getElem?_append_right (Nat.le_refl _)] at h1;rw[List.getElem?_append_right (by omega),hl] at h2;simp at h1 h2;subst h1;subst h2;exact⟨hx4,c4⟩
  · refine List.nodup_append.2 ⟨hnd,by simp,fun a ha b hb2 e=>?_⟩
    rw[mem_singleton] at hb2;obtain⟨j,hj⟩:=List.getElem?_of_mem ha;have hjl:=(List.getElem?_eq_some_iff.1 hj).1;have h5:=(hr1 j _ a (List.getElem?_eq_getElem (by omega)) hj).2;have:=hle 5 (by decide) a h5;omega
 have hG4:aA (Lbs ow) W w4:=(hF1.trans (hF2.mono (fun k h=>by have h:ow k=1∨ow k=2∨ow k=3:=h;show _∧_;omega))).WO hf34 (fun k h=>h.elim (fun h=>.inr (by omega)) (fun h=>.inl (by rw[h];show _∧_;omega)));have hvl4:=hx4;obtain⟨lo,lc,xo,xc,hq4,hvl4,hvd4,_,_⟩:=hvl4;have hll:=hvl4.WQ;refine Gz 14 ?_;refine TA (β:=(Nat×MSt)×((Nat→Nat)×List Nat)) (fun⟨⟨j,s5⟩,⟨ow5,ps5⟩⟩=>[(0,pT g),(3,iV (17-((n+1:Nat):Int))),(76,.slice lo x.list.length lc),(77,iV x.list.length),(78,iV j)]) (fun⟨⟨j,s5⟩,⟨ow5,ps5⟩⟩ w=>j≤x.list.length∧goL (goM im F ids n) (x.list.drop j) s5=goL (goM im F ids n) x.list (s.1++[(x,1)],s.2+1)∧MoV ow5 w.heap g tp im F P ids s5 ps5∧(∀ k,k<w4.heap.size→ow5 k=ow2 k)∧(∀ k,w.heap.size≤k→ow5 k=0)∧PlM s5∧VwM 3 fV w.heap lo lc x.list∧aA (Lbs ow) W w∧aA (fun k=>Lbs ow2 k∨w4.heap.size≤k) w4 w) (fun⟨⟨j,s5⟩,⟨ow5,ps5⟩⟩=>x.list.length-j) ⟨⟨0,(s.1++[(x,1)],s.2+1)⟩,⟨ow2,ps++[q]⟩⟩ ⟨rfl,rfl,rfl,rfl,rfl,trivial⟩ ⟨Nat.zero_le _,rfl,hM4,fun _ _=>rfl,fun k hk=>c2 k (by omega),hpm,hvl4,hG4,Wt _ _⟩ ?_;rintro⟨⟨j,s5⟩,⟨ow5,ps5⟩⟩ w5 ⟨hj,hgo,hM5,d1,d2,hp5,hvl5,hG5,hF5⟩;refine fK 2 ?_ ?_<;>intro h79
 ·have hil:j<x.list.length:=by omega
  obtain⟨y,hy⟩:∃ y,x.list[j]?=some y:=⟨_,List.getElem?_eq_getElem hil⟩
  have hfy:=hxr.2 y (mem_of_getElem? hy);have hdr:x.list.drop j=y::x.list.drop (j+1):=by obtain⟨h,rfl⟩:=List.getElem?_eq_some_iff.1 hy;exact drop_eq_getElem_cons h
  rw[hdr] at hgo;have hz5:=hF5.size;refine Gz 10 ?_;refine cL (Tv rA rfl rfl hvl5.non (by omega)) ?_;refine cL (TI (cs:=fV y) yQ rfl (fun a v ha=>hvl5.rowZ j rfl hy a v ha)) ?_;refine Tz D6 rfl ?_;intro w6 hg6 hs6 hf6;obtain⟨e6,he6⟩:∃ e6,e6=w5.heap.size:=⟨_,rfl⟩
  rw[←he6] at hg6 ⊢;refine sA rfl yQ (by exact yA _) hg6 ?_;intro w7 hg7 hs7 hf7;have hf57:aA nob w5 w7:=hf6.tw hf7;refine Gz 1 ?_;refine aW [(0,_),(3,_),(13,_),(76,_),(77,_),(78,_),(79,_)] ?_;refine Gz 9 ?_;refine cL (Tw (u:=iV (17-(n:Nat))) (Us rfl rfl (by omega)) (by congr 1;omega)) ?_;refine Ts PS rfl (ih ow5 s5 ps5 y.2.2 y.2.1 w7 (hM5.WR hf57) (fun k hk=>d2 k (by omega)) hp5 ⟨hfy.2.2.2.1,hfy.2.2.2.2⟩) rfl ?_;intro v8 w8 hW8;obtain⟨b,rfl,hF8,hW8⟩:=B3 hW8;have hG8:aA (Lbs ow) W w8:=hG5.trans hf57.any |>.WO hF8 (fun k h=>by
   by_cases hk:k<w4.heap.size
   · have h:ow5 k≠0∧ow5 k≠4:=h
     rw[d1 k hk] at h;by_cases hk2:k<w1.heap.size
     ·rw[c1 k hk2] at h;exact .inl h
     ·exact .inr (by omega)
   ·exact .inr (by omega))
  have hF58:aA (Lbs ow5) w5 w8:=hf57.any.trans hF8;refine TZ (Uj rfl) rfl (fun h90=>?_) (fun h90=>?_)
  ·have hrn:goM im F ids n y.2.2 y.2.1 s5=none:=(hW8.resolve_right (fun⟨s9,ow9,ps9,h,_⟩=>by rw[h90] at h;cases h)).2;have hres2:goM im F ids (n+1) ref kind s=none:=by
    rw[hres,←hgo];show (match goM im F ids n y.2.2 y.2.1 s5 with|none=>none|some s9=>goL (goM im F ids n) (x.list.drop (j+1)) s9)=none;rw[hrn]
   refine Gz 15 ?_;exact⟨_,rfl,hG8,.inl ⟨rfl,hres2⟩⟩
  obtain⟨s9,ow9,ps9,hbt,hr9,hM9,e1,e2,hp9⟩:=hW8.resolve_left (fun h=>h90 h.1);have hgo9:goL (goM im F ids n) (x.list.drop (j+1)) s9=goL (goM im F ids n) x.list (s.1++[(x,1)],s.2+1):=by
   rw[←hgo];show _=(match goM im F ids n y.2.2 y.2.1 s5 with|none=>none|some s9=>goL (goM im F ids n) (x.list.drop (j+1)) s9)
   rw[hr9]
  refine Gz 10 ?_;refine aG ⟨⟨j+1,s9⟩,⟨ow9,ps9⟩⟩ ⟨by omega,hgo9,hM9,fun k hk=>by rw[e1 k (by omega)];exact d1 k hk,e2,hp9,?_,hG8,hF5.WO hF58 (fun k h=>?_)⟩ (by show x.list.length-(j+1)<x.list.length-j;omega)
  · refine hvl5.keep' hF58 (fun hne a ha h=>?_)
    have h4:ow2 a.block=4:=hvd4 hne _ ⟨a,ha,rfl⟩;have hlt:a.block<w4.heap.size:=byContradiction fun hc=>by have:=c2 a.block (by omega);omega
    have h:ow5 a.block≠0∧ow5 a.block≠4:=h;rw[d1 _ hlt] at h;exact h.2 h4
  · by_cases hk:k<w4.heap.size
    · have h:ow5 k≠0∧ow5 k≠4:=h
      rw[d1 k hk] at h;exact .inl (.inl h)
    ·exact .inl (.inr (by omega))
 refine Gz 16 ?_;have hdn:x.list.drop j=[]:=List.drop_of_length_le (by omega);rw[hdn] at hgo;exact⟨_,rfl,hG5,.inr ⟨s5,ow5,ps5,rfl,by rw[hres,←hgo];rfl,hM5,fun k hk=>by rw[d1 k (by omega),c1 k (by omega)],d2,hp5⟩⟩
theorem Ay(g tp:Nat)(im:By)(F:Nat→Int)(P ids:List Int)(hb:im.length≤1073741824):∀ (n:Nat),n≤17→WkS g tp im F P ids n
|0,_=>ER g tp im F P ids
|n+1,hn=>EQ g tp im F P ids hb n hn (Ay g tp im F P ids hb n (by omega))
section
variable {P:Program}{ops:Array Oper}{CH:Array Obj→Prop}{N:Nt}{n:Nat}{effs:List Nat}{K0:Act→World→Prop}{Q:Exit→Act→World→Prop}{l:SF}{w:World}
theorem FO(hsel:Region.noSelect ops=true)(hfin:rZ ops n=true){i:Nat}{r:List Nat}{fuel:Nat}{listed:Array Bool}{a:Act}(he:effs.contains i=true)(hf:r.length≤fuel)(hm:pV ops n effs r (listed.setIfInBounds i true)=true)
 (ha:cK N l a)(inv:HeadInv .any ops n listed)(hi:i<n)(hr:i∈Region.ready .any ops listed)(h:Sx P N ops n CH effs K0 (i::r) l w) :
 wpOp P ops (lQ K0) i (bZ P .any ops n CH K0 fuel (listed.setIfInBounds i true)) a w:=by
 obtain⟨o,ho,h⟩:=h;rw[he] at h;simp only[cond_true] at h;have h1:=h a ha;unfold wpList at h1;unfold wpOp;simp only[ho];have key:∀ a' w',wpList P ops (lQ fun a w=>∃ l',cK N l' a∧∃ CH':Array Obj→Prop,(∀ H,CH' H→CH H)∧(Nat.blt i n=true→CH' w.heap)∧Sx P N ops n CH' effs K0 r l' w) [] a' w'→bZ P .any ops n CH K0 fuel (listed.setIfInBounds i true) a' w':=by
  intro a' w' h2;obtain⟨l',h3,CH',hsub,h4,h5⟩:=h2;exact bZ.mono hsub (nR hsel hfin r CH' fuel _ l' a' w' hf hm h3 (.inl ⟨inv.set hr hi,h4 (by simpa[Nat.blt_eq] using hi)⟩) h5)
 split
 · rename_i hw
   rw[if_pos hw] at h1;rcases h1 with h1|⟨_,_,_,h1⟩
   ·exact .inl (WB key h1)
   ·exact h1.elim
 · rename_i hw
   rw[if_neg hw] at h1;exact key _ _ h1
def KR(ops:Array Oper)(n:Nat)(effs:List Nat)(i:Nat)(r1:List Nat)(j:Nat)(r2:List Nat)(listed:Array Bool):Bool:=
 (match Region.ready .any ops listed with|[a,b]=>(Nat.beq a i && Nat.beq b j) || (Nat.beq a j && Nat.beq b i)|_=>false) && Nat.blt i n && Nat.blt j n && effs.contains i && effs.contains j &&
 pV ops n effs r1 (listed.setIfInBounds i true) && pV ops n effs r2 (listed.setIfInBounds j true)
def CV(ops:Array Oper)(n:Nat)(effs:List Nat)(i:Nat)(r1:List Nat)(j:Nat)(r2:List Nat):List Nat→Array Bool→Bool
|[],listed=>KR ops n effs i r1 j r2 listed
|k::r,listed=>(!effs.contains k) && (Region.ready .any ops listed).contains k && Region.free .any ops listed k && Nat.blt k n && CV ops n effs i r1 j r2 r (listed.setIfInBounds k true)
def KFx(P:Program)(N:Nt)(ops:Array Oper)(n:Nat)(CH:Array Obj→Prop)(effs:List Nat)(K0:Act→World→Prop)(i:Nat)(r1:List Nat)(j:Nat)(r2:List Nat):Act→World→Prop:=
 fun a w=>∃ l',cK N l' a∧Sx P N ops n CH effs K0 (i::r1) l' w∧Sx P N ops n CH effs K0 (j::r2) l' w
theorem zW(hsel:Region.noSelect ops=true)(hfin:rZ ops n=true){i j:Nat}{r1 r2:List Nat}:∀ (pre:List Nat) (fuel:Nat) (listed:Array Bool) (l:SF) (a:Act) (w:World),pre.length+r1.length+1≤fuel∧pre.length+r2.length+1≤fuel→CV ops n effs i r1 j r2 pre listed=true →
 cK N l a→HeadInv .any ops n listed→CH w.heap→Sx P N ops n CH effs (KFx P N ops n CH effs K0 i r1 j r2) pre l w→bZ P .any ops n CH K0 fuel listed a w
|[],0,_,_,_,_,hf,_,_,_,_,_=>by omega
|[],f+1,listed,l,a,w,hf,hm,ha,inv,hc,h=>by
   obtain⟨l',ha',h1,h2⟩:=h a ha;simp only[CV,KR,Bool.and_eq_true] at hm;obtain⟨⟨⟨⟨⟨⟨m1,m2⟩,m3⟩,m4⟩,m5⟩,m6⟩,m7⟩:=hm;have hi:i<n:=by simpa[Nat.blt_eq] using m2
   have hj:j<n:=by simpa[Nat.blt_eq] using m3
   have hrd:Region.ready .any ops listed=[i,j]∨Region.ready .any ops listed=[j,i]:=by
    split at m1
    · rename_i x y hxy
      simp only[Bool.or_eq_true,Bool.and_eq_true,Nat.beq_eq] at m1;rw[hxy];rcases m1 with⟨rfl,rfl⟩|⟨rfl,rfl⟩
      ·exact .inl rfl
      ·exact .inr rfl
    ·cases m1
   have hmi:i∈Region.ready .any ops listed:=by rcases hrd with h|h<;>rw[h]<;>simp
   have hmj:j∈Region.ready .any ops listed:=by rcases hrd with h|h<;>rw[h]<;>simp
   simp at hf;refine⟨fun _=>hc,fun h0=>(by rw[h0] at hmi;cases hmi),fun k hk=>?_⟩;have hk:k=i∨k=j:=by
    rcases hrd with h|h<;>rw[h] at hk<;>simp at hk
    ·exact hk
    ·exact hk.symm
   rcases hk with rfl|rfl
   ·exact FO hsel hfin m4 (by omega) m6 ha' inv hi hmi h1
   ·exact FO hsel hfin m5 (by omega) m7 ha' inv hj hmj h2
|k::r,0,_,_,_,_,hf,_,_,_,_,_=>by simp at hf
|k::r,f+1,listed,l,a,w,hf,hm,ha,inv,hc,h=>by
   obtain⟨o,ho,h⟩:=h;simp only[CV,Bool.and_eq_true,Bool.not_eq_true'] at hm;obtain⟨⟨⟨⟨he,m1⟩,m2⟩,m3⟩,m4⟩:=hm;rw[he] at h;simp only[cond_false] at h;obtain⟨v,hy,l',hl',hs⟩:=h;have hin:k<n:=by simpa[Nat.blt_eq] using m3
   have hir:k∈Region.ready .any ops listed:=by simpa using m1
   exact mR ho (Region.noSelect_spec hsel) hfin hin f listed a w inv hc (Region.free_spec ho m2) hir (hy a ha) (zW hsel hfin r f _ l' _ w (by simp at hf;omega) m4 (hl' a ha) (inv.set hir hin) hc hs)
theorem VZ{id:Nat}{lops:List Oper}(n:Nat)(CH:Array Obj→Prop)(effs pre:List Nat)(i:Nat)(r1:List Nat)(j:Nat)(r2:List Nat)(hm:P.follows .mixedOrders=true)(hs:(Region.noSelect lops.toArray && rZ lops.toArray n &&
 CV lops.toArray n effs i r1 j r2 pre (Array.replicate lops.length false))=true)(hc:CH w.heap)(hfu:(Nat.ble (pre.length+r1.length+1) lops.length && Nat.ble (pre.length+r2.length+1) lops.length)=true)
 (h:Sx P N lops.toArray n CH effs (KFx P N lops.toArray n CH effs (fun a w=>Q .normal a w) i r1 j r2) pre l (w.drewN 1)):Sc P N (.region id lops.toArray true) Q l w:=fun a ha=>by
 simp only[Bool.and_eq_true] at hs;obtain⟨⟨hs,hfin⟩,hok⟩:=hs;have h1:=zW (P:=P) (N:=N) (K0:=fun a w=>Q .normal a w) hs hfin pre lops.length _ l a (w.drewN 1) (by simpa[Nat.ble_eq] using hfu) hok ha
  (by have:=rX (ops:=lops.toArray) (n:=n);simpa using this) hc h
 have h2:=wp_region_any (P:=P) (id:=id) (ops:=lops.toArray) (Q:=lQ fun a w=>Q .normal a w) (a:=a) (w:=w) hm (by
  have:=h1.any;simpa[World.drewN] using this)
 refine wp_mono h2 ?_;intro e a' w' hq;cases e<;>first|exact hq|exact hq.elim
theorem Wl{i j:Nat}{r1 r2:List Nat}(h1:Sx P N ops n CH effs K0 (i::r1) l w)(h2:Sx P N ops n CH effs K0 (j::r2) l w):Sx P N ops n CH effs (KFx P N ops n CH effs K0 i r1 j r2) [] l w:=fun a ha=>⟨l,ha,h1,h2⟩
end
section
variable {im:List UInt8}{F:Nat→Int}{P I:List Int×Int}
def mtP(im:By)(F:Nat→Int):List Int×Int:=tnS im (F 4) (F 5) (F 8) 4
def mtI(im:By)(F:Nat→Int):List Int×Int:=tnS im (F 5) (F 6) (F 7) 2
theorem BA(h:(aH im).2≠0):mnt im=none:=if_pos h
theorem Bz(h0:aH im=(F,0))(h:¬ ((mtP im F).2=0∧(mtI im F).2=0∧jJ (mtI im F).1)):mnt im=none:=by
 unfold mtP mtI at h;unfold mnt;rw[h0];simp only[ne_eq,not_true,if_false];by_cases h1:(tnS im (F 4) (F 5) (F 8) 4).2=0
 · by_cases h2:(tnS im (F 5) (F 6) (F 7) 2).2=0
   · have h3:¬ jJ (tnS im (F 5) (F 6) (F 7) 2).1:=fun h3=>h ⟨h1,h2,h3⟩
     rw[if_neg (fun e=>e h1),if_neg (fun e=>e h2),if_pos h3]
   ·rw[if_neg (fun e=>e h1),if_pos h2]
 ·rw[if_pos h1]
theorem ES(h0:aH im=(F,0))(h:(mtP im F).2=0∧(mtI im F).2=0∧jJ (mtI im F).1):mnt im=match goM im F (mtI im F).1 17 (F 9) 1 ([],0) with
|none=>none
|some s=>if (s.1.length:Int)≠F 1∨¬ (∀ r∈s.1,r.2=r.1.ino.1 4) then none else some ⟨im,F,(mtP im F).1,(mtI im F).1,s.1⟩:=by
 unfold mtP mtI at h ⊢;unfold mnt;rw[h0];simp only[ne_eq,not_true,if_false];rw[if_neg (fun e=>e h.1),if_neg (fun e=>e h.2.1),if_neg (fun e=>e h.2.2)];rfl
end
theorem MN{l:List (Rec×Int)}{ps:List Nat}{j:Nat}{p:I6×Value}(h:(iT l ps)[j]?=some p):∃ r q,l[j]?=some r∧ps[j]?=some q∧p.2=pnV q:=by
 unfold iT at h;rw[List.getElem?_map,Option.map_eq_some_iff] at h;obtain⟨z,hz,rfl⟩:=h;rw[List.getElem?_zip_eq_some] at hz;exact⟨z.1,z.2,hz.1,hz.2,rfl⟩
theorem wX{l:List (Rec×Int)}{ps:List Nat}(h:ps.length=l.length):(iT l ps).length=l.length:=by unfold iT;simp[h]
def Pk(W:World)(im:By)(r:Option Img)(v:Value)(w':World):Prop:=aA nob W w'∧((v=.tuple #[.pointer none,iV 2]∧r=none) ∨
 ∃ (x:Img) (g tp:Nat) (ow:Nat→Nat) (ps:List Nat) (n:Nat),v=.tuple #[pT g,iV 0]∧r=some x∧x.im=im∧W.heap.size≤g∧MoV ow w'.heap g tp im x.F x.places x.ids (x.recs,n) ps∧PlM (x.recs,n)∧fG x.F∧im.length≤1048576)
def ow0(g gm tp a b c d e f:Nat)(k:Nat):Nat:=if k=g then 6 else if k=gm then 7 else if k=tp then 0 else if k<a then 0 else if k<b then 4 else if k<c then 1 else if k<d then 2 else if k<e then 3 else if k<f then 4 else 0
section
variable {g gm tp a b c d e f k:Nat}
theorem Mv(ha:a≤b)(h1:b≤c)(h2:c≤d)(h3:d≤e)(h4:e≤f)(hg:g<b)(hm:gm<b)(hk:f≤k):ow0 g gm tp a b c d e f k=0:=by
 unfold ow0;rw[if_neg (by omega),if_neg (by omega)];by_cases ht:k=tp
 ·rw[if_pos ht]
 ·rw[if_neg ht,if_neg (by omega),if_neg (by omega),if_neg (by omega),if_neg (by omega),if_neg (by omega),if_neg (by omega)]
theorem PC:ow0 g gm tp a b c d e f g=6:=if_pos rfl
theorem PB(h:g≠gm):ow0 g gm tp a b c d e f gm=7:=by unfold ow0;rw[if_neg (fun e=>h e.symm),if_pos rfl]
theorem Ga(h1:tp≠g)(h2:tp≠gm):ow0 g gm tp a b c d e f tp=0:=by unfold ow0;rw[if_neg h1,if_neg h2,if_pos rfl]
theorem Mu(ha:a≤g)(hb:a≤gm)(hk:k<a):ow0 g gm tp a b c d e f k=0:=by
 unfold ow0;rw[if_neg (by omega),if_neg (by omega)];by_cases ht:k=tp
 ·rw[if_pos ht]
 ·rw[if_neg ht,if_pos hk]
theorem PD(h1:k≠g)(h2:k≠gm)(h3:k≠tp)(h4:a≤k)(h5:k<b):ow0 g gm tp a b c d e f k=4:=by unfold ow0;rw[if_neg h1,if_neg h2,if_neg h3,if_neg (by omega),if_pos h5]
theorem PG(ha:a≤b)(hg:g<b)(hm:gm<b)(ht:tp<b)(h4:b≤k)(h5:k<c):ow0 g gm tp a b c d e f k=1:=by unfold ow0;rw[if_neg (by omega),if_neg (by omega),if_neg (by omega),if_neg (by omega),if_neg (by omega),if_pos h5]
theorem PF(ha:a≤b)(hb:b≤c)(hg:g<b)(hm:gm<b)(ht:tp<b)(h4:c≤k)(h5:k<d):ow0 g gm tp a b c d e f k=2:=by unfold ow0;rw[if_neg (by omega),if_neg (by omega),if_neg (by omega),if_neg (by omega),if_neg (by omega),if_neg (by omega),if_pos h5]
theorem PE(ha:a≤b)(hb:b≤c)(hc:c≤d)(hg:g<b)(hm:gm<b)(ht:tp<b)(h4:d≤k)(h5:k<e):ow0 g gm tp a b c d e f k=3:=by unfold ow0;rw[if_neg (by omega),if_neg (by omega),if_neg (by omega),if_neg (by omega),if_neg (by omega),if_neg (by omega),if_neg (by omega),if_pos h5]
theorem NS(ha:a≤b)(hb:b≤c)(hc:c≤d)(hd:d≤e)(hg:g<b)(hm:gm<b)(ht:tp<b)(h4:e≤k)(h5:k<f):ow0 g gm tp a b c d e f k=4:=by unfold ow0;rw[if_neg (by omega),if_neg (by omega),if_neg (by omega),if_neg (by omega),if_neg (by omega),if_neg (by omega),if_neg (by omega),if_neg (by omega),if_pos h5]
end
theorem Db(g tp:Nat)(im:By)(F:Nat→Int)(P ids:List Int)(hb:im.length≤1073741824)(ow:Nat→Nat)(s:MSt)(ps:List Nat)(ref kind:Int)(W:World)(hM:MoV ow W.heap g tp im F P ids s ps)(hnew:∀ k,W.heap.size≤k→ow k=0)(hp:PlM s)(href:0≤ref∧ref≤4294967295) :
 CA 37 [pT g,iV ref,iV kind,iV 0] W (Fx ow W g tp im F P ids (goM im F ids 17 ref kind s)):=by
 have h:=Ay g tp im F P ids hb 17 (Nat.le_refl _) ow s ps ref kind W hM hnew hp href;rwa[show (17-((17:Nat):Int))=0 by decide] at h
theorem rP(io:Option Addr)(ic:Nat)(im:By)(W:World)(hv:Vw b8 W.heap io ic im)(hb:im.length≤1073741824) :
 CA 11 [.slice io im.length ic] W (Pk W im (mnt im)):=by
 obtain⟨T,hT⟩:∃ T,T=aH im:=⟨_,rfl⟩
 refine cS 91 [(0,_)] Tryz.func11 ?_;refine cA 8 S8 (Ip W) ?_;rintro _ w1 ⟨rfl,hf1⟩;refine Tz Og rfl ?_;intro w2 hg2 hs2 hf2;refine TX (vs:=tab) BY rfl rfl FN hg2 (by rw[Bh,List.length_replicate]) ?_;intro w3 hg3 hs3 hf3;obtain⟨tp,hp⟩:∃ p,p=w1.heap.size:=⟨_,rfl⟩
 have hF3:aA nob W w3:=(hf1.trans hf2).WO hf3 (fun k hk=>.inr (by have h:k=w1.heap.size:=hk;have:=hf1.size;omega));rw[←hp] at hg3 ⊢;have ht3:TbV w3.heap tp:=hg3;have htW:W.heap.size≤tp:=by rw[hp];exact hf1.size
 refine Gz 5 ?_;refine Ts S7 rfl (G7 tp io ic im w3 ht3 (hv.WR hF3) (by omega)) rfl ?_;rw[←hT];rintro _ w4 ⟨rfl,hf4⟩;have hF4:=hF3.trans hf4;have ht4:=hf4.obj ht3 id;refine Gz 3 ?_;refine Tz sV rfl ?_;intro w5 hg5 hs5 hf5;obtain⟨b,eb⟩:∃ b,b=w4.heap.size:=⟨_,rfl⟩
 rw[←eb] at hg5 ⊢;refine sA rfl dS (by exact fO _) hg5 ?_;intro w6 hg6 hs6 hf6;have hf46:aA nob w4 w6:=hf5.tw hf6;have hF6:=hF4.trans hf46;have ht6:=hf46.obj ht4 id;have hv6:=hv.WR hF6;have hz34:=hf4.size;refine fK 7 ?_ ?_<;>intro h17
 ·have hno:mnt im=none:=BA (by rw[←hT];exact h17);refine Gz 12 ?_;exact⟨_,rfl,hF6,.inl ⟨rfl,hno⟩⟩
 have e2:T.2=0:=Decidable.not_not.1 h17;have hok:iL im:=byContradiction fun h=>h17 (by rw[hT];show (aH im).2≠0;unfold aH;rw[if_neg h];decide);have eT:aH im=(suF im,0):=if_pos hok;obtain⟨F,hFF⟩:∃ F,F=suF im:=⟨_,rfl⟩
 rw[←hFF] at eT;have eT1:T.1=F:=by rw[hT,eT]
 rw[eT1] at hg6;obtain⟨q64,qm,_,q0⟩:=hok;rw[←hFF] at qm q0;have qm2:=qm;obtain⟨⟨s1,s2,s3,s4,s5,s6,s7⟩,u1,u2,u3,u4,u5,u6,u7,u8⟩:=qm2;refine Gz 5 ?_;refine TY (β:=(Option Addr×Nat)×(Nat×Nat)) (fun⟨⟨bo,bc⟩,⟨g,gm⟩⟩=>[(4,pT tp),(5,pT b),(7,pT g)]) (fun⟨⟨bo,bc⟩,⟨g,gm⟩⟩ w=>w.heap[g]?=some (.cells (moC tp bo im.length bc F sN sN (.pointer none) (.pointer none) (.pointer none) gm 0).toArray 107 (0,0))∧w.heap[b]?=some (.cells (dB F).toArray 93 (0,0))∧Own b8 5 w.heap bo bc im∧jG enI w.heap gm []∧Fr w6.heap.size bo∧w6.heap.size≤g∧w6.heap.size≤gm∧¬ gm=g∧¬ blk bo g∧¬ blk bo gm∧aA nob w6 w) ?_ ?_
 ·refine VZ 7 (fun H=>H[b]?=some (.cells (dB F).toArray 93 (0,0))) [1,3,5] [0,2] 1 [3,4,5,6] 3 [1,4,5,6] aL (by kernel_rfl) (hg6) rfl ?_;refine Gz 1 ?_;refine xC rfl (Uf (cs:=dB F) dS rfl (fun H hH j v hj=>cC hH 0 rfl j v hj)) ?_;refine Wl ?_ ?_
  ·refine Ty rfl rfl (Ts Fg rfl (iM io ic im (w6.drewN 1) (hv6.WR (Wu 1)) (by omega)) rfl ?_);rintro _ w7 ⟨bo,bc,rfl,hob,hbf,hf7⟩;have hf7:=hf7.WP;have hz7:=hf7.size;have hbf:Fr w6.heap.size bo:=hbf;refine TE (by exact hf7.obj hg6 id) ?_;refine Ty rfl rfl (UJ (enc:=enI) rfl ?_);intro w8 hm8 hs8 hf8;obtain⟨gm,egm⟩:∃ gm,gm=w7.heap.size:=⟨_,rfl⟩
   rw[←egm] at hm8 ⊢;refine TE (by exact hf8.obj (hf7.obj hg6 id) id) ?_;refine xC rfl (bU (moC tp bo im.length bc F sN sN (.pointer none) (.pointer none) (.pointer none) gm 0) JW NG) ?_;refine Ty rfl rfl (T1 rfl rfl ?_);intro w9 hg9 hs9 hf9;obtain⟨g,eg⟩:∃ g,g=w8.heap.size:=⟨_,rfl⟩
   have hg9:w9.heap[w8.heap.size]?=some (.cells (moC tp bo im.length bc F sN sN (.pointer none) (.pointer none) (.pointer none) gm 0).toArray 107 (0,0)):=hg9;rw[←eg] at hg9 ⊢;have hlb:=hob.lt;refine TE (by exact hf9.obj (hf8.obj (hf7.obj hg6 id) id) id) ?_;have hob9:=(hob.WR hf8).WR hf9;have hm9:=hm8.WS hf9 id;have hbm:¬ blk bo gm:=fun⟨a,ha,e⟩=>by have:=hlb a ha;omega
   have hF9:aA nob w6 w9:=(hf7.trans hf8).trans hf9;have hb9:=hF9.obj hg6 id;refine Gz 2 ?_;exact aC ⟨⟨bo,bc⟩,⟨g,gm⟩⟩ ⟨hg9,hb9,hob9,hm9,hbf,by omega,by omega,by omega,fun⟨a,ha,e⟩=>by have:=hlb a ha;omega,hbm,hF9⟩
  refine Ty rfl rfl (UJ (enc:=enI) rfl ?_);intro w8 hm8 hs8 hf8;have hf8:=hf8.WP;obtain⟨gm,egm⟩:∃ gm,gm=w6.heap.size:=⟨_,rfl⟩
  rw[show (w6.drewN 1).heap.size=gm from egm.symm] at hm8 ⊢;have hz8:=hf8.size;have hs8b:w8.heap.size=w6.heap.size+1:=hs8;refine TE (by exact hf8.obj hg6 id) ?_;refine Ty rfl rfl (Ts Fg rfl (iM io ic im w8 (hv6.WR hf8) (by omega)) rfl ?_);rintro _ w7 ⟨bo,bc,rfl,hob,hbf,hf7⟩;have hz7:=hf7.size;refine TE (by exact hf7.obj (hf8.obj hg6 id) id) ?_;refine xC rfl (bU (moC tp bo im.length bc F sN sN (.pointer none) (.pointer none) (.pointer none) gm 0) JW NG) ?_;refine Ty rfl rfl (T1 rfl rfl ?_);intro w9 hg9 hs9 hf9;obtain⟨g,eg⟩:∃ g,g=w7.heap.size:=⟨_,rfl⟩
  have hg9:w9.heap[w7.heap.size]?=some (.cells (moC tp bo im.length bc F sN sN (.pointer none) (.pointer none) (.pointer none) gm 0).toArray 107 (0,0)):=hg9;rw[←eg] at hg9 ⊢;have hlb:=hob.lt;refine TE (by exact hf9.obj (hf7.obj (hf8.obj hg6 id) id) id) ?_;have hob9:=hob.WR hf9;have hm9:=(hm8.WS hf7 id).WS hf9 id;have hF9:aA nob w6 w9:=(hf8.trans hf7).trans hf9;have hb9:=hF9.obj hg6 id;have hbf8:Fr w8.heap.size bo:=hbf;have hbm:¬ blk bo gm:=fun⟨a,ha,e⟩=>by have:=hbf8 a ha;omega
  have hbf:Fr w6.heap.size bo:=hbf.mono (by omega);refine Gz 2 ?_;exact aC ⟨⟨bo,bc⟩,⟨g,gm⟩⟩ ⟨hg9,hb9,hob9,hm9,hbf,by omega,by omega,by omega,fun⟨a,ha,e⟩=>by have:=hlb a ha;omega,hbm,hF9⟩
 rintro⟨⟨bo,bc⟩,⟨g,gm⟩⟩ w7 ⟨hg7,hb7,hob,hm7,hbf,hyg,hym,hgmg,hnb,hnbm,hF7⟩;have hz7:=hF7.size;have ht7:=hF7.obj ht6 id;have hbg:¬ b=g:=by omega
 have htg:¬ tp=g:=by omega
 have htgm:¬ tp=gm:=by omega
 have hgl7:=(Array.getElem?_eq_some_iff.1 hg7).1;have hml7:=hm7.obj;refine Gz 1 ?_;refine TG 30 (fun H=>H[b]?=some (.cells (dB F).toArray 93 (0,0))) [8,14,20,23,26,29] [0,1,2,3,4,5,6,7,9,10,11,12,13,15,16,17,18,19,8,14,20,21,22,23,24,25,26,27,28,29] aL (by kernel_rfl) (hb7) ?_;refine Gz 18 ?_;refine Ty rfl rfl (Ts KW rfl (mA g tp bo bc im F _ _ _ _ _ gm 0 (F 2) (F 3) (w7.drewN 1) hg7 (hob.vw.WR (Wu 1)) ht7 (by omega)) rfl ?_);rintro _ w8 ⟨g1,rfl,hy1,hM1,hf8⟩;have hf8:=hf8.WP;have hz8:=hf8.size;refine TE (by exact hf8.obj hb7 id) ?_;refine Ty rfl rfl (Ts KW rfl (mA g tp bo bc im F _ _ _ _ _ gm 0 (F 3) (F 4) w8 (hf8.obj hg7 id) (hob.vw.WR hf8) (hf8.obj ht7 id) (by omega)) rfl ?_);rintro _ w9 ⟨g2,rfl,hy2,hM2,hf9⟩;have hz9:=hf9.size;have hf79:=hf8.trans hf9;refine TE (by exact hf79.obj hb7 id) ?_;refine Ty rfl rfl (Ts KW rfl (mA g tp bo bc im F _ _ _ _ _ gm 0 (F 6) (F 0) w9 (hf79.obj hg7 id) (hob.vw.WR hf79) (hf79.obj ht7 id) (by omega)) rfl ?_);rintro _ w10 ⟨g3,rfl,hy3,hM3,hf10⟩;have hz10:=hf10.size;have hf710:=hf79.trans hf10;refine TE (by exact hf710.obj hb7 id) ?_;refine Gz 2 ?_;refine Ty rfl rfl (Tx Bk rfl rfl rfl (hf710.obj hg7 id) rfl ?_);intro w11 hg11 hs11 hf11;have hg11:w11.heap[g]?=some (.cells (moC tp bo im.length bc F sN sN (pnV g1) (.pointer none) (.pointer none) gm 0).toArray 107 (0,0)):=hg11;refine TE (by exact hf11.obj (hf710.obj hb7 id) hbg) ?_;refine Gz 2 ?_;refine Ty rfl rfl (Tx Bk rfl rfl rfl hg11 rfl ?_);intro w12 hg12 hs12 hf12;have hg12:w12.heap[g]?=some (.cells (moC tp bo im.length bc F sN sN (pnV g1) (pnV g2) (.pointer none) gm 0).toArray 107 (0,0)):=hg12;refine TE (by exact hf12.obj (hf11.obj (hf710.obj hb7 id) hbg) hbg) ?_;refine Gz 2 ?_;refine Ty rfl rfl (Tx Bk rfl rfl rfl hg12 rfl ?_);intro w13 hg13 hs13 hf13;have hg13:w13.heap[g]?=some (.cells (moC tp bo im.length bc F sN sN (pnV g1) (pnV g2) (pnV g3) gm 0).toArray 107 (0,0)):=hg13;have hf1013:aA (· = g) w10 w13:=(hf11.trans hf12).trans hf13;have hb13:=hf1013.obj (hf710.obj hb7 id) hbg;have ht13:=hf1013.obj (hf710.obj ht7 id) htg;have hnbg:∀ a,bo=some a→¬ a.block=g:=fun a ha e=>hnb ⟨a,ha,e⟩;have hob13:=(hob.WR hf710).WS hf1013 hnbg;have hm13:=(hm7.WS hf710 id).WS hf1013 hgmg;refine TE (by exact hb13) ?_;refine Gz 4 ?_;refine TG 20 (fun H=>H[b]?=some (.cells (dB F).toArray 93 (0,0))) [1,7] [0,1,2,3,4,5,6,7,8,9,10,11,12,13,14,15,16,17,18,19] aL (by kernel_rfl) (hb13) ?_;refine Gz 1 ?_;refine Ty rfl rfl (Ts S6 rfl (Ke g tp bo bc im F (pnV g1) (pnV g2) (pnV g3) gm 0 (w13.drewN 1) hg13 (hob13.vw.WR (Wu 1)) hnb ht13 htg hb (by omega) (by omega)) rfl ?_);rintro _ w14 ⟨rfl,po,pc,io2,ic2,hg14,hpo,hio,hpf,hif,hf14⟩;have hf14:=hf14.WP;have hz14:=hf14.size;have hb14:=hf14.obj hb13 hbg;have hpf:Fr w13.heap.size po:=hpf;have hif:Fr w13.heap.size io2:=hif;refine TE (by exact hb14) ?_;by_cases h52:(tnS im (F 4) (F 5) (F 8) 4).2=0∧(tnS im (F 5) (F 6) (F 7) 2).2=0∧jJ (tnS im (F 5) (F 6) (F 7) 2).1
 ·rw[decide_eq_true h52];have hgo:=ES eT h52;have hlP:=hpo.lt;have hlI:=hio.lt;obtain⟨ow,eow⟩:∃ ow,ow=ow0 g gm tp w6.heap.size w7.heap.size w8.heap.size w9.heap.size w10.heap.size w14.heap.size:=⟨_,rfl⟩
  have hf1014:aA (· = g) w10 w14:=hf1013.trans hf14;have hob14:=hob13.vw.WS hf14 hnbg;have hm14:=hm13.WS hf14 hgmg;have hlb7:=hob.lt;have hM14:MoV ow w14.heap g tp im F (tnS im (F 4) (F 5) (F 8) 4).1 (tnS im (F 5) (F 6) (F 7) 2).1 ([],0) []:=by
   rw[eow];refine⟨bo,bc,po,pc,io2,ic2,g1,g2,g3,gm,hg14,⟨hob14,fun k ⟨a,ha,e⟩=>PD (fun e2=>hnb ⟨a,ha,e.trans e2⟩) (fun e2=>hnbm ⟨a,ha,e.trans e2⟩) (by have:=hbf a ha;omega) (by have:=hbf a ha;omega) (by have:=hlb7 a ha;omega)⟩,⟨hpo.vw,fun k ⟨a,ha,e⟩=>NS (by omega) (by omega) (by omega) (by omega) (by omega) (by omega) (by omega) (by have:=hpf a ha;omega) (by have:=hlP a ha;omega)⟩,⟨hio.vw,fun k ⟨a,ha,e⟩=>NS (by omega) (by omega) (by omega) (by omega) (by omega) (by omega) (by omega) (by have:=hif a ha;omega) (by have:=hlI a ha;omega)⟩,?_,?_,?_,hm14,rfl,fun i r p h=>by simp at h,List.nodup_nil,PC,PB (fun e=>hgmg e.symm),Ga htg htgm⟩
   ·exact(((hM1.WR hf9).WR hf10).WS hf1014 (fun k hk e=>by have e:k=g:=e;have h1:w7.heap.size≤k:=hk.1;omega) (fun e=>htg e)).mono (fun k hk=>PG (by omega) (by omega) (by omega) (by omega) hk.1 hk.2) (by rw[Ga htg htgm];decide)
   ·exact((hM2.WR hf10).WS hf1014 (fun k hk e=>by have e:k=g:=e;have h1:=hk.1;omega) (fun e=>htg e)).mono (fun k hk=>PF (by omega) (by omega) (by omega) (by omega) (by omega) hk.1 hk.2) (by rw[Ga htg htgm];decide)
   ·exact(hM3.WS hf1014 (fun k hk e=>by have e:k=g:=e;have h1:=hk.1;omega) (fun e=>htg e)).mono (fun k hk=>PE (by omega) (by omega) (by omega) (by omega) (by omega) (by omega) hk.1 hk.2) (by rw[Ga htg htgm];decide)
  have hnew14:∀ k,w14.heap.size≤k→ow k=0:=fun k hk=>by rw[eow];exact Mv (by omega) (by omega) (by omega) (by omega) (by omega) (by omega) (by omega) hk
  have hold14:∀ k,Lbs ow k→w6.heap.size≤k:=fun k hk=>byContradiction fun hc=>hk.1 (by rw[eow];exact Mu (by omega) (by omega) (by omega));refine xC rfl (T0 rfl) ?_;refine Gz 3 ?_;refine xV rfl (TF aI rfl (fun H hH=>aE (cs:=dB F) (by first|exact hH|exact hH.1) rfl)) ?_;refine Ty rfl rfl (TJ rfl rfl PS rfl (Db g tp im F _ _ hb ow ([],0) [] (F 9) 1 w14 hM14 hnew14 ⟨by decide,by simp,by simp,by decide⟩ ⟨by omega,by omega⟩) rfl ?_);intro v15 w15 hW;obtain⟨bb,rfl,hF15,hW15⟩:=B3 hW;have hz15:=hF15.size;have hb15:=hF15.obj hb14 (fun h=>by have:=hold14 b h;omega);obtain⟨sf,owf,psf,gmf,hfin⟩:∃ (sf:MSt) (owf:Nat→Nat) (psf:List Nat) (gmf:Nat),bb=true→(goM im F (tnS im (F 5) (F 6) (F 7) 2).1 17 (F 9) 1 ([],0)=some sf∧MoV owf w15.heap g tp im F (tnS im (F 4) (F 5) (F 8) 4).1 (tnS im (F 5) (F 6) (F 7) 2).1 sf psf∧(∀ k,w15.heap.size≤k→owf k=0)∧PlM sf)∧bE w15.heap ((⟨g,0,none⟩:Addr).add 17)=some (.map (some gmf))∧jG enI w15.heap gmf (iT sf.1 psf):=by
   rcases hW15 with h|⟨s9,ow9,ps9,h1,h2,h3,h4,h5,h6⟩
   ·exact⟨([],0),ow,[],0,fun e=>by rw[h.1] at e;cases e⟩
   · have h33:=h3
     obtain⟨_,_,_,_,_,_,_,_,_,gm9,hg9,_,_,_,_,_,_,hm9,_⟩:=h33;exact⟨s9,ow9,ps9,gm9,fun _=>⟨⟨h2,h3,h5,h6⟩,aE hg9 rfl,hm9⟩⟩
  refine Wp (fun H=>bb=true→bE H ((⟨g,0,none⟩:Addr).add 17)=some (.map (some gmf))∧jG enI H gmf (iT sf.1 psf)) (by exact hb15) (by exact(fun h=>(hfin h).2)) ?_;have hFf:aA nob W w15:=(((hF6.trans hF7).trans hf710).WO (hf1013.trans hf14) (fun k h=>.inr (by have h:k=g:=h;omega))).WO hF15 (fun k h=>.inr (by have:=hold14 k h;have:=hF6.size;omega));refine Un rfl rfl rfl rfl (Uj rfl) rfl (fun h59=>?_) (fun h59=>?_)
  ·have hno:mnt im=none:=by
    rw[hgo];have h:=(hW15.resolve_right (fun⟨s9,ow9,ps9,h,_⟩=>by rw[h59] at h;cases h)).2;unfold mtI;rw[h]
   refine Gz 23 ?_;exact⟨_,rfl,hFf,.inl ⟨rfl,hno⟩⟩
  have hbb:bb=true:=by cases bb;exact absurd rfl h59;rfl
  obtain⟨⟨hgs,hMf,hnf,hpf2⟩,hcf,hmf⟩:=hfin hbb;have hgo2:mnt im=if (sf.1.length:Int)≠F 1∨¬ (∀ r∈sf.1,r.2=r.1.ino.1 4) then none else some ⟨im,F,(mtP im F).1,(mtI im F).1,sf.1⟩:=by
   rw[hgo];unfold mtI;rw[hgs]
  obtain⟨bo2,bc2,po2,pc2,io3,ic3,h1,h2,h3,gm2,hgf,_,_,_,_,_,_,hmf2,hplf,hrf,hndf,_,_,_⟩:=hMf;refine Gz 5 ?_;refine xV rfl (TF Jj rfl (fun H hH=>(hH.2 hbb).1)) ?_;refine xV rfl (VJ mpR rfl (fun H hH=>(hH.2 hbb).2)) ?_;refine xW 2 ?_ ?_<;>intro h69
  ·have hno:mnt im=none:=by
    rw[hgo2,if_pos (.inl (by rw[wX hplf] at h69;exact h69))]
   refine Gz 13 ?_;exact⟨_,rfl,hFf,.inl ⟨rfl,hno⟩⟩
  have hcnt:(sf.1.length:Int)=F 1:=by rw[wX hplf] at h69;exact Decidable.not_not.1 h69
  refine Gz 13 ?_;refine VH (enc:=enI) (by kernel_rfl:Tryz.prog.underlying 104=some (.map 3 110)) rfl hmf2 rfl ?_;intro w16 hi16 hs16 hf16;obtain⟨r,er⟩:∃ r,r=w15.heap.size:=⟨_,rfl⟩
  rw[←er] at hi16 ⊢;refine Gz 3 ?_;refine TA (β:=List Nat) (fun seen=>[(7,pT g),(75,pT r)]) (fun seen w=>ItM enI w.heap gm2 r (iT sf.1 psf) seen∧(∀ j∈seen,∀ x,sf.1[j]?=some x→x.2=x.1.ino.1 4)∧aA (· = r) w16 w) (fun seen=>(iT sf.1 psf).length-seen.length) [] ⟨rfl,rfl,trivial⟩ ⟨hi16,by simp,Wt _ _⟩ ?_;rintro seen w17 ⟨hi,hsn,hF17⟩;refine Gz 2 ?_;refine VY rfl (hi) rfl ?_ ?_
  ·intro hall;refine Gz 19 ?_;have hall2:∀ r∈sf.1,r.2=r.1.ino.1 4:=fun x hx=>by
    obtain⟨j,hj⟩:=List.getElem?_of_mem hx;exact hsn j (hall j (by rw[wX hplf];exact(List.getElem?_eq_some_iff.1 hj).1)) x hj
   have hMw:MoV owf w17.heap g tp im F (mtP im F).1 (mtI im F).1 sf psf:=MoV.WS (MoV.WR (hfin hbb).1.2.1 hf16) hF17 (fun k h=>by have h:k=r:=h;rw[h];exact hnf r (by omega)) (by intro e;have e:tp=r:=e;omega);refine⟨_,rfl,((hFf.trans hf16).any.trans hF17).fresh (fun k h=>by have h:k=r:=h;have:=hFf.size;omega),.inr ⟨⟨im,F,(mtP im F).1,(mtI im F).1,sf.1⟩,g,tp,owf,psf,sf.2,rfl,?_,rfl,by have:=hF6.size;omega,hMw,hpf2,qm,by omega⟩⟩;rw[hgo2,if_neg (by rintro(h|h);exact h hcnt;exact h hall2)]
  intro j p w18 hjl hjn hpj hi18 hs18 hf18 hen;obtain⟨x,q,hxj,hqj,hpe⟩:=MN hpj;rw[hpe];obtain⟨hrv,hoq⟩:=hrf j x q hxj hqj;have hqr:¬ q=r:=fun e=>by have:=hnf q (by omega);omega
  obtain⟨lo,lc,xo,xc,hqc,_⟩:=hrv;have hqc:=(hf16.any.trans hF17 |>.trans hf18).obj hqc hqr;refine Gz 10 ?_;refine cL (VI rfl (by have:=hi18.entry (P:=Tryz.prog) hpj;rw[hpe] at this;exact this)) ?_;refine Gz 5 ?_;refine TN 10 [0,1,2,3,4,5,6,7,8,9] aL (by kernel_rfl) ?_;refine Gz 3 ?_;refine xC rfl (Tu aI rfl (aE hqc rfl)) ?_;refine Gz 4 ?_;refine xC rfl (Tu aI rfl (aE (i:=4) hqc rfl)) ?_;refine xK 0 ?_ ?_<;>intro h89
  ·have hno:mnt im=none:=by
    rw[hgo2,if_pos (.inr (fun h=>h89 (h x (mem_of_getElem? hxj))))]
   have hFf2:aA nob W w18:=((hFf.trans hf16).any.trans (hF17.trans hf18)).fresh (fun k h=>by have h:k=r:=h;have:=hFf.size;omega);refine Gz 15 ?_;exact⟨_,rfl,hFf2.draws 1,.inl ⟨rfl,hno⟩⟩
  refine Gz 5 ?_;have hle2:=C8 _ _ hi18.nd hi18.lt;refine aG (seen++[j]) ⟨hi18.WS rfl rfl,fun j2 hj2 y hy=>?_,(hF17.trans hf18).draws 1⟩ (by show (iT sf.1 psf).length-(seen++[j]).length<(iT sf.1 psf).length-seen.length;rw[length_append,length_singleton] at hle2 ⊢;omega);rcases mem_append.1 hj2 with h|h
  ·exact hsn j2 h y hy
  ·rw[mem_singleton] at h;subst h;rw[hxj] at hy;cases hy;exact Decidable.not_not.1 h89
 rw[decide_eq_false h52];have hno:mnt im=none:=Bz eT h52;have hFf:aA nob W w14:=((hF6.trans hF7).trans hf710).WO (hf1013.trans hf14) (fun k h=>.inr (by have h:k=g:=h;omega));refine xC rfl (T0 rfl) ?_;refine Gz 4 ?_;refine Ty rfl rfl (Uc rfl rfl rfl rfl ?_);refine TE (by exact(by first|exact hb14)) ?_;refine Gz 24 ?_;exact⟨_,rfl,hFf,.inl ⟨rfl,hno⟩⟩
def mQ(im:By)(F:Nat→Int)(ids:List Int)(x:Rec):Prop:=eO x.ino.1 x.ino.2∧¬ (ids.length:Int)≤x.ino.1 2∧¬ (ids.length:Int)≤x.ino.1 3∧(x.ino.1 0≠1→x.list=[])∧aO [] x.list∧(bA x.list).length≤1048576∧eD x.xs
theorem Hi(im:By)(fr to ref:Int):eD (iO im fr to ref).1:=by
 have h0:eD []:=⟨fun i hi=>by simp at hi,Nat.zero_le _⟩
 unfold iO
 split
 ·exact h0
 · split
   ·exact h0
   · split
     ·assumption
     ·exact h0
theorem nY(im:By)(F:Nat→Int)(n:Int):eD (fD im F n).1:=by
 unfold fD
 split
 ·exact Hi _ _ _ _
 ·exact⟨fun i hi=>by simp at hi,Nat.zero_le _⟩
theorem F1{im:By}{F:Nat→Int}{ids:List Int}{ref kind:Int}{x:Rec}(h:eV im F ids ref kind=some x):mQ im F ids x∧x.ino.1 0=kind:=by
 unfold eV at h;by_cases hb:mO F ids (bJ im (F 2) (F 3) ref) kind
 ·rw[if_pos hb] at h;cases h
 · rw[if_neg hb] at h
   have hg:(bJ im (F 2) (F 3) ref).2.2=0∧(bJ im (F 2) (F 3) ref).1.1 0=kind∧¬ (ids.length:Int)≤(bJ im (F 2) (F 3) ref).1.1 2∧¬ (ids.length:Int)≤(bJ im (F 2) (F 3) ref).1.1 3:=by
    unfold mO at hb;refine⟨byContradiction fun h=>hb (.inl h),byContradiction fun h=>hb (.inr (.inl h)),fun h=>hb (.inr (.inr (.inl h))),fun h=>hb (.inr (.inr (.inr (.inl h))))⟩
   have hm:=Dk hg.1
   split at h
   ·cases h
   · by_cases h2:kind=2
     · rw[if_pos h2] at h
       split at h
       ·cases h
       ·cases h;exact⟨⟨hm,hg.2.2.1,hg.2.2.2,fun _=>rfl,trivial,Nat.zero_le _,nY _ _ _⟩,hg.2.1⟩
     · rw[if_neg h2] at h
       by_cases h1:kind=1
       · rw[if_pos h1] at h
         split at h
         ·cases h
         · cases h
           refine⟨⟨hm,hg.2.2.1,hg.2.2.2,fun hk=>absurd (hg.2.1.trans h1) hk,?_⟩,hg.2.1⟩;show aO [] (qH im F (bJ im (F 2) (F 3) ref).1.1).1∧(bA (qH im F (bJ im (F 2) (F 3) ref).1.1).1).length≤1048576∧eD (fD im F ((bJ im (F 2) (F 3) ref).1.1 5)).1;unfold qH
           split
           ·exact⟨trivial,Nat.zero_le _,nY _ _ _⟩
           · rename_i h4
             have hsl:=(eC (Decidable.not_not.1 h4)).2.2.2.1;have hma:=hm.1;unfold aX at hma;rcases yB (aD im (F 3) (F 4) ((bJ im (F 2) (F 3) ref).1.1 6) ((bJ im (F 2) (F 3) ref).1.1 7)).1 with⟨L,e,hc,hL⟩|e
             ·rw[e];exact⟨hc,by show (bA L).length≤1048576;rw[←hL];omega,nY _ _ _⟩
             ·rw[e];exact⟨trivial,Nat.zero_le _,nY _ _ _⟩
       · rw[if_neg h1] at h
         cases h;exact⟨⟨hm,hg.2.2.1,hg.2.2.2,fun _=>rfl,trivial,Nat.zero_le _,nY _ _ _⟩,hg.2.1⟩
section
variable {im:List UInt8}{F:Nat→Int}{ids:List Int}
theorem Gw{f:Int→Int→MSt→Option MSt}{Q:MSt→Prop}(hf:∀ ref kind s s',f ref kind s=some s'→Q s→Q s'):∀ (l:List Ent) (s s':MSt),goL f l s=some s'→Q s→Q s'
|[],s,s',h,hq=>by cases h;exact hq
|y::r,s,s',h,hq=>by
   unfold goL at h
   split at h
   ·cases h
   · rename_i s1 h1
     exact Gw hf r s1 s' h (hf _ _ _ _ h1 hq)
theorem Dr:∀ (n:Nat) (ref kind:Int) (s s':MSt),goM im F ids n ref kind s=some s'→(∀ r∈s.1,mQ im F ids r.1)→∀ r∈s'.1,mQ im F ids r.1
|0,_,_,_,_,h,_=>by unfold goM at h;cases h
|n+1,ref,kind,s,s',h,hs=>by
   by_cases h1:1024<s.2+1
   ·rw[Ds h1] at h;cases h
   · cases hi:fZ s.1 ref with
    |some i=>
       by_cases hk:kind≠1∧(s.1.getD i (nZ,0)).1.ino.1 0=kind
       · rw[Gq h1 hi hk] at h
         cases h;obtain⟨r,hr,_⟩:=xM hi;intro t ht;have ht:t∈dC s.1 i:=ht;unfold dC at ht;rcases List.mem_or_eq_of_mem_set ht with ht|rfl
         ·exact hs t ht
         · show mQ im F ids (s.1.getD i (nZ,0)).1
           rw[List.getD,hr];exact hs r (mem_of_getElem? hr)
       ·rw[qL h1 hi hk] at h;cases h
    |none=>
       cases hx:eV im F ids ref kind with
      |none=>rw[Gt h1 hi hx] at h;cases h
      |some x=>
         rw[Gr h1 hi hx] at h;refine Gw (Q:=fun s=>∀ r∈s.1,mQ im F ids r.1) (fun ref kind s s'=>Dr n ref kind s s') _ _ _ h ?_;intro r hr;rcases mem_append.1 hr with hr|hr
         ·exact hs r hr
         ·rw[mem_singleton] at hr;subst hr;exact(F1 hx).1
end
def LL(x:Img):Prop:=(∀ r∈x.recs,mQ x.im x.F x.ids r.1)∧(∀ z∈x.places,0≤z∧z≤4294967295)∧(∀ z∈x.ids,0≤z∧z≤4294967295)
theorem Kh{im:By}{x:Img}(h:mnt im=some x):LL x∧x.im=im∧aH im=(x.F,0):=by
 by_cases h0:(aH im).2≠0
 ·rw[BA h0] at h;cases h
 · have e0:aH im=((aH im).1,0):=Prod.ext rfl (Decidable.not_not.1 h0)
   by_cases h1:(mtP im (aH im).1).2=0∧(mtI im (aH im).1).2=0∧jJ (mtI im (aH im).1).1
   · rw[ES e0 h1] at h
     split at h
     ·cases h
     · rename_i s hs
       split at h
       ·cases h
       · cases h
         refine⟨⟨Dr _ _ _ _ _ hs (by simp),?_,?_⟩,rfl,e0⟩
         · show ∀ z∈(mtP im (aH im).1).1,_
           unfold mtP;have hm:(aH im).1 8≤1000000:=by
            have hok:iL im:=byContradiction fun hc=>h0 (by unfold aH;rw[if_neg hc];decide);have e:(aH im).1=suF im:=by unfold aH;rw[if_pos hok]
            rw[e];have:=hok.2.1;unfold fG at this;omega
           exact(Bc hm).2.1
         · show ∀ z∈(mtI im (aH im).1).1,_
           unfold mtI;have hm:(aH im).1 7≤1000000:=by
            have hok:iL im:=byContradiction fun hc=>h0 (by unfold aH;rw[if_neg hc];decide);have e:(aH im).1=suF im:=by unfold aH;rw[if_pos hok]
            rw[e];have:=hok.2.1;unfold fG at this;omega
           exact(Bc hm).2.1
   ·rw[Bz e0 h1] at h;cases h
def ImV(H:Array Obj)(g:Nat)(x:Img):Prop:=∃ ow tp ps n,MoV ow H g tp x.im x.F x.places x.ids (x.recs,n) ps∧PlM (x.recs,n)∧fG x.F∧x.im.length≤1048576∧LL x
theorem ImV.WR{w w':World}{g:Nat}{x:Img}(h:ImV w.heap g x)(f:aA nob w w'):ImV w'.heap g x:=by
 obtain⟨ow,tp,ps,n,h1,h2⟩:=h;exact⟨ow,tp,ps,n,h1.WR f,h2⟩
theorem Pk.of{W w':World}{im:By}{v:Value}(h:Pk W im (mnt im) v w'):aA nob W w'∧((v=.tuple #[.pointer none,iV 2]∧mnt im=none)∨∃ (x:Img) (g:Nat),v=.tuple #[pT g,iV 0]∧mnt im=some x∧x.im=im∧W.heap.size≤g∧ImV w'.heap g x):=by
 obtain⟨hf,h|⟨x,g,tp,ow,ps,n,h1,h2,h3,h4,h5,h6,h7,h8⟩⟩:=h
 ·exact⟨hf,.inl h⟩
 ·exact⟨hf,.inr ⟨x,g,h1,h2,h3,h4,ow,tp,ps,n,by rw[h3];exact h5,h6,h7,by rw[h3];exact h8,(Kh h2).1⟩⟩
theorem Du{ref:Int}(hr : -9223372036854775808≤ref∧ref≤9223372036854775807):∀ {l:List (Rec×Int)} {ps:List Nat},ps.length=l.length→(∀ r∈l,0≤r.1.ref∧r.1.ref≤4294967295)→mI (iT l ps) (⟨ref,hr⟩:I6)=(fZ l ref).map (fun i=>pnV (ps.getD i 0))
|[],ps,_,_=>rfl
|r::l,[],h,_=>by simp at h
|r::l,p::ps,h,hb=>by
   have ih:=Du hr (l:=l) (ps:=ps) (by simpa using h) (fun r hr=>hb r (by simp[hr]));have e:iT (r::l) (p::ps)=(k6 r.1.ref,pnV p)::iT l ps:=rfl;rw[e,Dl];unfold mI;have hk:(k6 r.1.ref=(⟨ref,hr⟩:I6))↔r.1.ref=ref:=⟨fun h=>by have:=congrArg Subtype.val h;rwa[BF (hb r (by simp))] at this,fun h=>Subtype.ext (by rw[BF (hb r (by simp))];exact h)⟩
   by_cases h2:r.1.ref=ref
   ·rw[if_pos (hk.2 h2),if_pos h2];rfl
   · rw[if_neg (fun h'=>h2 (hk.1 h')),if_neg h2,ih]
     cases fZ l ref<;>simp
def KnP(H:Array Obj)(x:Img)(ref:Int)(pq:Option Addr)(e:Int):Prop:=(knM x ref=none∧pq=none∧e=1)∨∃ (r:Rec) (nm:Int) (p:Nat) (E:Nat→Prop),knM x ref=some r∧pq=some ⟨p,0,none⟩∧e=0∧RcV E H r nm p∧mQ x.im x.F x.ids r
theorem kP(g:Nat)(x:Img)(ref:Int)(W:World)(hx:ImV W.heap g x)(href : -9223372036854775808≤ref∧ref≤9223372036854775807) :
 CA 38 [pT g,iV ref] W fun v w'=>∃ pq e,v=.tuple #[.pointer pq,iV e]∧KnP W.heap x ref pq e∧w'=W:=by
 obtain⟨ow,tp,ps,n,hM,hp,hq,hl8,hio⟩:=hx;obtain⟨bo,bc,po,pc,io,ic,g1,g2,g3,gm,hg,⟨v1,l1⟩,⟨v2,l2⟩,⟨v3,l3⟩,m1,m2,m3,hm,hl,hr,hnd,o1,o2,o3⟩:=hM;obtain⟨oi,hoi⟩:∃ oi,oi=fZ x.recs ref:=⟨_,rfl⟩
 refine cS 20 [(0,_),(1,_)] Tryz.func38 ?_;refine Gz 13 ?_;refine cL (Tw (u:=.tuple [(oi.map (fun i=>pnV (ps.getD i 0))).getD (.pointer none),.bool (decide (oi.isSome=true))].toArray) (UF mpR (a:=(⟨ref,href⟩:I6)) Kv rfl rfl (fun _ e=>by rw[e];exact hm)) (by rw[Du href hl (fun r h=>(hp.2.1 r h).1),←hoi];cases oi<;>rfl)) ?_;refine Gz 2 ?_;refine TZ (T9 rfl rfl) rfl (fun h16=>?_) (fun h16=>?_)
 ·obtain⟨i,rfl⟩:∃ i,oi=some i:=Option.isSome_iff_exists.1 h16;obtain⟨r,hri,hrr⟩:=xM hoi.symm;have hil:=(List.getElem?_eq_some_iff.1 hri).1;obtain⟨p,hpi⟩:∃ p,ps[i]?=some p:=⟨_,List.getElem?_eq_getElem (by have hl:ps.length=x.recs.length:=hl;omega)⟩
  have hpd:ps.getD i 0=p:=by rw[List.getD,hpi];rfl
  obtain⟨hrv,hop⟩:=hr i r p hri hpi;have hkn:knM x ref=some r.1:=by unfold knM;rw[←hoi,map_some,List.getD,hri];rfl
  rw[show ((some i).map (fun i=>pnV (ps.getD i 0))).getD (.pointer none)=pT p by rw[map_some,getD_some,hpd];rfl];refine Gz 8 ?_;refine cL (T0 rfl) ?_;refine Gz 14 ?_;exact⟨_,rfl,some ⟨p,0,none⟩,0,rfl,.inr ⟨r.1,r.2,p,_,hkn,rfl,rfl,hrv,hio.1 r (mem_of_getElem? hri)⟩,rfl⟩
 obtain rfl:oi=none:=by cases oi;rfl;exact absurd rfl h16
 have hkn:knM x ref=none:=by unfold knM;rw[←hoi];rfl
 refine Gz 8 ?_;refine cL (T0 rfl) ?_;refine Gz 12 ?_;exact⟨_,rfl,none,1,rfl,.inl ⟨hkn,rfl,rfl⟩,rfl⟩
theorem tM(g:Nat)(x:Img)(W:World)(hx:ImV W.heap g x):CA 12 [pT g] W fun v w'=>v=iV (x.F 9)∧w'=W:=by
 obtain⟨ow,tp,ps,n,hM,hp,hq,hl8,hio⟩:=hx;obtain⟨bo,bc,po,pc,io,ic,g1,g2,g3,gm,hg,_⟩:=hM;refine cS 8 [(0,_)] Tryz.func12 ?_;refine Gz 11 ?_;refine cL (Tu aI rfl (aE (i:=11) hg rfl)) ?_;refine Gz 5 ?_;exact⟨_,rfl,rfl,rfl⟩
theorem Is(ao:Option Addr)(c:Nat)(L:List Ent)(W:World)(hv:VwM 3 fV W.heap ao c L)(hl:L.length≤1099511627776) :
 CA 39 [.slice ao L.length c] W fun v w'=>∃ o c',v=.slice o L.length c'∧bF 3 fV 39 w'.heap o c' L∧Fr W.heap.size o∧aA nob W w':=by
 refine cS 8 [(0,_)] Tryz.func39 ?_;refine Gz 9 ?_;refine TZ (TV (Uh rA rfl rfl)) rfl (fun h4=>?_) (fun h4=>?_)
 ·refine Gz 11 ?_;obtain rfl:L=[]:=by
   apply byContradiction;intro hne;have h0:ao=none:=by simpa using h4
   exact hv.non (by have:=length_pos_iff.2 hne;omega) h0
  exact⟨_,rfl,none,0,rfl,.inl ⟨rfl,rfl,rfl⟩,Wy,Wt _ _⟩
 refine Gz 7 ?_;refine Uk cH rA rfl ?_;intro w1 ho1 hs1 hf1;refine Gz 1 ?_;refine TH cH rfl rA rfl rfl ho1 (hv.keep' hf1 (fun _ _ _=>id)) (by simp only[length_nil];omega) (by simp only[length_nil];unfold maxLen;omega) rfl ?_;intro o2 c2 w2 ho2 hf2 hr2 hn2;rw[List.nil_append] at ho2 ⊢;refine Gz 5 ?_;exact⟨_,rfl,o2,c2,rfl,ho2,bK (eP _) hr2 hf1.size,hf1.WO hf2 (eP _).step⟩
theorem uN:∀ {l:List Ent} {last:By},aO last l→(∀ y∈l,Op.bytesLess last y.1=true)∧l.Pairwise (fun a b=>Op.bytesLess a.1 b.1=true)
|[],_,_=>⟨by simp,List.Pairwise.nil⟩
|x::r,last,h=>by
   obtain⟨h1,h2⟩:=uN h.2;have hl:Op.bytesLess last x.1=true:=h.1.2.1;refine⟨fun y hy=>?_,List.pairwise_cons.2 ⟨h1,h2⟩⟩;rcases mem_cons.1 hy with rfl|hy
   ·exact hl
   ·exact sR hl (h1 y hy)
theorem oO:∀ l:List Ent,6*l.length≤(bA l).length
|[]=>Nat.le_refl _
|x::r=>by
   have:=oO r;show 6*(r.length+1)≤(lP x++bA r).length;rw[length_append,oP];omega
def stC(L:List Int):List Value:=L.map i64
theorem oZ(L:List Int):∀ v∈stC L,v.oneCell'=true:=by intro v hv;obtain⟨z,_,rfl⟩:=mem_map.1 hv;rfl
theorem ImV.ids{H:Array Obj}{g:Nat}{x:Img}(h:ImV H g x):∃ (bo po io:Option Addr) (bc pc ic:Nat) (tp g1 g2 g3 gm n:Nat),H[g]?=some (.cells (moC tp bo x.im.length bc x.F (.slice po x.places.length pc) (.slice io x.ids.length ic) (pnV g1) (pnV g2) (pnV g3) gm n).toArray 107 (0,0))∧Vw b8 H bo bc x.im∧Vw i64 H po pc x.places∧Vw i64 H io ic x.ids∧TbV H tp∧fG x.F∧x.im.length≤1048576∧LL x:=by
 obtain⟨ow,tp,ps,n,hM,hp,hq,hl8,hio⟩:=h;obtain⟨bo,bc,po,pc,io,ic,g1,g2,g3,gm,hg,⟨v1,l1⟩,⟨v2,l2⟩,⟨v3,l3⟩,m1,_⟩:=hM;exact⟨bo,po,io,bc,pc,ic,tp,g1,g2,g3,gm,n,hg,v1,v2,v3,m1.tab.1,hq,hl8,hio⟩
theorem HV(g:Nat)(x:Img)(ref:Int)(W:World)(hx:ImV W.heap g x)(href : -9223372036854775808≤ref∧ref≤9223372036854775807) :
 CA 15 [pT g,iV ref] W fun v w'=>v=.tuple #[.agg (stC (uG x ref).1).toArray,iV (uG x ref).2]∧aA nob W w':=by
 obtain⟨z,ez⟩:∃ z,z=W.heap.size:=⟨_,rfl⟩
 refine cS 86 [(0,_),(1,_)] Tryz.func15 ?_;refine Gz 2 ?_;refine Tz IF rfl ?_;intro w1 hg1 hs1 hf1;have hg1:w1.heap[W.heap.size]?=some (.cells (stC [0,0,0,0,0,0]).toArray 45 (0,0)):=hg1;rw[←ez] at hg1 ⊢;have hx1:=hx.WR hf1;refine cA 7 KV (kP g x ref w1 hx1 href) ?_;rintro _ w2 ⟨pq,e,rfl,hk,hw⟩;subst w2;refine fK 11 ?_ ?_<;>intro h16
 ·obtain⟨hkn,rfl,rfl⟩:=hk.resolve_right (fun⟨_,_,_,_,_,_,e0,_⟩=>h16 e0);have hst:uG x ref=([0,0,0,0,0,0],1):=by unfold uG;rw[hkn]
  refine Gz 5 ?_;refine cL (bU (stC [0,0,0,0,0,0]) NQ IF) ?_;refine Gz 1 ?_;refine sA rfl mP (by exact oZ _) hg1 ?_;intro w9 hg9 hs9 hf9;have hFw:aA nob W w9:=hf1.tw hf9;refine Gz 5 ?_;refine rC hg9 mP ?_;exact⟨_,rfl,by rw[hst],hFw⟩
 obtain⟨r,nm,p,E,hkn,rfl,rfl,hrv,hrok⟩:=hk.resolve_left (fun h=>by have h:=h.2.2;omega);have hst:uG x ref=(stM x r,0):=by unfold uG;rw[hkn]
 obtain⟨lo,lc,xo,xc,hpc,hvl,hvd,hvx,hx5⟩:=hrv;obtain⟨hmay,hu1,hu2,_⟩:=hrok;have hma:=hmay.1;unfold aX at hma;obtain⟨bo,po,io,bc,pc,ic,tp,g1,g2,g3,gm,n,hgc,v1,v2,v3,hts,hq,hl8,hio⟩:=hx1.ids;refine Gz 6 ?_;refine TG 46 (fun H=>H[p]?=some (.cells (uR r nm lo lc xo xc).toArray 112 (0,0))∧H[g]?=some (.cells (moC tp bo x.im.length bc x.F (.slice po x.places.length pc) (.slice io x.ids.length ic) (pnV g1) (pnV g2) (pnV g3) gm n).toArray 107 (0,0))∧Vw i64 H io ic x.ids) [44,45] [0,1,2,3,4,5,6,7,8,9,10,11,12,13,14,15,16,17,18,19,20,21,22,23,24,25,26,27,28,29,30,31,32,33,34,35,36,37,38,39,40,41,42,43,44,45] aL (by kernel_rfl) (⟨hpc,hgc,v3⟩) ?_;refine Gz 4 ?_;refine xC rfl (TF aI rfl (fun H hH=>aE (i:=0) hH.1 rfl)) ?_;refine Gz 4 ?_;refine xC rfl (TF aI rfl (fun H hH=>aE (i:=1) hH.1 rfl)) ?_;refine Gz 8 ?_;refine xC rfl (TF aI rfl (fun H hH=>aE (i:=2) hH.1 rfl)) ?_;refine xC rfl (Tt bP rfl rfl v3.non (by omega)) ?_;refine xC rfl (TF aI rfl (fun H hH=>hH.2.2.gz 0 (r.ino.1 2).toNat (by omega) (by omega))) ?_;refine Gz 8 ?_;refine xC rfl (TF aI rfl (fun H hH=>aE (i:=3) hH.1 rfl)) ?_;refine xC rfl (Tt bP rfl rfl v3.non (by omega)) ?_;refine xC rfl (TF aI rfl (fun H hH=>hH.2.2.gz 0 (r.ino.1 3).toNat (by omega) (by omega))) ?_;refine xC rfl (bU (stC [r.ino.1 1,x.ids.getD (r.ino.1 2).toNat 0,x.ids.getD (r.ino.1 3).toNat 0]) PA Po) ?_;refine Gz 4 ?_;refine xC rfl (TF aI rfl (fun H hH=>aE (i:=4) hH.1 rfl)) ?_;refine Gz 4 ?_;refine xC rfl (TF aI rfl (fun H hH=>aE (i:=7) hH.1 rfl)) ?_;refine xC rfl (bU (stC [r.ino.1 0,r.ino.1 1,x.ids.getD (r.ino.1 2).toNat 0,x.ids.getD (r.ino.1 3).toNat 0,r.ino.1 4,r.ino.1 7]) NQ IF) ?_;refine Ty rfl rfl (Tz IF rfl ?_);intro w3 hg3 hs3 hf3;have hf3:=hf3.WP;refine TE (by exact⟨hf3.obj hpc id,hf3.obj hgc id,v3.WR hf3⟩) ?_;refine Ty rfl rfl (TX (vs:=stC [r.ino.1 0,r.ino.1 1,x.ids.getD (r.ino.1 2).toNat 0,x.ids.getD (r.ino.1 3).toNat 0,r.ino.1 4,r.ino.1 7]) mP rfl rfl (by exact oZ _) hg3 rfl ?_);intro w4 hg4 hs4 hf4;obtain⟨y,ey⟩:∃ y,y=w1.heap.size:=⟨_,rfl⟩
 have hf4:aA (· = w1.heap.size) w3 w4:=hf4;have hg4:w4.heap[w1.heap.size]?=some (.cells (stC [r.ino.1 0,r.ino.1 1,x.ids.getD (r.ino.1 2).toNat 0,x.ids.getD (r.ino.1 3).toNat 0,r.ino.1 4,r.ino.1 7]).toArray 45 (0,0)):=hg4;rw[show (w1.drewN 1).heap.size=y from ey.symm];rw[←ey] at hg4 hf4;have hF4:aA nob w1 w4:=hf3.tw hf4;refine TE (by exact⟨hF4.obj hpc id,hF4.obj hgc id,v3.WR hF4⟩) ?_;have hp4:=hF4.obj hpc id;have hz4:=hF4.obj hg1 id;have hyz:¬ z=y:=by omega
 refine Gz 9 ?_;refine cL (Tu aI rfl (aE (i:=0) hp4 rfl)) ?_;refine fK 5 ?_ ?_<;>intro h69
 ·have hsz:wD r=r.list.length:=by unfold wD;rw[if_pos h69]
  refine Gz 11 ?_;refine Tx aI rfl rfl rfl hg4 rfl ?_;intro w5 hg5 hs5 hf5;have hg5:w5.heap[y]?=some (.cells (stC (stM x r)).toArray 45 (0,0)):=by unfold stM;rw[hsz];exact hg5
  have hF5:aA nob w1 w5:=hF4.tw hf5;have hz5:=hf5.obj hz4 hyz;refine Gz 5 ?_;refine cL (TI (cs:=stC (stM x r)) mP rfl (cC hg5 0 rfl)) ?_;refine sA rfl mP (by exact oZ _) hz5 ?_;intro w9 hg9 hs9 hf9;have hFw:aA nob W w9:=(hf1.trans hF5).tw hf9;refine Gz 4 ?_;refine rC hg9 mP ?_;exact⟨_,rfl,by rw[hst],hFw⟩
 refine fK 6 ?_ ?_<;>intro h77
 ·have hsz:wD r=r.ino.2.length:=by unfold wD;rw[if_neg h69,if_pos h77]
  refine Gz 9 ?_;refine cL (Tu gU rfl (aE (i:=10) hp4 rfl)) ?_;refine cL (TU ty9 rfl) ?_;refine Gz 1 ?_;refine Tx aI rfl rfl rfl hg4 rfl ?_;intro w5 hg5 hs5 hf5;have hg5:w5.heap[y]?=some (.cells (stC (stM x r)).toArray 45 (0,0)):=by unfold stM;rw[hsz];exact hg5
  have hF5:aA nob w1 w5:=hF4.tw hf5;have hz5:=hf5.obj hz4 hyz;refine Gz 5 ?_;refine cL (TI (cs:=stC (stM x r)) mP rfl (cC hg5 0 rfl)) ?_;refine sA rfl mP (by exact oZ _) hz5 ?_;intro w9 hg9 hs9 hf9;have hFw:aA nob W w9:=(hf1.trans hF5).tw hf9;refine Gz 4 ?_;refine rC hg9 mP ?_;exact⟨_,rfl,by rw[hst],hFw⟩
 have hsz:wD r=r.ino.1 7:=by unfold wD;rw[if_neg h69,if_neg h77]
 have hg5:w4.heap[y]?=some (.cells (stC (stM x r)).toArray 45 (0,0)):=by unfold stM;rw[hsz];exact hg4
 have hF5:=hF4;have hz5:=hz4;refine Gz 9 ?_;refine cL (TI (cs:=stC (stM x r)) mP rfl (cC hg5 0 rfl)) ?_;refine sA rfl mP (by exact oZ _) hz5 ?_;intro w9 hg9 hs9 hf9;have hFw:aA nob W w9:=(hf1.trans hF5).tw hf9;refine Gz 4 ?_;refine rC hg9 mP ?_;exact⟨_,rfl,by rw[hst],hFw⟩
theorem ED{im:By}{F:Nat→Int}{ids:List Int}{r:Rec}(h:mQ im F ids r):r.list.length≤1099511627776:=by
 have h1:=h.2.2.2.2.2.1;have h2:=oO r.list;omega
theorem Az(g:Nat)(x:Img)(ref:Int)(W:World)(hx:ImV W.heap g x)(href : -9223372036854775808≤ref∧ref≤9223372036854775807) :
 CA 13 [pT g,iV ref] W fun v w'=>Rs W (mB x ref) v w'∧aO [] (mB x ref).1∧(mB x ref).1.length≤1099511627776:=by
 refine cS 30 [(0,_),(1,_)] Tryz.func13 ?_;refine cA 10 KV (kP g x ref W hx href) ?_;rintro _ w2 ⟨pq,e,rfl,hk,hw⟩;subst w2;refine fK 12 ?_ ?_<;>intro h16
 ·obtain⟨hkn,rfl,rfl⟩:=hk.resolve_right (fun⟨_,_,_,_,_,_,e0,_⟩=>h16 e0);have hli:mB x ref=([],1):=by unfold mB;rw[hkn]
  refine Gz 15 ?_;rw[hli];exact⟨_,rfl,⟨none,0,rfl,WE,Wy,Wt _ _⟩,trivial,Nat.zero_le _⟩
 obtain⟨r,nm,p,E,hkn,rfl,rfl,hrv,hrok⟩:=hk.resolve_left (fun h=>by have h:=h.2.2;omega);obtain⟨lo,lc,xo,xc,hpc,hvl,hvd,hvx,hx5⟩:=hrv;refine Gz 10 ?_;refine cL (Tu aI rfl (aE (i:=0) hpc rfl)) ?_;refine fK 0 ?_ ?_<;>intro h24
 ·have hli:mB x ref=([],24):=by unfold mB;rw[hkn];exact if_pos h24
  refine Gz 14 ?_;rw[hli];exact⟨_,rfl,⟨none,0,rfl,WE,Wy,Wt _ _⟩,trivial,Nat.zero_le _⟩
 have hli:mB x ref=(r.list,0):=by unfold mB;rw[hkn];exact if_neg h24
 have hll:=ED hrok;refine cA 13 S5 (Is lo lc r.list W hvl hll) ?_;rintro _ w3 ⟨o,c,rfl,ho,hfr,hf3⟩;refine Gz 6 ?_;rw[hli];exact⟨_,rfl,⟨o,c,rfl,ho,hfr,hf3⟩,hrok.2.2.2.2.1,hll⟩
theorem Kd(g:Nat)(x:Img)(ref:Int)(W:World)(hx:ImV W.heap g x)(href : -9223372036854775808≤ref∧ref≤9223372036854775807) :
 CA 44 [pT g,iV ref] W fun v w'=>v=.tuple #[.string (bs (yY x ref).1),iV (yY x ref).2]∧aA nob W w':=by
 refine cS 29 [(0,_),(1,_)] Tryz.func44 ?_;refine cA 10 KV (kP g x ref W hx href) ?_;rintro _ w2 ⟨pq,e,rfl,hk,hw⟩;subst w2;refine fK 11 ?_ ?_<;>intro h15
 ·obtain⟨hkn,rfl,rfl⟩:=hk.resolve_right (fun⟨_,_,_,_,_,_,e0,_⟩=>h15 e0);have hli:yY x ref=([],1):=by unfold yY;rw[hkn]
  refine Gz 20 ?_;rw[hli];exact⟨_,rfl,rfl,Wt _ _⟩
 obtain⟨r,nm,p,E,hkn,rfl,rfl,hrv,hrok⟩:=hk.resolve_left (fun h=>by have h:=h.2.2;omega);obtain⟨lo,lc,xo,xc,hpc,hvl,hvd,hvx,hx5⟩:=hrv;refine Gz 5 ?_;refine cW (Tu aI rfl (aE (i:=0) hpc rfl)) ?_;refine fW 0 ?_ ?_<;>intro h22
 ·have hli:yY x ref=([],1):=by unfold yY;rw[hkn];exact if_pos h22
  refine Gz 13 ?_;rw[hli];exact⟨_,rfl,rfl,Wt _ _⟩
 have hli:yY x ref=(r.ino.2,0):=by unfold yY;rw[hkn];exact if_neg h22
 refine Gz 12 ?_;refine cL (Tu gU rfl (aE (i:=10) hpc rfl)) ?_;refine Gz 6 ?_;rw[hli];exact⟨_,rfl,rfl,Wt _ _⟩
theorem wO(im:By)(off n:Nat):∀ (k i:Nat) (a:Int) (out:By),out.length≤n→(kU im off n k i a out).1.length≤n
|0,i,a,out,h=>by unfold kU;exact h
|k+1,i,a,out,h=>by
   unfold kU
   split
   ·exact h
   · split
     · split
       ·exact Nat.zero_le _
       ·exact wO im off n k _ _ _ h
     · split
       ·exact Nat.zero_le _
       ·exact wO im off n k _ _ _ (by rw[length_append,length_take];omega)
theorem Hx(im:By)(start size off n:Int)(hn:0≤n):((gY im start size off n).1.length:Int)≤n:=by
 unfold gY
 split
 ·exact hn
 · split
   ·exact hn
   · have:=wO im off.toNat n.toNat (size.toNat/128) 0 start [] (Nat.zero_le _)
     omega
theorem Ia(im:By)(pl:List Int)(num off n:Int):(fA im pl num off n).1.length≤n.toNat:=by
 unfold fA
 split
 ·exact Nat.zero_le _
 · unfold kS
   split
   ·exact Nat.zero_le _
   ·rw[length_take];omega
theorem HX(g:Nat)(x:Img)(ref off n:Int)(W:World)(hx:ImV W.heap g x)(href : -9223372036854775808≤ref∧ref≤9223372036854775807)(hob : -9223372036854775808≤off∧off≤9223372036854775807)(hnb : -9223372036854775808≤n∧n≤9223372036854775807) :
 CA 43 [pT g,iV ref,iV off,iV n] W (zH W (jR x ref off n)):=by
 refine cS 142 [(0,_),(1,_),(2,_),(3,_)] Tryz.func43 ?_;refine cA 10 KV (kP g x ref W hx href) ?_;rintro _ w2 ⟨pq,e,rfl,hk,hw⟩;subst w2;refine fK 12 ?_ ?_<;>intro h23
 ·obtain⟨hkn,rfl,rfl⟩:=hk.resolve_right (fun⟨_,_,_,_,_,_,e0,_⟩=>h23 e0);have hli:jR x ref off n=([],1):=by unfold jR;rw[hkn]
  refine Gz 15 ?_;rw[hli];exact⟨_,rfl,none,0,rfl,WA,Wy,Wt _ _⟩
 obtain⟨r,nm,p,E,hkn,rfl,rfl,hrv,hrok⟩:=hk.resolve_left (fun h=>by have h:=h.2.2;omega);obtain⟨lo,lc,xo,xc,hpc,hvl,hvd,hvx,hx5⟩:=hrv;have hma:=hrok.1.1;unfold aX at hma;obtain⟨bo,po,io,bc,pc,ic,tp,g1,g2,g3,gm,nn,hgc,v1,v2,v3,hts,hq,hl8,hio⟩:=hx.ids;have hrd:jR x ref off n=if r.ino.1 0=1 then ([],25) else if r.ino.1 0=3∨off<0∨n<0 then ([],1) else if r.ino.1 7≤off then ([],0) else tF x r off (if r.ino.1 7-off<n then r.ino.1 7-off else n):=by unfold jR;rw[hkn]
 refine Gz 10 ?_;refine cL (Tu aI rfl (aE (i:=0) hpc rfl)) ?_;refine fK 0 ?_ ?_<;>intro h31
 ·have hli:jR x ref off n=([],25):=by rw[hrd,if_pos h31]
  refine Gz 14 ?_;rw[hli];exact⟨_,rfl,none,0,rfl,WA,Wy,Wt _ _⟩
 rw[if_neg h31] at hrd;refine Gz 10 ?_;refine cL (Tu aI rfl (aE (i:=0) hpc rfl)) ?_;refine fK 0 ?_ ?_<;>intro h38
 ·have hli:jR x ref off n=([],1):=by rw[hrd,if_pos (.inl h38)]
  refine Gz 22 ?_;rw[hli];exact⟨_,rfl,none,0,rfl,WA,Wy,Wt _ _⟩
 refine fW 2 ?_ ?_<;>intro h41
 ·have hli:jR x ref off n=([],1):=by rw[hrd,if_pos (.inr (.inl h41))]
  refine Gz 19 ?_;rw[hli];exact⟨_,rfl,none,0,rfl,WA,Wy,Wt _ _⟩
 refine fW 3 ?_ ?_<;>intro h45
 ·have hli:jR x ref off n=([],1):=by rw[hrd,if_pos (.inr (.inr h45))]
  refine Gz 15 ?_;rw[hli];exact⟨_,rfl,none,0,rfl,WA,Wy,Wt _ _⟩
 rw[if_neg (by rintro(h|h|h);exact h38 h;exact h41 h;exact h45 h)] at hrd;refine Gz 12 ?_;refine cL (Tu aI rfl (aE (i:=7) hpc rfl)) ?_;refine fK 0 ?_ ?_<;>intro h54
 ·have hli:jR x ref off n=([],0):=by rw[hrd,if_pos h54]
  refine Gz 14 ?_;rw[hli];exact⟨_,rfl,none,0,rfl,WA,Wy,Wt _ _⟩
 rw[if_neg h54] at hrd;obtain⟨m,hm⟩:∃ m,m=(if r.ino.1 7-off<n then r.ino.1 7-off else n):=⟨_,rfl⟩
 have hmb:0≤m∧m≤4096:=by rw[hm];split<;>omega
 rw[←hm] at hrd;obtain⟨D,hD⟩:∃ D,D=gY x.im (r.ino.1 6) (r.ino.1 7) off m:=⟨_,rfl⟩
 have hDl:=Hx x.im (r.ino.1 6) (r.ino.1 7) off m hmb.1;rw[←hD] at hDl;unfold tF at hrd;rw[←hD] at hrd;refine Gz 14 ?_;refine cL (Tu aI rfl (aE (i:=7) hpc rfl)) ?_;refine Gz 2 ?_;refine cL (Tw (u:=iV m) (Ux rfl rfl) (by rw[hm])) ?_;refine Gz 4 ?_;refine TG 26 (fun H=>H[p]?=some (.cells (uR r nm lo lc xo xc).toArray 112 (0,0))∧H[g]?=some (.cells (moC tp bo x.im.length bc x.F (.slice po x.places.length pc) (.slice io x.ids.length ic) (pnV g1) (pnV g2) (pnV g3) gm nn).toArray 107 (0,0))) [20] [0,1,2,3,4,5,6,7,8,9,10,11,12,13,14,15,16,17,18,19,20,21,22,23,24,25] aL (by kernel_rfl) (⟨hpc,hgc⟩) ?_;refine Gz 12 ?_;refine xC rfl (TF aI rfl (fun H hH=>aE (i:=6) hH.1 rfl)) ?_;refine Gz 4 ?_;refine xC rfl (TF aI rfl (fun H hH=>aE (i:=7) hH.1 rfl)) ?_;refine Gz 2 ?_;refine Ty rfl rfl (Ts SD rfl (Ll tp bo bc x.im (r.ino.1 6) (r.ino.1 7) off m (W.drewN 1) hts (v1.WR (Wu 1)) (by omega) (by omega) (by omega) (by omega)) rfl ?_);rw[←hD];rintro _ w3 ⟨o,c,rfl,ho,hfr,hf3⟩;have hf3:=hf3.WP;refine TE (by exact⟨hf3.obj hpc id,hf3.obj hgc id⟩) ?_;have hp3:=hf3.obj hpc id;have hg3:=hf3.obj hgc id;have hD63:=ho.vw.WQ;refine fK 11 ?_ ?_<;>intro h89
 ·have hli:jR x ref off n=([],35):=by rw[hrd,if_pos h89]
  refine Gz 12 ?_;rw[hli];exact⟨_,rfl,none,0,rfl,WA,Wy,hf3⟩
 rw[if_neg h89] at hrd;refine fK 11 ?_ ?_<;>intro h93
 ·have hli:jR x ref off n=(D.1,0):=by rw[hrd,if_pos h93]
  refine Gz 13 ?_;rw[hli];exact⟨_,rfl,o,c,rfl,ho,hfr,hf3⟩
 rw[if_neg h93] at hrd;refine Gz 11 ?_;refine cL (Tu aI rfl (aE (i:=7) hp3 rfl)) ?_;refine cL (Uz rfl rfl (by omega) (by decide)) ?_;refine cL (Ue rfl rfl (by omega)) ?_;refine Gz 4 ?_;refine TG 37 (fun H=>H[p]?=some (.cells (uR r nm lo lc xo xc).toArray 112 (0,0))∧H[g]?=some (.cells (moC tp bo x.im.length bc x.F (.slice po x.places.length pc) (.slice io x.ids.length ic) (pnV g1) (pnV g2) (pnV g3) gm nn).toArray 107 (0,0))) [31] [0,1,2,3,4,5,6,7,8,9,10,11,12,13,14,15,16,17,18,19,20,21,22,23,24,25,26,27,28,29,30,31,32,33,34,35,36] aL (by kernel_rfl) (⟨hp3,hg3⟩) ?_;refine Gz 16 ?_;refine xC rfl (TF aI rfl (fun H hH=>aE (i:=8) hH.1 rfl)) ?_;refine Gz 4 ?_;refine xC rfl (TF aI rfl (fun H hH=>aE (i:=9) hH.1 rfl)) ?_;refine Gz 3 ?_;obtain⟨mx,hmx⟩:∃ mx,mx=(if off-r.ino.1 7/128*128<0 then 0 else off-r.ino.1 7/128*128):=⟨_,rfl⟩
 rw[←hmx] at hrd;refine xC rfl (Tw (u:=iV mx) (UT rfl rfl) (by rw[hmx])) ?_;refine Gz 5 ?_;refine Ty rfl rfl (Ts SC rfl (KP tp bo bc x.im po pc x.places (r.ino.1 8) (r.ino.1 9+mx) (m-D.1.length) (w3.drewN 1) (hf3.obj hts id) (v1.WR (hf3.draws 1)) (by omega) (v2.WR (hf3.draws 1)) (fun z hz=>by have:=hio.2.1 z hz;unfold bd;omega) (by unfold bd;omega) (by unfold bd;omega) (by unfold bd;omega)) rfl ?_);obtain⟨T,hT⟩:∃ T,T=fA x.im x.places (r.ino.1 8) (r.ino.1 9+mx) (m-D.1.length):=⟨_,rfl⟩
 rw[←hT] at hrd ⊢;rintro _ w4 ⟨o2,c2,rfl,ho2,hfr2,hf4⟩;have hf4:=hf4.WP;refine TE (by exact⟨hf4.obj hp3 id,hf4.obj hg3 id⟩) ?_;have hT63:=Ia x.im x.places (r.ino.1 8) (r.ino.1 9+mx) (m-D.1.length);rw[←hT] at hT63;refine fK 11 ?_ ?_<;>intro h138
 ·have hli:jR x ref off n=([],35):=by rw[hrd,if_pos h138]
  refine Gz 12 ?_;rw[hli];exact⟨_,rfl,none,0,rfl,WA,Wy,hf3.trans hf4⟩
 have hli:jR x ref off n=(D.1++T.1,0):=by rw[hrd,if_neg h138]
 refine Gz 9 ?_;refine TB aV aK rfl rfl (ho.WR hf4) ho2.vw (by omega) (by unfold maxLen;omega) rfl ?_;intro o5 c5 w5 ho5 hf5 hr5 hn5;refine Gz 6 ?_;rw[hli];exact⟨_,rfl,o5,c5,rfl,ho5,bK hfr hr5 (hf3.trans hf4).size,(hf3.trans hf4).WO hf5 hfr.step⟩
theorem XsV.rows{D:Nat→Prop}{H:Array Obj}{o:Option Addr}{c n:Nat}{X:List Xa}(h:XsV D H ⟨o,n,c⟩ X):∃ ys:List (By×Hd),VwM 2 sC H o c ys∧ys.length=X.length∧∀ (i:Nat) (x:By×Hd) (y:Xa),ys[i]?=some x→X[i]?=some y→x.1=y.1∧x.2.n=y.2.length∧Vw b8 H x.2.a x.2.c y.2:=by
 obtain⟨_,ys,h1,h2,_,h4⟩:=h;exact⟨ys,h1,h2,fun i x y hx hy=>by obtain⟨a,b,c,_⟩:=h4 i x y hx hy;exact⟨a,b,c⟩⟩
theorem Kc(g:Nat)(x:Img)(ref:Int)(W:World)(hx:ImV W.heap g x)(href : -9223372036854775808≤ref∧ref≤9223372036854775807) :
 CA 42 [pT g,iV ref] W fun v w'=>∃ o c,v=.tuple #[.slice o (vP x ref).1.length c,iV (vP x ref).2]∧XsV (fun k=>W.heap.size≤k∧k<w'.heap.size) w'.heap ⟨o,(vP x ref).1.length,c⟩ (vP x ref).1∧eD (vP x ref).1∧aA nob W w':=by
 refine cS 41 [(0,_),(1,_)] Tryz.func42 ?_;refine cA 10 KV (kP g x ref W hx href) ?_;rintro _ w2 ⟨pq,e,rfl,hk,hw⟩;subst w2;refine fK 11 ?_ ?_<;>intro h17
 ·obtain⟨hkn,rfl,rfl⟩:=hk.resolve_right (fun⟨_,_,_,_,_,_,e0,_⟩=>h17 e0);have hli:vP x ref=([],1):=by unfold vP;rw[hkn]
  refine Gz 13 ?_;rw[hli];exact⟨_,rfl,none,0,rfl,XsV.zero,⟨fun i hi=>by simp at hi,Nat.zero_le _⟩,Wt _ _⟩
 obtain⟨r,nm,p,E,hkn,rfl,rfl,hrv,hrok⟩:=hk.resolve_left (fun h=>by have h:=h.2.2;omega);obtain⟨lo,lc,xo,xc,hpc,hvl,hvd,hvx,hx5⟩:=hrv;have hli:vP x ref=(r.xs,0):=by unfold vP;rw[hkn]
 have hmx:=hrok.2.2.2.2.2.2;obtain⟨ys,hys,hyl,hyv⟩:=hvx.rows;have hy63:=hys.WQ;refine Gz 11 ?_;rw[←hyl];refine Ts SE rfl (Iq xo xc ys W hys (by have:=hmx.2;omega)) rfl ?_;rintro _ w3 ⟨o,c,rfl,ho,hfr,hf3⟩;refine Gz 12 ?_;refine TA (β:=Nat×List (By×Hd)) (fun⟨i,zs⟩=>[(8,.slice o ys.length c),(25,iV ys.length),(26,iV i)]) (fun⟨i,zs⟩ w=>i≤ys.length∧zs.length=ys.length∧bF 2 sC 183 w.heap o c zs∧(∀ j,i≤j→∀ q,ys[j]?=some q→zs[j]?=some q)∧(∀ (j:Nat) (z:By×Hd) (y:Xa),j<i→zs[j]?=some z→r.xs[j]?=some y→z.1=y.1∧z.2.n=y.2.length∧Vw b8 w.heap z.2.a z.2.c y.2∧∀ k,blk z.2.a k→W.heap.size≤k∧k<w.heap.size∧¬ blk o k)∧aA (blk o) w3 w) (fun⟨i,zs⟩=>ys.length-i) ⟨0,ys⟩ ⟨rfl,rfl,rfl,trivial⟩ ⟨Nat.zero_le _,rfl,ho,fun j _ q h=>h,fun j z y h=>by omega,Wt _ _⟩ ?_;rintro⟨i,zs⟩ w4 ⟨hi,hzl,ho4,hold,hnewz,hF4⟩;refine fK 2 ?_ ?_<;>intro h27
 ·have hil:i<ys.length:=by omega
  obtain⟨q,hq⟩:∃ q,ys[i]?=some q:=⟨_,List.getElem?_eq_getElem hil⟩
  obtain⟨y,hy⟩:∃ y,r.xs[i]?=some y:=⟨_,List.getElem?_eq_getElem (by omega)⟩
  obtain⟨y1,y2,y3⟩:=hyv i q y hq hy;have hzq:=hold i (Nat.le_refl _) q hq;have hov:=ho4.vw dK;have hg:y.2.length≤200:=by have:=(hmx.1 i (by omega)).2.2.2;rwa[show r.xs.getD i x0=y by rw[List.getD,hy];rfl] at this
  refine Gz 19 ?_;refine cL (Tv jH rfl rfl (fun h=>hov.non (by rw[hzl];exact h)) (by omega)) ?_;refine Gz 1 ?_;refine cL (Tw (u:=.slice q.2.a y.2.length q.2.c) (Tu aT rfl (hov.rowZ i rfl hzq 1 _ rfl)) (by rw[←y2];rfl)) ?_;have hlo:=ho4.lt;have hnb:y.2≠[]→∀ a,q.2.a=some a→¬ blk o a.block:=fun hne a ha ⟨b,hb,e⟩=>by have h1:=hfr b hb;have h2:=y3.lt hne a ha;omega
  refine Ts Fg rfl (iM q.2.a q.2.c y.2 w4 ((y3.WR hf3).keep' hF4 (fun hne a ha=>hnb hne a ha)) (by omega)) rfl ?_;rintro _ w5 ⟨o5,c5,rfl,ho5,hfr5,hf5⟩;have hz5:=hf5.size;have hz34:=hF4.size;have hz3:=hf3.size;refine cL (Tv jH rfl rfl (fun h=>hov.non (by rw[hzl];exact h)) (by omega)) ?_;refine Gz 1 ?_;refine VF dK (i:=i) (j:=1) (x':=((q.1,⟨o5,y.2.length,c5⟩):By×Hd)) hzq (by decide) rfl aT rfl (by rw[Int.toNat_natCast]) rfl rfl (ho4.WR hf5) ?_;intro w6 ho6 hs6 hf6;have hl5:=ho5.lt;have hab:∀ k,blk o5 k→¬ blk o k:=fun k ⟨a,ha,e⟩ ⟨b,hb,e2⟩=>by have h1:=hfr5 a ha;have h2:=hlo b hb;omega
  have ho56:=ho5.vw.WS hf6 (fun a ha=>hab _ ⟨a,ha,rfl⟩);refine Gz 7 ?_;refine aG ⟨i+1,zs.set i (q.1,⟨o5,y.2.length,c5⟩)⟩ ⟨by omega,by rw[length_set];exact hzl,ho6,fun j hj p hp=>?_,fun j z y9 hj hz hy9=>?_,hF4.WO (hf5.any.trans hf6) (fun k h=>.inl h)⟩ (by show ys.length-(i+1)<ys.length-i;omega)
  ·rw[List.getElem?_set,if_neg (by omega)];exact hold j (by omega) p hp
  · by_cases e:j=i
    · subst e
      rw[List.getElem?_set,if_pos rfl,if_pos (by omega)] at hz;cases hz;rw[hy] at hy9;cases hy9;exact⟨y1,rfl,ho56,fun k hk=>by obtain⟨a,ha,e⟩:=hk;have h1:=hfr5 a ha;have h2:=hl5 a ha;exact⟨by omega,by omega,hab k ⟨a,ha,e⟩⟩⟩
    · rw[List.getElem?_set,if_neg (fun h=>e h.symm)] at hz
      obtain⟨a1,a2,a3,a4⟩:=hnewz j z y9 (by omega) hz hy9;exact⟨a1,a2,(a3.WR hf5).WS hf6 (fun a ha=>(a4 _ ⟨a,ha,rfl⟩).2.2),fun k hk=>by have:=a4 k hk;exact⟨this.1,by omega,this.2.2⟩⟩
 refine Gz 18 ?_;have hlo:=ho4.lt;rw[hli,hyl];exact⟨_,rfl,o,c,rfl,⟨rfl,zs,ho4.vw dK,by rw[hzl,hyl],fun _ k ⟨a,ha,e⟩=>by have h1:=hfr a ha;have h2:=hlo a ha;exact⟨by omega,by omega⟩,fun j z y hz hy=>by obtain⟨a1,a2,a3,a4⟩:=hnewz j z y (by have:=(List.getElem?_eq_some_iff.1 hz).1;omega) hz hy;exact⟨a1,a2,a3,fun _ k hk=>by have:=a4 k hk;exact⟨this.1,this.2.1⟩⟩⟩,hmx,hf3.WO hF4 hfr.step⟩
theorem EU{X:List Xa}(h:eD X):∀ x∈X,x.1.length≤255:=fun x hx=>by
 obtain⟨i,hi⟩:=List.getElem?_of_mem hx;have:=(h.1 i (List.getElem?_eq_some_iff.1 hi).1).2.1;rw[show X.getD i x0=x by rw[List.getD,hi];rfl] at this;omega
theorem Oh{X Y:List Xa}{k:Nat}(hx:k<X.length)(hy:k<Y.length)(ht:X.take k=Y.take k)(h1:(X.getD k x0).1=(Y.getD k x0).1)(h2:(X.getD k x0).2=(Y.getD k x0).2):X.take (k+1)=Y.take (k+1):=by
 have e:X[k]?=Y[k]?:=by
  rw[List.getD,List.getElem?_eq_getElem hx,List.getD,List.getElem?_eq_getElem hy] at h1 h2;rw[List.getElem?_eq_getElem hx,List.getElem?_eq_getElem hy];exact congrArg some (Prod.ext h1 h2)
 rw[List.take_add_one,List.take_add_one,ht,e]
theorem Hf(X Y:List Xa)(ao bo:Option Addr)(ac bc:Nat)(W:World)(ha:XaV W.heap ao ac X)(hb:XaV W.heap bo bc Y) :
 CA 98 [.slice ao X.length ac,.slice bo Y.length bc] W fun v w'=>v=.bool (decide (X=Y))∧aA nob W w':=by
 have hl:=ha.WQ;refine cS 43 [(0,_),(1,_)] Tryz.func98 ?_;refine fK 12 ?_ ?_<;>intro h10
 ·have hne:¬ X=Y:=fun e=>h10 (by rw[e]);refine Gz 11 ?_;exact⟨_,rfl,congrArg Value.bool (decide_eq_false hne).symm,Wt _ _⟩
 have hab:X.length=Y.length:=by omega
 refine Gz 12 ?_;refine TA (β:=Nat) (fun k=>[(0,.slice ao X.length ac),(1,.slice bo Y.length bc),(5,iV k)]) (fun k w=>k≤X.length∧X.take k=Y.take k∧aA nob W w) (fun k=>X.length-k) 0 ⟨rfl,rfl,rfl,trivial⟩ ⟨Nat.zero_le _,rfl,Wt _ _⟩ ?_;rintro k w ⟨hk,htk,hF⟩;refine fK 6 ?_ ?_<;>intro h14
 ·obtain⟨xa,xc,hrow,hxv,hnl⟩:=(ha.WR hF).at (i:=k) rfl (by omega);obtain⟨ya,yc,hrow2,hyv,_⟩:=(hb.WR hF).at (i:=k) rfl (by omega);refine Gz 8 ?_;refine TN 26 [0,1,2,3,4,5,6,7,8,9,10,11,12,13,14,15,16,17,18,19,20,21,22,23,24,25] aL (by kernel_rfl) ?_;refine Gz 2 ?_;refine xC rfl (Tv jH rfl rfl ha.non (by omega)) ?_;refine Gz 1 ?_;refine xC rfl (Tu gU rfl (hrow 0 _ rfl)) ?_;refine Gz 2 ?_;refine xC rfl (Tv jH rfl rfl hb.non (by omega)) ?_;refine Gz 1 ?_;refine xC rfl (Tu gU rfl (hrow2 0 _ rfl)) ?_;refine xK 0 ?_ ?_<;>intro h27
  ·have hne:¬ X=Y:=fun e=>h27 (by rw[e]);refine Gz 30 ?_;exact⟨_,rfl,congrArg Value.bool (decide_eq_false hne).symm,hF.draws 1⟩
  have e1:(X.getD k x0).1=(Y.getD k x0).1:=Decidable.not_not.1 h27;refine Gz 3 ?_;refine xV rfl (Tv jH rfl rfl ha.non (by omega)) ?_;refine Gz 1 ?_;refine xV rfl (Tu aT rfl (hrow 1 _ rfl)) ?_;refine xV rfl (Ui aK ty5 ty9 rfl hxv) ?_;refine Gz 2 ?_;refine xV rfl (Tv jH rfl rfl hb.non (by omega)) ?_;refine Gz 1 ?_;refine xV rfl (Tu aT rfl (hrow2 1 _ rfl)) ?_;refine xV rfl (Ui aK ty5 ty9 rfl hyv) ?_;refine xW 0 ?_ ?_<;>intro h41
  ·have hne:¬ X=Y:=fun e=>h41 (by rw[e]);refine Gz 16 ?_;exact⟨_,rfl,congrArg Value.bool (decide_eq_false hne).symm,hF.draws 1⟩
  have e2:(X.getD k x0).2=(Y.getD k x0).2:=Decidable.not_not.1 h41;refine Gz 12 ?_;exact aG (k+1) ⟨by omega,Oh (by omega) (by omega) htk e1 e2,hF.draws 1⟩ (by show X.length-(k+1)<X.length-k;omega)
 refine Gz 15 ?_;have heq:X=Y:=by rw[←take_length (l:=X),←take_length (l:=Y),←hab,show X.length=k by omega];exact htk
 exact⟨_,rfl,congrArg Value.bool (decide_eq_true heq).symm,hF⟩
theorem Ms{l:List Int}{n:Int}{i:Nat}(hi:i<l.length)(h:l.getD i 0=n)(hno:∀ j,j<i→l.getD j 0≠n):nM l n=i:=by
 unfold nM;rw[show l.findIdx? (fun x=>decide (x=n))=some i from ?_];rw[List.findIdx?_eq_some_iff_getElem];refine⟨hi,?_,fun j hj=>?_⟩
 ·rw[List.getD,List.getElem?_eq_getElem hi] at h;exact decide_eq_true h
 · have:=hno j hj
   rw[List.getD,List.getElem?_eq_getElem (by omega)] at this;simpa using this
theorem JV{l:List Int}{n:Int}(hno:∀ j,j<l.length→l.getD j 0≠n):nM l n=0:=by
 unfold nM;rw[show l.findIdx? (fun x=>decide (x=n))=none from ?_];rw[List.findIdx?_eq_none_iff];intro x hx;obtain⟨j,hj⟩:=List.getElem?_of_mem hx;have:=hno j (List.getElem?_eq_some_iff.1 hj).1;rw[List.getD,hj] at this;simpa using this
theorem Af(io:Option Addr)(ic:Nat)(l:List Int)(n:Int)(W:World)(hv:Vw i64 W.heap io ic l) :
 CA 57 [.slice io l.length ic,iV n] W fun v w'=>v=iV (nM l n)∧w'=W:=by
 have h63:=hv.WQ;refine cS 19 [(0,_),(1,_)] Tryz.func57 ?_;refine Gz 12 ?_;refine TA (β:=Nat) (fun i=>[(0,.slice io l.length ic),(1,iV n),(5,iV i)]) (fun i w=>i≤l.length∧(∀ j,j<i→l.getD j 0≠n)∧w=W) (fun i=>l.length-i) 0 ⟨rfl,rfl,rfl,trivial⟩ ⟨Nat.zero_le _,fun j hj=>by omega,rfl⟩ ?_;rintro i w ⟨hi,hno,hw⟩;subst w;refine fK 6 ?_ ?_<;>intro h9
 ·have hil:i<l.length:=by omega
  refine Gz 11 ?_;refine cL (Tt bP rfl rfl hv.non (by omega)) ?_;refine cL (Tu aI rfl (hv.gz 0 i rfl hil)) ?_;refine fK 1 ?_ ?_<;>intro h17
  ·have hres:nM l n=i:=Ms hil h17 hno;refine Gz 16 ?_;exact⟨_,rfl,by rw[hres],rfl⟩
  refine Gz 11 ?_;refine aG (i+1) ⟨by omega,fun j hj=>?_,rfl⟩ (by show l.length-(i+1)<l.length-i;omega);by_cases e:j=i
  ·subst e;exact h17
  ·exact hno j (by omega)
 have hie:i=l.length:=by omega
 subst hie;refine Gz 15 ?_;exact⟨_,rfl,by rw[JV hno],rfl⟩
theorem NA{a:BiA}{ow:Nat→Nat}{g:Nat}{qs:List (NdH×Nd)}{ids:List Int}{files:List Ino}{s:BSt}{w w':World}{X:List Xa}{r:Int}{xo so' tr':Option Addr}{xc sc' tc':Nat}(hM:BiW a ow w.heap g qs ids files s)(hn:∀ k,w.heap.size≤k→ow k=0)(hX:XsV (fun k=>ow k=4) w.heap ⟨xo,X.length,xc⟩ X)
 (hg:w'.heap[g]?=some (.cells (biK { a with so:=so',sc:=sc',tr:=tr',tc:=tc' } qs ids files { s with sets:=s.sets++[(X,r)] }).toArray 76 (0,0)))
 (ho:Own hd 66 w'.heap so' sc' (a.hs++[⟨xo,X.length,xc⟩]))(hr:∀ b,so'=some b→a.so=some b∨w.heap.size≤b.block)
 (ht:Own i64 3 w'.heap tr' tc' (s.sets.map (·.2)++[r]))(hrt:∀ b,tr'=some b→a.tr=some b∨w.heap.size≤b.block)(hap:∀ b c,so'=some b→tr'=some c→w.heap.size≤b.block→b.block≠c.block)
 (hf:aA (fun k=>k=g∨ow k=7∨ow k=8) w w'):∃ (a':BiA) (ow':Nat→Nat),BiW a' ow' w'.heap g qs ids files { s with sets:=s.sets++[(X,r)] }∧(a'.lo=a.lo∧a'.lc=a.lc∧a'.ro=a.ro∧a'.rc=a.rc)∧(∀ k,k<w.heap.size→ow' k=ow k)∧(∀ k,w'.heap.size≤k→ow' k=0):=by
 classical
 have hle:∀ z,z≠0→∀ k,ow k=z→k<w.heap.size:=fun z hz k hk=>byContradiction fun hc=>by have:=hn k (by omega);omega
 obtain⟨_,h6,⟨nd1,nd2⟩,⟨i1,i2⟩,⟨f1,f2⟩,w1,w2,w3,⟨r1,r2⟩,⟨s1,s2⟩,⟨e1,e2⟩,t1,t2⟩:=hM;obtain⟨ow',eo⟩:∃ o:Nat→Nat,∀ k,o k=if k<w.heap.size then ow k else if blk so' k then 7 else if blk tr' k then 8 else 0:=⟨_,fun _=>rfl⟩
 have c1:∀ k,k<w.heap.size→ow' k=ow k:=fun k hk=>by rw[eo];exact if_pos hk
 have c2:∀ k,w'.heap.size≤k→ow' k=0:=fun k hk=>by
  have:=hf.size;rw[eo,if_neg (by omega),if_neg (fun⟨b,hb,e⟩=>by have:=ho.lt b hb;omega),if_neg (fun⟨b,hb,e⟩=>by have:=ht.lt b hb;omega)]
 have key:∀ z,z≠0→z≠7→z≠8→z≠6→∀ k,ow k=z→¬ (k=g∨ow k=7∨ow k=8):=fun z _ h1 h2 h3 k hk h=>by rcases h with rfl|h|h<;>omega
 have kz:∀ z,z≠0→∀ k,ow k=z→ow' k=z:=fun z hz k hk=>by rw[c1 k (hle z hz k hk)];exact hk
 refine⟨{ a with so:=so',sc:=sc',tr:=tr',tc:=tc',hs:=a.hs++[⟨xo,X.length,xc⟩] },ow',⟨hg,kz 6 (by decide) g h6,⟨dJ nd1 hf (key 4 (by decide) (by decide) (by decide) (by decide)) (fun hne k hk=>key 4 (by decide) (by decide) (by decide) (by decide) k (nd2 hne k hk)) (kz 4 (by decide)),fun hne k hk=>kz 4 (by decide) k (nd2 hne k hk)⟩,
  ⟨i1.WS hf (fun a ha=>key 4 (by decide) (by decide) (by decide) (by decide) _ (i2 _ ⟨a,ha,rfl⟩)),fun k hk=>kz 4 (by decide) k (i2 k hk)⟩,⟨f1.WS hf (fun a ha=>key 4 (by decide) (by decide) (by decide) (by decide) _ (f2 _ ⟨a,ha,rfl⟩)),fun k hk=>kz 4 (by decide) k (f2 k hk)⟩,
  w1.WS hf (key 1 (by decide) (by decide) (by decide) (by decide)) (kz 1 (by decide)),w2.WS hf (key 2 (by decide) (by decide) (by decide) (by decide)) (kz 2 (by decide)),w3.WS hf (key 3 (by decide) (by decide) (by decide) (by decide)) (kz 3 (by decide)),
  ⟨r1.WS hf (fun a ha=>key 5 (by decide) (by decide) (by decide) (by decide) _ (r2 _ ⟨a,ha,rfl⟩)),fun k hk=>kz 5 (by decide) k (r2 k hk)⟩,⟨ho,fun k hk=>?_⟩,⟨by show (a.hs++_).length=(s.sets++_).length;rw[length_append,length_append,e1];rfl,fun i h y hh hy=>?_⟩,by show Own i64 3 w'.heap tr' tc' ((s.sets++[(X,r)]).map (·.2));rw[List.map_append];exact ht,fun k hk=>?_⟩,⟨rfl,rfl,rfl,rfl⟩,c1,c2⟩
 · obtain⟨b,hb,rfl⟩:=hk
   rcases hr b hb with h|h
   ·exact kz 7 (by decide) _ (s2 _ ⟨b,h,rfl⟩)
   ·rw[eo,if_neg (by omega),if_pos ⟨b,hb,rfl⟩]
 · have hh:(a.hs++[⟨xo,X.length,xc⟩])[i]?=some h:=hh
   have hy:(s.sets++[(X,r)])[i]?=some y:=hy;by_cases hi:i<a.hs.length
   · rw[List.getElem?_append_left hi] at hh
     rw[List.getElem?_append_left (by omega)] at hy;exact((e2 i h y hh hy).WS hf (key 4 (by decide) (by decide) (by decide) (by decide))).mono (kz 4 (by decide))
   · have hil:=(List.getElem?_eq_some_iff.1 hh).1
     rw[length_append,length_singleton] at hil;have ei:i=a.hs.length:=by omega
     rw[ei,List.getElem?_concat_length] at hh;rw[ei,e1,List.getElem?_concat_length] at hy;cases hh;cases hy;exact(hX.WS hf (key 4 (by decide) (by decide) (by decide) (by decide))).mono (kz 4 (by decide))
 · obtain⟨b,hb,rfl⟩:=hk
   rcases hrt b hb with h|h
   ·exact kz 8 (by decide) _ (t2 _ ⟨b,h,rfl⟩)
   ·rw[eo,if_neg (by omega),if_neg (fun⟨c,hc,e⟩=>hap c b hc hb (by omega) e),if_pos ⟨b,hb,rfl⟩]
def bdB(s:BSt):Prop:=s.ino.length≤137438953472∧s.lst.length≤137438953472∧s.fur.length≤137438953472∧s.sets.length≤1048576∧s.many≤1048576
def bdR(s:BSt):Prop:=(∀ z∈s.refs,0≤z∧z≤1152921504606846977)∧∀ y∈s.sets,0≤y.2∧y.2≤1152921504606846976
def LM(ow:Nat→Nat)(W:World)(g:Nat)(qs:List (NdH×Nd))(ids:List Int)(files:List Ino)(s':BSt)(w':World):Prop:=
 aA (Lb ow) W w'∧∃ (a':BiA) (ow':Nat→Nat),BiW a' ow' w'.heap g qs ids files s'∧(∀ k,k<W.heap.size→ow' k=ow k)∧(∀ k,w'.heap.size≤k→ow' k=0)∧bdR s'
theorem H9{s:BSt}{X:List Xa}(h:X.length=0):cY s X=(0,s):=if_pos h
theorem KM{s:BSt}{X:List Xa}{i:Nat}{y:List Xa×Int}(h:¬ X.length=0)(hy:s.sets[i]?=some y)(he:y.1=X)(hno:∀ (j:Nat) (z:List Xa×Int),j<i→s.sets[j]?=some z→z.1≠X):cY s X=(y.2+1,s):=by
 unfold cY;rw[if_neg h,show s.sets.find? (fun y=>decide (y.1=X))=some y from ?_];rw[List.find?_eq_some_iff_getElem];obtain⟨hi,rfl⟩:=List.getElem?_eq_some_iff.1 hy;exact⟨decide_eq_true he,i,hi,rfl,fun j hj=>by have:=hno j s.sets[j] hj (List.getElem?_eq_getElem (by omega));simpa using this⟩
theorem KN{s:BSt}{X:List Xa}(h:¬ X.length=0)(hno:∀ (j:Nat) (z:List Xa×Int),s.sets[j]?=some z→z.1≠X):cY s X=(((aN s.fur s.fur.length:Nat):Int)+1,{ s with fur:=s.fur++(jK X).1,sets:=s.sets++[(X,((aN s.fur s.fur.length:Nat):Int))] }):=by
 unfold cY;rw[if_neg h,show s.sets.find? (fun y=>decide (y.1=X))=none from ?_];rw[List.find?_eq_none];intro x hx;obtain⟨j,hj⟩:=List.getElem?_of_mem hx;simpa using hno j x hj
theorem CI(a:BiA)(ow:Nat→Nat)(g:Nat)(qs:List (NdH×Nd))(ids:List Int)(files:List Ino)(s:BSt)(xo:Option Addr)(xc:Nat)(X:List Xa)(W:World)(hM:BiW a ow W.heap g qs ids files s)(hn:∀ k,W.heap.size≤k→ow k=0)(hX:XsV (fun k=>ow k=4) W.heap ⟨xo,X.length,xc⟩ X)(hmX:∀ x∈X,x.1.length≤255)(hsX:∀ y∈s.sets,∀ x∈y.1,x.1.length≤255)(hb:bdB (cY s X).2)(hbr:bdR s) :
 CA 59 [pT g,.slice xo X.length xc] W fun v w'=>v=iV (cY s X).1∧LM ow W g qs ids files (cY s X).2 w':=by
 have hM0:=hM;obtain⟨hg,h6,⟨nd1,nd2⟩,⟨i1,i2⟩,⟨f1,f2⟩,w1,w2,w3,⟨r1,r2⟩,⟨s1,s2⟩,⟨e1,e2⟩,t1,t2⟩:=hM;have hXa:=hX.xa hmX;have hv7:=s1.vw;have hs63:=hv7.WQ;rw[e1] at hs63;refine cS 72 [(0,_),(1,_)] Tryz.func59 ?_;refine fK 10 ?_ ?_<;>intro h12
 ·have hres:cY s X=(0,s):=H9 (by omega);refine Gz 11 ?_;exact⟨_,rfl,by rw[hres],by rw[hres];exact⟨Wt _ _,a,ow,hM0,fun _ _=>rfl,hn,hbr⟩⟩
 have hne:¬ X.length=0:=by omega
 refine Gz 12 ?_;refine TA (β:=Nat) (fun k=>[(0,pT g),(1,.slice xo X.length xc),(5,iV k)]) (fun k w=>k≤s.sets.length∧(∀ (j:Nat) (z:List Xa×Int),j<k→s.sets[j]?=some z→z.1≠X)∧aA nob W w) (fun k=>s.sets.length-k) 0 ⟨rfl,rfl,rfl,trivial⟩ ⟨Nat.zero_le _,fun j z hj=>by omega,Wt _ _⟩ ?_;rintro k w ⟨hk,hno,hF⟩;refine Gz 7 ?_;refine cL (Tu Cz rfl (aE (hF.obj hg id) rfl)) ?_;refine fK 1 ?_ ?_<;>intro h19
 ·have hkl:k<s.sets.length:=by omega
  obtain⟨y,hy⟩:∃ y,s.sets[k]?=some y:=⟨_,List.getElem?_eq_getElem hkl⟩
  obtain⟨h,hh⟩:∃ h,a.hs[k]?=some h:=⟨_,List.getElem?_eq_getElem (by omega)⟩
  have hxv:=(e2 k h y hh hy).WS hF (fun _ _=>id);have hyn:=hxv.1;have hhd:a.hs.getD k hd0=h:=by rw[List.getD,hh];rfl
  have hsd:(s.sets.map (·.2)).getD k 0=y.2:=by rw[List.getD,List.getElem?_map,hy];rfl
  have hyb:=hbr.2 y (mem_of_getElem? hy);have hyx:XaV w.heap h.a h.c y.1:=by obtain⟨ha,hn0,hc0⟩:=h;have hyn:hn0=y.1.length:=hyn;exact hxv.xa (hsX y (mem_of_getElem? hy))
  refine Gz 12 ?_;refine cL (Tu Cz rfl (aE (hF.obj hg id) rfl)) ?_;refine Gz 1 ?_;refine cL (Tt L4 rfl rfl (fun h=>hv7.non (by rw[e1];exact h)) (by omega)) ?_;refine cL (Tw (u:=.slice h.a y.1.length h.c) (Tu dN rfl ((hv7.WR hF).gz hd0 k rfl (by omega))) (by rw[hhd,←hyn];rfl)) ?_;refine cA 1 SA (Hf y.1 X h.a xo h.c xc w hyx (hXa.WR hF)) ?_;rintro _ w5 ⟨rfl,hf5⟩;have hF5:=hF.trans hf5;refine Gz 5 ?_;refine TZ (TV (TR rfl)) rfl (fun h31=>?_) (fun h31=>?_)
  ·have hyX:y.1=X:=of_decide_eq_true h31;have hres:cY s X=(y.2+1,s):=KM hne hy hyX hno;refine Gz 8 ?_;refine cL (Tu pS rfl (aE (hF5.obj hg id) rfl)) ?_;refine Gz 1 ?_;refine cL (Tt bP rfl rfl (fun h=>t1.vw.non (by rw[length_map];exact h)) (by omega)) ?_;refine cL (Tu aI rfl ((t1.vw.WR hF5).gz 0 k rfl (by rw[length_map];omega))) ?_;rw[hsd];refine Gz 11 ?_;exact⟨_,rfl,by rw[hres],by rw[hres];exact⟨hF5.any,a,ow,hM0.WR hF5,fun _ _=>rfl,fun k hk=>hn k (Nat.le_trans hF5.size hk),hbr⟩⟩
  have hyX:¬ y.1=X:=fun e=>h31 (decide_eq_true e);refine Gz 11 ?_;refine aG (k+1) ⟨by omega,fun j z hj hz=>?_,hF5⟩ (by show s.sets.length-(k+1)<s.sets.length-k;omega);by_cases e:j=k
  ·subst e;rw[hy] at hz;cases hz;exact hyX
  ·exact hno j z (by omega) hz
 have hres:cY s X=_:=KN hne (fun j z hz=>hno j z (by have:=(List.getElem?_eq_some_iff.1 hz).1;omega) hz);rw[hres] at hb;have hsl:s.sets.length+1≤1048576:=by have h:=hb.2.2.2.1;rwa[length_append] at h
 have hbl:s.fur.length+(jK X).1.length≤137438953472:=by have h:=hb.2.2.1;rwa[length_append] at h
 refine cA 11 QA (Jq xo xc X w (hXa.WR hF)) ?_;rintro _ w5 ⟨o5,c5,rfl,ho5,hfr5,hf5⟩;have hF5:=hF.trans hf5;have hz5:=hF5.size;have hzF:=hF.size;refine Gz 13 ?_;refine Ts K1 rfl (Iv o5 c5 (jK X).1 w5 (hM0.WR hF5) (fun k hk=>hn k (by omega)) ho5.vw (fun _ k ⟨b,hb,e⟩=>.inl (hn k (by have:=hfr5 b hb;omega))) (by omega)) rfl ?_;rintro _ w6 ⟨rfl,a6,ow6,hM6,hae,q1,q2,hf6⟩;have hz6:=hf6.size;have hX6:XsV (fun k=>ow6 k=4) w6.heap ⟨xo,X.length,xc⟩ X:=((hX.WS hF5 (fun _ _=>id)).WS hf6 (fun k hk h=>by have hk:ow k=4:=hk;have h:k=g∨ow k=3:=h;rcases h with rfl|h<;>omega)).mono (fun k hk=>by have hk:ow k=4:=hk;rw[q1 k (byContradiction fun hc=>by have:=hn k (by omega);omega)];exact hk);obtain⟨s6,es6⟩:∃ t:BSt,t = { s with fur:=s.fur++(jK X).1 }:=⟨_,rfl⟩
 have z6:s6.sets=s.sets:=by rw[es6]
 rw[←es6] at hM6;have hM60:=hM6;obtain⟨hg6,h66,_,_,_,_,_,_,_,⟨s61,s62⟩,⟨e61,e62⟩,t61,t62⟩:=hM6;have hrb:aN s.fur s.fur.length≤1152921504606846976:=JC (by omega);have hl6:a6.hs.length≤1048575:=by rw[e61,z6];omega
 have hL6:∀ k,ow6 k=7∨ow6 k=8→k<w6.heap.size∧k≠g:=fun k hk=>⟨byContradiction fun hc=>by have:=q2 k (by omega);omega,fun e=>by have h66:ow6 g=6:=h66;rw[e,h66] at hk;omega⟩
 have hg6s:g<w6.heap.size:=(Array.getElem?_eq_some_iff.1 hg6).1;refine Gz 9 ?_;refine cL (Tw (u:=.slice a6.so a6.hs.length a6.sc) (Tu Cz rfl (aE hg6 rfl)) (by rw[e61])) ?_;refine Gz 1 ?_;refine T3 (enc:=hd) (u:=⟨xo,X.length,xc⟩) L4 rfl rfl rfl ?_;intro w7 ho7 hs7 hf7;refine TB xN L4 rfl rfl (s61.WR hf7) ho7.vw (by simp only[length_singleton];omega) (by simp only[length_singleton];unfold maxLen;omega) rfl ?_;intro so8 sc8 w8 ho8 hf8 hr8 hn8;refine Gz 2 ?_;refine Tx Cz rfl rfl rfl (hf8.obj (hf7.obj hg6 id) (fun h=>(hL6 g (.inl (s62 g h))).2 rfl)) rfl ?_;intro w9 hg9 hs9 hf9;have hz8:=hf8.size;have hf69:aA (fun k=>k=g∨ow6 k=7) w6 w9:=(hf7.any.trans (hf8.mono (fun k h=>.inr (s62 k h)))).trans (hf9.mono (fun k h=>.inl h));have hso:∀ b,so8=some b→a6.so=some b∨w6.heap.size≤b.block:=fun b hb=>(hr8 b hb).imp id (fun h=>by omega);have hsn:∀ k,blk so8 k→k≠g:=fun k ⟨b,hb,e⟩ h=>by rcases hso b hb with h2|h2;exact(hL6 k (.inl (s62 k ⟨b,h2,e⟩))).2 h;omega
 have ho9:=ho8.WS hf9 (fun b hb e=>hsn _ ⟨b,hb,rfl⟩ e);have ht9:=t61.WS hf69 (fun b hb e=>by have h8:=t62 _ ⟨b,hb,rfl⟩;have e:b.block=g∨ow6 b.block=7:=e;rcases e with e|e;rw[e,show ow6 g=6 from h66] at h8;omega;omega);refine Gz 8 ?_;refine cL (Tw (u:=.slice a6.tr (s6.sets.map (·.2)).length a6.tc) (Tu pS rfl (aE hg9 rfl)) (by rw[length_map])) ?_;refine Gz 1 ?_;refine T3 (enc:=i64) (u:=((aN s.fur s.fur.length:Nat):Int)) bP rfl rfl rfl ?_;intro w10 ho10 hs10 hf10;refine TB kR bP rfl rfl (ht9.WR hf10) ho10.vw (by simp only[length_singleton,length_map];omega) (by simp only[length_singleton,length_map];unfold maxLen;omega) rfl ?_;intro tr11 tc11 w11 ho11 hf11 hr11 hn11;refine Gz 2 ?_;refine Tx pS rfl rfl rfl (hf11.obj (hf10.obj hg9 id) (fun h=>(hL6 g (.inr (t62 g h))).2 rfl)) rfl ?_;intro w12 hg12 hs12 hf12;refine Gz 11 ?_;have hlo9:=ho9.lt;have hlt6:=t61.lt;have hst:∀ k,blk so8 k→¬ blk a6.tr k:=fun k ⟨b,hb,e⟩ ht=>by
  have h8:=t62 k ht;rcases hso b hb with h|h
  ·have:=s62 k ⟨b,h,e⟩;omega
  ·obtain⟨c,hc,e2⟩:=ht;have:=hlt6 c hc;omega
 have hrt:∀ b,tr11=some b→a6.tr=some b∨w6.heap.size≤b.block:=fun b hb=>(hr11 b hb).imp id (fun h=>by omega);have htn:∀ k,blk tr11 k→k≠g:=fun k ⟨b,hb,e⟩ h=>by
  rcases hrt b hb with h2|h2
  ·exact(hL6 k (.inr (t62 k ⟨b,h2,e⟩))).2 h
  ·omega
 have ho12:=((ho9.WR hf10).WS hf11 (fun b hb e=>hst _ ⟨b,hb,rfl⟩ e)).WS hf12 (fun b hb e=>hsn _ ⟨b,hb,rfl⟩ e);have ht12:=ho11.WS hf12 (fun b hb e=>htn _ ⟨b,hb,rfl⟩ e);have hf612:aA (fun k=>k=g∨ow6 k=7∨ow6 k=8) w6 w12:=(((hf69.mono (fun k h=>h.elim .inl (fun h=>.inr (.inl h)))).trans hf10.any).trans (hf11.mono (fun k h=>.inr (.inr (t62 k h))))).trans (hf12.mono (fun k h=>.inl h));have hg12b:w12.heap[g]?=some (.cells (biK { a6 with so:=so8,sc:=sc8,tr:=tr11,tc:=tc11 } qs ids files { s6 with sets:=s6.sets++[(X,((aN s.fur s.fur.length:Nat):Int))] }).toArray 76 (0,0)):=by
  rw[hg12];have l1:(a6.hs++[(⟨xo,X.length,xc⟩:Hd)]).length=(s6.sets++[(X,((aN s.fur s.fur.length:Nat):Int))]).length:=by simp[e61]
  have l2:(s6.sets.map (·.2)++[((aN s.fur s.fur.length:Nat):Int)]).length=(s6.sets++[(X,((aN s.fur s.fur.length:Nat):Int))]).length:=by simp
  rw[l1,l2];rfl
 obtain⟨a9,ow9,hM9,_,k1,k2⟩:=NA hM60 q2 hX6 hg12b ho12 hso ht12 hrt (fun b c hb hc h6b=>by
  rcases hr11 c hc with h|h
  ·have:=hlt6 c h;omega
  ·have:=hlo9 b hb;omega) hf612
 refine⟨_,rfl,by rw[hres],?_⟩;rw[hres];rw[es6] at hM9;refine⟨(hF5.any.trans (hf6.mono (fun k h=>?_))).WO hf612 (fun k h=>?_),a9,ow9,hM9,fun k hk=>by rw[k1 k (by omega),q1 k (by omega)],k2,hbr.1,fun y hy=>?_⟩
 · have h:k=g∨ow k=3:=h
   show ow k≠0∧ow k≠4;rcases h with h|h
   ·rw[h,h6];decide
   ·rw[h];decide
 · by_cases hk:k<W.heap.size
   · have h:k=g∨ow6 k=7∨ow6 k=8:=h
     rw[q1 k (by omega)] at h;refine .inl ?_;show ow k≠0∧ow k≠4;rcases h with h|h|h
     ·rw[h,h6];decide
     ·rw[h];decide
     ·rw[h];decide
   ·exact .inr (by omega)
 · have hy:y∈s.sets++[(X,((aN s.fur s.fur.length:Nat):Int))]:=hy
   rcases mem_append.1 hy with hy|hy
   ·exact hbr.2 y hy
   ·rw[mem_singleton] at hy;subst hy;exact⟨by show (0:Int)≤((aN s.fur s.fur.length:Nat):Int);omega,by show ((aN s.fur s.fur.length:Nat):Int)≤_;omega⟩
theorem XsV.eta{D:Nat→Prop}{H:Array Obj}{z:Hd}{X:List Xa}(h:XsV D H z X):XsV D H ⟨z.a,X.length,z.c⟩ X:=⟨rfl,h.2⟩
section
variable {a:BiA}{ow:Nat→Nat}{g:Nat}{qs:List (NdH×Nd)}{ids:List Int}{files:List Ino}{s:BSt}{w w':World}
theorem BiW.refsup{m:Nat}{v:Int}(h:BiW a ow w.heap g qs ids files s)(ho:Own i64 3 w'.heap a.ro a.rc (s.refs.set m v))(f:aA (blk a.ro) w w'):BiW a ow w'.heap g qs ids files { s with refs:=s.refs.set m v }:=by
 obtain⟨hg,hl,⟨n1,n2⟩,⟨i1,i2⟩,⟨f1,f2⟩,w1,w2,w3,⟨r1,r2⟩,⟨s1,s2⟩,⟨e1,e2⟩,t1,t2⟩:=h;have key:∀ z,z≠5→∀ k,ow k=z→¬ blk a.ro k:=fun z hz k hk hb=>by have:=r2 k hb;omega
 refine⟨?_,hl,⟨dJ n1 f (key 4 (by decide)) (fun hne k hk=>key 4 (by decide) k (n2 hne k hk)) (fun _=>id),n2⟩,⟨i1.WS f (fun a ha=>key 4 (by decide) _ (i2 _ ⟨a,ha,rfl⟩)),i2⟩,⟨f1.WS f (fun a ha=>key 4 (by decide) _ (f2 _ ⟨a,ha,rfl⟩)),f2⟩,
  w1.WS f (key 1 (by decide)) (fun _=>id),w2.WS f (key 2 (by decide)) (fun _=>id),w3.WS f (key 3 (by decide)) (fun _=>id),⟨ho,r2⟩,⟨s1.WS f (fun a ha=>key 7 (by decide) _ (s2 _ ⟨a,ha,rfl⟩)),s2⟩,⟨e1,fun i h y hh hy=>(e2 i h y hh hy).WS f (key 4 (by decide))⟩,t1.WS f (fun a ha=>key 8 (by decide) _ (t2 _ ⟨a,ha,rfl⟩)),t2⟩
 have:=f.obj hg (key 6 (by decide) g hl);rw[this];unfold biK;show _=some (Obj.cells (biC _ _ _ _ _ _ _ _ (.slice a.ro (s.refs.set m v).length a.rc) _ _ _ _).toArray _ _);rw[length_set]
theorem BiW.manyup{n:Nat}(h:BiW a ow w.heap g qs ids files s)(hg':w'.heap[g]?=some (.cells (biK a qs ids files { s with many:=n }).toArray 76 (0,0)))(f:aA (· = g) w w'):BiW a ow w'.heap g qs ids files { s with many:=n }:=by
 obtain⟨hg,hl,⟨n1,n2⟩,⟨i1,i2⟩,⟨f1,f2⟩,w1,w2,w3,⟨r1,r2⟩,⟨s1,s2⟩,⟨e1,e2⟩,t1,t2⟩:=h;have key:∀ z,z≠6→∀ k,ow k=z→¬ k=g:=fun z hz k hk hb=>by rw[hb,hl] at hk;omega
 exact⟨hg',hl,⟨dJ n1 f (key 4 (by decide)) (fun hne k hk=>key 4 (by decide) k (n2 hne k hk)) (fun _=>id),n2⟩,⟨i1.WS f (fun a ha=>key 4 (by decide) _ (i2 _ ⟨a,ha,rfl⟩)),i2⟩,⟨f1.WS f (fun a ha=>key 4 (by decide) _ (f2 _ ⟨a,ha,rfl⟩)),f2⟩,
  w1.WS f (key 1 (by decide)) (fun _=>id),w2.WS f (key 2 (by decide)) (fun _=>id),w3.WS f (key 3 (by decide)) (fun _=>id),⟨r1.WS f (fun a ha=>key 5 (by decide) _ (r2 _ ⟨a,ha,rfl⟩)),r2⟩,⟨s1.WS f (fun a ha=>key 7 (by decide) _ (s2 _ ⟨a,ha,rfl⟩)),s2⟩,⟨e1,fun i h y hh hy=>(e2 i h y hh hy).WS f (key 4 (by decide))⟩,t1.WS f (fun a ha=>key 8 (by decide) _ (t2 _ ⟨a,ha,rfl⟩)),t2⟩
end
structure leB (s t:BSt):Prop where
 i:s.ino.length≤t.ino.length
 l:s.lst.length≤t.lst.length
 f:s.fur.length≤t.fur.length
 e:s.sets.length≤t.sets.length
 r:t.refs.length=s.refs.length
 m:s.many≤t.many
theorem leB.rfl{s:BSt}:leB s s:=⟨Nat.le_refl _,Nat.le_refl _,Nat.le_refl _,Nat.le_refl _,Eq.refl _,Nat.le_refl _⟩
theorem leB.trans{s t u:BSt}(h:leB s t)(k:leB t u):leB s u:=⟨Nat.le_trans h.i k.i,Nat.le_trans h.l k.l,Nat.le_trans h.f k.f,Nat.le_trans h.e k.e,k.r.trans h.r,Nat.le_trans h.m k.m⟩
theorem leB.bd{s t:BSt}(h:leB s t)(k:bdB t):bdB s:=⟨Nat.le_trans h.i k.1,Nat.le_trans h.l k.2.1,Nat.le_trans h.f k.2.2.1,Nat.le_trans h.e k.2.2.2.1,Nat.le_trans h.m k.2.2.2.2⟩
theorem GF(s:BSt)(X:List Xa):leB s (cY s X).2:=by
 unfold cY
 split
 ·exact .rfl
 · split
   ·exact .rfl
   ·exact⟨Nat.le_refl _,Nat.le_refl _,by show _≤(s.fur++_).length;rw[length_append];omega,by show _≤(s.sets++_).length;rw[length_append];omega,Eq.refl _,Nat.le_refl _⟩
section
variable {qs:List (NdH×Nd)}{ids:List Int}{files:List Ino}
theorem GJ(k:Int)(i:Ino)(s:BSt):leB (cY s (ndB qs k).xs).2 (jV qs ids k i s):=⟨by show _≤(_++_:By).length;rw[length_append];omega,Nat.le_refl _,Nat.le_refl _,Nat.le_refl _,length_set,Nat.le_succ _⟩
theorem oM(k:Int)(i:Ino)(s:BSt):leB s (jV qs ids k i s):=(GF s _).trans (GJ k i s)
theorem Ea{wr:Int→BSt→BSt}(hw:∀ k s,leB s (wr k s)):∀ (ys:List Int) (s:BSt),leB s (wrK wr qs ys s).1
|[],s=>.rfl
|j::r,s=>(hw j s).trans (Ea hw r (wr j s))
theorem Kn(s:BSt)(b:By):leB s { s with lst:=s.lst++b }:=⟨Nat.le_refl _,by show _≤(s.lst++b).length;rw[length_append];omega,Nat.le_refl _,Nat.le_refl _,Eq.refl _,Nat.le_refl _⟩
theorem A9:∀ (n:Nat) (k:Int) (s:BSt),leB s (wrB qs ids files n k s)
|0,k,s=>.rfl
|n+1,k,s=>by
   unfold wrB
   split
   ·exact .rfl
   · split
     ·exact oM _ _ _
     · split
       ·exact oM _ _ _
       · split
         ·exact((Ea (A9 n) _ s).trans (Kn _ _)).trans (oM _ _ _)
         ·exact oM _ _ _
def shS(s:BSt):Prop:=∀ y∈s.sets,∀ x∈y.1,x.1.length≤255
theorem GE{s:BSt}{X:List Xa}(h:shS s)(hX:∀ x∈X,x.1.length≤255):shS (cY s X).2:=by
 unfold cY
 split
 ·exact h
 · split
   ·exact h
   · intro y hy
     rcases mem_append.1 hy with hy|hy
     ·exact h y hy
     ·rw[mem_singleton] at hy;subst hy;exact hX
structure GdB (qs:List (NdH×Nd))(files:List Ino):Prop where
 q:∀ q∈qs,(1≤q.2.ino∧q.2.ino≤qs.length)∧q.2.names.length≤16∧(∀ c∈q.2.names,c.length≤255)∧q.2.tgt.length≤200∧(∀ x∈q.2.xs,x.1.length≤255)
 k:∀ s ys,A7 qs s ys→ys=bN qs s qs.length
 fl:files.length=qs.length+1
 ft:∀ f∈files,f.2.length≤200
 n:qs.length≤1024
theorem GdB.nd(G:GdB qs files)(k:Int):∀ x∈(ndB qs k).xs,x.1.length≤255:=by
 unfold ndB;rw[List.getD];cases h:qs[k.toNat]? with
|none=>simp[nd0]
|some q=>exact(G.q q (mem_of_getElem? h)).2.2.2.2
theorem vJ(G:GdB qs files){k:Int}{i:Ino}{s:BSt}(h:shS s):shS (jV qs ids k i s):=GE h (G.nd k)
theorem IK{wr:Int→BSt→BSt}(hw:∀ k s,shS s→shS (wr k s)):∀ (ys:List Int) (s:BSt),shS s→shS (wrK wr qs ys s).1
|[],s,h=>h
|j::r,s,h=>IK hw r (wr j s) (hw j s h)
theorem IL(G:GdB qs files):∀ (n:Nat) (k:Int) (s:BSt),shS s→shS (wrB qs ids files n k s)
|0,k,s,h=>h
|n+1,k,s,h=>by
   unfold wrB
   split
   ·exact h
   · split
     ·exact vJ G h
     · split
       ·exact vJ G h
       · split
         ·exact vJ G (show shS { (wrK (wrB qs ids files n) qs (bN qs (ndB qs k).names qs.length) s).1 with lst:=_ } from IK (IL G n) _ s h)
         ·exact vJ G h
structure okS (qs:List (NdH×Nd))(s:BSt):Prop where
 r:s.refs.length=qs.length+1
 b:bdR s
 h:shS s
end
def WrS(g:Nat)(qs:List (NdH×Nd))(ids:List Int)(files:List Ino)(n:Nat):Prop:=∀ (a:BiA) (ow:Nat→Nat) (s:BSt) (k:Int) (W:World),BiW a ow W.heap g qs ids files s→(∀ k,W.heap.size≤k→ow k=0)→(0≤k∧k<qs.length)→17≤(ndB qs k).names.length+n→okS qs s→bdB (wrB qs ids files n k s) →
 CA 27 [pT g,iV k] W fun _ w'=>LM ow W g qs ids files (wrB qs ids files n k s) w'
theorem bI{qs:List (NdH×Nd)}{i:Nat}{q:NdH×Nd}(h:qs[i]?=some q):ndB qs (i:Int)=q.2:=by unfold ndB;rw[Int.toNat_natCast,List.getD,h];rfl
theorem IM{qs:List (NdH×Nd)}{ids:List Int}{files:List Ino}{i m:Nat}{q:NdH×Nd}(n:Nat)(s:BSt)(h:qs[i]?=some q)(hm:q.2.ino=(m:Int)):wrB qs ids files (n+1) (i:Int) s=if 0<s.refs.getD m 0 then s else if q.2.kind=2 then jV qs ids i (files.getD m jD) s else if q.2.kind=3 then jV qs ids i (zF,q.2.tgt) s else if q.2.kind=1 then
 jV qs ids i (In (wrK (wrB qs ids files n) qs (bN qs q.2.names qs.length) s).1 (lM (wrK (wrB qs ids files n) qs (bN qs q.2.names qs.length) s).2).1)
  { (wrK (wrB qs ids files n) qs (bN qs q.2.names qs.length) s).1 with lst:=(wrK (wrB qs ids files n) qs (bN qs q.2.names qs.length) s).1.lst++(lM (wrK (wrB qs ids files n) qs (bN qs q.2.names qs.length) s).2).1 }
 else jV qs ids i (zF,[]) s:=by
 rw[wrB,bI h,hm,Int.toNat_natCast]
theorem Gl{qs:List (NdH×Nd)}{s:List By}:∀ (n:Nat),(bN qs s n).length≤n
|0=>Nat.le_refl _
|n+1=>by
   have:=Gl (qs:=qs) (s:=s) n;unfold bN
   split
   ·rw[length_append,length_singleton];omega
   ·omega
theorem Di{l:List By}(h:∀ c∈l,c.length≤255):(aQ l).length≤255:=by
 unfold aQ;rw[List.getD];cases hx:l[l.length-1]? with
|none=>exact Nat.zero_le _
|some x=>exact h x (mem_of_getElem? hx)
theorem MV{ow ow8:Nat→Nat}{w4 w w':World}(h8:∀ k,k<w4.heap.size→ow8 k=ow k)(hF:aA (Lb ow) w4 w)(hf:aA (Lb ow8) w w'):aA (Lb ow) w4 w':=hF.WO hf (fun k h=>by
 by_cases hk:k<w4.heap.size
 · have h:ow8 k≠0∧ow8 k≠4:=h
   rw[h8 k hk] at h;exact .inl h
 ·exact .inr (by omega))
theorem Es(g:Nat)(qs:List (NdH×Nd))(ids:List Int)(files:List Ino)(G:GdB qs files)(n:Nat)(ih:WrS g qs ids files n):WrS g qs ids files (n+1):=by
 intro a ow s k W hM hn hk hdp hok hbd;obtain⟨kn,rfl⟩:=Int.eq_ofNat_of_zero_le hk.1;have hkl:kn<qs.length:=by omega
 obtain⟨q,hq⟩:∃ q,qs[kn]?=some q:=⟨_,List.getElem?_eq_getElem hkl⟩
 have hnd:=bI hq;obtain⟨⟨hi1,hi2⟩,hnl,hnc,htl,hxl⟩:=G.q q (mem_of_getElem? hq);obtain⟨m,hm⟩:=Int.eq_ofNat_of_zero_le (show 0≤q.2.ino by omega);have hwr:=IM (ids:=ids) (files:=files) n s hq hm;have hM2:=hM;obtain⟨hg,h6,⟨nd1,nd2⟩,⟨i1,i2⟩,⟨f1,f2⟩,_,_,_,⟨r1,r2⟩,⟨s1,s2⟩,e0,t0⟩:=hM2;have hlr:=hok.r;have hfl:=G.fl;have hn1024:=G.n;have hgl:=(Array.getElem?_eq_some_iff.1 hg).1;obtain⟨hvn,hvd,hvx⟩:=nd1.2 q (mem_of_getElem? hq);refine cS 179 [(0,_),(1,_)] Tryz.func27 ?_;refine Gz 7 ?_;refine cL (Tv bH rfl rfl nd1.1.non (by omega)) ?_;refine cL (TI (cs:=aM q) eI rfl (fun j v hj=>nd1.1.rowZ kn rfl hq j v hj)) ?_;refine Tz kT rfl ?_;intro w1 hg1 hs1 hf1;obtain⟨b,eb⟩:∃ b,b=W.heap.size:=⟨_,rfl⟩
 rw[←eb] at hg1 ⊢;refine TX (vs:=aM q) eI rfl rfl (aB q).2 hg1 rfl ?_;intro w2 hb2 hs2 hf2;have hF2:aA nob W w2:=hf1.tw hf2;have hr2v:=(r1.WR hF2).vw;refine Gz 4 ?_;refine TN 9 [0,1,2,3,4,5,6,7,8] aL (by kernel_rfl) ?_;refine Gz 3 ?_;refine xC rfl (Tu pS rfl (aE (hF2.obj hg id) rfl)) ?_;refine Gz 1 ?_;refine xC rfl (Tu aI rfl (aE hb2 rfl)) ?_;refine xC rfl (Tt bP rfl rfl hr2v.non (by omega)) ?_;refine xC rfl (Tu aI rfl (hr2v.gz 0 m hm (by omega))) ?_;refine xK 0 ?_ ?_<;>intro h29
 ·rw[if_pos h29] at hwr;refine Gz 6 ?_;exact⟨_,rfl,by rw[hwr];exact⟨(hF2.draws 1).any,a,ow,hM.WR (hF2.draws 1),fun _ _=>rfl,fun k hk=>hn k (by have hk:w2.heap.size≤k:=hk;omega),hok.b⟩⟩
 rw[if_neg h29] at hwr;refine Gz 7 ?_;refine cL (bU (aZ zF []) CY vO) ?_;refine Tz vO rfl ?_;intro w3 hg3 hs3 hf3;obtain⟨c,ec⟩:∃ c,c=w2.heap.size:=⟨_,rfl⟩
 rw[show (w2.drewN 1).heap.size=c from ec.symm] at hg3 ⊢;refine sA rfl cT (dQ _ _) hg3 ?_;intro w4 hc4 hs4 hf4;have hf24:aA nob w2 w4:=hf3.WP.tw hf4;have hF4:=hF2.trans hf24;have hs3b:w3.heap.size=w2.heap.size+1:=hs3;have hb4:=hf24.obj hb2 id;have hM4:=hM.WR hF4;have hg4:=hF4.obj hg id;have hbl:ow b=0:=hn b (by omega);have hcl:ow c=0:=hn c (by omega);have hn4:∀ k,w4.heap.size≤k→ow k=0:=fun k hk=>hn k (by omega);have hbc:b≠c:=by omega
 refine Gz 2 ?_;refine TY (β:=(BSt×Ino)×(BiA×(Nat→Nat))) (fun⟨⟨s8,i8⟩,⟨a8,ow8⟩⟩=>[(0,pT g),(1,iV (kn:Int)),(4,pT b),(5,pT c)]) (fun⟨⟨s8,i8⟩,⟨a8,ow8⟩⟩ w=>BiW a8 ow8 w.heap g qs ids files s8∧w.heap[b]?=some (.cells (aM q).toArray 68 (0,0))∧w.heap[c]?=some (.cells (aZ i8.1 i8.2).toArray 84 (0,0))∧wrB qs ids files (n+1) (kn:Int) s=jV qs ids kn i8 s8∧okS qs s8∧i8.2.length≤200∧(∀ k,k<w4.heap.size→ow8 k=ow k)∧(∀ k,w.heap.size≤k→ow8 k=0)∧aA (fun k=>Lb ow k∨k=c) w4 w) ?_ ?_
 ·refine fK 9 ?_ ?_<;>intro h34
  ·rw[if_pos h34] at hwr;have hmf:m<files.length:=by omega
   obtain⟨fi,hfi⟩:∃ fi,files[m]?=some fi:=⟨_,List.getElem?_eq_getElem hmf⟩
   have hfd:files.getD m jD=fi:=by rw[List.getD,hfi];rfl
   rw[hfd] at hwr;have hfv4:=f1.WR hF4;refine Gz 4 ?_;refine TG 8 (fun H=>H[g]?=some (.cells (biK a qs ids files s).toArray 76 (0,0))∧H[b]?=some (.cells (aM q).toArray 68 (0,0))∧VwM 11 zA H a.fo a.fc files) [8] [0,1,2,3,4,5,6,7,8] aL (by kernel_rfl) (⟨hg4,hb4,hfv4⟩) ?_;refine Gz 6 ?_;refine xC rfl (Tv Bj rfl rfl f1.non (by omega)) ?_;refine xC rfl (Uf (cs:=zA fi) cT rfl (fun H hH a v hv=>hH.2.2.rowZ m hm hfi a v hv)) ?_;refine Ty rfl rfl (TX (vs:=zA fi) cT rfl rfl (dQ _ _) hc4 rfl ?_);intro w5 hc5 hs5 hf5;refine T6 rfl ?_;have hf45:aA (· = c) w4 w5:=hf5.WP;refine Gz 2 ?_;have hM5:=hM4.WS hf45 (fun k hk h=>hk (by have h:k=c:=h;rw[h];exact hcl)) (fun _ _=>rfl);exact aC ⟨⟨s,fi⟩,⟨a,ow⟩⟩ ⟨hM5,hf45.obj hb4 hbc,hc5,hwr,hok,G.ft fi (mem_of_getElem? hfi),fun _ _=>rfl,fun k hk=>hn4 k (Nat.le_trans hf45.size hk),hf45.mono (fun k h=>.inr h)⟩
  rw[if_neg h34] at hwr;refine fK 6 ?_ ?_<;>intro h44
  ·rw[if_pos h44] at hwr;refine Gz 8 ?_;refine Tx gU rfl rfl rfl hc4 rfl ?_;intro w5 hc5 hs5 hf5;have hf45:aA (· = c) w4 w5:=hf5;refine Gz 2 ?_;have hM5:=hM4.WS hf45 (fun k hk h=>hk (by have h:k=c:=h;rw[h];exact hcl)) (fun _ _=>rfl);exact aC ⟨⟨s,(zF,q.2.tgt)⟩,⟨a,ow⟩⟩ ⟨hM5,hf45.obj hb4 hbc,hc5,hwr,hok,htl,fun _ _=>rfl,fun k hk=>hn4 k (Nat.le_trans hf45.size hk),hf45.mono (fun k h=>.inr h)⟩
  rw[if_neg h44] at hwr;refine fK 6 ?_ ?_<;>intro h49
  ·rw[if_pos h49] at hwr;have hvn4:=hvn.WS hF4 (fun _ _=>id);have hqn:q.1.names.n=q.2.names.length:=hvn4.1;have hbK:=(oM (qs:=qs) (ids:=ids) _ _ _).bd (show bdB _ from hwr ▸ hbd);have hbK2:=(Kn _ _).bd hbK;refine Gz 5 ?_;refine TG 8 (fun H=>H[g]?=some (.cells (biK a qs ids files s).toArray 76 (0,0))∧H[b]?=some (.cells (aM q).toArray 68 (0,0))) [6] [0,1,2,3,4,5,6,7] aL (by kernel_rfl) (⟨hg4,hb4⟩) ?_;refine Gz 5 ?_;refine xC rfl (Tw (u:=.slice q.1.names.a q.2.names.length q.1.names.c) (TF kI rfl (fun H hH=>aE hH.2 rfl)) (by rw[←hqn];rfl)) ?_;refine Ty rfl rfl (Ts SV rfl (Jz a.lo a.lc qs q.1.names.a q.1.names.c q.2.names (w4.drewN 1) ⟨(hM4.WR (Wu 1)).2.2.1.1.1,(hM4.WR (Wu 1)).2.2.1.1.2⟩ (hvn4.2.1.WR (Wu 1)) (by omega)) rfl ?_);rintro _ w5 ⟨ko,kc,ys,rfl,hoy,hfy,hky,hf5⟩;have hf5:=hf5.WP;refine TE (by exact⟨hf5.obj hg4 id,hf5.obj hb4 id⟩) ?_;have hfy:Fr w4.heap.size ko:=hfy;have hky:=G.k _ _ hky;rw[←hky] at hwr hbK hbK2;have hysl:ys.length≤qs.length:=by rw[hky];exact Gl _
   have hyv:=hoy.vw;have hy63:=hyv.WQ;have hz5:=hf5.size;have hb5:=hf5.obj hb4 id;have hc5:=hf5.obj hc4 id;have hM5:=hM4.WR hf5;have hlk5:=hoy.lt;refine Gz 5 ?_;refine Uk cH rA rfl ?_;intro w6 ho6 hs6 hf6;obtain⟨lb,elb⟩:∃ b,b=w5.heap.size:=⟨_,rfl⟩
   rw[←elb] at ho6 ⊢;refine Gz 10 ?_;refine TA (β:=((Nat×BSt)×(BiA×(Nat→Nat)))×(Option Addr×(Nat×List Ent))) (fun⟨⟨⟨j,s9⟩,⟨a9,ow9⟩⟩,⟨lo9,⟨lc9,L9⟩⟩⟩=>[(0,pT g),(1,iV (kn:Int)),(4,pT b),(5,pT c),(6,.slice ko ys.length kc),(7,.slice lo9 L9.length lc9),(8,iV j)]) (fun⟨⟨⟨j,s9⟩,⟨a9,ow9⟩⟩,⟨lo9,⟨lc9,L9⟩⟩⟩ w=>j≤ys.length∧L9.length=j∧wrK (wrB qs ids files n) qs ys s=((wrK (wrB qs ids files n) qs (ys.drop j) s9).1,L9++(wrK (wrB qs ids files n) qs (ys.drop j) s9).2)∧BiW a9 ow9 w.heap g qs ids files s9∧okS qs s9∧(∀ k,k<w5.heap.size→ow9 k=ow k)∧(∀ k,w.heap.size≤k→ow9 k=0)∧bF 3 fV 39 w.heap lo9 lc9 L9∧(∀ k,blk lo9 k→w5.heap.size≤k∧ow9 k=0)∧(∀ x∈L9,x.1.length≤255)∧aA (Lb ow) w5 w) (fun⟨⟨⟨j,s9⟩,⟨a9,ow9⟩⟩,⟨lo9,⟨lc9,L9⟩⟩⟩=>ys.length-j) ⟨⟨⟨0,s⟩,⟨a,ow⟩⟩,⟨some ⟨lb,0,none⟩,⟨0,[]⟩⟩⟩ ⟨rfl,rfl,rfl,rfl,rfl,rfl,rfl,trivial⟩ ⟨Nat.zero_le _,rfl,rfl,hM5.WR hf6,hok,fun _ _=>rfl,fun k hk=>hn k (by have:=hf6.size;omega),ho6,fun k ⟨a,ha,e⟩=>by cases ha;have e:lb=k:=e;exact⟨by omega,hn k (by omega)⟩,by simp,hf6.any⟩ ?_;rintro⟨⟨⟨j,s9⟩,⟨a9,ow9⟩⟩,⟨lo9,⟨lc9,L9⟩⟩⟩ w9 ⟨hj,hLj,hwk,hM9,hok9,hl9,hn9,ho9,hb9l,hL9,hF9⟩;refine fK 6 ?_ ?_<;>intro h61
   ·have hjl:j<ys.length:=by omega
    obtain⟨z,hz⟩:∃ z,ys[j]?=some z:=⟨_,List.getElem?_eq_getElem hjl⟩
    have hzd:ys.getD j 0=z:=by rw[List.getD,hz];rfl
    have hzm:=mem_of_getElem? hz;rw[hky] at hzm;obtain⟨i,rfl,hil,hkq⟩:=eX.1 hzm;obtain⟨r,hr⟩:∃ r,qs[i]?=some r:=⟨_,List.getElem?_eq_getElem hil⟩
    rw[qE hr] at hkq;obtain⟨hrne,hrdl⟩:=mG.1 hkq;have hrl:r.2.names.length=q.2.names.length+1:=by have h0:=length_pos_iff.2 hrne;rw[←hrdl,List.length_dropLast];omega
    have hnr:=bI hr;obtain⟨⟨hr1,hr2⟩,hrnl,hrnc,hrtl,hrxl⟩:=G.q r (mem_of_getElem? hr);obtain⟨mr,hmr⟩:=Int.eq_ofNat_of_zero_le (show 0≤r.2.ino by omega);have hdr:ys.drop j=(i:Int)::ys.drop (j+1):=by obtain⟨h,e⟩:=List.getElem?_eq_some_iff.1 hz;rw[←e];exact drop_eq_getElem_cons h
    rw[hdr] at hwk;have hb9:bdB (wrB qs ids files n (i:Int) s9):=(Ea (qs:=qs) (A9 n) (ys.drop (j+1)) _).bd (by have h:=hbK2;rw[hwk] at h;exact h);have hvy9:=hyv.WS hF9 (fun a ha h=>by have h1:=hfy a ha;have h2:=hlk5 a ha;have h:(ow a.block≠0∧ow a.block≠4):=h;exact h.1 (hn4 _ h1));refine Gz 1 ?_;refine aW [(0,_),(1,_),(4,_),(5,_),(6,_),(7,_),(8,_),(61,_)] ?_;refine Gz 11 ?_;refine cL (Tt bP rfl rfl hvy9.non (by omega)) ?_;refine cL (Tu aI rfl (hvy9.gz 0 j rfl hjl)) ?_;rw[hzd];refine Ts PU rfl (ih a9 ow9 s9 (i:Int) w9 hM9 hn9 ⟨by omega,by omega⟩ (by rw[hnr,hrl];rw[hnd] at hdp;omega) hok9 hb9) rfl ?_;rintro _ w10 hP;obtain⟨hf10,a10,ow10,hM10,hl10,hn10,hbr10⟩:=hP;have hok10:okS qs (wrB qs ids files n (i:Int) s9):=⟨by rw[(A9 n _ s9).r];exact hok9.r,hbr10,IL G n _ s9 hok9.h⟩
    obtain⟨e,ee⟩:∃ e:Ent,e=(aQ r.2.names,r.2.kind,(wrB qs ids files n (i:Int) s9).refs.getD mr 0-1):=⟨_,rfl⟩
    have hwk2:wrK (wrB qs ids files n) qs ys s=((wrK (wrB qs ids files n) qs (ys.drop (j+1)) (wrB qs ids files n (i:Int) s9)).1,(L9++[e])++(wrK (wrB qs ids files n) qs (ys.drop (j+1)) (wrB qs ids files n (i:Int) s9)).2):=by
     rw[hwk];show (_,L9++((aQ (ndB qs i).names,(ndB qs i).kind,(wrB qs ids files n (i:Int) s9).refs.getD (ndB qs i).ino.toNat 0-1)::_))=_;rw[hnr,hmr,Int.toNat_natCast,←ee,append_assoc];rfl
    obtain⟨s10,es10⟩:∃ t,t=wrB qs ids files n (i:Int) s9:=⟨_,rfl⟩
    rw[←es10] at hM10 hbr10 hok10 ee hwk2;have hz10:=hf10.size;have hz9:=hF9.size;have hl9lt:=ho9.lt;have hnl9:∀ k,blk lo9 k→¬ Lb ow9 k:=fun k hk h=>h.1 (hb9l k hk).2;have hvy10:=hvy9.WS hf10 (fun a ha h=>by have h1:=hfy a ha;have h2:=hlk5 a ha;exact h.1 (by rw[hl9 _ h2];exact hn4 _ h1));have ho10:=ho9.WS hf10 (fun a ha=>hnl9 _ ⟨a,ha,rfl⟩);have hN10:=hM10.2.2.1.1;have hg10:=hM10.1;have hR10:=hM10.2.2.2.2.2.2.2.2.1.1;obtain⟨hrn,_⟩:=hN10.2 r (mem_of_getElem? hr);have hrnn:r.1.names.n=r.2.names.length:=hrn.1;have hlr10:=hok10.r;have hrb:=hbr10.1 (s10.refs.getD mr 0) (by rw[List.getD,List.getElem?_eq_getElem (by omega)];exact List.getElem_mem _);refine Gz 3 ?_;refine TG 11 (fun H=>H[g]?=some (.cells (biK a10 qs ids files s10).toArray 76 (0,0))∧Vw i64 H ko kc ys∧VwM 10 aM H a10.lo a10.lc qs) [10,11] [0,1,2,3,4,5,6,7,8,9,10,11] aL (by kernel_rfl) (⟨hg10,hvy10,hN10.1⟩) ?_;refine Gz 6 ?_;refine xC rfl (Tt bP rfl rfl hvy10.non (by omega)) ?_;refine xC rfl (TF aI rfl (fun H hH=>hH.2.1.gz 0 j rfl hjl)) ?_;rw[hzd];refine xC rfl (Tv bH rfl rfl hN10.1.non (by omega)) ?_;refine xC rfl (Uf (cs:=aM r) eI rfl (fun H hH a v hv=>hH.2.2.rowZ i rfl hr a v hv)) ?_;refine Ty rfl rfl (Tz kT rfl ?_);intro w11 hg11 hs11 hf11;have hf11:=hf11.WP;obtain⟨d,ed⟩:∃ d,d=w10.heap.size:=⟨_,rfl⟩
    rw[show (w10.drewN 1).heap.size=d from ed.symm] at hg11 ⊢;refine TE (by exact⟨hf11.obj hg10 id,hvy10.WR hf11,hN10.1.WR hf11⟩) ?_;refine Ty rfl rfl (TX (vs:=aM r) eI rfl rfl (aB r).2 hg11 rfl ?_);intro w12 hd12 hs12 hf12;refine T6 rfl ?_;have hf1012:aA nob w10 w12:=hf11.tw hf12;have hg12:=hf1012.obj hg10 id;have hr12:=hrn.2.1.WR hf1012;have hR12:=hR10.vw.WR hf1012;refine Gz 2 ?_;refine TG 24 (fun H=>H[d]?=some (.cells (aM r).toArray 68 (0,0))∧H[g]?=some (.cells (biK a10 qs ids files s10).toArray 76 (0,0))∧Vw lJ H r.1.names.a r.1.names.c r.2.names∧Vw i64 H a10.ro a10.rc s10.refs) [21,22] [0,1,2,3,4,5,6,7,8,9,10,11,12,13,14,15,16,17,18,19,20,21,22,23] aL (by kernel_rfl) (⟨hd12,hg12,hr12,hR12⟩) ?_;refine Gz 2 ?_;refine xC rfl (Tw (u:=.slice r.1.names.a r.2.names.length r.1.names.c) (TF kI rfl (fun H hH=>aE hH.1 rfl)) (by rw[←hrnn];rfl)) ?_;refine Gz 1 ?_;refine xC rfl (Tw (u:=.slice r.1.names.a r.2.names.length r.1.names.c) (TF kI rfl (fun H hH=>aE hH.1 rfl)) (by rw[←hrnn];rfl)) ?_;refine Gz 1 ?_;refine xC rfl (Tw (u:=iV ((r.2.names.length-1:Nat):Int)) (UY rfl rfl (by omega)) (by congr 1;omega)) ?_;refine xC rfl (Tt jO rfl rfl hr12.non (by omega)) ?_;refine xC rfl (TF gU rfl (fun H hH=>hH.2.2.1.gz [] (r.2.names.length-1) rfl (by omega))) ?_;refine Gz 8 ?_;refine xC rfl (Tt bP rfl rfl hR12.non (by omega)) ?_;refine xC rfl (TF aI rfl (fun H hH=>hH.2.2.2.gz 0 mr hmr (by omega))) ?_;refine Gz 1 ?_;refine xC rfl (bU (fV (aQ r.2.names,r.2.kind,s10.refs.getD mr 0-1)) NR D6) ?_;rw[←ee];refine Ty rfl rfl (TS rA (cs:=(fV e).toArray) D6 rfl rfl rfl (by kernel_rfl) rfl ?_);intro w13 hg13 hs13 hf13;have hf13:=hf13.WP;have ho13:=bL (e:=39) (xs:=[e]) cH (by simpa using hg13) (by show 1≤maxLen;decide);refine TE (by exact⟨hf13.obj hd12 id,hf13.obj hg12 id,hr12.WR hf13,hR12.WR hf13⟩) ?_;refine Ty rfl rfl (TH cH rfl rA rfl rfl ((ho10.WR hf1012).WR hf13) (ho13.vw cH) (by simp only[length_singleton];omega) (by simp only[length_singleton];unfold maxLen;omega) rfl ?_);intro lo14 lc14 w14 ho14 hf14 hr14 hn14;have hf1013:=hf1012.trans hf13;have hz13:=hf1013.size;have hz14:=hf14.size;have hn9l:∀ k,blk lo9 k→ow10 k=0:=fun k hk=>by
     have hk2:k<w9.heap.size:=by obtain⟨x,hx,hxe⟩:=hk;have:=hl9lt x hx;omega
     rw[hl10 k hk2];exact(hb9l k hk).2
    refine TE (by exact⟨hf14.obj (hf13.obj hd12 id) (fun⟨x,hx,hxe⟩=>by have:=hl9lt x hx;omega),hf14.obj (hf13.obj hg12 id) (fun h=>by have:=hn9l g h;rw[hM10.2.1] at this;omega),(hr12.WR hf13).WS hf14 (fun x hx h=>by have h1:=hrn.2.2 hrne _ ⟨x,hx,rfl⟩;have h1:ow10 x.block=4:=h1;have:=hn9l _ h;omega),(hR12.WR hf13).WS hf14 (fun x hx h=>by have h1:=hM10.2.2.2.2.2.2.2.2.1.2 _ ⟨x,hx,rfl⟩;have:=hn9l _ h;omega)⟩) ?_;have hM14:=(hM10.WR hf1013).WS hf14 (fun k hk hb=>hk (hn9l k hb)) (fun _ _=>rfl);have hF14:aA (Lb ow) w5 w14:=((MV hl9 hF9 hf10).trans hf1013.any).WO hf14 (fun k h=>.inr (hb9l k h).1);have hb14:∀ k,blk lo14 k→w5.heap.size≤k∧ow10 k=0:=fun k hk=>by
     obtain⟨x,hx,hxe⟩:=hk;rcases hr14 x hx with h|h
     ·exact⟨(hb9l k ⟨x,h,hxe⟩).1,hn9l k ⟨x,h,hxe⟩⟩
     ·exact⟨by omega,hn10 k (by omega)⟩
    refine Gz 9 ?_;exact aG ⟨⟨⟨j+1,s10⟩,⟨a10,ow10⟩⟩,⟨lo14,⟨lc14,L9++[e]⟩⟩⟩ ⟨by omega,by rw[length_append,hLj];rfl,hwk2,hM14,hok10,fun k hk=>by rw[hl10 k (by omega)];exact hl9 k hk,fun k hk=>hn10 k (by omega),ho14,hb14,fun x hx=>by
     rcases mem_append.1 hx with hx|hx
     ·exact hL9 x hx
     ·rw[mem_singleton] at hx;subst hx;rw[ee];exact Di hrnc,hF14⟩ (by show ys.length-(j+1)<ys.length-j;omega)
   have hje:ys.drop j=[]:=List.drop_of_length_le (by omega);rw[hje] at hwk;have hwk:wrK (wrB qs ids files n) qs ys s=(s9,L9):=by rw[hwk];show (s9,L9++[])=(s9,L9);rw[append_nil]
   rw[hwk] at hwr hbK hbK2;have hL9n:L9.length≤1024:=by omega
   refine Gz 1 ?_;refine aW [(0,_),(1,_),(4,_),(5,_),(6,_),(7,_),(8,_),(61,_)] ?_;refine Gz 10 ?_;refine Ts SU rfl (JJ lo9 lc9 L9 w9 (ho9.vw cH) (fun x hx=>Nat.le_trans (hL9 x hx) (by decide)) (by omega)) rfl ?_;rintro _ w10 ⟨o10,c10,rfl,ho10,hfr10,hf10⟩;have hz10:=hf10.size;have hz9:=hF9.size;have hbk5:b<w5.heap.size:=by omega
   have hck5:c<w5.heap.size:=by omega
   have hb10:=hf10.obj (hF9.obj hb5 (fun h=>h.1 hbl)) id;have hc10:=hf10.obj (hF9.obj hc5 (fun h=>h.1 hcl)) id;refine Gz 12 ?_;refine Tx aI rfl rfl rfl hc10 rfl ?_;intro w11 hc11 hs11 hf11;have hM11:=(hM9.WR hf10).WS hf11 (fun k hk h=>hk (by have h:k=c:=h;rw[h,hl9 c hck5];exact hcl)) (fun _ _=>rfl);have ho11:=ho10.WS hf11 (fun x hx h=>by have h:x.block=c:=h;have:=hfr10 x hx;omega);have hb11:=hf11.obj hb10 hbc;refine Gz 7 ?_;refine Ts K1 rfl (Iw o10 c10 (lM L9).1 w11 hM11 (fun k hk=>hn9 k (by omega)) ho11.vw (fun _ k ⟨x,hx,hxe⟩=>.inl (hn9 k (by have:=hfr10 x hx;omega))) (by have h:=hbK.2.1;simp only[length_append] at h;omega)) rfl ?_;rintro _ w12 ⟨rfl,a12,ow12,hM12,_,q1,q2,hf12⟩;have hb12:=hf12.obj hb11 (fun h=>by have h:b=g∨ow9 b=2:=h;rw[hl9 b hbk5,hbl] at h;omega);have hc12:=hf12.obj hc11 (fun h=>by have h:c=g∨ow9 c=2:=h;rw[hl9 c hck5,hcl] at h;omega);refine Gz 1 ?_;refine Tx aI rfl rfl rfl hc12 rfl ?_;intro w13 hc13 hs13 hf13;refine Gz 2 ?_;have hc12l:ow12 c=0:=by rw[q1 c (by omega),hl9 c hck5];exact hcl
   have hM13:=hM12.WS hf13 (fun k hk h=>hk (by have h:k=c:=h;rw[h];exact hc12l)) (fun _ _=>rfl);refine aC ⟨⟨{ s9 with lst:=s9.lst++(lM L9).1 },In s9 (lM L9).1⟩,⟨a12,ow12⟩⟩ ⟨hM13,hf13.obj hb12 hbc,hc13,hwr,⟨hok9.r,hok9.b,hok9.h⟩,Nat.zero_le _,fun k hk=>by rw[q1 k (by omega),hl9 k (by omega)],fun k hk=>q2 k (by omega),?_⟩;have hf49:aA (Lb ow) w4 w9:=hf5.any.trans hF9;have hf411:aA (fun k=>Lb ow k∨k=c) w4 w11:=((hf49.mono (fun k h=>.inl h)).trans hf10.any).trans (hf11.mono (fun k h=>.inr h));refine(hf411.WO hf12 (fun k h=>?_)).trans (hf13.mono (fun k h=>.inr h));have h:k=g∨ow9 k=2:=h;by_cases hk:k<w5.heap.size
   · rw[hl9 k hk] at h
     refine .inl (.inl ?_);show ow k≠0∧ow k≠4;rcases h with h|h
     ·rw[h,h6];decide
     ·rw[h];decide
   ·exact .inr (by omega)
  rw[if_neg h49] at hwr;refine Gz 6 ?_;exact aC ⟨⟨s,(zF,[])⟩,⟨a,ow⟩⟩ ⟨hM4,hb4,hc4,hwr,hok,Nat.zero_le _,fun _ _=>rfl,hn4,Wt _ _⟩
 rintro⟨⟨s8,i8⟩,⟨a8,ow8⟩⟩ w8 ⟨hM8,hb8,hc8,hw8,hok8,hi8,hl8,hn8,hF8⟩;refine Gz 3 ?_;have hz8:=hF8.size;have hcs:c<w4.heap.size:=by omega
 have hbs:b<w4.heap.size:=by omega
 have hc8l:ow8 c=0:=by rw[hl8 c hcs];exact hcl
 have hb8l:ow8 b=0:=by rw[hl8 b hbs];exact hbl
 have kc:∀ {w w2:World} {S:Nat→Prop},(∀ k,S k→k=c)→BiW a8 ow8 w.heap g qs ids files s8→aA S w w2→BiW a8 ow8 w2.heap g qs ids files s8:=fun hS hM hf=>hM.WS hf (fun k hk h=>hk (by rw[hS k h];exact hc8l)) (fun _ _=>rfl);obtain⟨R,hR⟩:∃ R,R=cY s8 q.2.xs:=⟨_,rfl⟩
 have hfix:jV qs ids (kn:Int) i8 s8 = { R.2 with ino:=R.2.ino++(pK (inB qs ids kn i8 R.1).1 (inB qs ids kn i8 R.1).2).1,refs:=R.2.refs.set m ((aN R.2.ino R.2.ino.length:Nat)+1),many:=R.2.many+1 }:=by unfold jV;rw[hnd,←hR,hm,Int.toNat_natCast]
 have hbF:bdB R.2:=by have h:=(GJ (qs:=qs) (ids:=ids) kn i8 s8).bd (by rw[←hw8];exact hbd);rw[hnd,←hR] at h;exact h
 have hbT:R.2.ino.length+(pK (inB qs ids kn i8 R.1).1 (inB qs ids kn i8 R.1).2).1.length≤137438953472:=by have h:=hbd.1;rw[hw8,hfix] at h;simp only[length_append] at h;exact h
 refine Gz 2 ?_;refine Tx aI rfl rfl rfl hc8 rfl ?_;intro w9 hc9 hs9 hf9;have hb9:=hf9.obj hb8 hbc;refine Gz 6 ?_;refine cL (Tu aI rfl (aE (i:=3) hb9 rfl)) ?_;refine Gz 1 ?_;refine Tx aI rfl rfl rfl hc9 rfl ?_;intro w10 hc10 hs10 hf10;have hb10:=hf10.obj hb9 hbc;have hM10:=kc (fun _ h=>h) (kc (fun _ h=>h) hM8 hf9) hf10;refine Gz 3 ?_;refine TG 9 (fun H=>H[g]?=some (.cells (biK a8 qs ids files s8).toArray 76 (0,0))∧H[b]?=some (.cells (aM q).toArray 68 (0,0))) [7,9] [0,1,2,3,4,5,6,7,8,9] aL (by kernel_rfl) (⟨hM10.1,hb10⟩) ?_;refine Gz 6 ?_;refine xC rfl (TF aI rfl (fun H hH=>aE (i:=4) hH.2 rfl)) ?_;refine Ty rfl rfl (Ts PQ rfl (Af a8.io a8.ic ids q.2.ud (w10.drewN 1) (hM10.2.2.2.1.1.WR (Wu 1))) rfl ?_);rintro _ w11 ⟨rfl,hw⟩;subst hw;refine TE (by exact⟨hM10.1,hb10⟩) ?_;refine Gz 1 ?_;refine Ty rfl rfl (Tx aI rfl rfl rfl hc10 rfl ?_);intro w12 hc12 hs12 hf12;refine T6 rfl ?_;have hf12:=hf12.WP;have hb12:=hf12.obj hb10 hbc;have hM12:=kc (fun _ h=>h) hM10 hf12;have hs12b:w12.heap.size=w10.heap.size:=hs12;refine Gz 3 ?_;refine TG 9 (fun H=>H[g]?=some (.cells (biK a8 qs ids files s8).toArray 76 (0,0))∧H[b]?=some (.cells (aM q).toArray 68 (0,0))) [7,9] [0,1,2,3,4,5,6,7,8,9] aL (by kernel_rfl) (⟨hM12.1,hb12⟩) ?_;refine Gz 6 ?_;refine xC rfl (TF aI rfl (fun H hH=>aE (i:=5) hH.2 rfl)) ?_;refine Ty rfl rfl (Ts PQ rfl (Af a8.io a8.ic ids q.2.gd (w12.drewN 1) (hM12.2.2.2.1.1.WR (Wu 1))) rfl ?_);rintro _ w13 ⟨rfl,hw⟩;subst hw;refine TE (by exact⟨hM12.1,hb12⟩) ?_;refine Gz 1 ?_;refine Ty rfl rfl (Tx aI rfl rfl rfl hc12 rfl ?_);intro w14 hc14 hs14 hf14;refine T6 rfl ?_;have hf14:=hf14.WP;have hb14:=hf14.obj hb12 hbc;have hM14:=kc (fun _ h=>h) hM12 hf14;have hs14b:w14.heap.size=w12.heap.size:=hs14;refine Gz 7 ?_;refine cL (Tu NM rfl (aE hM14.1 rfl)) ?_;refine cA 1 ST (Ho a8.lo a8.lc qs kn w14 hM14.2.2.1.1) ?_;rintro _ w15 ⟨rfl,hf15⟩;have hz15:=hf15.size;refine Gz 1 ?_;refine Tx aI rfl rfl rfl (hf15.obj hc14 id) rfl ?_;intro w16 hc16 hs16 hf16;have hb16:=hf16.obj (hf15.obj hb14 id) hbc;have hM16:=kc (fun _ h=>h) (hM14.WR hf15) hf16;have hX16:=(hM16.2.2.1.1.2 q (mem_of_getElem? hq)).2.2;have hxn:q.1.xs.n=q.2.xs.length:=hX16.1;have hX16:=hX16.eta;have hn16:∀ k,w16.heap.size≤k→ow8 k=0:=fun k hk=>hn8 k (by omega);refine Gz 6 ?_;refine cL (Tw (u:=.slice q.1.xs.a q.2.xs.length q.1.xs.c) (Tu dN rfl (aE hb16 rfl)) (by rw[←hxn];rfl)) ?_;refine cA 0 SS (CI a8 ow8 g qs ids files s8 q.1.xs.a q.1.xs.c q.2.xs w16 hM16 hn16 hX16 hxl hok8.h (hR ▸ hbF) hok8.b) ?_;rw[←hR];rintro _ w17 ⟨rfl,hf17,a17,ow17,hM17,hl17,hn17,hbr17⟩;have hz17:=hf17.size;have hb17:=hf17.obj hb16 (fun h=>h.1 hb8l);have hc17:=hf17.obj hc16 (fun h=>h.1 hc8l);have hc17l:ow17 c=0:=by rw[hl17 c (by omega)];exact hc8l
 have hb17l:ow17 b=0:=by rw[hl17 b (by omega)];exact hb8l
 refine Gz 1 ?_;refine Tx aI rfl rfl rfl hc17 rfl ?_;intro w18 hc18 hs18 hf18;have hb18:=hf18.obj hb17 hbc;have hM18:=hM17.WS hf18 (fun k hk h=>hk (by have h:k=c:=h;rw[h];exact hc17l)) (fun _ _=>rfl);have hcF:w18.heap[c]?=some (.cells (aZ (inB qs ids kn i8 R.1).1 (inB qs ids kn i8 R.1).2).toArray 84 (0,0)):=by unfold inB;rw[hnd];exact hc18
 refine Gz 4 ?_;refine cL (TI (cs:=aZ (inB qs ids kn i8 R.1).1 (inB qs ids kn i8 R.1).2) cT rfl (cC hcF 0 rfl)) ?_;refine Ts SR rfl (Md (inB qs ids kn i8 R.1).1 (inB qs ids kn i8 R.1).2 w18 (by show i8.2.length≤maxLen;unfold maxLen;omega)) rfl ?_;rintro _ w19 ⟨o19,c19,rfl,ho19,hfr19,hf19⟩;have hz19:=hf19.size;have hb19:=hf19.obj hb18 id;have hM19:=hM18.WR hf19;refine Gz 8 ?_;refine TG 13 (fun H=>bE H ((⟨g,0,none⟩:Addr).add 8)=some (.slice a17.ro R.2.refs.length a17.rc)∧H[b]?=some (.cells (aM q).toArray 68 (0,0))) [10,13] [0,1,2,3,4,5,6,7,8,9,10,11,12,13] aL (by kernel_rfl) (⟨aE hM19.1 rfl,hb19⟩) ?_;refine Gz 3 ?_;refine xC rfl (TF pS rfl (fun H hH=>hH.1)) ?_;refine Gz 6 ?_;refine Ty rfl rfl (Ts K1 rfl (Iy o19 c19 (pK (inB qs ids kn i8 R.1).1 (inB qs ids kn i8 R.1).2).1 (w19.drewN 1) (hM19.WR (Wu 1)) (fun k hk=>hn17 k (by have hk:w19.heap.size≤k:=hk;omega)) (ho19.vw.WR (Wu 1)) (fun _ k ⟨x,hx,hxe⟩=>.inl (hn17 k (by have:=hfr19 x hx;omega))) (by omega)) rfl ?_);rintro _ w20 ⟨rfl,a20,ow20,hM20,⟨_,_,hro,hrc⟩,q1,q2,hf20⟩;obtain⟨s20,es20⟩:∃ t:BSt,t = { R.2 with ino:=R.2.ino++(pK (inB qs ids kn i8 R.1).1 (inB qs ids kn i8 R.1).2).1 }:=⟨_,rfl⟩
 rw[←es20] at hM20;have zr:s20.refs=R.2.refs:=by rw[es20]
 have zm:s20.many=R.2.many:=by rw[es20]
 have hf20:=hf20.WP;have hb20:=hf20.obj hb19 (fun h=>by have h:b=g∨ow17 b=1:=h;rw[hb17l] at h;omega);refine TE (by exact⟨by rw[←hro,←hrc,←zr];exact aE hM20.1 rfl,hb20⟩) ?_;have hrT:aN R.2.ino R.2.ino.length≤1152921504606846976:=JC (by have:=hbF.1;omega);have hR20:=hM20.2.2.2.2.2.2.2.2.1.1;have hRl:R.2.refs.length=qs.length+1:=by rw[hR,(GF s8 q.2.xs).r];exact hok8.r
 rw[hro,hrc] at hR20;refine Gz 1 ?_;refine xC rfl (Tt bP rfl rfl (by rw[←zr];exact hR20.vw.non) (by omega)) ?_;refine Ty rfl rfl (T7 kR aI rfl rfl hR20 (by rw[zr];omega) ?_);intro w21 ho21 hs21 hf21;refine T6 rfl ?_;rw[hm,Int.toNat_natCast] at ho21;have hM21:=hM20.refsup (by rw[hro,hrc];exact ho21) (by rw[hro];exact hf21);refine Gz 6 ?_;refine cL (Tw (u:=iV (R.2.many:Nat)) (Tu aI rfl (aE hM21.1 rfl)) (by show Value.int .i64 ((s20.many:Nat):Int)=_;rw[zm])) ?_;refine cL (Us rfl rfl (by have:=hbF.2.2.2.2;omega)) ?_;refine Gz 2 ?_;refine Tx aI rfl rfl rfl hM21.1 rfl ?_;intro w22 hg22 hs22 hf22;have hM22:=hM21.manyup (n:=R.2.many+1) hg22 hf22;refine Gz 1 ?_;refine Uw rfl ?_;rw[es20] at hM22;rw[hw8,hfix];have A8:aA (Lb ow) W w8:=(hF4.any (S:=Lb ow)).WO hF8 (fun k h=>h.elim .inl (fun h=>.inr (by omega)));have A10:=(A8.tw hf9).tw hf10;have A14:=(A10.tw hf12).tw hf14;have A16:=(A14.trans hf15.any).tw hf16;have l8:∀ k,k<W.heap.size→ow8 k=ow k:=fun k hk=>hl8 k (by omega);have l17:∀ k,k<W.heap.size→ow17 k=ow k:=fun k hk=>by rw[hl17 k (by omega),l8 k hk]
 have lg:Lb ow g:=by show ow g≠0∧ow g≠4;rw[h6];decide
 have A18:=(A16.WO hf17 (fun k h=>by
  by_cases hk:k<W.heap.size
  · have h:ow8 k≠0∧ow8 k≠4:=h
    rw[l8 k hk] at h;exact .inl h
  ·exact .inr (by omega))).tw hf18
 have A20:=(A18.trans hf19.any).WO hf20 (fun k h=>by
  by_cases hk:k<W.heap.size
  · have h:k=g∨ow17 k=1:=h
    rw[l17 k hk] at h;refine .inl ?_;rcases h with h|h
    ·rw[h];exact lg
    · show ow k≠0∧ow k≠4
      rw[h];decide
  ·exact .inr (by omega))
 have A22:=(A20.WO hf21 (fun k h=>by
  by_cases hk:k<W.heap.size
  · have h5:=hM17.2.2.2.2.2.2.2.2.1.2 k h
    rw[l17 k hk] at h5;refine .inl ?_;show ow k≠0∧ow k≠4;rw[h5];decide
  ·exact .inr (by omega))).trans (hf22.mono (fun k h=>by have h:k=g:=h;rw[h];exact lg))
 refine⟨_,rfl,A22,a20,ow20,hM22,fun k hk=>by rw[q1 k (by show k<w19.heap.size;omega),l17 k hk],fun k hk=>q2 k (by omega),fun z hz=>?_,hbr17.2⟩;have hz:z∈R.2.refs.set m (((aN R.2.ino R.2.ino.length:Nat):Int)+1):=hz;rcases List.mem_or_eq_of_mem_set hz with hz|hz
 ·exact hbr17.1 z hz
 ·omega
theorem Ab(g:Nat)(qs:List (NdH×Nd))(ids:List Int)(files:List Ino)(G:GdB qs files):∀ (n:Nat),WrS g qs ids files n
|0=>fun a ow s k W hM hn hk hdp hok hbd=>by
   exfalso;obtain⟨kn,rfl⟩:=Int.eq_ofNat_of_zero_le hk.1;obtain⟨q,hq⟩:∃ q,qs[kn]?=some q:=⟨_,List.getElem?_eq_getElem (by omega)⟩
   have h:=(G.q q (mem_of_getElem? hq)).2.1;rw[bI hq] at hdp;omega
|n+1=>Es g qs ids files G n (Ab g qs ids files G n)
section
open Go Go.RowKit Go.Maps
def tT(l:List Nd):Prop:=l.length≤1024∧(∀ n∈l,∀ s∈n.names,dV s=0)∧(∀ n∈l,n.names.length≤16)∧(l.Pairwise fun a b=>a.names≠b.names)∧gL l []∧(∀ n∈l,n.names≠[]→gL l n.names.dropLast)∧(∀ n∈l,pM n)∧l.Pairwise oI
theorem yJ(l:List Nd):chk l=0↔tT l:=by
 constructor
 · intro h
   have h1:=DM h;have h2:=wT (CX h1);have h3:=HJ h1;have hm:¬ ∃ n∈l,¬ pM n:=fun hm=>by
    rw[jX,h1,if_neg (show ¬ ((0:Int)≠0) from fun h=>h rfl),if_pos hm] at h;cases h
   have hl:l.Pairwise oI:=by
    apply byContradiction;intro hl;rw[jX,h1,if_neg (show ¬ ((0:Int)≠0) from fun h=>h rfl),if_neg hm,if_neg hl] at h;cases h
   exact⟨GR h,fun n hn s hs=>h2.1 s (mem_flatMap.2 ⟨n,hn,hs⟩),h2.2.1,not_not.1 h2.2.2,h3.1,h3.2,fun n hn=>byContradiction fun h=>hm ⟨n,hn,h⟩,hl⟩
 · rintro⟨g1,g2,g3,g4,g5,g6,g7,g8⟩
   have e1:jA (gP l)=0:=wU fun s hs=>by obtain⟨n,hn,h⟩:=mem_flatMap.1 hs;exact g2 n hn s h
   have e2:nmd l=0:=by
    unfold nmd;rw[if_neg (fun h=>h e1),if_neg (fun⟨n,hn,h⟩=>by have:=g3 n hn;omega),if_neg (fun h=>h g4)]
   have e3:plc l=0:=by
    unfold plc;rw[if_neg (by omega),if_neg (fun h=>h e2),if_neg (fun h=>h g5),if_neg (fun⟨n,hn,h1,h2⟩=>h2 (g6 n hn h1))]
   rw[jX,e3,if_neg (show ¬ ((0:Int)≠0) from fun h=>h rfl),if_neg (fun⟨n,hn,h⟩=>h (g7 n hn)),if_pos g8]
theorem H4{a b:Nd}(h:oI a b):oI b a:=fun e=>by
 obtain⟨h1,h2⟩:=h e.symm;exact⟨by rw[←h2.1];exact h1,h2.symm⟩
theorem yC{l m:List Nd}(h:l.Perm m){s:List By}(hd:gL l s):gL m s:=by
 obtain⟨n,hn,h1,h2⟩:=hd;exact⟨n,h.mem_iff.1 hn,h1,h2⟩
theorem tS{l m:List Nd}(h:l.Perm m)(g:tT l):tT m:=by
 obtain⟨g1,g2,g3,g4,g5,g6,g7,g8⟩:=g;exact⟨by rw[←h.length_eq];exact g1,fun n hn=>g2 n (h.mem_iff.2 hn),fun n hn=>g3 n (h.mem_iff.2 hn),(h.pairwise_iff (fun h e=>h e.symm)).1 g4,yC h g5,fun n hn hne=>yC h (g6 n (h.mem_iff.2 hn) hne),fun n hn=>g7 n (h.mem_iff.2 hn),(h.pairwise_iff (fun h=>H4 h)).1 g8⟩
def wL(f:Int→Int)(n:Nd):Nd:={ n with ino:=f n.ino }
def GT(f:Int→Int)(zs:List Int):Prop:=∀ a∈zs,∀ b∈zs,f a=f b→a=b
theorem AP{f:Int→Int}{l:List Nd}{s:List By}:gL (l.map (wL f)) s↔gL l s:=by
 constructor
 · rintro⟨n,hn,h1,h2⟩
   obtain⟨m,hm,rfl⟩:=mem_map.1 hn;exact⟨m,hm,h1,h2⟩
 · rintro⟨n,hn,h1,h2⟩
   exact⟨wL f n,mem_map.2 ⟨n,hn,rfl⟩,h1,h2⟩
theorem Do{f:Int→Int}{l:List Nd}(hf:GT f (l.map (·.ino))):tT (l.map (wL f))↔tT l:=by
 have hp:∀ {R R':Nd→Nd→Prop},(∀ a∈l,∀ b∈l,R (wL f a) (wL f b)↔R' a b)→((l.map (wL f)).Pairwise R↔l.Pairwise R'):=fun {R R'} h=>by
  rw[List.pairwise_map];exact⟨fun g=>g.imp_of_mem (fun ha hb=>(h _ ha _ hb).1),fun g=>g.imp_of_mem (fun ha hb=>(h _ ha _ hb).2)⟩
 have hl:(l.map (wL f)).Pairwise oI↔l.Pairwise oI:=hp fun a ha b hb=>by
  unfold oI;constructor
  ·intro h e;exact h (by show f b.ino=f a.ino;rw[e])
  ·intro h e;exact h (hf _ (mem_map.2 ⟨b,hb,rfl⟩) _ (mem_map.2 ⟨a,ha,rfl⟩) e)
 have hn:((l.map (wL f)).Pairwise fun a b=>a.names≠b.names)↔l.Pairwise fun a b=>a.names≠b.names:=hp fun a _ b _=>Iff.rfl;unfold tT;rw[hl,hn,length_map,AP];simp only[List.forall_mem_map,AP];exact Iff.rfl
theorem J5(zs:List Int):GT (oF zs) zs:=fun a ha b hb h=>by
 unfold oF at h;have h1:=List.idxOf_lt_length_iff.2 (kH.2 ha);have h2:=List.idxOf_lt_length_iff.2 (kH.2 hb);have e:(cG zs).idxOf a=(cG zs).idxOf b:=by omega
 have g1:=List.getElem_idxOf h1;have g2:=List.getElem_idxOf h2;rw[←g1,←g2];exact getElem_congr_idx e
def Mj(f:Int→Int)(p:NdH×Nd):NdH×Nd:=(p.1,wL f p.2)
theorem Mz(f:Int→Int)(ps:List (NdH×Nd)):nds (ps.map (Mj f))=(nds ps).map (wL f):=by simp[nds,Mj,Function.comp_def]
theorem M6{f:Int→Int}{ps qs:List (NdH×Nd)}(hp:qs.Perm (ps.map (Mj f)))(hf:GT f (bD ps)):tT (nds qs)↔tT (nds ps):=by
 have h1:(nds qs).Perm ((nds ps).map (wL f)):=by rw[←Mz];exact hp.map _
 have h2:GT f ((nds ps).map (·.ino)):=by
  have e:(nds ps).map (·.ino)=bD ps:=by simp[nds,bD,Function.comp_def]
  rw[e];exact hf
 constructor
 ·intro g;exact(Do h2).1 (tS h1 g)
 ·intro g;exact tS h1.symm ((Do h2).2 g)
theorem Lz{ps:List (NdH×Nd)}(g:tT (nds ps)):tT (nds (gD ps)):=by
 have e:gD ps=(jN ps).map (Mj (oF (bD (jN ps)))):=rfl;refine(M6 (f:=oF (bD (jN ps))) (ps:=jN ps) (by rw[e]) (J5 _)).2 ?_;exact tS ((nS ps).symm.map _) g
end
section
open Go Go.RowKit Go.Maps
structure GdT (qs:List (NdH×Nd)):Prop where
 n:0<qs.length∧qs.length≤40
 ino:∀ q∈qs,1≤q.2.ino∧q.2.ino≤qs.length
 may:∀ q∈qs,pM q.2
 nmv:∀ q∈qs,∀ c∈q.2.names,dV c=0
 dep:∀ q∈qs,q.2.names.length≤16
 lt:∀ (i j:Nat) (p q:NdH×Nd),i<j→qs[i]?=some p→qs[j]?=some q→bX p.2.names q.2.names=true
 lnk:∀ (i j:Nat) (p q:NdH×Nd),i≠j→qs[i]?=some p→qs[j]?=some q→p.2.ino=q.2.ino→p.2.kind≠1∧Alk p.2 q.2
 root:∃ q,qs[0]?=some q∧q.2.names=[]∧q.2.kind=1
 up:∀ q∈qs,q.2.names≠[]→∃ p∈qs,p.2.names=q.2.names.dropLast∧p.2.kind=1
theorem DP(ps:List (NdH×Nd)):(gD ps).length=ps.length:=Nv (ps:=ps) rfl
theorem LA(ps:List (NdH×Nd)):∀ q∈gD ps,1≤q.2.ino∧q.2.ino≤(gD ps).length:=by
 intro q hq;obtain⟨i,hi⟩:=List.getElem?_of_mem hq;obtain⟨h1,h2,_⟩:=Nw (ps:=ps) rfl hi;have h3:=(List.getElem?_eq_some_iff.1 hi).1;have h4:wF ps i≤i:=by
  have:=FZ (bD ((jN ps).take i));have:(bD ((jN ps).take i)).length≤i:=by simp[bD];omega
  unfold wF;omega
 omega
theorem Fb{ps:List (NdH×Nd)}(hz:chk (nds ps)=0)(hl:ps.length≤40):GdT (gD ps):=by
 have g:=Lz ((yJ _).1 hz);obtain⟨qs,hqs⟩:∃ qs,qs=gD ps:=⟨_,rfl⟩
 have hlen:=DP ps;have hino:=LA ps;have hq:nds qs=nds (gD ps):=by rw[hqs]
 rw[←hqs] at g hlen hino ⊢;obtain⟨g1,g2,g3,g4,g5,g6,g7,g8⟩:=g;have hlt:∀ (i j:Nat) (p q:NdH×Nd),i<j→qs[i]?=some p→qs[j]?=some q→bX p.2.names q.2.names=true:=fun i j p q hij hp h=>Pe (AX hz) hq hij hp h;have hmem:∀ q∈qs,q.2∈nds qs:=fun q h=>mem_map.2 ⟨q,h,rfl⟩;have hr:∃ q,qs[0]?=some q∧q.2.names=[]∧q.2.kind=1:=by
  obtain⟨n,hn,h1,h2⟩:=g5;obtain⟨q,hqm,rfl⟩:=mem_map.1 hn;obtain⟨i,hi⟩:=List.getElem?_of_mem hqm;have hi0:=(List.getElem?_eq_some_iff.1 hi).1;by_cases e:i=0
  ·subst e;exact⟨q,hi,h1,h2⟩
  · have:=hlt 0 i _ q (by omega) (List.getElem?_eq_getElem (by omega)) hi
    rw[h1,H5] at this;cases this
 refine⟨⟨?_,by omega⟩,hino,fun q h=>g7 _ (hmem q h),fun q h=>g2 _ (hmem q h),fun q h=>g3 _ (hmem q h),hlt,fun i j p q hij hp h e=>?_,hr,fun q h hne=>?_⟩
 · obtain⟨q,h,_⟩:=hr
   have:=(List.getElem?_eq_some_iff.1 h).1;omega
 · have hp':=iA hp
   have hq':=iA h;have l1:=(List.getElem?_eq_some_iff.1 hp').1;have l2:=(List.getElem?_eq_some_iff.1 hq').1;have e1:=(List.getElem?_eq_some_iff.1 hp').2;have e2:=(List.getElem?_eq_some_iff.1 hq').2;rcases Nat.lt_or_gt_of_ne hij with c|c
   · have:=List.pairwise_iff_getElem.1 g8 i j l1 l2 c
     rw[e1,e2] at this;obtain⟨a,b⟩:=this e.symm;have b':=b.symm;exact⟨fun hk=>a (by rw[←b'.1];exact hk),b'⟩
   · have:=List.pairwise_iff_getElem.1 g8 j i l2 l1 c
     rw[e1,e2] at this;exact this e
 · obtain⟨n,hn,h1,h2⟩:=g6 _ (hmem q h) hne
   obtain⟨p,hp,rfl⟩:=mem_map.1 hn;exact⟨p,hp,h1,h2⟩
section
variable {qs:List (NdH×Nd)}(G:GdT qs)
include G
theorem GdT.inj{i j:Nat}{p q:NdH×Nd}(hp:qs[i]?=some p)(h:qs[j]?=some q)(e:p.2.names=q.2.names):i=j:=by
 rcases Nat.lt_trichotomy i j with g|g|g
 ·have:=G.lt i j p q g hp h;rw[e,AC] at this;cases this
 ·exact g
 ·have:=G.lt j i q p g h hp;rw[e,AC] at this;cases this
theorem GdT.kids{s:List By}{ys:List Int}(h:A7 qs s ys):ys=bN qs s qs.length:=by
 refine h.uniq ⟨List.Perm.refl _,?_⟩;refine JQ ?_;have h1:=mH (ps:=qs) (s:=s) qs.length;refine List.Pairwise.imp_of_mem (fun {a b} ha hb hab=>?_) h1;obtain⟨x,rfl,hx,_⟩:=eX.1 ha;obtain⟨y,rfl,hy,_⟩:=eX.1 hb;obtain⟨p,hp,ep⟩:=vC qs hx;obtain⟨q,hq',eq⟩:=vC qs hy;have hl:=G.lt x y p q (by omega) hp hq';refine .inl ?_;show eH (nmG qs ((x:Int)).toNat) (nmG qs ((y:Int)).toNat)<0;rw[Int.toNat_natCast,Int.toNat_natCast,ep,eq];unfold bX at hl;exact of_decide_eq_true hl
theorem GdT.nodir{i:Nat}{p:NdH×Nd}(hp:qs[i]?=some p)(hk:p.2.kind≠1):bN qs p.2.names qs.length=[]:=by
 apply List.eq_nil_iff_forall_not_mem.2;intro z h;obtain⟨k,rfl,hkl,hkq⟩:=eX.1 h;obtain⟨q,hq',eq⟩:=vC qs hkl;rw[eq] at hkq;obtain⟨hne,hd⟩:=mG.1 hkq;obtain⟨r,hrm,h1,h2⟩:=G.up q (mem_of_getElem? hq') hne;obtain⟨j,hr⟩:=List.getElem?_of_mem hrm;have e:=G.inj hr hp (h1.trans hd);subst e;rw[hr] at hp;cases hp;exact hk h2
theorem GdT.gdB{files:List Ino}(h1:files.length=qs.length+1)(h2:∀ f∈files,f.2.length≤200):GdB qs files where
 q:=fun q hq=>by
  have hm:=G.may q hq;have ht:q.2.tgt.length≤200:=by
   have h:=hm.2.2.2.2.2.2.2.1;unfold okT at h
   split at h
   ·exact h.2.1
   ·rw[h];exact Nat.zero_le _
  refine⟨G.ino q hq,G.dep q hq,fun c hc=>(kX (G.nmv q hq c hc)).1,ht,fun x hx=>?_⟩;have hx2:=hm.2.2.2.2.2.2.2.2;obtain⟨i,hi,rfl⟩:=List.getElem_of_mem hx;obtain⟨_,g2,_,_⟩:=hx2.1 i hi;have e:q.2.xs.getD i x0=q.2.xs[i]:=by simp[List.getD,hi]
  rw[e] at g2;omega
 k:=fun s ys h=>G.kids h
 fl:=h1
 ft:=h2
 n:=by have:=G.n.2;omega
omit G in
theorem iB {s:List By} {z:Int} (h:z∈bN qs s qs.length):∃ (k:Nat) (q:NdH×Nd),z=(k:Int)∧qs[k]?=some q∧q.2.names=s++[aQ q.2.names]:=by
 obtain⟨k,rfl,hkl,hkq⟩:=eX.1 h;obtain⟨q,hq',eq⟩:=vC qs hkl;rw[eq] at hkq;refine⟨k,q,rfl,hq',?_⟩;have h1:q.2.names[s.length]?=some (aQ q.2.names):=by
  unfold aQ;rw[hkq.1,List.getD,Nat.add_sub_cancel,List.getElem?_eq_getElem (by have:=hkq.1;omega)];rfl
 have h2:=tkL h1;rw[hkq.2,List.take_of_length_le (by have:=hkq.1;omega)] at h2;exact h2
omit G in
theorem Ku {k:Nat} {q:NdH×Nd} {s:List By} (h:qs[k]?=some q) (hne:q.2.names≠[]) (hs:q.2.names.dropLast=s):(k:Int)∈bN qs s qs.length:=by
 have hk:=(List.getElem?_eq_some_iff.1 h).1;exact eX.2 ⟨k,rfl,hk,by rw[qE h];exact mG.2 ⟨hne,hs⟩⟩
theorem GdT.above{q:NdH×Nd}(hq:q∈qs):∀ (m d:Nat),d+m=q.2.names.length→∃ (k:Nat) (p:NdH×Nd),qs[k]?=some p∧p.2.names=q.2.names.take d∧(0<m→p.2.kind=1)
|0,d,h=>by
   obtain⟨k,hk⟩:=List.getElem?_of_mem hq;exact⟨k,q,hk,by rw[List.take_of_length_le (by omega)],fun h=>absurd h (Nat.lt_irrefl 0)⟩
|m+1,d,h=>by
   obtain⟨k,p,hk,hn,_⟩:=GdT.above hq m (d+1) (by omega);have hpl:p.2.names.length=d+1:=by rw[hn,length_take];omega
   obtain⟨r,hr,h1,h2⟩:=G.up p (mem_of_getElem? hk) (fun e=>by rw[e] at hpl;simp at hpl);obtain⟨j,hj⟩:=List.getElem?_of_mem hr;refine⟨j,r,hj,?_,fun _=>h2⟩;rw[h1,hn,List.dropLast_eq_take,List.take_take,length_take];congr 1;omega
end
end
theorem AJ{r post:By}{k:Nat}(h:k<r.length):(r++post).getD k 0=r.getD k 0:=by
 rw[List.getD,List.getD,List.getElem?_append_left h]
theorem OS(x:By):3≤eF x:=by unfold eF;split<;>omega
theorem AR{r x:By}{s:Nat}{st:Bool}(h:jW r=some (x,s,st)):eF x≤r.length:=by
 unfold jW at h;obtain⟨n,hn⟩:∃ n,n=(r.getD 0 0).toNat+256*(r.getD 1 0).toNat:=⟨_,rfl⟩
 rw[←hn] at h
 split at h
 ·cases h
 · split at h
   ·cases h
   · split at h
     ·cases h
     · split at h
       · simp only[Option.some.injEq,Prod.mk.injEq] at h
         rw[←h.1];show 3≤_;omega
       · split at h
         ·cases h
         · simp only[Option.some.injEq,Prod.mk.injEq] at h
           rw[←h.1];unfold eF;rw[length_take,length_drop]
           split<;>omega
theorem yD{r post x:By}{s:Nat}{st:Bool}(hl:eF x≤r.length):jW (r++post)=some (x,s,st)↔jW r=some (x,s,st):=by
 have h3:3≤r.length:=Nat.le_trans (OS x) hl;have e0:(r++post).getD 0 0=r.getD 0 0:=AJ (by omega);have e1:(r++post).getD 1 0=r.getD 1 0:=AJ (by omega);have et:(r++post).take 3=r.take 3:=List.take_append_of_le_length h3;unfold jW;rw[e0,e1,et,if_neg (by rw[length_append];omega),if_neg (show ¬ r.length<3 by omega)];obtain⟨n,hn⟩:∃ n,n=(r.getD 0 0).toNat+256*(r.getD 1 0).toNat:=⟨_,rfl⟩
 rw[←hn];by_cases c1:r.take 3≠hdB n
 ·rw[if_pos c1,if_pos c1]
 · rw[if_neg c1,if_neg c1]
   by_cases c2:128<n%32768∨(n%32768=0∧32768≤n)
   ·rw[if_pos c2,if_pos c2]
   · rw[if_neg c2,if_neg c2]
     by_cases c3:n%32768=0
     ·rw[if_pos c3,if_pos c3]
     · rw[if_neg c3,if_neg c3]
       by_cases c4:r.length<7+n%32768
       · rw[if_pos c4]
         constructor
         · intro h
           split at h
           ·cases h
           · rename_i c5
             rw[length_append] at c5;simp only[Option.some.injEq,Prod.mk.injEq] at h;exfalso;have hx:x.length=n%32768:=by rw[←h.1,length_take,length_drop,length_append];omega
             unfold eF at hl;rw[if_neg (by omega)] at hl;omega
         ·intro h;cases h
       · rw[if_neg c4,if_neg (by rw[length_append];omega)]
         have d7:((r++post).drop 7).take (n%32768)=(r.drop 7).take (n%32768):=by
          rw[List.drop_append_of_le_length (by omega),List.take_append_of_le_length (by rw[length_drop];omega)]
         have d3:((r++post).drop 3).take 4=(r.drop 3).take 4:=by
          rw[List.drop_append_of_le_length (by omega),List.take_append_of_le_length (by rw[length_drop];omega)]
         rw[d7,d3]
theorem vY{x:By}{s:Nat}{st:Bool}(h:(cE (some (x,s,st))).2.2=0):(cE (some (x,s,st))).2.1=eF x:=by
 unfold cE at h ⊢;simp only at h ⊢;by_cases h0:x.length=0
 ·rw[if_pos h0];unfold eF;rw[if_pos h0]
 · rw[if_neg h0] at h ⊢
   by_cases h1:dW x≠s
   ·rw[if_pos h1] at h;simp at h
   · rw[if_neg h1] at h ⊢
     by_cases h2:st=true
     ·rw[if_pos h2]
     · rw[if_neg h2] at h ⊢
       split at h
       ·simp at h
       ·rename_i h3;rw[if_neg h3]
section
variable (pre X post:List UInt8)
theorem Nm{a:Int}(h0:0≤a)(h:a≤X.length):dE (pre++(X++post)) ((pre.length:Int)+a)=jW (X.drop a.toNat++post):=by
 unfold dE;rw[if_neg (by simp only[length_append];omega)];obtain⟨n,rfl⟩:=Int.eq_ofNat_of_zero_le h0;rw[show ((pre.length:Int)+(n:Int)).toNat=pre.length+n by omega,←drop_drop,drop_left' rfl,List.drop_append_of_le_length (by omega),Int.toNat_natCast]
theorem Nn{a:Int}(h0:0≤a)(h:a≤X.length):dE X (0+a)=jW (X.drop a.toNat):=by
 unfold dE;rw[Int.zero_add,if_neg (by omega)]
theorem EZ{a:Int}(h0:0≤a):cB (pre++(X++post)) pre.length ((pre.length:Int)+X.length) a=cB X 0 X.length a:=by
 unfold cB;by_cases hc:(X.length:Int)<a
 ·rw[if_pos (show (pre.length:Int)+X.length-pre.length<a by omega),if_pos (show (X.length:Int)-0<a by omega)]
 · rw[if_neg (show ¬ ((pre.length:Int)+X.length-pre.length<a) by omega),if_neg (show ¬ ((X.length:Int)-0<a) by omega)]
   have hle:a≤X.length:=by omega
   unfold bB;rw[Nm pre X post h0 hle,Nn X h0 hle];obtain⟨r,hr⟩:∃ r,r=X.drop a.toNat:=⟨_,rfl⟩
   have hrl:(r.length:Int)=X.length-a:=by rw[hr,length_drop];omega
   rw[←hr];cases h1:jW (r++post) with
  |none=>
     have h2:jW r=none:=by
      cases h3:jW r with
     |none=>rfl
     |some y=>obtain⟨x,s,st⟩:=y;rw[(yD (AR h3)).2 h3] at h1;cases h1
     rw[h2,if_pos (.inl (by simp[cE])),if_pos (.inl (by simp[cE]))]
  |some y=>
     obtain⟨x,s,st⟩:=y;by_cases hl:eF x≤r.length
     · rw[(yD hl).1 h1]
       by_cases he:(cE (some (x,s,st))).2.2=0
       · have hn:=vY he
         simp only[if_pos he];by_cases hz:(cE (some (x,s,st))).1.length=0
         ·rw[if_pos (.inr (.inr hz)),if_pos (.inr (.inr hz))]
         · rw[if_neg (by rw[hn];rintro(h|h|h);exact h he;omega;exact hz h),if_neg (by rw[hn];rintro(h|h|h);exact h he;omega;exact hz h)]
           congr 2;omega
       ·rw[if_pos (.inl he),if_pos (.inl he)]
     · have h2:jW r=none:=by
        cases h3:jW r with
       |none=>rfl
       |some y=>
          obtain⟨x',s',st'⟩:=y;have h4:=AR h3;rw[(yD h4).2 h3] at h1;simp only[Option.some.injEq,Prod.mk.injEq] at h1;rw[h1.1] at h4;exact absurd h4 hl
       rw[h2];refine Eq.trans (b:=none) ?_ ?_
       · by_cases he:(cE (some (x,s,st))).2.2=0
         · have hn:=vY he
           simp only[if_pos he];rw[if_pos (.inr (.inl (by rw[hn];omega)))]
         ·rw[if_pos (.inl he)]
       ·rw[if_pos (.inl (by simp[cE]))]
end
theorem Hz{im im':By}{fr to fr' to':Int}(H:∀ a,0≤a→cB im fr to a=cB im' fr' to' a)(n m:Nat):∀ (at_:Int) (i:Nat) (out:By),n-out.length=m→0≤at_→rdL im fr to n at_ i out=rdL im' fr' to' n at_ i out:=by
 induction m using Nat.strongRecOn with
|ind m ih=>
   intro at_ i out hm h0;by_cases h:out.length<n
   · have hH:=H at_ h0
     cases hh:cB im fr to at_ with
    |none=>rw[lY h hh,lY h (hH.symm.trans hh)]
    |some p=>
       obtain⟨b,nx⟩:=p;have hh':=hH.symm.trans hh;by_cases hi:b.length≤i
       ·rw[pB h hh hi,pB h hh' hi]
       · obtain⟨s1,s2,s3,s4,s5,s6,s7,s8⟩:=eZ hh
         obtain⟨x,hx⟩:∃ x,x=(b.drop i).take (n-out.length):=⟨_,rfl⟩
         have hxl:x.length=min (b.length-i) (n-out.length):=by rw[hx,length_take,length_drop];omega
         have hal:(out++x).length=out.length+x.length:=length_append;by_cases h1:i+x.length=128
         · rw[kL h hh hi (by rw[←hx];exact h1),kL h hh' hi (by rw[←hx];exact h1),←hx]
           exact ih (n-(out++x).length) (by omega) nx 0 (out++x) rfl (by omega)
         · by_cases h2:(out++x).length<n
           ·rw[pC h hh hi (by rw[←hx];exact h1) (by rw[←hx];exact h2),pC h hh' hi (by rw[←hx];exact h1) (by rw[←hx];exact h2)]
           · rw[tI h hh hi (by rw[←hx];exact h1) (by rw[←hx];exact h2),tI h hh' hi (by rw[←hx];exact h1) (by rw[←hx];exact h2),←hx]
             exact ih (n-(out++x).length) (by omega) at_ (i+x.length) (out++x) rfl h0
   ·rw[lA h,lA h]
theorem Gd(pre X post:By):fF (pre++(X++post)) pre.length ((pre.length:Int)+X.length)=true:=by
 unfold fF;simp only[length_append,Bool.and_eq_true,decide_eq_true_eq];omega
theorem Dc(X:By):fF X 0 X.length=true:=by
 unfold fF;simp only[Bool.and_eq_true,decide_eq_true_eq];omega
theorem Hv(pre X post:By):aD (pre++(X++post)) pre.length ((pre.length:Int)+X.length)=aD X 0 X.length:=by
 funext ref n;unfold aD;by_cases h:ref<0∨n<0
 ·rw[if_pos h,if_pos h]
 · rw[if_neg h,if_neg h,if_neg (by rw[Gd];simp),if_neg (by rw[Dc];simp)]
   exact Hz (fun a ha=>EZ pre X post ha) _ _ _ _ _ rfl (by omega)
section
variable {im im':List UInt8}{fr to fr' to':Int}
theorem vW(H:aD im fr to=aD im' fr' to')(w:Int):∀ (k:Nat) (ref:Int),kF im fr to w k ref=kF im' fr' to' w k ref
|0,_=>rfl
|k+1,ref=>by rw[kG,kG,H,vW H w k]
theorem zP(H:aD im fr to=aD im' fr' to')(M:fF im fr to=fF im' fr' to')(many w:Int):tnS im fr to many w=tnS im' fr' to' many w:=by
 unfold tnS;rw[H,M,vW H]
theorem Ev(H:aD im fr to=aD im' fr' to')(ref:Int):jQ im fr to ref=jQ im' fr' to' ref:=by unfold jQ;rw[H]
theorem wH(H:aD im fr to=aD im' fr' to'):∀ (k:Nat) (ref:Int),jP im fr to k ref=jP im' fr' to' k ref
|0,_=>rfl
|k+1,ref=>by rw[iP,iP,Ev H,wH H k]
theorem Eu(H:aD im fr to=aD im' fr' to')(ref:Int):iO im fr to ref=iO im' fr' to' ref:=by
 unfold iO;rw[H,wH H]
theorem EX(H:aD im fr to=aD im' fr' to')(ref:Int):bJ im fr to ref=bJ im' fr' to' ref:=by
 unfold bJ;rw[H]
end
theorem F8{s:Int×By}{z n:Int}(h:s.1=0)(hb:¬ gE z n):bR n s z=(0,s.2++le z n.toNat):=by
 have h1:fY s.1 z n=0:=by rw[cP hb,h]
 have h2:bR n s z=(fY s.1 z n,lN s.1 s.2 z n):=rfl;rw[h2,h1,kC h1]
def enW(w:Nat)(l:List Int):By:=l.flatMap fun x=>le x w
def inW(w:Nat)(l:List Int):Prop:=∀ x∈l,0≤x∧x<256 ^ w
def w24(w:Nat):Prop:=w=2∨w=4
theorem Ti{w:Nat}(hw:w24 w){z:Int}(h0:0≤z)(h1:z<256 ^ w):¬ gE z w:=by
 rcases hw with rfl|rfl
 ·exact fB (m:=65535) (by decide) (by decide) h0 (by have:z<65536:=h1;omega) (by decide)
 ·exact fB (m:=4294967295) (by decide) (by decide) h0 (by have:z<4294967296:=h1;omega) (by decide)
theorem sF(w:Nat)(l:List Int):(enW w l).length=w*l.length:=by
 induction l with
|nil=>rfl
|cons x r ih=>show (le x w++enW w r).length=_;rw[length_append,aR,ih,length_cons,Nat.mul_succ];omega
theorem Aw{w:Nat}(hw:w24 w):∀ (l:List Int) (s:Int×By),s.1=0→inW w l→l.foldl (bR (w:Int)) s=(0,s.2++enW w l)
|[],s,h,_=>by show s=_;rw[show enW w []=[] from rfl,append_nil,←h]
|x::r,s,h,hl=>by
   have h1:=hl x (by simp);rw[List.foldl_cons,F8 h (Ti hw h1.1 h1.2),Aw hw r _ rfl (fun y hy=>hl y (by simp[hy]))];show (0,s.2++le x (w:Int).toNat++enW w r)=(0,s.2++(le x w++enW w r))
   rw[append_assoc,Int.toNat_natCast]
theorem oC{w:Nat}(hw:w24 w){l:List Int}(h:inW w l):aJ l (w:Int)=(enW w l,0):=by
 unfold aJ;rw[if_pos (by rcases hw with rfl|rfl;exact .inl rfl;exact .inr rfl)];have:gI l (w:Int)=(0,enW w l):=by unfold gI;rw[Aw hw l _ rfl h];rfl
 rw[this];rfl
theorem Li(w:Nat)(l:List Int)(i:Nat)(h:i<l.length):∃ z,(enW w l).drop (w*i)=le (l.getD i 0) w++z:=by
 have e:l=l.take i++(l.getD i 0::l.drop (i+1)):=by
  rw[show l.getD i 0=l[i] by simp[List.getD,h],←drop_eq_getElem_cons h,take_append_drop]
 refine⟨enW w (l.drop (i+1)),?_⟩;have e2:enW w l=enW w (l.take i)++(le (l.getD i 0) w++enW w (l.drop (i+1))):=by
  conv=>lhs;rw[e]
  unfold enW;rw[List.flatMap_append];rfl
 rw[e2];have hl:(enW w (l.take i)).length=w*i:=by rw[sF,length_take,Nat.min_eq_left (by omega)]
 rw[drop_left' hl]
theorem Oz(T:By):aN T 0=0:=by simp[aN,frW]
section
variable {T:List UInt8}
theorem CP{o m:Nat}(h:o+m≤T.length):aD (frW T (nF T)) 0 (frW T (nF T)).length (aN T o:Nat) (m:Nat)=((T.drop o).take m,((aN T (o+m):Nat):Int),0):=by
 have:=EG T [] [] h;rwa[vG,uV] at this
theorem Mn{o m:Nat}(ho:o≤T.length)(h:T.length<o+m):aD (frW T (nF T)) 0 (frW T (nF T)).length (aN T o:Nat) (m:Nat)=([],0,2):=by
 have:=Ht T [] [] ho h;rwa[vG,uV] at this
theorem OQ:fF (frW T (nF T)) 0 (frW T (nF T)).length=true:=by have:=Kl T [] [];rwa[vG,uV] at this
end
section
variable {l:List Int}{w:Nat}
theorem OO(hw:w24 w)(h16:inW w l){i:Nat}(h:i<l.length):aD (frW (enW w l) (nF (enW w l))) 0 (frW (enW w l) (nF (enW w l))).length (aN (enW w l) (w*i):Nat) w=(le (l.getD i 0) w,((aN (enW w l) (w*(i+1)):Nat):Int),0)∧((bT (le (l.getD i 0) w):Nat):Int)=l.getD i 0:=by
 have hm:w*(i+1)≤w*l.length:=Nat.mul_le_mul_left w h;have h1:=CP (T:=enW w l) (o:=w*i) (m:=w) (by rw[sF,←Nat.mul_succ];exact hm);obtain⟨z,hz⟩:=Li w l i h;rw[hz,take_left' (aR _ _),←Nat.mul_succ] at h1;have hx:=h16 (l.getD i 0) (by rw[List.getD,List.getElem?_eq_getElem h];exact List.getElem_mem _);exact⟨h1,oX w _ hx.1 hx.2⟩
theorem Ci(hw:w24 w)(h16:inW w l):∀ (m i:Nat),i+m≤l.length→kF (frW (enW w l) (nF (enW w l))) 0 (frW (enW w l) (nF (enW w l))).length w m (aN (enW w l) (w*i):Nat)=some ((l.drop i).take m,((aN (enW w l) (w*(i+m)):Nat):Int))
|0,i,_=>by simp[kF]
|m+1,i,h=>by
   obtain⟨h1,h2⟩:=OO hw h16 (i:=i) (by omega);rw[kG,h1];simp only;rw[if_neg (fun h=>h rfl),Ci hw h16 m (i+1) (by omega),h2];rw[drop_eq_getElem_cons (by omega:i<l.length),List.take_succ_cons];simp only[map_some,show i+1+m=i+(m+1) by omega];simp[List.getD,show i<l.length by omega]
theorem FJ(hw:w24 w)(h16:inW w l):tnS (frW (enW w l) (nF (enW w l))) 0 (frW (enW w l) (nF (enW w l))).length l.length w=(l,0):=by
 have h1:=Ci hw h16 l.length 0 (by omega);rw[Nat.mul_zero,Oz,List.drop_zero,take_length,Nat.zero_add] at h1;refine qU (by rcases hw with rfl|rfl<;>omega) OQ h1 ?_;have h2:=Mn (T:=enW w l) (o:=w*l.length) (m:=1) (by rw[sF];omega) (by rw[sF];omega);have h2:aD (frW (enW w l) (nF (enW w l))) 0 (frW (enW w l) (nF (enW w l))).length (aN (enW w l) (w*l.length):Nat) 1=([],0,2):=h2;rw[h2];decide
end
def pN(s:By):By:=UInt8.ofNat s.length::s
def jL(x:Xa):By:=pN x.1++pN x.2
def jE(X:List Xa):By:=UInt8.ofNat X.length::X.flatMap jL
theorem sD(s:By):(pN s).length=1+s.length:=by simp[pN];omega
theorem FG{s:Int×By}{t:By}(h:s.1=0)(ht:t.length≤255):vU s t=(0,s.2++pN t):=by
 have h1:=(jY h ht).1;have h2:vU s t=(lH s.1 t,mT s.1 s.2 t):=rfl;have h3:lH s.1 t=0:=h1;rw[h2,h3];unfold mT pN;rw[if_neg (by omega)]
theorem Fz{X:List Xa}(h:eD X):∀ k,k≤X.length→xSt X k=(0,UInt8.ofNat X.length::(X.take k).flatMap jL)
|0,_=>by
   have hb:=lU (n:=X.length) (by have:=h.2;omega);show bR 1 (0,[]) X.length=_;rw[F8 rfl hb];have:=BD X.length;simp only[List.nil_append,List.take_zero,List.flatMap_nil];rw[show (1:Int).toNat=1 from rfl,this]
|k+1,hk=>by
   obtain⟨_,g2,_,g4⟩:=h.1 k (by omega);rw[vQ X k (by omega),Fz h k (by omega)];unfold xF;have i1:=FG (s:=(0,UInt8.ofNat X.length::(X.take k).flatMap jL)) (t:=(X.getD k x0).1) rfl (by omega);rw[i1,FG rfl (by omega)];rw[List.take_succ_eq_append_getElem (by omega:k<X.length),List.flatMap_append];simp[jL,List.getD,show k<X.length by omega]
theorem HH{X:List Xa}(h:eD X)(h0:0<X.length):jK X=(jE X,0):=by
 unfold jK;rw[if_neg (by rintro(h1|h1);omega;exact h1 h),Fz h _ (Nat.le_refl _),take_length];rfl
theorem IR{T rest s:By}{o:Nat}(hd:T.drop o=pN s++rest)(hs:s.length≤255):jQ (frW T (nF T)) 0 (frW T (nF T)).length (aN T o:Nat)=(s,((aN T (o+(pN s).length):Nat):Int),0):=by
 have hl:(pN s++rest).length=T.length-o:=by rw[←hd,length_drop]
 rw[length_append,sD] at hl;have h1:=CP (T:=T) (o:=o) (m:=1) (by omega);have h1:aD (frW T (nF T)) 0 (frW T (nF T)).length (aN T o:Nat) 1=_:=h1;rw[hd] at h1;have e1:(pN s++rest).take 1=[UInt8.ofNat s.length]:=rfl;rw[e1] at h1;have hn:(UInt8.ofNat s.length).toNat=s.length:=by rw[UInt8.toNat_ofNat'];omega
 rw[Bm (by rw[h1]),h1];simp only[List.getD_cons_zero];rw[hn];have h2:=CP (T:=T) (o:=o+1) (m:=s.length) (by omega);have e2:T.drop (o+1)=s++rest:=by rw[←drop_drop,hd];rfl
 rw[e2,take_left' rfl] at h2;rw[h2,sD,Nat.add_assoc]
def AK(Y:List Xa):List By:=Y.flatMap fun x=>[x.1,x.2]
theorem CZ(a b:By)(r:List By):cN (a::b::r)=(a,b)::cN r:=by
 unfold cN;rw[show (a::b::r).length/2=r.length/2+1 by simp only[length_cons];omega,List.range_succ_eq_map,map_cons,List.map_map];congr 1
theorem oL:∀ Y:List Xa,cN (AK Y)=Y
|[]=>rfl
|x::r=>by
   have e:AK (x::r)=x.1::x.2::AK r:=rfl;rw[e,CZ,oL r]
theorem NI{T:By}:∀ (Y:List Xa) (o:Nat) (rest:By),(∀ x∈Y,x.1.length≤255∧x.2.length≤255)→T.drop o=Y.flatMap jL++rest →
 jP (frW T (nF T)) 0 (frW T (nF T)).length (2*Y.length) (aN T o:Nat)=some (AK Y,((aN T (o+(Y.flatMap jL).length):Nat):Int))
|[],o,rest,_,_=>by simp[jP,AK]
|x::r,o,rest,hb,hd=>by
   obtain⟨b1,b2⟩:=hb x (by simp);have hd1:T.drop o=pN x.1++(pN x.2++(r.flatMap jL++rest)):=by rw[hd];simp[jL]
   have h1:=IR hd1 b1;have hd2:T.drop (o+(pN x.1).length)=pN x.2++(r.flatMap jL++rest):=by rw[←drop_drop,hd1,drop_left' rfl]
   have h2:=IR hd2 b2;have hd3:T.drop (o+(pN x.1).length+(pN x.2).length)=r.flatMap jL++rest:=by rw[←drop_drop,hd2,drop_left' rfl]
   have h3:=NI r _ rest (fun y hy=>hb y (by simp[hy])) hd3;rw[length_cons,show 2*(r.length+1)=2*r.length+1+1 by omega,iP,h1];simp only;rw[if_neg (fun h=>h rfl),iP,h2];simp only;rw[if_neg (fun h=>h rfl),h3];simp only[map_some];congr 1;refine Prod.ext rfl ?_;show ((aN T _:Nat):Int)=((aN T _:Nat):Int)
   congr 2;simp[jL];omega
theorem Ps{T rest:By}{o:Nat}{X:List Xa}(hm:eD X)(h0:0<X.length)(hd:T.drop o=jE X++rest):iO (frW T (nF T)) 0 (frW T (nF T)).length (aN T o:Nat)=(X,0):=by
 have hl:(jE X++rest).length=T.length-o:=by rw[←hd,length_drop]
 have hl1:1≤(jE X).length:=by simp[jE]
 rw[length_append] at hl;have h1:=CP (T:=T) (o:=o) (m:=1) (by omega);have h1:aD (frW T (nF T)) 0 (frW T (nF T)).length (aN T o:Nat) 1=_:=h1;rw[hd] at h1;have e1:(jE X++rest).take 1=[UInt8.ofNat X.length]:=rfl;rw[e1] at h1;have h8:=hm.2;have hn:(UInt8.ofNat X.length).toNat=X.length:=by rw[UInt8.toNat_ofNat'];omega
 have hd2:T.drop (o+1)=X.flatMap jL++rest:=by rw[←drop_drop,hd];rfl
 have hb:∀ x∈X,x.1.length≤255∧x.2.length≤255:=fun x hx=>by
  obtain⟨i,hi,rfl⟩:=List.getElem_of_mem hx;obtain⟨_,g2,_,g4⟩:=hm.1 i hi;have e:X.getD i x0=X[i]:=by simp[List.getD,hi]
  rw[e] at g2 g4;omega
 have h2:=NI X (o+1) rest hb hd2;have hg:¬ ((aD (frW T (nF T)) 0 (frW T (nF T)).length (aN T o:Nat) 1).2.2≠0∨((aD (frW T (nF T)) 0 (frW T (nF T)).length (aN T o:Nat) 1).1.getD 0 0).toNat=0∨8<((aD (frW T (nF T)) 0 (frW T (nF T)).length (aN T o:Nat) 1).1.getD 0 0).toNat):=by
  rw[h1];simp only[List.getD_cons_zero];rw[hn];rintro(h|h|h);exact h rfl;omega;omega
 have h3:=CD hg (l:=AK X) (r:=((aN T (o+1+(X.flatMap jL).length):Nat):Int)) (by rw[h1];simp only[List.getD_cons_zero];rw[hn];exact h2) (by rw[oL];exact hm);rw[h3,oL]
theorem tD(b:By)(i:Nat):∀ j,∃ r,eU b (i+j)=eU b i++r
|0=>⟨[],by simp⟩
|j+1=>by
   obtain⟨r,hr⟩:=tD b i j;exact⟨r++frB (chB b (i+j)),by rw[show i+(j+1)=(i+j)+1 by omega,kA,hr,append_assoc]⟩
theorem Et{b:By}{i n:Nat}(h:i<n):∃ r,eU b n=eU b i++(frB (chB b i)++r):=by
 obtain⟨r,hr⟩:=tD b (i+1) (n-(i+1));rw[show i+1+(n-(i+1))=n by omega,kA] at hr;exact⟨r,by rw[hr,append_assoc]⟩
theorem M5{x:By}(h:x.length=128):¬ ((hX x).length≠0∧(hX x).length≠128)∧DV (hX x)=x:=by
 unfold hX
 split
 · rename_i hh
   refine⟨by simp,?_⟩;show List.replicate 128 0=x
   symm
   rw[List.eq_replicate_iff];refine⟨h,fun c hc=>?_⟩;obtain⟨i,hi,rfl⟩:=List.getElem_of_mem hc;have:=hh i hi;simpa[List.getD,hi] using this
 ·exact⟨by omega,by unfold DV;rw[if_neg (by omega)]⟩
section
variable {im pre rest b:List UInt8}(him:im=pre++(cI b++rest))
include him
theorem Cj{i:Nat}(h:i<b.length/128):bB im (pre.length+(eU b i).length:Nat)=(hX (chB b i),((pre.length+(eU b (i+1)).length:Nat):Int),0)∧dH im (pre.length+(eU b i).length:Nat)=(((pre.length+(eU b (i+1)).length:Nat):Int),0):=by
 obtain⟨r,hr⟩:=Et (b:=b) h;have e:im=(pre++eU b i)++((cF (hX (chB b i))).1++(r++rest)):=by
  rw[him,show cI b=eU b (b.length/128) from rfl,hr];show _=(pre++eU b i)++(frB (chB b i)++(r++rest))
  simp
 have hl:(hX (chB b i)).length≤128:=Nat.le_trans (KI _) (BU _ _);have h1:=sX hl (pre++eU b i) (r++rest);rw[←e,length_append] at h1;have hs:(eU b (i+1)).length=(eU b i).length+(cF (hX (chB b i))).1.length:=by rw[kA,length_append];rfl
 refine⟨?_,?_⟩
 · rw[h1.1]
   refine Prod.ext rfl (Prod.ext ?_ rfl);show ((pre.length+(eU b i).length:Nat):Int)+_=((pre.length+(eU b (i+1)).length:Nat):Int)
   omega
 · rw[h1.2]
   refine Prod.ext ?_ rfl;show ((pre.length+(eU b i).length:Nat):Int)+_=((pre.length+(eU b (i+1)).length:Nat):Int)
   omega
end
theorem CM{im pre rest b:By}(him:im=pre++(cI b++rest))(n:Nat)(hn:b.length/128*128≤n):∀ k i,k=b.length/128-i→i≤b.length/128 →
 kU im 0 n k i (pre.length+(eU b i).length:Nat) (b.take (i*128))=(b.take (b.length/128*128),0)
|0,i,hk,hi=>by
   rw[show i=b.length/128 by omega];rfl
|k+1,i,hk,hi=>by
   have hN:b.length/128*128≤b.length:=Nat.div_mul_le_self _ _;have hi2:(i+1)*128≤b.length/128*128:=Nat.mul_le_mul_right 128 (show i+1≤b.length/128 by omega);obtain⟨h1,h2⟩:=Cj him (i:=i) (by omega);obtain⟨g1,g2⟩:=M5 (yM (b:=b) (i:=i) (by omega));have hl:(b.take (i*128)).length=i*128:=by rw[length_take];omega
   rw[tJ (by omega) (by omega) (by rw[h1];rintro(h|h);exact h rfl;exact g1 h),h1,g2];have e:b.take (i*128)++((chB b i).drop (0-i*128)).take (n-(b.take (i*128)).length)=b.take ((i+1)*128):=by
    have hc:=yM (b:=b) (i:=i) (by omega);have e1:((chB b i).drop (0-i*128)).take (n-(b.take (i*128)).length)=chB b i:=by
     rw[show 0-i*128=0 by omega,List.drop_zero];exact List.take_of_length_le (by omega)
    rw[e1];unfold chB;rw[show (i+1)*128=i*128+128 by omega,List.take_add]
   rw[e];exact CM him n hn k (i+1) (by omega) (by omega)
theorem EF{im pre rest b:By}(him:im=pre++(cI b++rest))(hb:b.length≤4096):gY im (pre.length:Nat) (b.length:Nat) 0 (b.length:Nat)=(b.take (b.length/128*128),0):=by
 by_cases h:b.length/128*128≤0
 · have:=tH (im:=im) (start:=(pre.length:Nat)) (off:=0) (n:=b.length) hb h
   rw[show b.length/128*128=0 by omega];exact this
 · have h1:=CN (im:=im) (start:=(pre.length:Nat)) (n:=b.length) hb h
   have h2:=CM him b.length (Nat.div_mul_le_self _ _) (b.length/128) 0 rfl (Nat.zero_le _);rw[Nat.zero_mul,List.take_zero] at h2;exact h1.trans h2
theorem EE{im b:By}{start:Int}(hb:b.length/128=0):gY im start (b.length:Nat) 0 (b.length:Nat)=(b.take (b.length/128*128),0):=by
 have:=tH (im:=im) (start:=start) (size:=b.length) (off:=0) (n:=b.length) (by omega) (by omega);rw[hb];exact this
theorem B6{im pre rest b:By}(him:im=pre++(cI b++rest)){e:Int}(he:((pre.length+(cI b).length:Nat):Int)≤e):∀ k i,k=b.length/128-i→i≤b.length/128 →
 uO im e k (pre.length+(eU b i).length:Nat)=(((pre.length+(cI b).length:Nat):Int),0)
|0,i,hk,hi=>by
   rw[show i=b.length/128 by omega];rfl
|k+1,i,hk,hi=>by
   obtain⟨h1,h2⟩:=Cj him (i:=i) (by omega);obtain⟨r,hr⟩:=tD b (i+1) (b.length/128-(i+1));rw[show i+1+(b.length/128-(i+1))=b.length/128 by omega] at hr;have h4:(eU b (i+1)).length≤(cI b).length:=by show _≤(eU b (b.length/128)).length;rw[hr,length_append];omega
   rw[FD (by rw[h2];rintro(h|h);exact h rfl;have h:e<((pre.length+(eU b (i+1)).length:Nat):Int):=h;omega),h2];exact B6 him he k (i+1) (by omega) (by omega)
def D4(B b:By)(st:Nat):Prop:=(cI b=[]∧st=0)∨(cI b≠[]∧∃ pre rest,B=pre++(cI b++rest)∧st=64+pre.length)
def yW(s:DS):Prop:=∀ a v,iD s.m a=some v→∃ pre rest,s.B=pre++(a.1++rest)∧64+pre.length=v
theorem yW.zero:yW ⟨[],[]⟩:=fun a v h=>by cases h
theorem IB(s:DS)(b:By):∃ z,(iG 64 s b).1.B=s.B++z:=by
 unfold iG Iz
 split
 ·exact⟨[],by simp⟩
 · split
   ·exact⟨[],by simp⟩
   ·exact⟨_,rfl⟩
theorem IC{s:DS}(h:yW s)(b:By)(hb:(cI b).length≤maxLen):yW (iG 64 s b).1∧D4 (iG 64 s b).1.B b (iG 64 s b).2:=by
 by_cases hr:cI b=[]
 · have e:iG 64 s b=(s,0):=by unfold iG;rw[if_pos hr]
   rw[e];exact⟨h,.inl ⟨hr,rfl⟩⟩
 · cases hf:iD s.m (nL (cI b)) with
  |some k=>
     have e:iG 64 s b=(s,k):=DZ (fun e=>hr (length_eq_zero_iff.1 e)) hf;rw[e];obtain⟨pre,rest,h1,h2⟩:=h _ _ hf;rw[FY hb] at h1;exact⟨h,.inr ⟨hr,pre,rest,h1,h2.symm⟩⟩
  |none=>
     have e:iG 64 s b=(⟨s.B++cI b,s.m++[(nL (cI b),64+s.B.length)]⟩,64+s.B.length):=D2 (fun e=>hr (length_eq_zero_iff.1 e)) hf;rw[e];refine⟨fun a v hv=>?_,.inr ⟨hr,s.B,[],by simp,rfl⟩⟩;have hv:iD (s.m++[(nL (cI b),64+s.B.length)]) a=some v:=hv;rw[xU] at hv;show ∃ pre rest,s.B++cI b=pre++(a.1++rest)∧64+pre.length=v;cases ha:iD s.m a with
    |some k=>
       rw[ha] at hv;have hkv:k=v:=by simpa using hv
       subst hkv;obtain⟨pre,rest,h1,h2⟩:=h a k ha;exact⟨pre,rest++cI b,by rw[h1];simp,h2⟩
    |none=>
       rw[ha] at hv;by_cases hk:nL (cI b)=a
       · have hv:64+s.B.length=v:=by simpa[hk] using hv
         refine⟨s.B,[],?_,hv⟩;rw[←hk,FY hb,append_nil]
       ·simp[hk] at hv
theorem D4.more{B b z:By}{st:Nat}(h:D4 B b st):D4 (B++z) b st:=by
 rcases h with h|⟨h,pre,rest,h1,h2⟩
 ·exact .inl h
 ·exact .inr ⟨h,pre,rest++z,by rw[h1];simp,h2⟩
def TlS(L:List By)(t:By)(fr off:Nat):Prop:=(t=[]∧fr=0∧off=0)∨(0<t.length∧∃ (n:Nat) (a z:By),n<L.length∧fr=n+1∧off=a.length∧L.getD n []=a++(t++z))
def ExL(A B:List By):Prop:=A.length≤B.length∧∀ q,q<A.length→∃ z,B.getD q []=A.getD q []++z
theorem TlS.ext{A B:List By}{t:By}{fr off:Nat}(h:TlS A t fr off)(k:ExL A B):TlS B t fr off:=by
 rcases h with h|⟨h,n,a,z,h1,h2,h3,h4⟩
 ·exact .inl h
 · obtain⟨y,hy⟩:=k.2 n h1
   exact .inr ⟨h,n,a,z++y,Nat.lt_of_lt_of_le h1 k.1,h2,h3,by rw[hy,h4];simp⟩
def DT(L:List By):Prop:=∀ b∈L,0<b.length∧b.length≤128
theorem LJ{L:List By}(hL:DT L){t:By}(ht:t.length<128):ExL L (dU L t).1∧DT (dU L t).1∧(dU L t).1.length≤L.length+1∧TlS (dU L t).1 t (dU L t).2.1 (dU L t).2.2:=by
 unfold dU;by_cases h0:t.length<1
 · rw[if_pos (yO (.inl h0))]
   exact⟨⟨Nat.le_refl _,fun q _=>⟨[],by simp⟩⟩,hL,Nat.le_succ _,.inl ⟨length_eq_zero_iff.1 (by omega),rfl,rfl⟩⟩
 · rw[if_neg (by rw[vN ⟨by omega,ht⟩];simp)]
   by_cases hn:L=[]∨128<(L.getD (L.length-1) []).length+t.length
   · rw[if_pos hn]
     refine⟨⟨by simp,fun q hq=>⟨[],by rw[List.getD,List.getD,List.getElem?_append_left hq];simp⟩⟩,fun b hb=>?_,by simp,.inr ⟨by omega,L.length,[],[],by simp,rfl,rfl,by simp[List.getD]⟩⟩;rcases mem_append.1 hb with hb|hb
     ·exact hL b hb
     ·rw[mem_singleton] at hb;subst hb;omega
   · rw[if_neg hn]
     have hne:L≠[]:=fun e=>hn (.inl e);have hl:=length_pos_iff.2 hne;have hlast:(L.set (L.length-1) (L.getD (L.length-1) []++t)).getD (L.length-1) []=L.getD (L.length-1) []++t:=by
      rw[List.getD,List.getElem?_set,if_pos rfl,if_pos (by omega)];rfl
     refine⟨⟨by simp,fun q hq=>?_⟩,fun b hb=>?_,by simp,.inr ⟨by omega,L.length-1,L.getD (L.length-1) [],[],by rw[length_set];omega,by show L.length=_;omega,rfl,by rw[hlast];simp⟩⟩
     · by_cases e:q=L.length-1
       ·subst e;exact⟨t,hlast⟩
       ·exact⟨[],by rw[List.getD,List.getElem?_set,if_neg (fun h=>e h.symm)];simp[List.getD]⟩
     · rcases List.mem_or_eq_of_mem_set hb with hb|hb
       ·exact hL b hb
       ·rw[hb,length_append];omega
def FOk(B:By)(L:List By)(d:By)(f:Ino):Prop:=
 ∃ st fr off:Nat,f=(fun j=>[2,0,0,0,0,0,(st:Int),(d.length:Int),(fr:Int),(off:Int)].getD j 0,[])∧D4 B d st∧TlS L (eB d) fr off
structure FI (V:List Nd)(n:Nat)(s:FSt):Prop where
 g:yW s.ds
 t:DT s.tails
 tn:s.tails.length≤V.length
 l:s.files.length=n
 b:s.ds.B.length≤4320*V.length
 f:∀ i f,s.files[i]?=some f→f=jD∨∃ x∈V,x.kind=2∧x.ino.toNat=i∧FOk s.ds.B s.tails x.data f
 a:∀ x∈V,x.kind=2→(s.files.getD x.ino.toNat jD).1 0=2
theorem G5(d:By):(eB d).length<128:=by unfold eB;rw[length_drop];omega
theorem Ox(d:By)(h:d.length≤4096):(cI d).length≤maxLen:=by
 have:=lV d (d.length/128);have:(cI d).length≤135*(d.length/128):=this.1;unfold maxLen;omega
theorem Pi(s:DS)(b:By)(h:b.length≤4096):(iG 64 s b).1.B.length≤s.B.length+4320:=by
 have h1:(cI b).length≤135*(b.length/128):=(lV b (b.length/128)).1;unfold iG Iz
 split
 ·exact Nat.le_add_right _ _
 · split
   ·exact Nat.le_add_right _ _
   · show (s.B++cI b).length≤_
     rw[length_append];omega
theorem sB{V:List Nd}{n:Nat}{s:FSt}(h:FI V n s){x:Nd}(hx:0≤x.ino∧x.ino<n)(hd:x.data.length≤4096):FI (V++[x]) n (gJ s x):=by
 unfold gJ;by_cases hc:x.kind≠2∨(s.files.getD x.ino.toNat jD).1 0=2
 · rw[if_pos hc]
   refine⟨h.g,h.t,by rw[length_append];exact Nat.le_trans h.tn (Nat.le_add_right _ _),h.l,by rw[length_append];have:=h.b;omega,fun i f hf=>(h.f i f hf).imp id (fun⟨y,hy,r⟩=>⟨y,List.mem_append_left _ hy,r⟩),fun y hy hk=>?_⟩;rcases mem_append.1 hy with hy|hy
   ·exact h.a y hy hk
   · rw[mem_singleton] at hy;subst hy
     exact hc.resolve_left (fun h=>h hk)
 · rw[if_neg hc]
   have hk:x.kind=2:=byContradiction fun h=>hc (.inl h);obtain⟨g1,g2⟩:=IC h.g x.data (Ox _ hd);obtain⟨a1,a2,a3,a4⟩:=LJ h.t (G5 x.data);obtain⟨z,hz⟩:=IB s.ds x.data;refine⟨g1,a2,by rw[length_append];exact Nat.le_trans a3 (Nat.add_le_add_right h.tn 1),by show (s.files.set _ _).length=n;rw[length_set];exact h.l,by
    have h1:=Pi s.ds x.data hd;have:=h.b;show (iG 64 s.ds x.data).1.B.length≤_;rw[length_append];simp only[length_singleton];omega,fun i f hf=>?_,fun y hy hk2=>?_⟩
   · have hf:(s.files.set x.ino.toNat _)[i]?=some f:=hf
     rw[List.getElem?_set] at hf;by_cases e:x.ino.toNat=i
     · rw[if_pos e] at hf
       split at hf
       · cases hf
         exact .inr ⟨x,by simp,hk,e,_,_,_,rfl,g2,a4⟩
       ·cases hf
     · rw[if_neg e] at hf
       rcases h.f i f hf with hf|⟨y,hy,k1,k2,st,fr,off,k3,k4,k5⟩
       ·exact .inl hf
       ·exact .inr ⟨y,List.mem_append_left _ hy,k1,k2,st,fr,off,k3,by show D4 (iG 64 s.ds x.data).1.B _ _;rw[hz];exact k4.more,k5.ext a1⟩
   · show ((s.files.set x.ino.toNat _).getD y.ino.toNat jD).1 0=2
     rw[List.getD,List.getElem?_set];by_cases e:x.ino.toNat=y.ino.toNat
     ·rw[if_pos e,if_pos (by rw[h.l];omega)];rfl
     · rw[if_neg e]
       rcases mem_append.1 hy with hy|hy
       ·exact h.a y hy hk2
       ·rw[mem_singleton] at hy;subst hy;exact absurd rfl e
theorem AM{n:Nat}:∀ (L V:List Nd) (s:FSt),FI V n s→(∀ x∈L,(0≤x.ino∧x.ino<n)∧x.data.length≤4096)→FI (V++L) n (L.foldl gJ s)
|[],V,s,h,_=>by rw[append_nil];exact h
|x::r,V,s,h,hL=>by
   have h1:=sB h (hL x (by simp)).1 (hL x (by simp)).2;have h2:=AM r (V++[x]) _ h1 (fun y hy=>hL y (by simp[hy]));rw[append_assoc] at h2;exact h2
theorem BN{qs:List (NdH×Nd)}(h:∀ q∈qs,(1≤q.2.ino∧q.2.ino≤qs.length)∧q.2.data.length≤4096):FI (nds qs) (qs.length+1) (bM qs):=by
 have h0:FI [] (qs.length+1) ⟨⟨[],[]⟩,[],List.replicate (qs.length+1) jD⟩:=⟨yW.zero,(by intro b hb;cases hb),Nat.le_refl _,List.length_replicate,Nat.le_refl _,fun i f hf=>.inl (by
  have:=mem_of_getElem? hf;exact List.eq_of_mem_replicate this),(by intro x hx;cases hx)⟩
 have:=AM (nds qs) [] _ h0 (fun x hx=>by
  obtain⟨q,hq,rfl⟩:=mem_map.1 hx;have:=h q hq;omega)
 exact this
theorem lT:∀ (L:List By) (s:DS),(eM L s).2.length=L.length
|[],_=>rfl
|t::r,s=>by show ((_::(eM r (nN 64 s t).1).2).length=_);rw[length_cons,lT r,length_cons]
theorem oY:∀ (L:List By) (s:DS),∃ z,(eM L s).1.B=s.B++z∧z.length≤(L.map (fun t=>(cF t).1.length)).sum
|[],s=>⟨[],by simp[eM],by simp⟩
|t::r,s=>by
   obtain⟨z,hz,hl⟩:=oY r (nN 64 s t).1;refine⟨(cF t).1++z,?_,?_⟩
   · show (eM r (nN 64 s t).1).1.B=_
     rw[hz];show (s.B++(cF t).1)++z=_;rw[append_assoc]
   ·rw[length_append,map_cons,List.sum_cons];omega
theorem uW:∀ (L:List By) (s:DS) (j:Nat),j<L.length→∃ pre rest,(eM L s).1.B=pre++((cF (L.getD j [])).1++rest)∧(eM L s).2.getD j 0=64+(pre.length:Int)
|[],s,j,h=>absurd h (Nat.not_lt_zero _)
|t::r,s,0,_=>by
   obtain⟨z,hz,_⟩:=oY r (nN 64 s t).1;refine⟨s.B,z,?_,?_⟩
   · show (eM r (nN 64 s t).1).1.B=_
     rw[hz];show (s.B++(cF t).1)++z=_;rw[append_assoc];rfl
   · show ((64+s.B.length:Nat):Int)=_
     omega
|t::r,s,j+1,h=>uW r (nN 64 s t).1 j (Nat.lt_of_succ_lt_succ h)
theorem GC{F:Nat→Int}:∀ (L:List Fd) (G:Nat→Int) (t:By),(∀ x∈L,(1≤x.b∧x.b≤4)∧0≤F x.o∧F x.o<256 ^ x.b.toNat)→L.foldl gF ((0,dT F L++t),G)=((0,t),fun o=>if o∈L.map (·.o) then F o else G o)
|[],G,t,_=>by simp[dT]
|x::r,G,t,h=>by
   obtain⟨⟨b1,b4⟩,h0,hx⟩:=h x (by simp);have e:dT F (x::r)++t=le (F x.o) x.b.toNat++(dT F r++t):=by simp[dT]
   obtain⟨g1,g2⟩:=O1 (n:=x.b.toNat) (x:=F x.o) (by omega) (by omega) h0 hx (dT F r++t);rw[show ((x.b.toNat:Nat):Int)=x.b by omega] at g1 g2;have hs:gF ((0,dT F (x::r)++t),G) x=((0,dT F r++t),upd G x.o (F x.o)):=by
    unfold gF;rw[e];simp only;rw[g1,g2]
   rw[List.foldl_cons,hs,GC r _ t (fun y hy=>h y (by simp[hy]))];refine Prod.ext rfl (funext fun o=>?_);simp only[map_cons,mem_cons];by_cases ho:o∈r.map (·.o)
   ·rw[if_pos ho,if_pos (.inr ho)]
   · rw[if_neg ho]
     by_cases hx2:o=x.o
     ·rw[if_pos (.inl hx2)];subst hx2;simp[upd]
     ·rw[if_neg (fun h=>h.elim hx2 ho)];simp[upd,hx2]
theorem LZ{F:Nat→Int}(h:fG F):∀ x∈suL,(1≤x.b∧x.b≤4)∧0≤F x.o∧F x.o<256 ^ x.b.toNat:=by
 obtain⟨⟨a1,a2,a3,a4,a5,a6,a7⟩,b1,b2,b3,b4,b5,b6,b7,b8⟩:=h;intro x hx;simp only[suL,mem_cons,not_mem_nil,or_false] at hx;rcases hx with rfl|rfl|rfl|rfl|rfl|rfl|rfl|rfl|rfl|rfl
 ·exact⟨by decide,by show 0≤F 0;omega,by show F 0<4294967296;omega⟩
 ·exact⟨by decide,by show 0≤F 2;omega,by show F 2<4294967296;omega⟩
 ·exact⟨by decide,by show 0≤F 3;omega,by show F 3<4294967296;omega⟩
 ·exact⟨by decide,by show 0≤F 4;omega,by show F 4<4294967296;omega⟩
 ·exact⟨by decide,by show 0≤F 5;omega,by show F 5<4294967296;omega⟩
 ·exact⟨by decide,by show 0≤F 6;omega,by show F 6<4294967296;omega⟩
 ·exact⟨by decide,by show 0≤F 9;omega,by show F 9<4294967296;omega⟩
 ·exact⟨by decide,by show 0≤F 1;omega,by show F 1<65536;omega⟩
 ·exact⟨by decide,by show 0≤F 7;omega,by show F 7<65536;omega⟩
 ·exact⟨by decide,by show 0≤F 8;omega,by show F 8<65536;omega⟩
theorem I8(o:Nat):o∈suL.map (·.o)↔o<10:=by
 show o∈[0,2,3,4,5,6,9,1,7,8]↔_;simp only[mem_cons,not_mem_nil,or_false];omega
theorem L0{F:Nat→Int}(h:fG F)(h0:∀ o,10≤o→F o=0)(rest:By):suF (suB F++rest)=F:=by
 have e:((suB F++rest).take 64).drop 4=dT F suL++(le (dW (suH F):Nat) 4++List.replicate 22 0):=by
  rw[take_left' (kZ F)];unfold suB suH;rw[append_assoc];exact drop_left' (show suM.length=4 from rfl)
 unfold suF suQ;rw[e,GC suL zF _ (LZ h)];funext o;show (if o∈suL.map (·.o) then F o else zF o)=F o;by_cases ho:o<10
 ·rw[if_pos ((I8 o).2 ho)]
 ·rw[if_neg (fun h=>ho ((I8 o).1 h)),h0 o (by omega)];rfl
theorem Cl{F:Nat→Int}(h:fG F)(h0:∀ o,10≤o→F o=0)(rest:By)(hs:F 0=64+(rest.length:Int)):aH (suB F++rest)=(F,0):=by
 have hl:=kZ F;have hF:=L0 h h0 rest;have hok:iL (suB F++rest):=by
  unfold iL;rw[hF];exact⟨by rw[length_append];omega,h,take_left' hl,by rw[length_append];omega⟩
 unfold aH;rw[if_pos hok,hF]
theorem DE{L:List Ent}(h:aO [] L):lM L=(bA L,0)∧nO (bA L)=(L,0):=by
 refine⟨?_,DD h rfl⟩;unfold lM;rw[if_pos h]
section
open Go Go.RowKit Go.Maps
def At3(T X:By)(o:Nat):Prop:=∃ pre rest,T=pre++(X++rest)∧pre.length=o
theorem At3.more{T X z:By}{o:Nat}(h:At3 T X o):At3 (T++z) X o:=by
 obtain⟨pre,rest,h1,h2⟩:=h;exact⟨pre,rest++z,by rw[h1];simp,h2⟩
theorem At3.le{T X:By}{o:Nat}(h:At3 T X o):o+X.length≤T.length:=by
 obtain⟨pre,rest,h1,h2⟩:=h;rw[h1,length_append,length_append];omega
theorem At3.drop{T X:By}{o:Nat}(h:At3 T X o):∃ rest,T.drop o=X++rest:=by
 obtain⟨pre,rest,h1,h2⟩:=h;exact⟨rest,by rw[h1,←h2,drop_left' rfl]⟩
theorem At3.new(T X:By):At3 (T++X) X T.length:=⟨T,[],by simp,rfl⟩
theorem gG{T z:By}{o:Nat}(h:o≤T.length):aN (T++z) o=aN T o:=by
 rw[Ai (T:=T++z) (by rw[length_append];omega),Ai (T:=T) h,List.take_append_of_le_length h]
theorem Mk(T:By){o p:Nat}(h:o<p):aN T o<aN T p:=by
 unfold aN;by_cases e:o/128=p/128
 ·rw[e];omega
 · have h1:(frW T (o/128+1)).length≤(frW T (p/128)).length:=xS (by omega)
   have h2:=O5 (T:=T) (o/128);omega
structure Ex (s t:BSt):Prop where
 i:∃ z,t.ino=s.ino++z
 l:∃ z,t.lst=s.lst++z
 f:∃ z,t.fur=s.fur++z
 r:∀ m,0<s.refs.getD m 0→t.refs.getD m 0=s.refs.getD m 0
theorem Ex.rfl{s:BSt}:Ex s s:=⟨⟨[],by simp⟩,⟨[],by simp⟩,⟨[],by simp⟩,fun _ _=>Eq.refl _⟩
theorem Ex.trans{s t u:BSt}(h:Ex s t)(k:Ex t u):Ex s u:=by
 obtain⟨⟨a,ha⟩,⟨b,hb⟩,⟨c,hc⟩,hr⟩:=h;obtain⟨⟨a',ha'⟩,⟨b',hb'⟩,⟨c',hc'⟩,hr'⟩:=k;exact⟨⟨a++a',by rw[ha',ha,append_assoc]⟩,⟨b++b',by rw[hb',hb,append_assoc]⟩,⟨c++c',by rw[hc',hc,append_assoc]⟩,fun m hm=>by rw[hr' m (by rw[hr m hm];exact hm),hr m hm]⟩
def XrI(s:BSt)(X:List Xa)(xr:Int):Prop:=(X=[]∧xr=0)∨(X≠[]∧∃ o,xr=((aN s.fur o:Nat):Int)+1∧At3 s.fur (jE X) o)
theorem XrI.ex{s t:BSt}{X:List Xa}{xr:Int}(h:XrI s X xr)(e:Ex s t):XrI t X xr:=by
 rcases h with h|⟨h,o,h1,h2⟩
 ·exact .inl h
 · obtain⟨z,hz⟩:=e.f
   have:=h2.le;exact .inr ⟨h,o,by rw[hz,gG (by omega)];exact h1,by rw[hz];exact h2.more⟩
def iE(qs:List (NdH×Nd))(s:BSt)(ys:List Int):List Ent:=ys.map fun j=>(aQ (ndB qs j).names,(ndB qs j).kind,s.refs.getD (ndB qs j).ino.toNat 0-1)
def Cu(qs:List (NdH×Nd))(s:BSt)(ys:List Int):Prop:=∀ j∈ys,0<s.refs.getD (ndB qs j).ino.toNat 0
theorem Cu.ex{qs:List (NdH×Nd)}{s t:BSt}{ys:List Int}(h:Cu qs s ys)(e:Ex s t):Cu qs t ys:=fun j hj=>by rw[e.r _ (h j hj)];exact h j hj
theorem BO{qs:List (NdH×Nd)}{s t:BSt}{ys:List Int}(h:Cu qs s ys)(e:Ex s t):iE qs t ys=iE qs s ys:=by
 unfold iE;apply List.map_congr_left;intro j hj;rw[e.r _ (h j hj)]
def Nl(s:BSt)(o n:Nat):Ino:=(fun j=>if j=6 then ((aN s.lst o:Nat):Int) else if j=7 then (n:Int) else 0,[])
def KiI(qs:List (NdH×Nd))(files:List Ino)(s:BSt)(q:Nd)(i:Ino):Prop:=
 (q.kind=2→i=files.getD q.ino.toNat jD)∧(q.kind=3→i=(zF,q.tgt)) ∧
 (q.kind=1→Cu qs s (bN qs q.names qs.length)∧∃ o,i=Nl s o (bA (iE qs s (bN qs q.names qs.length))).length∧At3 s.lst (bA (iE qs s (bN qs q.names qs.length))) o)
theorem KiI.ex{qs:List (NdH×Nd)}{files:List Ino}{s t:BSt}{q:Nd}{i:Ino}(h:KiI qs files s q i)(e:Ex s t):KiI qs files t q i:=by
 obtain⟨h1,h2,h3⟩:=h;refine⟨h1,h2,fun hk=>?_⟩;obtain⟨a,o,b,c⟩:=h3 hk;obtain⟨z,hz⟩:=e.l;have hl:=c.le;have he:=BO a e;refine⟨a.ex e,o,?_,?_⟩
 ·rw[he,b];unfold Nl;rw[hz,gG (by omega)]
 ·rw[he,hz];exact c.more
def ND(qs:List (NdH×Nd))(ids:List Int)(files:List Ino)(s:BSt)(m:Nat):Prop:=
 ∃ (k:Nat) (q:NdH×Nd) (i:Ino) (xr:Int) (o:Nat),qs[k]?=some q∧q.2.ino=(m:Int)∧s.refs.getD m 0=((aN s.ino o:Nat):Int)+1∧eO (inB qs ids k i xr).1 (inB qs ids k i xr).2∧At3 s.ino (gC (inB qs ids k i xr)) o∧XrI s q.2.xs xr∧KiI qs files s q.2 i
theorem ND.ex{qs:List (NdH×Nd)}{ids:List Int}{files:List Ino}{s t:BSt}{m:Nat}(h:ND qs ids files s m)(h0:0<s.refs.getD m 0)(e:Ex s t):ND qs ids files t m:=by
 obtain⟨k,q,i,xr,o,h1,h2,h3,h4,h5,h6,h7⟩:=h;obtain⟨z,hz⟩:=e.i;have hl:=h5.le;exact⟨k,q,i,xr,o,h1,h2,by rw[e.r m h0,hz,gG (by omega)];exact h3,h4,by rw[hz];exact h5.more,h6.ex e,h7.ex e⟩
def rN(s:BSt):List Int:=s.refs.filter (fun r=>decide (0<r))
structure nG (qs:List (NdH×Nd))(ids:List Int)(files:List Ino)(s:BSt):Prop where
 std:∀ m,0<s.refs.getD m 0→ND qs ids files s m
 rl:s.refs.length=qs.length+1
 rn:∀ m,0≤s.refs.getD m 0
 sets:∀ y∈s.sets,∃ o,y.2=((aN s.fur o:Nat):Int)∧At3 s.fur (jE y.1) o
 many:s.many=(rN s).length
 dist:∀ m n,0<s.refs.getD m 0→s.refs.getD m 0=s.refs.getD n 0→m=n
 bi:s.ino.length≤214*s.many
 bf:s.fur.length≤4200*s.many
 sn:s.sets.length≤s.many
 sh:shS s
theorem Fi{l:List Int}{m:Nat}{v:Int}(h:m<l.length)(h0:l.getD m 0≤0)(hv:0<v):((l.set m v).filter (fun r=>decide (0<r))).length=(l.filter (fun r=>decide (0<r))).length+1:=by
 have e:l=l.take m++l.getD m 0::l.drop (m+1):=by
  rw[show l.getD m 0=l[m] by simp[List.getD,h],←drop_eq_getElem_cons h,take_append_drop]
 have e2:l.set m v=l.take m++v::l.drop (m+1):=List.set_eq_take_append_cons_drop .. |>.trans (by rw[if_pos h]);rw[e2]
 conv=>rhs;rw[e]
 rw[List.filter_append,List.filter_append,List.filter_cons_of_pos (by simpa using hv),List.filter_cons_of_neg (by simp only[decide_eq_true_eq];omega)];simp;omega
theorem PJ{l:List Int}{m n:Nat}{v:Int}(h:m<l.length):(l.set m v).getD n 0=if n=m then v else l.getD n 0:=by
 rw[List.getD,List.getElem?_set];by_cases e:m=n
 ·subst e;rw[if_pos rfl,if_pos h,if_pos rfl];rfl
 ·rw[if_neg e,if_neg (fun h=>e h.symm)];rfl
theorem Ik{X:List Xa}(h:eD X):(jE X).length≤4200:=by
 have hb:∀ x∈X,x.1.length≤255∧x.2.length≤255:=fun x hx=>by
  obtain⟨i,hi,rfl⟩:=List.getElem_of_mem hx;obtain⟨_,g2,_,g4⟩:=h.1 i hi;have e:X.getD i x0=X[i]:=by simp[List.getD,hi]
  rw[e] at g2 g4;omega
 have key:∀ Y:List Xa,(∀ x∈Y,x.1.length≤255∧x.2.length≤255)→(Y.flatMap jL).length≤512*Y.length:=by
  intro Y
  induction Y with
 |nil=>intro _;exact Nat.le_refl _
 |cons x r ih=>
    intro hy;have h1:=hy x (by simp);have h2:=ih (fun y h=>hy y (by simp[h]));have e:(jL x).length=(1+x.1.length)+(1+x.2.length):=by unfold jL;rw[length_append,sD,sD]
    rw[List.flatMap_cons,length_append,length_cons,e];omega
 have h1:=key X hb;have h2:=h.2;unfold jE;rw[length_cons];omega
section
variable {qs:List (NdH×Nd)}{ids:List Int}{files:List Ino}
theorem KO{s:BSt}(h:nG qs ids files s){X:List Xa}(hX:eD X) :
 XrI (cY s X).2 X (cY s X).1∧Ex s (cY s X).2∧(cY s X).2.refs=s.refs∧(cY s X).2.many=s.many∧(cY s X).2.ino=s.ino∧(cY s X).2.lst=s.lst∧(cY s X).2.fur.length≤s.fur.length+4200 ∧
 (∀ y∈(cY s X).2.sets,∃ o,y.2=((aN (cY s X).2.fur o:Nat):Int)∧At3 (cY s X).2.fur (jE y.1) o)∧0≤(cY s X).1∧shS (cY s X).2∧(cY s X).2.sets.length≤s.sets.length+1:=by
 have hsh:shS (cY s X).2:=GE h.sh (fun x hx=>by
  obtain⟨i,hi,rfl⟩:=List.getElem_of_mem hx;obtain⟨_,g2,_,_⟩:=hX.1 i hi;have e:X.getD i x0=X[i]:=by simp[List.getD,hi]
  rw[e] at g2;omega)
 by_cases h0:X.length=0
 · have e:cY s X=(0,s):=by unfold cY;rw[if_pos h0]
   rw[e] at hsh ⊢;exact⟨.inl ⟨length_eq_zero_iff.1 h0,rfl⟩,.rfl,rfl,rfl,rfl,rfl,Nat.le_add_right _ _,h.sets,Int.le_refl _,hsh,Nat.le_succ _⟩
 · have hne:X≠[]:=fun e=>h0 (by rw[e];rfl)
   cases hf:s.sets.find? (fun y=>decide (y.1=X)) with
  |some y=>
     have e:cY s X=(y.2+1,s):=by unfold cY;rw[if_neg h0,hf]
     rw[e] at hsh ⊢;obtain⟨o,h1,h2⟩:=h.sets y (List.mem_of_find?_eq_some hf);have h3:y.1=X:=by simpa using List.find?_some hf
     exact⟨.inr ⟨hne,o,by rw[h1],by rw[←h3];exact h2⟩,.rfl,rfl,rfl,rfl,rfl,Nat.le_add_right _ _,h.sets,by show 0≤y.2+1;omega,hsh,Nat.le_succ _⟩
  |none=>
     have e:cY s X=(((aN s.fur s.fur.length:Nat):Int)+1,{ s with fur:=s.fur++(jK X).1,sets:=s.sets++[(X,((aN s.fur s.fur.length:Nat):Int))] }):=by unfold cY;rw[if_neg h0,hf]
     have hp:(jK X).1=jE X:=by rw[HH hX (by omega)]
     rw[hp] at e;rw[e] at hsh ⊢;have hl:=Ik hX;refine⟨.inr ⟨hne,s.fur.length,by show _=((aN (s.fur++jE X) s.fur.length:Nat):Int)+1;rw[gG (Nat.le_refl _)],.new _ _⟩,⟨⟨[],by simp⟩,⟨[],by simp⟩,⟨_,rfl⟩,fun _ _=>rfl⟩,rfl,rfl,rfl,rfl,by show (s.fur++jE X).length≤_;rw[length_append];omega,fun y hy=>?_,by show (0:Int)≤((aN _ _:Nat):Int)+1;omega,hsh,by show (s.sets++_).length≤_;rw[length_append];exact Nat.le_refl _⟩;show ∃ o,y.2=((aN (s.fur++jE X) o:Nat):Int)∧At3 (s.fur++jE X) (jE y.1) o;rcases mem_append.1 hy with hy|hy
     · obtain⟨o,h1,h2⟩:=h.sets y hy
       have:=h2.le;exact⟨o,by rw[gG (by omega)];exact h1,h2.more⟩
     · rw[mem_singleton] at hy;subst hy
       exact⟨s.fur.length,by rw[gG (Nat.le_refl _)],.new _ _⟩
theorem K8{s:BSt}(h:nG qs ids files s){k m:Nat}{q:NdH×Nd}(hq:qs[k]?=some q)(hm:q.2.ino=(m:Int))(hml:m≤qs.length)(h0:s.refs.getD m 0=0)(hX:eD q.2.xs){i:Ino}(hk:KiI qs files s q.2 i)
 (hmay:∀ xr,0≤xr→xr≤4294967295→eO (inB qs ids k i xr).1 (inB qs ids k i xr).2)(hn:qs.length≤40) :
 nG qs ids files (jV qs ids k i s)∧Ex s (jV qs ids k i s)∧0<(jV qs ids k i s).refs.getD m 0∧(∀ n,n≠m→(jV qs ids k i s).refs.getD n 0=s.refs.getD n 0)∧(jV qs ids k i s).lst=s.lst∧(jV qs ids k i s).many=s.many+1:=by
 have hmn:s.many≤41:=by
  have h1:=List.length_filter_le (fun r:Int=>decide (0<r)) s.refs;rw[h.many];unfold rN;rw[h.rl] at h1;omega
 obtain⟨x1,x2,x3,x4,x5,x6,x7,x8,x9,x10,x11⟩:=KO h hX;have hnd:=bI hq;obtain⟨R,hR⟩:∃ R,R=cY s q.2.xs:=⟨_,rfl⟩
 rw[←hR] at x1 x2 x3 x4 x5 x6 x7 x8 x9 x10 x11;have hxr:R.1≤4294967295:=by
  rcases x1 with⟨_,e⟩|⟨_,o,e,ha⟩
  ·rw[e];decide
  · have h1:=ha.le
    have h2:=h.bf;have h3:=tU R.2.fur (o/128);rw[e];unfold aN;omega
 have hmy:=hmay R.1 x9 hxr;obtain⟨I,hI⟩:∃ I,I=inB qs ids k i R.1:=⟨_,rfl⟩
 rw[←hI] at hmy;have hput:(pK I.1 I.2).1=gC I:=by unfold pK gC;rw[if_pos hmy]
 have hlen:=sE hmy;have hfix:jV qs ids (k:Int) i s = { R.2 with ino:=R.2.ino++gC I,refs:=R.2.refs.set m ((aN R.2.ino R.2.ino.length:Nat)+1),many:=R.2.many+1 }:=by
  unfold jV;rw[hnd,←hR,hm,Int.toNat_natCast,←hI,hput]
 obtain⟨t,ht⟩:∃ t,t=jV qs ids (k:Int) i s:=⟨_,rfl⟩
 rw[←ht];have t1:t.ino=R.2.ino++gC I:=by rw[ht,hfix]
 have t2:t.refs=R.2.refs.set m ((aN R.2.ino R.2.ino.length:Nat)+1):=by rw[ht,hfix]
 have t3:t.many=R.2.many+1:=by rw[ht,hfix]
 have t4:t.fur=R.2.fur:=by rw[ht,hfix]
 have t5:t.lst=R.2.lst:=by rw[ht,hfix]
 have t6:t.sets=R.2.sets:=by rw[ht,hfix]
 have hrl:m<R.2.refs.length:=by rw[x3,h.rl];omega
 have hgd:∀ n,t.refs.getD n 0=if n=m then ((aN s.ino s.ino.length:Nat):Int)+1 else s.refs.getD n 0:=fun n=>by rw[t2,PJ hrl,x3,x5]
 have hex2:Ex R.2 t:=⟨⟨_,t1⟩,⟨[],by rw[t5];simp⟩,⟨[],by rw[t4];simp⟩,fun n hn=>by
  rw[hgd n,x3];by_cases e:n=m
  ·subst e;rw[x3,h0] at hn;exact absurd hn (by decide)
  ·rw[if_neg e]⟩
 have hex:=x2.trans hex2;have hpos:0<t.refs.getD m 0:=by rw[hgd m,if_pos rfl];omega
 have hmt:At3 t.ino (gC I) s.ino.length:=by rw[t1,x5];exact .new _ _
 have hrt:aN t.ino s.ino.length=aN s.ino s.ino.length:=by rw[t1,x5];exact gG (Nat.le_refl _)
 refine⟨⟨fun n hn=>?_,by rw[t2,length_set,x3];exact h.rl,fun n=>?_,fun y hy=>?_,?_,fun a b ha hab=>?_,by rw[t1,t3,x5,x4,length_append];have:=h.bi;omega,by rw[t4,t3,x4];have:=h.bf;omega,by rw[t6,t3,x4];have:=h.sn;omega,fun y hy=>x10 y (by rw[←t6];exact hy)⟩,hex,hpos,fun n hn=>by rw[hgd n,if_neg hn],by rw[t5,x6],by rw[t3,x4]⟩
 · by_cases e:n=m
   · subst e
     refine⟨k,q,i,R.1,s.ino.length,hq,hm,?_,by rw[←hI];exact hmy,by rw[←hI];exact hmt,x1.ex hex2,hk.ex hex⟩;rw[hgd n,if_pos rfl,hrt]
   · have hn':0<s.refs.getD n 0:=by rw[hgd n,if_neg e] at hn;exact hn
     exact(h.std n hn').ex hn' hex
 · rw[hgd n]
   split
   ·omega
   ·exact h.rn n
 · rw[t6] at hy
   rw[t4];exact x8 y hy
 · rw[t3,x4,h.many]
   unfold rN;rw[t2,Fi hrl (by rw[x3,h0];exact Int.le_refl _) (by omega),x3]
 · have old:∀ c,c≠m→0<s.refs.getD c 0→s.refs.getD c 0<((aN s.ino s.ino.length:Nat):Int)+1:=fun c hc hp=>by
    obtain⟨_,_,_,_,o,_,_,e,hmy2,ha,_⟩:=h.std c hp;have h1:=ha.le;have h2:=sE hmy2;have h3:=Mk s.ino (show o<s.ino.length by omega);rw[e];omega
   rw[hgd a] at ha hab;rw[hgd b] at hab;by_cases ea:a=m
   · by_cases eb:b=m
     ·rw[ea,eb]
     · rw[if_pos ea,if_neg eb] at hab
       have:=old b eb (by omega);omega
   · rw[if_neg ea] at ha hab
     by_cases eb:b=m
     · rw[if_pos eb] at hab
       have:=old a ea ha;omega
     · rw[if_neg eb] at hab
       exact h.dist a b ha hab
end
end
section
open Go Go.RowKit Go.Maps
theorem tL{α:Type}[DecidableEq α]:∀ (l m:List α),l.Nodup→(∀ x∈l,x∈m)→l.length≤m.length
|[],_,_,_=>Nat.zero_le _
|x::r,m,hn,h=>by
   have hx:=h x (by simp);have h1:=List.nodup_cons.1 hn;have h2:=tL r (m.erase x) h1.2 (fun y hy=>(List.mem_erase_of_ne (fun e=>h1.1 (by rw[←e];exact hy))).2 (h y (by simp[hy])));rw[List.length_erase_of_mem hx] at h2;have:=List.length_pos_of_mem hx;rw[length_cons];omega
theorem vH{qs:List (NdH×Nd)}{ids:List Int}(h:zJ qs ids):ids.length≤2*qs.length:=by
 have:=tL ids (pL qs) (h.1.imp (fun h=>by omega)) (fun x hx=>(h.2 x).1 hx);rw[rO] at this;exact this
theorem vA{ids:List Int}{z:Int}(h:z∈ids):0≤nM ids z∧nM ids z<ids.length∧ids.getD (nM ids z).toNat 0=z:=by
 unfold nM;cases hf:ids.findIdx? (fun x=>decide (x=z)) with
|none=>
   rw[List.findIdx?_eq_none_iff] at hf;have:=hf z h;simp at this
|some i=>
   rw[List.findIdx?_eq_some_iff_getElem] at hf;obtain⟨hi,h1,_⟩:=hf;have h1:ids[i]=z:=by simpa using h1
   refine⟨Int.natCast_nonneg _,by show (i:Int)<_;omega,?_⟩;show ids.getD ((i:Int)).toNat 0=z;rw[Int.toNat_natCast,List.getD,List.getElem?_eq_getElem hi];exact h1
theorem Bt{qs:List (NdH×Nd)}{q:NdH×Nd}(h:q∈qs):q.2.ud∈pL qs∧q.2.gd∈pL qs:=by
 obtain⟨i,hi⟩:=List.getElem?_of_mem h;have hl:=(List.getElem?_eq_some_iff.1 hi).1;have hz:=rO qs;have g:∀ j,j<2*qs.length→(pL qs).getD j 0∈pL qs:=fun j hj=>by
  rw[List.getD,List.getElem?_eq_getElem (by omega)];exact List.getElem_mem _
 obtain⟨k0,k1⟩:=Bu qs i q hi;refine⟨?_,?_⟩
 · have:=g (2*i) (by omega)
   rw[k0] at this;exact this
 · have:=g (2*i+1) (by omega)
   rw[k1] at this;exact this
theorem Nq{qs:List (NdH×Nd)}{q:NdH×Nd}(h:q∈qs):1≤jI qs q.2.ino:=by
 unfold jI;have:0<qs.countP (fun p=>decide (p.2.ino=q.2.ino)):=List.countP_pos_iff.2 ⟨q,h,by simp⟩;omega
section
variable {qs:List (NdH×Nd)}{ids:List Int}{fs:FSt}(G:GdT qs)(I:zJ qs ids)(F:FI (nds qs) (qs.length+1) fs)
include G
theorem GdT.one{k:Nat}{q:NdH×Nd}(hq:qs[k]?=some q)(hk:q.2.kind=1):jI qs q.2.ino=1:=by
 have hz:∀ L:List (NdH×Nd),(∀ p∈L,p.2.ino≠q.2.ino)→L.countP (fun p=>decide (p.2.ino=q.2.ino))=0:=fun L h=>List.countP_eq_zero.2 (fun p hp=>by simpa using h p hp);have e:qs=qs.take k++q::qs.drop (k+1):=by rw[←(List.getElem?_eq_some_iff.1 hq).2,List.getElem_cons_drop,take_append_drop]
 unfold jI;have h1:(qs.take k).countP (fun p=>decide (p.2.ino=q.2.ino))=0:=hz _ (fun p hp he=>by
  obtain⟨j,hj⟩:=List.getElem?_of_mem hp;rw[List.getElem?_take] at hj
  split at hj
  · rename_i hlt
    exact(G.lnk k j q p (by omega) hq hj he.symm).1 hk
  ·cases hj)
 have h2:(qs.drop (k+1)).countP (fun p=>decide (p.2.ino=q.2.ino))=0:=hz _ (fun p hp he=>by
  obtain⟨j,hj⟩:=List.getElem?_of_mem hp;rw[List.getElem?_drop] at hj;exact(G.lnk k (k+1+j) q p (by omega) hq hj he.symm).1 hk)
 have h3:qs.countP (fun p=>decide (p.2.ino=q.2.ino))=(qs.take k).countP (fun p=>decide (p.2.ino=q.2.ino))+(1+(qs.drop (k+1)).countP (fun p=>decide (p.2.ino=q.2.ino))):=by
  conv=>lhs;rw[e]
  rw[List.countP_append,List.countP_cons_of_pos (by simp)];omega
 rw[h3,h1,h2];rfl
theorem GdT.same{q x:NdH×Nd}(hq:q∈qs)(hx:x∈qs)(e:x.2.ino=q.2.ino):Alk x.2 q.2:=by
 obtain⟨i,hi⟩:=List.getElem?_of_mem hx;obtain⟨j,hj⟩:=List.getElem?_of_mem hq;by_cases h:i=j
 ·subst h;rw[hi] at hj;cases hj;exact WN _
 ·exact(G.lnk i j x q h hi hj e).2
include F in
theorem GL {q:NdH×Nd} (hq:q∈qs) (hk:q.2.kind=2):FOk fs.ds.B fs.tails q.2.data (fs.files.getD q.2.ino.toNat jD):=by
 have hi:=G.ino q hq;have hl:=F.l;obtain⟨f,hf⟩:∃ f,fs.files[q.2.ino.toNat]?=some f:=⟨_,List.getElem?_eq_getElem (by omega)⟩
 have hd:fs.files.getD q.2.ino.toNat jD=f:=by rw[List.getD,hf];rfl
 have ha:=F.a q.2 (mem_map.2 ⟨q,hq,rfl⟩) hk;rw[hd] at ha ⊢;rcases F.f _ f hf with e|⟨x,hx,h1,h2,h3⟩
 ·rw[e] at ha;exact absurd (show (0:Int)=2 from ha) (by decide)
 · obtain⟨p,hp,rfl⟩:=mem_map.1 hx
   have:=G.ino p hp;have e:=G.same hq hp (by omega);rw[←e.2.2.2.2.1];exact h3
omit G in
theorem GU {B:By} {L:List By} {d:By} {f:Ino} (h:FOk B L d f) (hL:DT L):∃ st fr off:Nat,f=(fun j=>[2,0,0,0,0,0,(st:Int),(d.length:Int),(fr:Int),(off:Int)].getD j 0,[])∧st≤64+B.length∧fr≤L.length∧(0<fr↔0<d.length%128)∧off<128∧(0<fr∨off=0)∧D4 B d st∧TlS L (eB d) fr off:=by
 obtain⟨st,fr,off,h1,h2,h3⟩:=h;have ht:(eB d).length=d.length%128:=by unfold eB;rw[length_drop];omega
 have hs:st≤64+B.length:=by
  rcases h2 with⟨_,e⟩|⟨_,pre,rest,e1,e2⟩
  ·omega
  ·rw[e1,e2,length_append];omega
 refine⟨st,fr,off,h1,hs,?_⟩;have h3':=h3;rcases h3 with⟨e1,e2,e3⟩|⟨e0,n,a,z,e1,e2,e3,e4⟩
 · rw[e1] at ht
   have ht:0=d.length%128:=ht;exact⟨by omega,by omega,by omega,.inr e3,h2,h3'⟩
 · have hb:=hL (L.getD n []) (by rw[List.getD,List.getElem?_eq_getElem e1];exact List.getElem_mem _)
   rw[e4,length_append,length_append] at hb;exact⟨by omega,by omega,by omega,.inl (by omega),h2,h3'⟩
include I F in
theorem BB {k:Nat} {q:NdH×Nd} (hq:qs[k]?=some q) {i:Ino} {xr:Int} (hx:0≤xr∧xr≤4294967295)
 (h2:q.2.kind=2→i=fs.files.getD q.2.ino.toNat jD) (h3:q.2.kind=3→i=(zF,q.2.tgt)) (h1:q.2.kind=1→∃ a n:Nat,i=(fun j=>if j=6 then (a:Int) else if j=7 then (n:Int) else 0,[])∧a≤4294967295∧n≤1048576) :
 eO (inB qs ids k i xr).1 (inB qs ids k i xr).2:=by
 have hm:=mem_of_getElem? hq;have hkl:=(List.getElem?_eq_some_iff.1 hq).1;obtain⟨⟨k1,k3⟩,_,m1,m2,m3,m4,m5,m6,_⟩:=G.may q hm;have hn:=G.n;have hil:=vH I;obtain⟨o1,o2⟩:=Bt hm;obtain⟨u1,u2,_⟩:=vA ((I.2 _).2 o1);obtain⟨g1,g2,_⟩:=vA ((I.2 _).2 o2);have hl:wZ qs (k:Int)=jI qs q.2.ino:=Ge ⟨by omega,by omega⟩ (by rw[Int.toNat_natCast];exact hq);have hc:=Lq qs q.2.ino;have hc1:=Nq hm;have hnd:=bI hq;have f0:(inB qs ids k i xr).1 0=q.2.kind:=by unfold inB;rw[hnd];rfl
 have f1:(inB qs ids k i xr).1 1=q.2.md:=by unfold inB;rw[hnd];rfl
 have f2:(inB qs ids k i xr).1 2=nM ids q.2.ud:=by unfold inB;rw[hnd];rfl
 have f3:(inB qs ids k i xr).1 3=nM ids q.2.gd:=by unfold inB;rw[hnd];rfl
 have f4:(inB qs ids k i xr).1 4=jI qs q.2.ino:=by rw[←hl];rfl
 have f5:(inB qs ids k i xr).1 5=xr:=rfl;have f6:(inB qs ids k i xr).1 6=i.1 6:=rfl;have f7:(inB qs ids k i xr).1 7=i.1 7:=rfl;have f8:(inB qs ids k i xr).1 8=i.1 8:=rfl;have f9:(inB qs ids k i xr).1 9=i.1 9:=rfl;have ft:(inB qs ids k i xr).2=i.2:=rfl;unfold eO aX;rw[f0,f1,f2,f3,f4,f5,f6,f7,f8,f9,ft];by_cases c2:q.2.kind=2
 · have hf:=GL G F hm c2
   rw[←h2 c2] at hf;obtain⟨st,fr,off,rfl,a1,a2,a3,a4,a5,_,_⟩:=GU hf F.t;have hB:=F.b;have hT:=F.tn;rw[length_map] at hB hT;refine⟨⟨by omega,by omega,by omega,by omega,by omega,by omega,by omega,by omega,by omega,by omega,.inl ⟨c2,?_⟩⟩,fun h=>by omega⟩;show 0≤((q.2.data.length:Nat):Int)∧((q.2.data.length:Nat):Int)≤4096∧0≤((fr:Nat):Int)∧((fr:Nat):Int)≤1024∧(0<((fr:Nat):Int)↔0<((q.2.data.length:Nat):Int)%128)∧0≤((st:Nat):Int)∧((st:Nat):Int)≤4294967295∧0≤((off:Nat):Int)∧((off:Nat):Int)<128∧(0<((fr:Nat):Int)∨((off:Nat):Int)=0)∧([]:By).length=0;refine⟨by omega,by omega,by omega,by omega,by omega,by omega,by omega,by omega,by omega,by omega,rfl⟩
 · by_cases c3:q.2.kind=3
   · unfold okT at m6
     rw[if_pos c3] at m6;have hp:=length_pos_iff.2 m6.1;rw[h3 c3];refine⟨⟨by omega,by omega,by omega,by omega,by omega,by omega,by omega,by omega,by omega,by omega,.inr (.inr ⟨c3,by show 1≤q.2.tgt.length;omega,m6.2.1,rfl,rfl,rfl,rfl⟩)⟩,fun _=>m6.2.2⟩
   · have c1:q.2.kind=1:=by omega
     obtain⟨a,n,rfl,ha,hn2⟩:=h1 c1;have h11:=G.one hq c1;refine⟨⟨by omega,by omega,by omega,by omega,by omega,by omega,by omega,by omega,by omega,by omega,.inr (.inl ⟨c1,?_⟩)⟩,fun h=>by omega⟩;show 0≤((a:Nat):Int)∧((a:Nat):Int)≤4294967295∧0≤((n:Nat):Int)∧((n:Nat):Int)≤1048576∧jI qs q.2.ino=1∧(0:Int)=0∧(0:Int)=0∧([]:By).length=0;exact⟨by omega,by omega,by omega,by omega,h11,rfl,rfl,rfl⟩
end
theorem nG.many41{qs:List (NdH×Nd)}{ids:List Int}{files:List Ino}{s:BSt}(h:nG qs ids files s)(hn:qs.length≤40):s.many≤41:=by
 have h1:=List.length_filter_le (fun r:Int=>decide (0<r)) s.refs;rw[h.many];unfold rN;rw[h.rl] at h1;omega
theorem nG.ref_le{qs:List (NdH×Nd)}{ids:List Int}{files:List Ino}{s:BSt}(h:nG qs ids files s)(hn:qs.length≤40){m:Nat}(hm:0<s.refs.getD m 0):s.refs.getD m 0-1≤4294967295:=by
 obtain⟨_,_,_,_,o,_,_,e,_,ha,_⟩:=h.std m hm;have h1:=ha.le;have h2:=h.bi;have h3:=h.many41 hn;have h4:=tU s.ino (o/128);rw[e];unfold aN;omega
section
variable {qs:List (NdH×Nd)}{ids:List Int}{files:List Ino}(G:GdT qs)
include G
theorem tW{s:BSt}(h:nG qs ids files s){S:List By}:∀ (ys:List Int) (last:By),(∀ z∈ys,z∈bN qs S qs.length)→ys.Pairwise (· < ·)→Cu qs s ys→(∀ z∈ys,Op.bytesLess last (aQ (ndB qs z).names)=true)→aO last (iE qs s ys)
|[],_,_,_,_,_=>trivial
|z::r,last,hk,hp,hs,hl=>by
   obtain⟨k,q,rfl,hq,hn⟩:=iB (hk z (by simp));have hnd:=bI hq;have hm:=mem_of_getElem? hq;obtain⟨⟨k1,k3⟩,_⟩:=G.may q hm;have hpos:=hs (k:Int) (by simp);have hrl:=h.ref_le G.n.2 hpos;have hp2:=List.pairwise_cons.1 hp;refine⟨⟨?_,hl _ (by simp),?_,?_,?_,?_⟩,?_⟩
   · show dV (aQ (ndB qs k).names)=0
     rw[hnd];refine G.nmv q hm _ ?_;rw[hn];simp[aQ]
   ·show 1≤(ndB qs k).kind;rw[hnd];exact k1
   ·show (ndB qs k).kind≤3;rw[hnd];exact k3
   ·show 0≤s.refs.getD _ 0-1;omega
   ·show s.refs.getD _ 0-1≤4294967295;exact hrl
   · refine tW h r _ (fun z hz=>hk z (by simp[hz])) hp2.2 (fun z hz=>hs z (by simp[hz])) (fun z hz=>?_)
     obtain⟨j,p,rfl,hj,hnj⟩:=iB (hk z (by simp[hz]));have hlt:=hp2.1 _ hz;have hless:=G.lt k j q p (by omega) hq hj;rw[bI hj];show Op.bytesLess (aQ (ndB qs k).names) _=true;rw[hnd];have hkq:kV q.2.names S:=mG.2 ⟨by rw[hn];simp,by rw[hn];simp⟩;have hkp:kV p.2.names S:=mG.2 ⟨by rw[hnj];simp,by rw[hnj];simp⟩;unfold bX at hless;have h5:=of_decide_eq_true hless;rw[BE hkq hkp] at h5;exact BS.1 h5
theorem La{s:BSt}{S:List By}:(bA (iE qs s (bN qs S qs.length))).length≤10440:=by
 have key:∀ ys:List Int,(∀ z∈ys,z∈bN qs S qs.length)→(bA (iE qs s ys)).length≤261*ys.length:=by
  intro ys
  induction ys with
 |nil=>intro _;exact Nat.le_refl _
 |cons z r ih=>
    intro h;obtain⟨k,q,rfl,hq,hn⟩:=iB (h z (by simp));have h2:=ih (fun y hy=>h y (by simp[hy]));have h3:(aQ (ndB qs k).names).length≤255:=by
     rw[bI hq];refine(kX (G.nmv q (mem_of_getElem? hq) _ ?_)).1;rw[hn];simp[aQ]
    have e:bA (iE qs s ((k:Int)::r))=lP (aQ (ndB qs k).names,(ndB qs k).kind,s.refs.getD (ndB qs k).ino.toNat 0-1)++bA (iE qs s r):=rfl;rw[e,length_append,oP,length_cons];show (aQ (ndB qs k).names).length+6+_≤_;omega
 have h1:=key _ (fun z hz=>hz);have h2:=xI (ps:=qs) (s:=S) qs.length;have h3:=G.n.2;omega
end
end
section
open Go Go.RowKit Go.Maps
def BlI(s:BSt):Prop:=s.lst.length≤10440*s.many
structure GdW (qs:List (NdH×Nd))(ids:List Int)(files:List Ino)(s t:BSt)(q:Nd):Prop where
 inv:nG qs ids files t
 bl:BlI t
 ex:Ex s t
 set:0<t.refs.getD q.ino.toNat 0
 ch:∀ m,t.refs.getD m 0≠s.refs.getD m 0→∃ x∈qs,x.2.ino=(m:Int)∧∃ r,x.2.names=q.names++r
section
variable {qs:List (NdH×Nd)}{ids:List Int}{fs:FSt}(G:GdT qs)(I:zJ qs ids)(F:FI (nds qs) (qs.length+1) fs)
include G
theorem FB{wr:Int→BSt→BSt}{S:List By}(IH:∀ (k:Nat) (q:NdH×Nd) (s:BSt),qs[k]?=some q→q.2.names.length=S.length+1→nG qs ids fs.files s→BlI s→GdW qs ids fs.files s (wr k s) q.2) :
 ∀ (ys:List Int) (s:BSt),(∀ z∈ys,z∈bN qs S qs.length)→nG qs ids fs.files s→BlI s→∃ t,wrK wr qs ys s=(t,iE qs t ys)∧nG qs ids fs.files t∧BlI t∧Ex s t∧Cu qs t ys ∧
  ∀ m,t.refs.getD m 0≠s.refs.getD m 0→∃ x∈qs,x.2.ino=(m:Int)∧∃ a r,x.2.names=S++a::r
|[],s,_,h,hb=>⟨s,rfl,h,hb,.rfl,(by intro j hj;cases hj),fun m hm=>absurd rfl hm⟩
|z::r,s,hk,h,hb=>by
   obtain⟨k,q,rfl,hq,hn⟩:=iB (hk z (by simp));have g:=IH k q s hq (by rw[hn];simp) h hb;obtain⟨t,e,i1,i2,i3,i4,i5⟩:=FB IH r (wr k s) (fun y hy=>hk y (by simp[hy])) g.inv g.bl;have hnd:=bI hq;have hset:0<t.refs.getD q.2.ino.toNat 0:=by rw[i3.r _ g.set];exact g.set
   refine⟨t,?_,i1,i2,g.ex.trans i3,?_,fun m hm=>?_⟩
   · show ((wrK wr qs r (wr k s)).1,(aQ (ndB qs k).names,(ndB qs k).kind,(wr k s).refs.getD (ndB qs k).ino.toNat 0-1)::(wrK wr qs r (wr k s)).2)=_
     rw[e];refine Prod.ext rfl ?_;show _::iE qs t r=(aQ (ndB qs k).names,(ndB qs k).kind,t.refs.getD (ndB qs k).ino.toNat 0-1)::iE qs t r;rw[hnd,i3.r _ g.set]
   · intro j hj
     rcases mem_cons.1 hj with rfl|hj
     ·rw[hnd];exact hset
     ·exact i4 j hj
   · by_cases hc:t.refs.getD m 0=(wr k s).refs.getD m 0
     · obtain⟨x,hx,h1,y,h2⟩:=g.ch m (by rw[←hc];exact hm)
       obtain⟨a,ha⟩:∃ a,a=aQ q.2.names:=⟨_,rfl⟩
       rw[←ha] at hn;exact⟨x,hx,h1,a,y,by rw[h2,hn];simp⟩
     ·exact i5 m hc
include I F in
theorem FC:∀ (n:Nat) (k:Nat) (q:NdH×Nd) (s:BSt),qs[k]?=some q→17≤q.2.names.length+n→nG qs ids fs.files s→BlI s→GdW qs ids fs.files s (wrB qs ids fs.files n k s) q.2
|0,k,q,s,hq,hd,h,hb=>by
   have:=G.dep q (mem_of_getElem? hq);omega
|n+1,k,q,s,hq,hd,h,hb=>by
   have hqm:=mem_of_getElem? hq;have hi:=G.ino q hqm;have hn40:=G.n.2;obtain⟨m,hm⟩:=Int.eq_ofNat_of_zero_le (show 0≤q.2.ino by omega);have hmt:q.2.ino.toNat=m:=by omega
   have hX:=(G.may q hqm).2.2.2.2.2.2.2.2;obtain⟨k1,k3⟩:=(G.may q hqm).1;rw[IM n s hq hm];have one:∀ (s':BSt) (i:Ino),nG qs ids fs.files s'→s'.lst.length≤10440*(s'.many+1)→s'.refs.getD m 0=0→Ex s s'→KiI qs fs.files s' q.2 i →
    (∀ xr,0≤xr→xr≤4294967295→eO (inB qs ids k i xr).1 (inB qs ids k i xr).2)→(∀ a,s'.refs.getD a 0≠s.refs.getD a 0→∃ x∈qs,x.2.ino=(a:Int)∧∃ r,x.2.names=q.2.names++r)→GdW qs ids fs.files s (jV qs ids k i s') q.2:=by
    intro s' i hI hl h0 he hk hmay hch;obtain⟨f1,f2,f3,f4,f5,f6⟩:=K8 hI hq hm (by omega) h0 hX hk hmay hn40;refine⟨f1,by unfold BlI;rw[f5,f6];exact hl,he.trans f2,by rw[hmt];exact f3,fun a ha=>?_⟩;by_cases e:a=m
    ·exact⟨q,hqm,by rw[e];exact hm,[],by simp⟩
    ·rw[f4 a e] at ha;exact hch a ha
   by_cases c0:0<s.refs.getD m 0
   · rw[if_pos c0]
     exact⟨h,hb,.rfl,by rw[hmt];exact c0,fun a ha=>absurd rfl ha⟩
   · rw[if_neg c0]
     have h0:s.refs.getD m 0=0:=by have:=h.rn m;omega
     have hbl:s.lst.length≤10440*(s.many+1):=by have:s.lst.length≤10440*s.many:=hb;omega
     have hno:∀ a,s.refs.getD a 0≠s.refs.getD a 0→∃ x∈qs,x.2.ino=(a:Int)∧∃ r,x.2.names=q.2.names++r:=fun a ha=>absurd rfl ha;by_cases c2:q.2.kind=2
     · rw[if_pos c2]
       have e:fs.files.getD m jD=fs.files.getD q.2.ino.toNat jD:=by rw[hmt]
       exact one s _ h hbl h0 .rfl ⟨fun _=>e,fun h=>by omega,fun h=>by omega⟩ (fun xr a b=>BB G I F hq ⟨a,b⟩ (fun _=>e) (fun h=>by omega) (fun h=>by omega)) hno
     · rw[if_neg c2]
       by_cases c3:q.2.kind=3
       · rw[if_pos c3]
         exact one s _ h hbl h0 .rfl ⟨fun h=>by omega,fun _=>rfl,fun h=>by omega⟩ (fun xr a b=>BB G I F hq ⟨a,b⟩ (fun h=>by omega) (fun _=>rfl) (fun h=>by omega)) hno
       · rw[if_neg c3,if_pos (by omega)]
         have c1:q.2.kind=1:=by omega
         obtain⟨t,e,i1,i2,i3,i4,i5⟩:=FB (S:=q.2.names) (ids:=ids) (fs:=fs) G (wr:=wrB qs ids fs.files n) (fun k' q' s' hq' hl h' hb'=>FC n k' q' s' hq' (by omega) h' hb') (bN qs q.2.names qs.length) s (fun _ hz=>hz) h hb;rw[e];have hch:aO [] (iE qs t (bN qs q.2.names qs.length)):=tW G i1 _ _ (fun _ hz=>hz) (mH _) i4 (fun z hz=>by
          obtain⟨k',q',rfl,hq',hn'⟩:=iB hz;rw[bI hq'];have hv:=(kX (G.nmv q' (mem_of_getElem? hq') (aQ q'.2.names) (by rw[hn'];simp[aQ]))).2.1;cases hc:aQ q'.2.names with
         |nil=>exact absurd hc hv
         |cons a r=>rfl)
         have hp:=(DE hch).1;have hlen:=La (s:=t) G (S:=q.2.names);simp only;rw[hp];simp only;obtain⟨B,hB⟩:∃ B,B=bA (iE qs t (bN qs q.2.names qs.length)):=⟨_,rfl⟩
         rw[←hB] at hlen ⊢;have hex:Ex t { t with lst:=t.lst++B }:=⟨⟨[],by simp⟩,⟨_,rfl⟩,⟨[],by simp⟩,fun _ _=>rfl⟩
         obtain⟨u,hu⟩:∃ u,u = { t with lst:=t.lst++B }:=⟨_,rfl⟩
         rw[←hu] at hex ⊢;have u1:u.ino=t.ino:=by rw[hu]
         have u2:u.refs=t.refs:=by rw[hu]
         have u3:u.fur=t.fur:=by rw[hu]
         have u4:u.sets=t.sets:=by rw[hu]
         have u5:u.many=t.many:=by rw[hu]
         have u6:u.lst=t.lst++B:=by rw[hu]
         have hIu:nG qs ids fs.files u:=⟨fun a ha=>by rw[u2] at ha;exact(i1.std a ha).ex ha hex,by rw[u2];exact i1.rl,fun a=>by rw[u2];exact i1.rn a,fun y hy=>by rw[u4] at hy;rw[u3];exact i1.sets y hy,by rw[u5,i1.many];unfold rN;rw[u2],fun a b=>by rw[u2];exact i1.dist a b,by rw[u1,u5];exact i1.bi,by rw[u3,u5];exact i1.bf,by rw[u4,u5];exact i1.sn,fun y hy=>i1.sh y (by rw[←u4];exact hy)⟩
         have ht0:u.refs.getD m 0=0:=by
          rw[u2];apply byContradiction;intro hne;obtain⟨x,hx,hxi,a,r,hxn⟩:=i5 m (by rw[h0];exact hne);obtain⟨j,hj⟩:=List.getElem?_of_mem hx;by_cases ej:k=j
          · subst ej;rw[hq] at hj;cases hj
            have:=congrArg List.length hxn;simp at this
          ·exact(G.lnk k j q x ej hq hj (by omega)).1 c1
         have hd1:In t B=Nl u t.lst.length (bA (iE qs u (bN qs q.2.names qs.length))).length:=by
          have e1:iE qs u (bN qs q.2.names qs.length)=iE qs t (bN qs q.2.names qs.length):=BO i4 hex;rw[e1,←hB];unfold In Nl;rw[u6,gG (Nat.le_refl _)]
         have hki:KiI qs fs.files u q.2 (In t B):=⟨fun h=>by omega,fun h=>by omega,fun _=>⟨i4.ex hex,t.lst.length,hd1,by
          rw[BO i4 hex,←hB,u6];exact .new _ _⟩⟩
         have hm41:=i1.many41 hn40;have hlt:t.lst.length≤10440*t.many:=i2;refine one u _ hIu (by rw[u6,u5,length_append];omega) ht0 (i3.trans hex) hki (fun xr a b=>BB G I F hq ⟨a,b⟩ (fun h=>by omega) (fun h=>by omega) (fun _=>⟨aN t.lst t.lst.length,B.length,rfl,?_,by omega⟩)) (fun a ha=>?_)
         · have:=tU t.lst (t.lst.length/128)
           unfold aN;omega
         · rw[u2] at ha
           obtain⟨x,hx,h1,b,r,h2⟩:=i5 a ha;exact⟨x,hx,h1,b::r,h2⟩
omit G in
theorem Sz:nG qs ids fs.files (sQ (qs.length+1))∧BlI (sQ (qs.length+1)):=by
 have hz:∀ m,(sQ (qs.length+1)).refs.getD m 0=0:=fun m=>by
  show (List.replicate (qs.length+1) (0:Int)).getD m 0=0;rw[List.getD,List.getElem?_replicate]
  split<;>rfl
 refine⟨⟨fun m hm=>?_,List.length_replicate,fun m=>by rw[hz];exact Int.le_refl _,(by intro y hy;cases hy),?_,fun m n hm=>?_,Nat.zero_le _,Nat.zero_le _,Nat.zero_le _,(by intro y hy;cases hy)⟩,Nat.zero_le _⟩
 ·rw[hz] at hm;exact absurd hm (by decide)
 · show 0=(List.filter _ (List.replicate (qs.length+1) (0:Int))).length
   rw[List.filter_replicate];simp
 ·rw[hz] at hm;exact absurd hm (by decide)
include I F in
theorem tZ:∃ S,wrB qs ids fs.files 17 0 (sQ (qs.length+1))=S∧nG qs ids fs.files S∧BlI S∧∀ q∈qs,0<S.refs.getD q.2.ino.toNat 0:=by
 obtain⟨r,hr,hr1,hr2⟩:=G.root;obtain⟨a,b⟩:=Sz (qs:=qs) (ids:=ids) (fs:=fs);have g:=FC G I F 17 0 r (sQ (qs.length+1)) hr (by omega) a b;refine⟨_,rfl,g.inv,g.bl,?_⟩;obtain⟨S,hS⟩:∃ S,S=wrB qs ids fs.files 17 (0:Nat) (sQ (qs.length+1)):=⟨_,rfl⟩
 rw[←hS] at g;show ∀ q∈qs,0<(wrB qs ids fs.files 17 ((0:Nat):Int) (sQ (qs.length+1))).refs.getD q.2.ino.toNat 0;rw[←hS];have key:∀ (d:Nat) (q:NdH×Nd),q∈qs→q.2.names.length=d→0<S.refs.getD q.2.ino.toNat 0:=by
  intro d
  induction d with
 |zero=>
    intro q hq hl;obtain⟨j,hj⟩:=List.getElem?_of_mem hq;have e:=G.inj hr hj (by rw[hr1,length_eq_zero_iff.1 hl]);subst e;rw[hr] at hj;cases hj;exact g.set
 |succ d ih=>
    intro q hq hl;obtain⟨j,hj⟩:=List.getElem?_of_mem hq;have hne:q.2.names≠[]:=fun e=>by rw[e] at hl;cases hl
    obtain⟨p,hp,hpn,hpk⟩:=G.up q hq hne;have hpos:=ih p hp (by rw[hpn,List.length_dropLast];omega);obtain⟨k',q',i,xr,o,h1,h2,h3,h4,h5,h6,h7⟩:=g.inv.std _ hpos;obtain⟨jp,hjp⟩:=List.getElem?_of_mem hp;have hpi:=G.ino p hp;have e:k'=jp:=byContradiction fun hne=>(G.lnk jp k' p q' (fun h=>hne h.symm) hjp h1 (by omega)).1 hpk;subst e;rw[h1] at hjp;cases hjp;have hk:=(h7.2.2 hpk).1 (j:Int) (Ku hj hne hpn.symm);rw[bI hj] at hk;exact hk
 exact fun q hq=>key _ q hq rfl
end
end
section
open Go Go.RowKit Go.Maps
structure ImB (qs:List (NdH×Nd))(ids:List Int) where
 G:GdT qs
 I:zJ qs ids
 sz:64+((eW (aF qs ids) ids).length:Int)≤1048576
section
variable {qs:List (NdH×Nd)}{ids:List Int}(M:ImB qs ids)
def stB(qs:List (NdH×Nd))(ids:List Int):BSt:=(aF qs ids).s
def plB(qs:List (NdH×Nd))(ids:List Int):List Int:=(aF qs ids).pl
def imB(qs:List (NdH×Nd))(ids:List Int):By:=suB (bO qs ids (aF qs ids))++eW (aF qs ids) ids
include M
theorem ImB.fi:FI (nds qs) (qs.length+1) (bM qs):=BN (fun q hq=>⟨M.G.ino q hq,(M.G.may q hq).2.2.2.2.2.2.1⟩)
theorem ImB.st:nG qs ids (bM qs).files (stB qs ids)∧(∀ q∈qs,0<(stB qs ids).refs.getD q.2.ino.toNat 0):=by
 obtain⟨S,e,h1,_,h2⟩:=tZ M.G M.I M.fi;have e2:stB qs ids=S:=e;rw[e2];exact⟨h1,h2⟩
theorem ImB.pln:(plB qs ids).length=(bM qs).tails.length∧(plB qs ids).length≤40:=by
 have h:=lT (bM qs).tails (bM qs).ds;have h2:=M.fi.tn;have h3:=M.G.n.2;rw[length_map] at h2;have e:(plB qs ids).length=(bM qs).tails.length:=h;exact⟨e,by omega⟩
theorem ImB.ids0:1≤ids.length∧ids.length≤80:=by
 obtain⟨r,hr,_⟩:=M.G.root;have h:=(M.I.2 _).2 (Bt (mem_of_getElem? hr)).1;have h2:=List.length_pos_of_mem h;have h3:=vH M.I;have h4:=M.G.n.2;omega
theorem ImB.many:1≤(stB qs ids).many∧(stB qs ids).many≤41:=by
 obtain⟨h,h2⟩:=M.st;refine⟨?_,h.many41 M.G.n.2⟩;obtain⟨r,hr,_⟩:=M.G.root;have h3:=h2 r (mem_of_getElem? hr);have h4:=M.G.ino r (mem_of_getElem? hr);rw[h.many];have hm:(stB qs ids).refs.getD r.2.ino.toNat 0∈rN (stB qs ids):=by
  unfold rN;rw[List.mem_filter];have hl:r.2.ino.toNat<(stB qs ids).refs.length:=by rw[h.rl];omega
  exact⟨by rw[List.getD,List.getElem?_eq_getElem hl];exact List.getElem_mem _,by simpa using h3⟩
 exact List.length_pos_of_mem hm
theorem ImB.may:fG (bO qs ids (aF qs ids)):=by
 obtain⟨a1,a2⟩:=M.many;obtain⟨b1,b2⟩:=M.ids0;obtain⟨c1,c2⟩:=M.pln;obtain⟨h,h2⟩:=M.st;obtain⟨r,hr,_⟩:=M.G.root;have h3:=h2 r (mem_of_getElem? hr);have h4:=h.ref_le M.G.n.2 h3;have hs:=M.sz;have nd:=bI hr;have l2:(iH (aF qs ids)).length=(lE (aF qs ids)).length+(dnW (aF qs ids).s.ino).length:=length_append;have l3:(hO (aF qs ids)).length=(iH (aF qs ids)).length+(dnW (aF qs ids).s.lst).length:=length_append;have l4:(gH (aF qs ids)).length=(hO (aF qs ids)).length+(dnW (aJ (aF qs ids).pl 4).1).length:=length_append;have l5:(fT (aF qs ids) ids).length=(gH (aF qs ids)).length+(dnW (aJ ids 2).1).length:=length_append;have l6:(eW (aF qs ids) ids).length=(fT (aF qs ids) ids).length+(dnW (aF qs ids).s.fur).length:=length_append;refine⟨⟨?_,?_,?_,?_,?_,?_,?_⟩,?_,?_,?_,?_,?_,?_,?_,?_⟩
 ·show (64:Int)≤64+((lE (aF qs ids)).length:Int);omega
 ·show 64+((lE (aF qs ids)).length:Int)≤64+((iH (aF qs ids)).length:Int);omega
 ·show 64+((iH (aF qs ids)).length:Int)≤64+((hO (aF qs ids)).length:Int);omega
 ·show 64+((hO (aF qs ids)).length:Int)≤64+((gH (aF qs ids)).length:Int);omega
 ·show 64+((gH (aF qs ids)).length:Int)≤64+((fT (aF qs ids) ids).length:Int);omega
 ·show 64+((fT (aF qs ids) ids).length:Int)≤64+((eW (aF qs ids) ids).length:Int);omega
 ·exact hs
 ·show 1≤((stB qs ids).many:Int);omega
 ·show ((stB qs ids).many:Int)≤1024;omega
 ·show 1≤(ids.length:Int);omega
 ·show (ids.length:Int)≤2048;omega
 ·show 0≤((plB qs ids).length:Int);omega
 ·show ((plB qs ids).length:Int)≤1024;omega
 · show 0≤(stB qs ids).refs.getD (ndB qs ((0:Nat):Int)).ino.toNat 0-1
   rw[nd];omega
 · show (stB qs ids).refs.getD (ndB qs ((0:Nat):Int)).ino.toNat 0-1≤4294967295
   rw[nd];exact h4
theorem ImB.img:rW qs ids=(imB qs ids,0):=by
 unfold rW;rw[if_neg (by have:=M.sz;omega)];have:(mW (bO qs ids (aF qs ids))).1=suB (bO qs ids (aF qs ids)):=by unfold mW;rw[if_pos M.may]
 rw[this];rfl
theorem ImB.sup:aH (imB qs ids)=(bO qs ids (aF qs ids),0):=by
 refine Cl M.may (fun o ho=>?_) _ rfl;show List.getD [_,_,_,_,_,_,_,_,_,_] o (0:Int)=0;rw[List.getD,List.getElem?_eq_none (by simp only[length_cons,length_nil];omega)];rfl
omit M in
theorem wM {im:By} {fr to:Int} (pre X post:By) (h:im=pre++(X++post)) (hf:fr=pre.length) (ht:to=(pre.length:Int)+X.length):aD im fr to=aD X 0 X.length∧fF im fr to=fF X 0 X.length:=by
 subst h hf ht;exact⟨Hv pre X post,by rw[Gd,Dc]⟩
omit M in
theorem pR (F:Nat→Int) (Z:By):(64:Int)+(Z.length:Int)=((suB F++Z).length:Nat):=by rw[length_append,kZ];omega
theorem ImB.r1:aD (imB qs ids) ((bO qs ids (aF qs ids)) 2) ((bO qs ids (aF qs ids)) 3)=aD (dnW (stB qs ids).ino) 0 (dnW (stB qs ids).ino).length:=by
 obtain⟨F,hF⟩:∃ F,F=bO qs ids (aF qs ids):=⟨_,rfl⟩
 refine(wM (suB F++lE (aF qs ids)) (dnW (stB qs ids).ino) (dnW (aF qs ids).s.lst++(dnW (aJ (aF qs ids).pl 4).1++(dnW (aJ ids 2).1++dnW (aF qs ids).s.fur))) ?_ ?_ ?_).1
 ·unfold imB eW fT gH hO iH;rw[←hF];simp only[append_assoc];rfl
 ·rw[←pR];rfl
 · rw[←pR]
   show 64+((lE (aF qs ids)++dnW (stB qs ids).ino).length:Int)=_;rw[length_append];omega
theorem ImB.r2:aD (imB qs ids) ((bO qs ids (aF qs ids)) 3) ((bO qs ids (aF qs ids)) 4)=aD (dnW (stB qs ids).lst) 0 (dnW (stB qs ids).lst).length:=by
 obtain⟨F,hF⟩:∃ F,F=bO qs ids (aF qs ids):=⟨_,rfl⟩
 refine(wM (suB F++iH (aF qs ids)) (dnW (stB qs ids).lst) (dnW (aJ (aF qs ids).pl 4).1++(dnW (aJ ids 2).1++dnW (aF qs ids).s.fur)) ?_ ?_ ?_).1
 ·unfold imB eW fT gH hO;rw[←hF];simp only[append_assoc];rfl
 ·rw[←pR];rfl
 · rw[←pR]
   show 64+((iH (aF qs ids)++dnW (stB qs ids).lst).length:Int)=_;rw[length_append];omega
theorem ImB.r5:aD (imB qs ids) ((bO qs ids (aF qs ids)) 6) ((bO qs ids (aF qs ids)) 0)=aD (dnW (stB qs ids).fur) 0 (dnW (stB qs ids).fur).length:=by
 obtain⟨F,hF⟩:∃ F,F=bO qs ids (aF qs ids):=⟨_,rfl⟩
 refine(wM (suB F++fT (aF qs ids) ids) (dnW (stB qs ids).fur) [] ?_ ?_ ?_).1
 ·unfold imB eW;rw[←hF];simp only[append_assoc,append_nil];rfl
 ·rw[←pR];rfl
 · rw[←pR]
   show 64+((fT (aF qs ids) ids++dnW (stB qs ids).fur).length:Int)=_;rw[length_append];omega
theorem ImB.pl_in:inW 4 (plB qs ids):=by
 intro x hx;obtain⟨j,hj,rfl⟩:=List.getElem_of_mem hx;have hl:=M.pln.1;obtain⟨pre,rest,h1,h2⟩:=uW (bM qs).tails (bM qs).ds j (by omega);have e:(plB qs ids)[j]=(eM (bM qs).tails (bM qs).ds).2.getD j 0:=by
  have e2:plB qs ids=(eM (bM qs).tails (bM qs).ds).2:=rfl;rw[List.getD,←e2,List.getElem?_eq_getElem hj];rfl
 rw[e,h2];have h3:=M.sz;have h4:=congrArg List.length h1;rw[length_append] at h4;have l6:(eW (aF qs ids) ids).length=(eM (bM qs).tails (bM qs).ds).1.B.length+(dnW (aF qs ids).s.ino++(dnW (aF qs ids).s.lst++(dnW (aJ (aF qs ids).pl 4).1++(dnW (aJ ids 2).1++dnW (aF qs ids).s.fur)))).length:=by
  rw[←length_append];unfold eW fT gH hO iH;simp only[append_assoc];rfl
 refine⟨by omega,?_⟩;show (64:Int)+pre.length<4294967296;omega
theorem ImB.pl:tnS (imB qs ids) ((bO qs ids (aF qs ids)) 4) ((bO qs ids (aF qs ids)) 5) ((bO qs ids (aF qs ids)) 8) 4=(plB qs ids,0):=by
 obtain⟨F,hF⟩:∃ F,F=bO qs ids (aF qs ids):=⟨_,rfl⟩
 have he:(aJ (plB qs ids) 4).1=enW 4 (plB qs ids):=by
  have h:=oC (w:=4) (.inr rfl) M.pl_in;have h:aJ (plB qs ids) 4=(enW 4 (plB qs ids),0):=h;rw[h]
 obtain⟨a,b⟩:=wM (im:=imB qs ids) (fr:=(bO qs ids (aF qs ids)) 4) (to:=(bO qs ids (aF qs ids)) 5) (suB F++hO (aF qs ids)) (dnW (enW 4 (plB qs ids))) (dnW (aJ ids 2).1++dnW (aF qs ids).s.fur) (by
  rw[←he];unfold imB eW fT gH;rw[←hF];simp only[append_assoc];rfl) (by rw[←pR];rfl) (by
  rw[←pR,←he];show 64+((hO (aF qs ids)++dnW (aJ (plB qs ids) 4).1).length:Int)=_;rw[length_append];omega)
 rw[zP a b];exact FJ (w:=4) (.inr rfl) M.pl_in
theorem ImB.ids_in:inW 2 ids:=by
 intro x hx;have h:=(M.I.2 x).1 hx;unfold pL at h;obtain⟨q,hq,h1⟩:=mem_flatMap.1 h;obtain⟨_,_,_,m2,m3,_⟩:=M.G.may q hq;simp only[mem_cons,not_mem_nil,or_false] at h1;refine⟨by rcases h1 with rfl|rfl<;>omega,?_⟩;show x<65536;rcases h1 with rfl|rfl<;>omega
theorem ImB.id:tnS (imB qs ids) ((bO qs ids (aF qs ids)) 5) ((bO qs ids (aF qs ids)) 6) ((bO qs ids (aF qs ids)) 7) 2=(ids,0):=by
 obtain⟨F,hF⟩:∃ F,F=bO qs ids (aF qs ids):=⟨_,rfl⟩
 have he:(aJ ids 2).1=enW 2 ids:=by
  have h:=oC (w:=2) (.inl rfl) M.ids_in;have h:aJ ids 2=(enW 2 ids,0):=h;rw[h]
 obtain⟨a,b⟩:=wM (im:=imB qs ids) (fr:=(bO qs ids (aF qs ids)) 5) (to:=(bO qs ids (aF qs ids)) 6) (suB F++gH (aF qs ids)) (dnW (enW 2 ids)) (dnW (aF qs ids).s.fur) (by
  rw[←he];unfold imB eW fT;rw[←hF];simp only[append_assoc]) (by rw[←pR];rfl) (by
  rw[←pR,←he];show 64+((gH (aF qs ids)++dnW (aJ ids 2).1).length:Int)=_;rw[length_append];omega)
 rw[zP a b];exact FJ (w:=2) (.inl rfl) M.ids_in
theorem ImB.blk:∃ rest,imB qs ids=suB (bO qs ids (aF qs ids))++((eM (bM qs).tails (bM qs).ds).1.B++rest)∧(bO qs ids (aF qs ids)) 2=64+((eM (bM qs).tails (bM qs).ds).1.B.length:Int):=by
 refine⟨dnW (aF qs ids).s.ino++(dnW (aF qs ids).s.lst++(dnW (aJ (aF qs ids).pl 4).1++(dnW (aJ ids 2).1++dnW (aF qs ids).s.fur))),?_,rfl⟩;unfold imB eW fT gH hO iH;simp only[append_assoc];rfl
end
theorem Ih{sup rest im:By}(hs:sup.length=64){L:List By}(hL:DT L){ds:DS}(him:im=sup++((eM L ds).1.B++rest)){d:By}{st fr off:Nat}(hd:d.length≤4096)(h1:D4 ds.B d st)(h2:TlS L (eB d) fr off){e:Int}(he:64+((eM L ds).1.B.length:Int)≤e){g:Img}(hg:g.im=im)(hp:g.places=(eM L ds).2){x:Rec}(x6:x.ino.1 6=st)(x7:x.ino.1 7=d.length)(x8:x.ino.1 8=fr)(x9:x.ino.1 9=off) :
 tF g x 0 d.length=(d,0)∧(128≤d.length→(pQ im st d.length e).2=0∧64≤st):=by
 obtain⟨z,hz,_⟩:=oY L ds
 have hrd:gY im st d.length 0 d.length=(d.take (d.length/128*128),0)∧(128≤d.length→(pQ im st d.length e).2=0∧64≤st):=by
  rcases h1 with⟨a,b⟩|⟨a,pre,r2,b,c⟩
  · have h128:d.length/128=0:=by
     have h3:=(lV d (d.length/128)).2;have h3:3*(d.length/128)≤(cI d).length:=h3;rw[a] at h3;simp at h3;omega
    exact⟨EE h128,fun h=>by omega⟩
  · have hi:im=(sup++pre)++(cI d++(r2++(z++rest))):=by rw[him,hz,b];simp only[append_assoc]
    have hl:(sup++pre).length=st:=by rw[length_append,hs,c]
    have h3:=EF hi hd;rw[hl] at h3;refine⟨h3,fun h=>⟨?_,by omega⟩⟩;have h4:=congrArg List.length hz;rw[b] at h4;simp only[length_append] at h4;have h5:=B6 hi (e:=e) (by rw[hl];omega) (d.length/128) 0 rfl (Nat.zero_le _);rw[hl] at h5;have h6:pQ im (st:Nat) (d.length:Nat) e=uO im e (d.length/128) st:=B7 hd;rw[h6];have h5:uO im e (d.length/128) ((st+(eU d 0).length:Nat):Int)=_:=h5;rw[show (eU d 0).length=0 from rfl,Nat.add_zero] at h5;rw[h5]
 refine⟨?_,hrd.2⟩;have hw:d.length/128*128≤d.length:=Nat.div_mul_le_self _ _;unfold tF;rw[x6,x7,x8,x9,hg,hrd.1,if_neg (fun h=>h rfl)];have htl:(d.take (d.length/128*128)).length=d.length/128*128:=by rw[length_take];omega
 by_cases hc:d.length/128*128=d.length
 · rw[if_pos (by show ((d.take (d.length/128*128)).length:Int)=d.length;omega)]
   show (d.take (d.length/128*128),(0:Int))=(d,0)
   rw[hc,take_length]
 · rw[if_neg (by show ¬ ((d.take (d.length/128*128)).length:Int)=d.length;omega)]
   have e1:(if (0:Int)-(d.length:Int)/128*128<0 then (0:Int) else 0-(d.length:Int)/128*128)=0:=by split<;>omega
   rw[e1,Int.add_zero];show (if (fA im g.places fr off ((d.length:Int)-(d.take (d.length/128*128)).length)).2≠0 then _ else (d.take (d.length/128*128)++(fA im g.places fr off ((d.length:Int)-(d.take (d.length/128*128)).length)).1,(0:Int)))=(d,0)
   have ht:(eB d).length=d.length-d.length/128*128:=by unfold eB;rw[length_drop]
   have e2:(d.length:Int)-((d.take (d.length/128*128)).length:Int)=((eB d).length:Nat):=by omega
   rw[e2];have hf:fA im g.places fr off ((eB d).length:Nat)=(eB d,0):=by
    rcases h2 with⟨a,_⟩|⟨a,n,p,q,b1,b2,b3,b4⟩
    ·rw[a] at ht;simp at ht;omega
    · obtain⟨pre,r2,c1,c2⟩:=uW L ds n b1
      have hbl:=lT L ds;have hbn:=(hL (L.getD n []) (by rw[List.getD,List.getElem?_eq_getElem b1];exact List.getElem_mem _)).2;have hi:im=(sup++pre)++((cF (L.getD n [])).1++(r2++rest)):=by rw[him,c1];simp only[append_assoc]
      have ht2:=(sX hbn (sup++pre) (r2++rest)).1;rw[←hi] at ht2;have hal:(L.getD n []).length=p.length+((eB d).length+q.length):=by rw[b4];simp
      unfold fA;rw[hp,if_neg (by omega),b2,show (((n+1:Nat):Int)-1).toNat=n by omega,c2,show (64:Int)+pre.length=((sup++pre).length:Nat) by rw[length_append];omega,ht2];unfold kS;rw[if_neg (by simp only;rintro(h|h|h|h);exact h rfl;omega;omega;omega)];simp only;rw[b4,b3,Int.toNat_natCast,Int.toNat_natCast,drop_left' rfl,take_left' rfl]
   rw[hf,if_neg (fun h=>h rfl)];show (d.take (d.length/128*128)++d.drop (d.length/128*128),(0:Int))=(d,0)
   rw[take_append_drop]
end
section
open Go Go.RowKit Go.Maps
def rfB(qs:List (NdH×Nd))(ids:List Int)(q:Nd):Int:=(stB qs ids).refs.getD q.ino.toNat 0-1
structure ROk (qs:List (NdH×Nd))(ids:List Int)(q:Nd)(x:Rec):Prop where
 ref:x.ref=rfB qs ids q
 kd:x.ino.1 0=q.kind
 md:x.ino.1 1=q.md
 ud:ids.getD (x.ino.1 2).toNat 0=q.ud
 gd:ids.getD (x.ino.1 3).toNat 0=q.gd
 ln:x.ino.1 4=jI qs q.ino
 tg:q.kind=3→x.ino.2=q.tgt
 ls:x.list=iE qs (stB qs ids) (bN qs q.names qs.length)
 xs:x.xs=q.xs
 fl:q.kind=2→x.ino.1 7=q.data.length∧∀ g:Img,g.im=imB qs ids→g.places=plB qs ids→tF g x 0 q.data.length=(q.data,0)
theorem Fl{qs:List (NdH×Nd)}{ids:List Int}{files:List Ino}(G:GdT qs){s:BSt}(h:nG qs ids files s){S:List By}(hs:Cu qs s (bN qs S qs.length)):aO [] (iE qs s (bN qs S qs.length)):=
 tW G h _ _ (fun _ hz=>hz) (mH _) hs (fun z hz=>by
  obtain⟨k',q',rfl,hq',hn'⟩:=iB hz;rw[bI hq'];have hv:=(kX (G.nmv q' (mem_of_getElem? hq') (aQ q'.2.names) (by rw[hn'];simp[aQ]))).2.1;cases hc:aQ q'.2.names with
 |nil=>exact absurd hc hv
 |cons a r=>rfl)
section
variable {qs:List (NdH×Nd)}{ids:List Int}(M:ImB qs ids)
include M
theorem ImB.rcd{q:NdH×Nd}(hq:q∈qs):∃ x,eV (imB qs ids) (bO qs ids (aF qs ids)) ids (rfB qs ids q.2) q.2.kind=some x∧ROk qs ids q.2 x:=by
 have G:=M.G;have F:=M.fi;obtain⟨hinv,hpos⟩:=M.st;have hqi:=G.ino q hq;obtain⟨k,p,i,xr,o,hk,hpi,href,hmay,hat,hxr,hki⟩:=hinv.std _ (hpos q hq);have hpm:=mem_of_getElem? hk;have hkl:=(List.getElem?_eq_some_iff.1 hk).1;have hal:=G.same hq hpm (by omega);obtain⟨j,hj⟩:=List.getElem?_of_mem hq;have hkids:bN qs p.2.names qs.length=bN qs q.2.names qs.length:=by
  by_cases e:k=j
  ·subst e;rw[hk] at hj;cases hj;rfl
  · have h1:=(G.lnk k j p q e hk hj (by omega)).1
    rw[G.nodir hk h1,G.nodir hj (by rw[←hal.1];exact h1)]
 obtain⟨ka,⟨kb1,kb2,kb3⟩,kc,kd,ke,kf⟩:=hal;have hmp:=G.may p hpm;obtain⟨o1,o2⟩:=Bt hpm;obtain⟨u1,u2,u3⟩:=vA ((M.I.2 _).2 o1);obtain⟨g1,g2,g3⟩:=vA ((M.I.2 _).2 o2);have hl:wZ qs (k:Int)=jI qs p.2.ino:=Ge ⟨by omega,by omega⟩ (by rw[Int.toNat_natCast];exact hk);have hnd:=bI hk;obtain⟨x0,hx0⟩:∃ x:Ino,x=inB qs ids k i xr:=⟨_,rfl⟩
 have f0:x0.1 0=p.2.kind:=by rw[hx0];unfold inB;rw[hnd];rfl
 have f1:x0.1 1=p.2.md:=by rw[hx0];unfold inB;rw[hnd];rfl
 have f2:x0.1 2=nM ids p.2.ud:=by rw[hx0];unfold inB;rw[hnd];rfl
 have f3:x0.1 3=nM ids p.2.gd:=by rw[hx0];unfold inB;rw[hnd];rfl
 have f4:x0.1 4=jI qs p.2.ino:=by rw[hx0,←hl];rfl
 have f5:x0.1 5=xr:=by rw[hx0];rfl
 have f6:x0.1 6=i.1 6:=by rw[hx0];rfl
 have f7:x0.1 7=i.1 7:=by rw[hx0];rfl
 have f8:x0.1 8=i.1 8:=by rw[hx0];rfl
 have f9:x0.1 9=i.1 9:=by rw[hx0];rfl
 have ft:x0.2=i.2:=by rw[hx0];rfl
 rw[←hx0] at hmay hat;obtain⟨rest,hdr⟩:=hat.drop;have hle:=hat.le;have hR:bJ (imB qs ids) (bO qs ids (aF qs ids) 2) (bO qs ids (aF qs ids) 3) (rfB qs ids q.2)=((gFn (gC x0),gT (gC x0)),((aN (stB qs ids).ino (o+(gC x0).length):Nat):Int),0):=by
  rw[EX M.r1];have e:rfB qs ids q.2=((aN (stB qs ids).ino o:Nat):Int):=by unfold rfB;rw[href];omega
  rw[e];exact OV hmay hdr hle
 obtain⟨hs,hst⟩:=H7 hmay;have s0:=hs 0 (by decide);have s1:=hs 1 (by decide);have s2:=hs 2 (by decide);have s3:=hs 3 (by decide);have s4:=hs 4 (by decide);have s5:=hs 5 (by decide);have s6:=hs 6 (by decide);have s7:=hs 7 (by decide);have s8:=hs 8 (by decide);have s9:=hs 9 (by decide);obtain⟨E,hE⟩:∃ E:Ino,E=(gFn (gC x0),gT (gC x0)):=⟨_,rfl⟩
 have E0:E.1 0=p.2.kind:=by rw[hE];exact s0.trans f0
 have E1:E.1 1=p.2.md:=by rw[hE];exact s1.trans f1
 have E2:E.1 2=nM ids p.2.ud:=by rw[hE];exact s2.trans f2
 have E3:E.1 3=nM ids p.2.gd:=by rw[hE];exact s3.trans f3
 have E4:E.1 4=jI qs p.2.ino:=by rw[hE];exact s4.trans f4
 have E5:E.1 5=xr:=by rw[hE];exact s5.trans f5
 have E6:E.1 6=i.1 6:=by rw[hE];exact s6.trans f6
 have E7:E.1 7=i.1 7:=by rw[hE];exact s7.trans f7
 have E8:E.1 8=i.1 8:=by rw[hE];exact s8.trans f8
 have E9:E.1 9=i.1 9:=by rw[hE];exact s9.trans f9
 have ET:E.2=i.2:=by rw[hE];exact hst.trans ft
 rw[←hE] at hR;have hX:fD (imB qs ids) (bO qs ids (aF qs ids)) (E.1 5)=(p.2.xs,0):=by
  rw[E5];unfold fD;rcases hxr with⟨e1,e2⟩|⟨e1,o2,e2,e3⟩
  ·rw[e2,if_neg (by decide),e1]
  · obtain⟨r2,hr2⟩:=e3.drop
    rw[if_pos (by omega),Eu M.r5,e2,show ((aN (stB qs ids).fur o2:Nat):Int)+1-1=((aN (stB qs ids).fur o2:Nat):Int) by omega];exact Ps hmp.2.2.2.2.2.2.2.2 (length_pos_iff.2 e1) hr2
 have hF8:(bO qs ids (aF qs ids)) 8=((plB qs ids).length:Int):=rfl;have hpl:=M.pln;have hbad:i.1 8≤(plB qs ids).length→¬ mO (bO qs ids (aF qs ids)) ids (E,((aN (stB qs ids).ino (o+(gC x0).length):Nat):Int),0) q.2.kind:=fun h8=>by
  unfold mO;show ¬ ((0:Int)≠0∨E.1 0≠q.2.kind∨(ids.length:Int)≤E.1 2∨(ids.length:Int)≤E.1 3∨bO qs ids (aF qs ids) 8<E.1 8);rw[E0,E2,E3,E8,hF8];rintro(h|h|h|h|h)
  ·exact h rfl
  ·exact h ka
  ·omega
  ·omega
  ·omega
 have hcnt:jI qs p.2.ino=jI qs q.2.ino:=by rw[show p.2.ino=q.2.ino by omega]
 have fin:∀ L:List Ent,L=iE qs (stB qs ids) (bN qs q.2.names qs.length)→(q.2.kind=3→E.2=q.2.tgt)→(q.2.kind=2→E.1 7=q.2.data.length∧∀ g:Img,g.im=imB qs ids→g.places=plB qs ids→tF g ⟨rfB qs ids q.2,E,L,p.2.xs⟩ 0 q.2.data.length=(q.2.data,0))→ROk qs ids q.2 ⟨rfB qs ids q.2,E,L,p.2.xs⟩:=fun L hL h3 h2=>
  ⟨rfl,E0.trans ka,E1.trans kb1,by show ids.getD (E.1 2).toNat 0=q.2.ud;rw[E2,u3,kb2],by show ids.getD (E.1 3).toNat 0=q.2.gd;rw[E3,g3,kb3],by show E.1 4=_;rw[E4,hcnt],h3,hL,kf,h2⟩
 obtain⟨⟨k1,k3⟩,_⟩:=G.may q hq;by_cases c2:q.2.kind=2
 · have hi:=hki.1 (ka.trans c2)
   have hf:=GL G F hpm (ka.trans c2);rw[←hi] at hf;obtain⟨st,fr,off,rfl,a1,a2,a3,a4,a5,a6,a7⟩:=GU hf F.t;obtain⟨rst,hb1,hb2⟩:=M.blk;have hd:p.2.data.length≤4096:=hmp.2.2.2.2.2.2.1;have hb:=hbad (by show ((fr:Nat):Int)≤_;omega);have key:∀ (g:Img) (L:List Ent) (X:List Xa),g.im=imB qs ids→g.places=plB qs ids→tF g ⟨rfB qs ids q.2,E,L,X⟩ 0 p.2.data.length=(p.2.data,0)∧(128≤p.2.data.length→(pQ (imB qs ids) st p.2.data.length (bO qs ids (aF qs ids) 2)).2=0∧64≤st):=fun g L X hg hp=>
    Ih (kZ _) F.t hb1 hd a6 a7 (by rw[hb2];exact Int.le_refl _) hg hp (by show E.1 6=_;rw[E6];rfl) (by show E.1 7=_;rw[E7];rfl) (by show E.1 8=_;rw[E8];rfl) (by show E.1 9=_;rw[E9];rfl)
   have h7:E.1 7=((p.2.data.length:Nat):Int):=by rw[E7];rfl
   have h6:E.1 6=((st:Nat):Int):=by rw[E6];rfl
   have hnb:¬ zG (imB qs ids) (bO qs ids (aF qs ids)) E.1:=by
    unfold zG;rw[h7,h6];rintro⟨h,h2⟩;obtain⟨w1,w2⟩:=(key ⟨imB qs ids,zF,plB qs ids,[],[]⟩ [] [] rfl rfl).2 (by omega);rcases h2 with h2|h2
    ·exact h2 w1
    ·omega
   refine⟨⟨rfB qs ids q.2,E,[],p.2.xs⟩,?_,fin [] ?_ (fun h=>by omega) (fun _=>⟨by rw[h7,ke],fun g hg hp=>?_⟩)⟩
   · unfold eV
     rw[hR,if_neg hb];show (if (fD (imB qs ids) (bO qs ids (aF qs ids)) (E.1 5)).2≠0 then _ else _)=_;rw[hX,if_neg (fun h=>h rfl),if_pos c2];show (if zG (imB qs ids) (bO qs ids (aF qs ids)) E.1 then none else some _)=_;rw[if_neg hnb]
   ·rw[G.nodir hj (by omega)];rfl
   · have:=(key g [] p.2.xs hg hp).1
     rw[ke] at this;exact this
 · by_cases c1:q.2.kind=1
   · obtain⟨ks,o2,hi,hat2⟩:=hki.2.2 (ka.trans c1)
     have hch:=Fl G hinv ks;have hL:=(DE hch).2;obtain⟨r2,hr2⟩:=hat2.drop;have hle2:=hat2.le;have hb:=hbad (by rw[hi];exact Int.natCast_nonneg _);have h6:E.1 6=((aN (stB qs ids).lst o2:Nat):Int):=by rw[E6,hi];rfl
     have h7:E.1 7=(((bA (iE qs (stB qs ids) (bN qs p.2.names qs.length))).length:Nat):Int):=by rw[E7,hi];rfl
     have hlis:qH (imB qs ids) (bO qs ids (aF qs ids)) E.1=(iE qs (stB qs ids) (bN qs p.2.names qs.length),0):=by
      unfold qH;rw[M.r2,h6,h7];have h8:=CP hle2;have h8:aD (dnW (stB qs ids).lst) 0 (dnW (stB qs ids).lst).length ((aN (stB qs ids).lst o2:Nat):Int) (((bA (iE qs (stB qs ids) (bN qs p.2.names qs.length))).length:Nat):Int)=_:=h8;rw[h8,if_neg (fun h=>h rfl)];show nO (((stB qs ids).lst.drop o2).take _)=_;rw[hr2,take_left' rfl,hL]
     refine⟨⟨rfB qs ids q.2,E,iE qs (stB qs ids) (bN qs p.2.names qs.length),p.2.xs⟩,?_,fin _ (by rw[hkids]) (fun h=>by omega) (fun h=>by omega)⟩;unfold eV;rw[hR,if_neg hb];show (if (fD (imB qs ids) (bO qs ids (aF qs ids)) (E.1 5)).2≠0 then _ else _)=_;rw[hX,if_neg (fun h=>h rfl),if_neg c2,if_pos c1];show (if (qH (imB qs ids) (bO qs ids (aF qs ids)) E.1).2≠0 then none else some _)=_;rw[hlis,if_neg (fun h=>h rfl)]
   · have c3:q.2.kind=3:=by omega
     have hi:=hki.2.1 (ka.trans c3);have hb:=hbad (by rw[hi];exact Int.natCast_nonneg _);refine⟨⟨rfB qs ids q.2,E,[],p.2.xs⟩,?_,fin [] ?_ (fun _=>by rw[ET,hi];exact kc) (fun h=>by omega)⟩
     · unfold eV
       rw[hR,if_neg hb];show (if (fD (imB qs ids) (bO qs ids (aF qs ids)) (E.1 5)).2≠0 then _ else _)=_;rw[hX,if_neg (fun h=>h rfl),if_neg c2,if_neg c1]
     ·rw[G.nodir hj (by omega)];rfl
end
end
end Go.Proofs.YthdecfkdgdagcaaGreat
