/-
  How the relation goes on when the world changes.
-/
import Derived.Test.YtdjgbagnajikeaaGreatDoorA2
set_option linter.unusedVariables false
set_option linter.unusedSimpArgs false
noncomputable section
namespace Go.Ab
section
variable{T:Tab}{P:Program}{Φ:Fr}{σ σ':St}{a:Act}{w w':World}{G G':Gh}
theorem gJ.keep{k:Nat}{u:Value}{ty:TypeId}{l:List V}(n:Keep w w' G G')(hp:bM l)(c:∀b,G.O b= .ar k->G'.O b= .ar k/\w'.heap[b]? =w.heap[b]?)(h:gJ T w G k u ty l):gJ T w' G' k u ty l:=by
 rcases h with h|⟨b,cap,cur,r,d,m,i,e,f,g,o⟩
 ·exact .inl h
 ·refine .inr ⟨b,cap,cur,r,(c b d).1,(c b d).2.trans m,i,e,f,g,o.keep n (p:=λ_=>False) (q:=λ_ _=>False) ?_ (λ_ h=>h.elim) (λ_ _ h=>h.elim)⟩
  rw[aH];intro y hy;exact Qq
theorem Rv.aW{v:Value}{x:V}(b:Keep w w' G G')(c:x.pure)(h:Rv w G v x):Rv w' G' v x:=h.keep b c (λ_ h=>h.elim) (λ_ _ h=>h.elim)
theorem bL6.keep{d:TypeDesc}{k:Nat}{u:Value}{es:List V}(t:Keep w w' G G')(g:∀b,G.O b= .ar k->G'.O b= .ar k/\w'.heap[b]? =w.heap[b]?)(h:bL6 d w G k u es):bL6 d w' G' k u es:=by
 obtain⟨b,e,c,z,l,p,q,m⟩:=h;refine⟨b,e,c,z,(g b l).1,(g b l).2.trans p,q,λs o=>?_⟩;have:=m s o
 cases f:jG s es with
 |none=>rw[f]at this;exact this
 |some x=>
  rw[f]at this;obtain⟨i,v,y,r,n,j⟩:=this;exact⟨i,v,y,r,n.aW t j,j⟩
theorem gW.keep{k:Nat}{en:AE}(d:Keep w w' G G')(hp:bM en.l)(e:G'.av k en.gen=G.av k en.gen)(f:∀b,G.O b= .ar k->G'.O b= .ar k/\w'.heap[b]? =w.heap[b]?)(h:gW T w G k en):gW T w' G' k en:=by
 unfold gW at*;rw[e];have g:(V.sl en.l).pure:=AB;have i:(V.cap en.l).pure:=AB
 split
 ·rename_i c
  rw[c]at h;simp only at h⊢;split
  ·trivial
  ·rename_i j;rw[j]at h;exact bL6.keep d f h
 ·rename_i c;rw[c]at h;exact h.aW d g
 ·rename_i c;rw[c]at h;exact⟨h.1,h.2.keep d hp f⟩
 ·rename_i c;rw[c]at h;exact⟨h.1,h.2.imp (·.keep d hp f) (λh=>⟨h.1.aW d i,h.2⟩)⟩
theorem Inv.change(inv:Inv T Φ σ a w G)(henv:σ'.env=σ.env)(hk:Keep w w' G G')
 (hβ:∀i,σ.hasB i->G'.β i=G.β i)(hav:∀k g,σ.hasA k g->G'.av k g=G.av k g)
 (hB:∀i,σ.hasB i->σ'.hasB i)(hA:∀k g,σ.hasA k g->σ'.hasA k g)
 (hbox:∀i cs,σ'.bx i=some cs->(σ.bx i=some cs/\G'.O (G.β i)= .bx i/\w'.heap[G.β i]? =w.heap[G.β i]?)\/
  ((∃c t,w'.heap[G'.β i]? =some (.cells c t (0,0))/\RvL w' G' c.toList cs/\G'.O (G'.β i)= .bx i)/\V.okL σ'.hasB σ'.hasA cs))
 (harr:∀k en,σ'.ar k=some en->(σ.ar k=some en/\∀b,G.O b= .ar k->G'.O b= .ar k/\w'.heap[b]? =w.heap[b]?)\/(gW T w' G' k en/\bM en.l))
 (htag:∀b,G'.O b≠ .ext->b<w'.heap.size)(hO:∀b,G'.O b=G.O b\/G'.O b= .ext\/Φ.mine b)
 (hframe:∀b,w'.heap[b]? =w.heap[b]? \/Φ.mine b)(hsize:w.heap.size<=w'.heap.size)(hos:w'.os=w.os)(htape:w'.tape=w.tape)(hout:w'.output=w.output):Inv T Φ σ' a w' G' where
 nd:=inv.nd
 kp:=inv.kp
 sz:=inv.sz
 env s:=by rw[henv];exact(inv.env s).keep hk (inv.wfE s) hβ hav
 wfE s:=by rw[henv];exact V.ok.imp hB hA _ (inv.wfE s)
 box i cs hi:=by
  rcases hbox i cs hi with⟨h1,h2,h3⟩|⟨h1,_⟩
  ·obtain⟨c,t,g1,g2,g3⟩:=inv.box i cs h1
   refine⟨c,t,?_,g2.keep hk (inv.wfB i cs h1) hβ hav,?_⟩
   ·rw[hβ i ⟨cs,h1⟩,h3];exact g1
   ·rw[hβ i ⟨cs,h1⟩];exact h2
  ·exact h1
 wfB i cs hi:=by
  rcases hbox i cs hi with⟨h1,_,_⟩|⟨_,h2⟩
  ·exact V.okL.imp hB hA _ (inv.wfB i cs h1)
  ·exact h2
 arr k en hk':=by
  rcases harr k en hk' with⟨h1,h2⟩|⟨h1,_⟩
  ·exact(inv.arr k en h1).keep hk (inv.wfA k en h1) (hav k en.gen ⟨en,h1,QH _⟩) h2
  ·exact h1
 wfA k en hk':=by
  rcases harr k en hk' with⟨h1,_⟩|⟨_,h2⟩
  ·exact inv.wfA k en h1
  ·exact h2
 tag:=htag
 mineB b i h:=by
  rcases hO b with h1|h1|h1
  ·exact inv.mineB b i (h1▸h)
  ·rw[h1]at h;cases h
  ·exact h1
 mineA b k h:=by
  rcases hO b with h1|h1|h1
  ·exact inv.mineA b k (h1▸h)
  ·rw[h1]at h;cases h
  ·exact h1
 fzm b h:=by
  rcases hO b with h1|h1|h1
  ·exact inv.fzm b (h1▸h)
  ·rw[h1]at h;cases h
  ·exact .inr h1
 F0 b h:=hk.fz b (inv.F0 b h)
 frame b hb hg:=by
  rcases hframe b with h1|h1
  ·rw[h1];exact inv.frame b hb hg
  ·rcases h1 with h1|h1
   ·omega
   ·exact absurd h1 hg
 size:=QV inv.size hsize
 os:=hos.trans inv.os
 tape:=htape.trans inv.tape
 output:=hout.trans inv.output
 args j v h:=by
  obtain⟨h1,h2,en,h3⟩:=inv.args j v h;have hh:σ.hasA j 0:=⟨en,h3,Ro _⟩;obtain⟨en',h4,_⟩:=hA j 0 hh;simp_all
 lay:=inv.lay
 argb i b h:=by
  obtain⟨h1,h2,cs,h3⟩:=inv.argb i b h;obtain⟨cs',h4⟩:=hB i ⟨cs,h3⟩;exact⟨(hβ i ⟨cs,h3⟩).trans h1,h2,cs',h4⟩
theorem upd_same{b:Type}(f:Nat->b)(s:Nat)(x:b):upd f s x s=x:=by simp[upd]
theorem upd_ne{b:Type}(f:Nat->b){s t:Nat}(x:b)(h:t≠s):upd f s x t=f t:=by
 have:Nat.beq t s=false:=FO;simp[upd,this]
theorem Inv.ext_size(inv:Inv T Φ σ a w G){b:Nat}(h:w.heap.size<=b):G.O b= .ext:=by
 cases c:G.O b with
 |ext=>rfl
 |_=>have:=inv.tag b (by rw[c];simp);omega
theorem aN0(inv:Inv T Φ σ a w G):Φ.mine w.heap.size:= .inl inv.size
theorem Inv.lM(inv:Inv T Φ σ a w G){d:Nat}(hd:σ.bx d=none){c:Array Value}{t:TypeId}{cs:List V}(n:RvL w G c.toList cs)(l:V.okL σ.hasB σ.hasA cs):
 Inv T Φ (σ.apps [.b d cs]) a (w.alloc (.cells c t)) {G with β:=upd G.β d w.heap.size,O:=upd G.O w.heap.size (.bx d)}:=by
 have f:∀b,b<w.heap.size->(w.alloc (.cells c t)).heap[b]? =w.heap[b]? :=λb hb=>Ua w _ hb;have hne:∀b,G.O b≠ .ext->b≠w.heap.size:=λb hb e=>by have:=inv.tag b hb;omega
 have j:Keep w (w.alloc (.cells c t)) G {G with β:=upd G.β d w.heap.size,O:=upd G.O w.heap.size (.bx d)}:=
  ⟨λb hb=>Dl,λb hb=>f b (inv.tag b AP)⟩
 have g:∀i,σ.hasB i->upd G.β d w.heap.size i=G.β i:=λi ⟨x,hx⟩=>upd_ne _ _ (λe=>DY)
 have m:∀i,σ.hasB i->(σ.apps [.b d cs]).hasB i:=λi ⟨x,hx⟩=>⟨x,by
  show upd σ.bx d _ i=_;rw[upd_ne _ _ (λe=>DY)];exact hx⟩
 refine inv.change rfl j g (λ_ _ _=>rfl) m (λ_ _ h=>h) ?_ ?_ ?_ ?_ ?_ Ae rfl rfl rfl
 ·intro i xs hi
  by_cases e:i=d
  ·subst e
   refine .inr ⟨⟨c,t,?_,?_,?_⟩,?_⟩
   ·show(w.alloc _).heap[upd G.β i w.heap.size i]? =_
    rw[upd_same];exact Un w _
   ·have:xs=cs:=by
     exact OB
    subst this;exact n.keep j l g (λ_ _ _=>rfl)
   ·grind [upd_same]
   ·have:xs=cs:=by
     exact OB
    subst this;exact V.okL.imp m (λ_ _ h=>h) _ l
  ·exact Kq
 ·intro k en o
  refine .inl ⟨o,λb hb=>?_⟩;have q:=inv.tag b AP
  grind [upd_ne]
 ·intro b hb
  by_cases e:b=w.heap.size
  ·subst e;simp
  ·have h2:upd G.O w.heap.size (.bx d) b≠ .ext:=hb
   rw[upd_ne _ _ e]at h2;have:=inv.tag b h2;simp;omega
 ·grind [aN0,upd_ne]
 ·intro b
  rcases U1 b w.heap.size with h|h|h
  ·exact .inl (f b h)
  ·subst h;exact .inr (aN0 inv)
  ·refine .inl ?_
   rw[Array.getElem?_eq_none AU,Array.getElem?_eq_none Aa]
theorem Inv.takeBox(inv:Inv T Φ σ a w G){d:Nat}(hd:σ.bx d=none){f:Nat}(l:G.O f= .ext)(s:Φ.mine f)(j:f<w.heap.size){c:Array Value}{t:TypeId}{cs:List V}(u:w.heap[f]? =some (.cells c t (0,0)))(q:RvL w G c.toList cs)(n:V.okL σ.hasB σ.hasA cs):
 Inv T Φ (σ.apps [.b d cs]) a w {G with β:=upd G.β d f,O:=upd G.O f (.bx d)}:=by
 have hne:∀b,G.O b≠ .ext->b≠f:=λb hb e=>hb (by rw[e];exact l)
 have m:Keep w w G {G with β:=upd G.β d f,O:=upd G.O f (.bx d)}:=
  ⟨λb hb=>Dl,λb hb=>rfl⟩
 have g:∀i,σ.hasB i->upd G.β d f i=G.β i:=λi ⟨x,hx⟩=>upd_ne _ _ (λe=>DY)
 have o:∀i,σ.hasB i->(σ.apps [.b d cs]).hasB i:=λi ⟨x,hx⟩=>⟨x,by
  show upd σ.bx d _ i=_;rw[upd_ne _ _ (λe=>DY)];exact hx⟩
 refine inv.change rfl m g (λ_ _ _=>rfl) o (λ_ _ h=>h) ?_ ?_ ?_ ?_ ?_ (QH _) rfl rfl rfl
 ·intro i xs hi
  by_cases e:i=d
  ·subst e
   have hx:xs=cs:=by
    exact OB
   subst hx;refine .inr ⟨⟨c,t,?_,q.keep m n g (λ_ _ _=>rfl),?_⟩,V.okL.imp o (λ_ _ h=>h) _ n⟩
   ·grind [upd_same]
   ·grind [upd_same]
  ·exact Kq
 ·intro k en r
  refine .inl ⟨r,λb hb=>?_⟩;grind [upd_ne]
 ·intro b hb
  by_cases e:b=f
  ·subst e;exact j
  ·have h2:upd G.O f (.bx d) b≠ .ext:=hb
   rw[upd_ne _ _ e]at h2;exact inv.tag b h2
 ·grind [upd_ne]
 ·intro b
  exact .inl rfl
theorem Inv.eJ4(inv:Inv T Φ σ a w G){i:Nat}{old cs:List V}(hi:σ.bx i=some old){c:Array Value}{t:TypeId}(v:RvL w G c.toList cs)(m:V.okL σ.hasB σ.hasA cs)
 (B:w'.heap[G.β i]? =some (.cells c t (0,0)))(r:∀b,b≠G.β i->w'.heap[b]? =w.heap[b]?)(A:w'.heap.size=w.heap.size)(q:w'.os=w.os)(f:w'.tape=w.tape)(l:w'.output=w.output):
 Inv T Φ (σ.apps [.b i cs]) a w' G:=by
 obtain⟨I,L,E,D,o⟩:=inv.box i old hi;have n:Keep w w' G G:=⟨λ_ h=>h,λb d=>r b (λe=>by subst e;rw[o]at d;cases d)⟩
 have s:∀j,σ.hasB j->(σ.apps [.b i cs]).hasB j:=λj ⟨x,z⟩=>by
  by_cases e:j=i
  ·subst e;exact⟨cs,upd_same _ _ _⟩
  ·exact⟨x,by show upd σ.bx i _ j=_;rw[upd_ne _ _ e];exact z⟩
 refine inv.change rfl n (λ_ _=>rfl) (λ_ _ _=>rfl) s (λ_ _ h=>h) ?_ ?_ ?_ (λ_=> .inl rfl) ?_ Aa q f l
 ·intro j xs u
  by_cases e:j=i
  ·subst e
   have:xs=cs:=by
    have g:upd σ.bx j (some cs) j=some xs:=u;rw[upd_same]at g;cases g;rfl
   subst this;exact .inr ⟨⟨c,t,B,v.keep n m (λ_ _=>rfl) (λ_ _ _=>rfl),o⟩,V.okL.imp s (λ_ _ h=>h) _ m⟩
  ·have g:σ.bx j=some xs:=by
    have g:upd σ.bx i (some cs) j=some xs:=u;rwa [upd_ne _ _ e]at g
   obtain⟨F,K,J,H,C⟩:=inv.box j xs g;grind
 ·intro k en y
  exact .inl ⟨y,λb d=>⟨d,r b (λe=>by subst e;rw[o]at d;cases d)⟩⟩
 ·intro b d;rw[A];exact inv.tag b d
 ·intro b
  by_cases e:b=G.β i
  ·subst e;exact .inr (inv.mineB _ i o)
  ·exact .inl (r b e)
theorem Inv.zU(inv:Inv T Φ σ a w G){k:Nat}{en:AE}{av':Nat->Nat->Value}{O':Nat->Tag}
 (J:∀g,σ.hasA k g->g<=en.gen)(u:∀o g,σ.hasA o g->av' o g=G.av o g)(D:bM en.l)
 (q:gW T w' {G with av:=av',O:=O'} k en)
 (A:∀b,G.O b≠ .ext->G.O b≠ .ar k->O' b=G.O b)(z:∀b,O' b=G.O b\/O' b= .ext\/(O' b= .ar k/\Φ.mine b/\b<w'.heap.size)\/(O' b= .fz/\G.O b= .ar k))
 (y:∀b,b<w.heap.size->G.O b≠ .ar k->w'.heap[b]? =w.heap[b]?)(H:w.heap.size<=w'.heap.size)(v:w'.os=w.os)(d:w'.tape=w.tape)(f:w'.output=w.output):
 Inv T Φ (σ.apps [.a k en]) a w' {G with av:=av',O:=O'}:=by
 have m:∀b,G.O b≠ .ext->b<w.heap.size:=inv.tag;have r:Keep w w' G {G with av:=av',O:=O'}:=⟨λb hb=>(A b AP AP).trans hb,λb hb=>y b (m b AP) AP⟩
 have s:∀j g,σ.hasA j g->(σ.apps [.a k en]).hasA j g:=λj g C=>by
  by_cases e:j=k
  ·subst e;exact⟨en,upd_same _ _ _,J g C⟩
  ·obtain⟨x,F,I⟩:=C
   exact⟨x,by show upd σ.ar k _ j=_;rw[upd_ne _ _ e];exact F,I⟩
 refine inv.change rfl r (λ_ _=>rfl) u (λ_ h=>h) s ?_ ?_ ?_ ?_ ?_ H v d f
 ·intro i cs hi
  obtain⟨c,t,L,K,q3⟩:=inv.box i cs hi;have E:=m (G.β i) Hl;exact .inl ⟨hi,(A _ Hl Hl).trans q3,y _ E Hl⟩
 ·intro j x B
  by_cases e:j=k
  ·subst e
   have:x=en:=by
    have n:upd σ.ar j (some en) j=some x:=B;rw[upd_same]at n;cases n;rfl
   subst this;exact .inr ⟨q,D⟩
  ·have n:σ.ar j=some x:=by
    have n:upd σ.ar k (some en) j=some x:=B;rwa [upd_ne _ _ e]at n
   simp_all
 ·grind
 ·intro b
  rcases z b with h|h|h|h
  ·exact .inl h
  ·exact .inr (.inl h)
  ·exact .inr (.inr h.2.1)
  ·exact .inr (.inr (inv.mineA b k h.2))
 ·intro b
  rcases Ry b w.heap.size with h|h
  ·by_cases e:G.O b= .ar k
   ·exact .inr (inv.mineA b k e)
   ·exact .inl (y b h e)
  ·exact .inr (.inl (QV inv.size h))
theorem Inv.bA3(inv:Inv T Φ σ a w G){d:Nat}(hd:Φ.wr d){v':Value}{v:V}(hv:Rv w G v' v)(hok:v.ok σ.hasB σ.hasA):Inv T Φ (σ.set d v) (a.put (some d) v') w G where
 nd:=inv.nd
 kp s u h:=by
  have hs:s≠d:=λe=>by rw[e,hd.2]at h;cases h
  show(a.tmps.setIfInBounds d v').getD s undef=u;rw[show(a.tmps.setIfInBounds d v').getD s undef=a.tmps.getD s undef by simp[Array.getElem?_setIfInBounds_ne (Ne.symm hs)]]
  exact inv.kp s u h
 sz:=by show(a.tmps.setIfInBounds d v').size=_;simp[inv.sz]
 env s:=by
  show Rv w G ((a.tmps.setIfInBounds d v').getD s undef) (upd σ.env d v s);by_cases e:s=d
  ·subst e
   rw[upd_same];have:(a.tmps.setIfInBounds s v').getD s undef=v':=by simp[inv.sz,hd.1]
   rw[this];exact hv
  ·rw[upd_ne _ _ e]
   have:(a.tmps.setIfInBounds d v').getD s undef=a.tmps.getD s undef:=by
    simp[Array.getElem?_setIfInBounds_ne (Ne.symm e)]
   rw[this];exact inv.env s
 wfE s:=by
  show(upd σ.env d v s).ok _ _;by_cases e:s=d
  ·subst e;rw[upd_same];exact hok
  ·rw[upd_ne _ _ e];exact inv.wfE s
 box:=inv.box
 wfB:=inv.wfB
 arr:=inv.arr
 wfA:=inv.wfA
 tag:=inv.tag
 mineB:=inv.mineB
 mineA:=inv.mineA
 fzm:=inv.fzm
 F0:=inv.F0
 frame:=inv.frame
 size:=inv.size
 os:=inv.os
 tape:=inv.tape
 output:=inv.output
 args:=inv.args
 lay:=inv.lay
 argb:=inv.argb
theorem Inv.drew(inv:Inv T Φ σ a w G)(n:Nat):Inv T Φ σ a {w with drawn:=n} G:=
 inv.change rfl ⟨λ_ h=>h,λ_ _=>rfl⟩ (λ_ _=>rfl) (λ_ _ _=>rfl) (λ_ h=>h) (λ_ _ h=>h)
  (λi cs hi=> .inl ⟨hi,(inv.box i cs hi).choose_spec.choose_spec.2.2,rfl⟩) (λ_ _ b=> .inl ⟨b,λ_ c=>⟨c,rfl⟩⟩) inv.tag (λ_=> .inl rfl) (λ_=> .inl rfl) (QH _) rfl rfl rfl
end
section
variable{T:Tab}{P:Program}{Φ:Fr}{σ:St}{a:Act}{w:World}{G:Gh}{K:VK}{o:Oper}{d:Nat}
theorem RvL.append{vs e:List Value}{xs ys:List V}(h:RvL w G vs xs)(c:RvL w G e ys):RvL w G (vs++e) (xs++ys):=by
 refine⟨by simp[h.len,c.len],?_,?_⟩
 ·intro v hv
  rcases QJ.1 hv with hv|hv
  ·exact h.one v hv
  ·exact c.one v hv
 ·intro i v x hv b
  have f:=h.len;rw[U7]at hv b;by_cases hi:i<vs.length
  ·rw[Q9 hi]at hv
   rw[Q9 Aa]at b;exact h.rel i v x hv b
  ·rw[Q5 hi]at hv
   rw[Q5 Aa,<-f]at b;exact c.rel _ v x hv b
theorem RvL.take{vs:List Value}{xs:List V}(h:RvL w G vs xs)(n:Nat):RvL w G (vs.take n) (xs.take n):=by
 refine⟨by simp[h.len],λv hv=>h.one v (Ri hv),λi v x hv b=>?_⟩
 rw[TI]at hv b;split at hv
 ·rename_i hi;rw[Q9 hi]at b;exact h.rel i v x hv b
 ·cases hv
theorem RvL.drop{vs:List Value}{xs:List V}(h:RvL w G vs xs)(n:Nat):RvL w G (vs.drop n) (xs.drop n):=by
 refine⟨by simp[h.len],λv hv=>h.one v (Rj hv),λi v x hv b=>?_⟩
 rw[RI]at hv b;exact h.rel _ v x hv b
theorem RvL.splice{vs b:List Value}{xs ys:List V}(h:RvL w G vs xs)(c:RvL w G b ys)(off:Nat):RvL w G (vs.take off++b++vs.drop (off+b.length)) (Ab.splice xs off ys):=by
 rw[mO,Si,c.len];exact(h.take off).append (c.append (h.drop _))
theorem yV{p:Nat->Prop}{q:Nat->Nat->Prop}{xs ys:List V}(h:V.okL p q xs)(b:V.okL p q ys)(off:Nat):V.okL p q (splice xs off ys):=by
 grind [mO,aH,Ri,Rj]
theorem aM4{vs:List Value}(h:∀v∈vs,v.oneCell'=true):RvL w G vs (vs.map .lit):=by
 refine⟨Ae,h,λi v x hv b=>?_⟩;rw[Rk,hv]at b;simp at b;subst b;exact .lit v (h v (QF hv))
theorem bC6{p:Nat->Prop}{q:Nat->Nat->Prop}{vs:List Value}:V.okL p q (vs.map .lit):=by
 grind [aH,dL]
theorem aK8(inv:Inv T Φ σ a w G){c:Array Value}{t:TypeId}{cs:List V}(e:(∀y∈cs,y.one=true)->RvL w G c.toList cs)(f:V.okL σ.hasB σ.hasA cs)(h:lM σ d cs K){b:Result Next}
 (i:b= .ok (.value (.pointer (some ⟨w.heap.size,0,none⟩))) (w.alloc (.cells c t))):Out T Φ σ a K b:=by
 unfold lM at h;split at h
 ·rename_i g
  rw[bC]at h;obtain⟨j,h⟩:=aT h;have e:=e (dY.1 j);refine⟨_,_,_,_,_, .inl i,h,inv.lM g (t:=t) e f,?_,?_⟩
  ·have:=Rv.box (w:=w.alloc (.cells c t)) (G:={G with β:=upd G.β d w.heap.size,O:=upd G.O w.heap.size (.bx d)}) d 0
   simp only[upd_same]at this;exact this
  ·simp only[V.ok]
   exact⟨cs,upd_same _ _ _⟩
 ·exact h.elim
theorem dM8(inv:Inv T Φ σ a w G)(t:TypeId)(x:Operand)(e:o.op= .box t x)(h:lM σ d (σ.ev x).cells K):Out T Φ σ a K ((execOp a.eval o).run P w):=by
 obtain⟨g,f⟩:=inv.ev x;exact aK8 inv (t:=t) (c:=(a.eval x).cells) (λb=>g.cells b) (sF f) h (by simp[execOp,e,Instr.box,newVar,newRow,newObj,Sem.run])
theorem aC3(h:bP T P){t:TypeId}(j:t<T.n t):∃z,(zeroValue t).run P w= .ok z w/\z.cells.toList=(T.row t).zero/\(∀c∈(T.row t).zero,c.oneCell'=true)/\(T.row t).zero.length=(T.row t).size:=by
 obtain⟨i,g,m,l,z,f,k,b,e,_⟩:=(h t j).info;exact⟨z,by simp[zeroValue,typeInfo,g,f],k,b,e⟩
theorem cJ8(g:bP T P)(inv:Inv T Φ σ a w G)(t:TypeId)(f:o.op= .alloc t)(i:t<T.n t)(h:lM σ d (mapR .lit (T.row t).zero) K):Out T Φ σ a K ((execOp a.eval o).run P w):=by
 obtain⟨z,e,b,j,_⟩:=aC3 (w:=w) g i;rw[dU,<-b]at h;exact aK8 inv (t:=t) (c:=z.cells) (λ_=>aM4 (by rw[b];exact j)) bC6 h (by simp[execOp,f,Instr.alloc,e,newVar,newRow,newObj,Sem.run])
theorem yJ{t:TypeId}{r:Row}(h:aH9 P t r)(g:r.kd= .struct):∃b,P.underlying t=some (.struct b)/\r.flds=b.toList.map (λf=>(f.offset,vI P f.type,kdOf (P.underlying f.type),f.type))/\(∀f∈b,∃i,P.info? f.type=some i/\i.size=vI P f.type):=by
 obtain⟨e,k,c,_,_,_,_,j⟩:=h.und;rw[g]at c;cases e<;>simp[kdOf]at c<;>simp_all
theorem jW{t:TypeId}{r:Row}(h:aH9 P t r)(e:r.kd= .slice):P.underlying t=some (.slice r.elem):=by
 obtain⟨c,g,b,_,f,_,_⟩:=h.und;rw[e]at b;cases c<;>simp[kdOf]at b<;>simp_all
theorem aR9{t:TypeId}{r:Row}(h:aH9 P t r)(e:r.kd= .array):P.underlying t=some (.array r.alen r.elem):=by
 obtain⟨c,g,b,_,_,f,_⟩:=h.und;rw[e]at b;cases c<;>simp[kdOf]at b<;>simp_all
theorem eT8{t:TypeId}{r:Row}(h:aH9 P t r)(e:r.kd= .map):P.underlying t=some (.map r.alen r.elem):=by
 obtain⟨c,g,b,_,_,_,f,_⟩:=h.und;rw[e]at b;cases c<;>simp[kdOf]at b<;>simp_all
theorem aF2{t:TypeId}{r:Row}(h:aH9 P t r)(hk:r.kd= .str):P.underlying t=some .string:=LW
theorem bY7{t:TypeId}{r:Row}(h:aH9 P t r){k:IntKind}(c:r.kd= .int k):P.underlying t=some (.int k):=by
 obtain⟨e,f,b,_⟩:=h.und;rw[c]at b;cases e<;>simp[kdOf]at b;subst b;exact f
theorem iV(b:bP T P){t:TypeId}(f:t<T.n t)(w:World):(sizeOf t).run P w= .ok (T.row t).size w:=by
 obtain⟨i,c,e,_⟩:=(b t f).info;rw[bG2 c,e]
theorem yG(e:bP T P){t:TypeId}(f:t<T.n t)(w:World):(isAgg t).run P w= .ok (T.row t).agg w:=by
 obtain⟨b,g,_,c,_⟩:=(e t f).und;rw[c];cases b<;>simp[isAgg,dI g,aggB]
theorem bN6(x:bP T P){s:TypeId}(q:s<T.n s){f:Nat}{off z:Nat}{v:Kd×TypeId}(c:(T.row s).flds[f]? =some (off,z,v))(u:z≠0)(g:(T.row s).kd= .struct)(k:Addr):
 (Instr.fieldAt s (.pointer (some k)) f).run P w= .ok (.pointer (some (k.add off))) w:=by
 obtain⟨l,A,y,r⟩:=yJ (x s q) g;rw[y,Rk]at c
 cases b:l.toList[f]? with
 |none=>rw[b]at c;cases c
 |some m=>
  rw[b]at c;simp only[Sr,RS,Prod.mk.injEq]at c;obtain⟨t,p,_⟩:=c;have j:l[f]? =some m:=by simpa using b
  obtain⟨i,hi,e⟩:=r m (by have:=QF b;simpa using this)
  have h:i.size≠0:=by rw[e,p];exact u
  simp[Instr.fieldAt,dI A,j,Instr.sureAddr,fieldPlace,bG2 hi,h,t]
theorem aY3(H:bP T P)(inv:Inv T Φ σ a w G)(s:TypeId)(x:Operand)(f:Nat)(I:o.op= .fieldAddr s x f)(F:s<T.n s)(h:jB (T.row s) (σ.ev x) f K):Out T Φ σ a K ((execOp a.eval o).run P w):=by
 obtain⟨l,h2⟩:=inv.ev x;unfold jB at h;split at h
 ·rename_i off z L A B
  rw[uN]at B
  cases v:Nat.beq z 0 with
  |true=>rw[v]at h;exact h.elim
  |false=>
   rw[v]at h;have u:z≠0:=by rintro rfl;simp at v
   have b:∀e,a.eval x= .pointer (some e)->(execOp a.eval o).run P w= .ok (.value (.pointer (some (e.add off)))) w:=λe r=>by
    simp[execOp,I,r,bN6 H F B u A e]
   simp only[SA]at h;split at h
   ·rename_i i of q
    rw[q]at l h2;refine .plain inv (b _ l.bI6) h ?_ EQ;rw[rY];exact .box i (of+off)
   ·rename_i cs q
    rw[q]at l h2;obtain⟨e,cc,r,C,D,J⟩:=l.cW5;rw[bC,lQ]at h;refine .plain inv (b e r) h ?_ ?_
    ·refine .fp _ _ (λj=>cc (off+j)) (λE=>?_) (λj y m=>?_) (λj y m=>?_)
     ·grind [add_block]
     ·rw[RI]at m
      rw[add_add'];exact D _ y m
     ·rw[RI]at m
      exact J _ y m
    ·grind [aH,Rj,V.ok]
   ·rename_i k g sz i of q
    rw[q]at l h2;obtain⟨e,n,c,r,t⟩:=l.dA8;refine .plain inv (b _ r) h ?_ EQ;rw[add_add',Td];exact .ae k g sz i (of+off) e n c t
   ·exact h.elim
 ·exact h.elim
structure Here(w:World)(G:Gh)(ad:Addr)(xs:List V):Prop where
 out:∃cc:Nat->Value,At w ad cc xs/\∀(j:Nat) y,xs[j]? =some y->Rv w G (cc j) y
theorem dU3(l:bP T P){t:TypeId}(m:t<T.n t){i:Addr}{xs:List V}(y:Here w G i xs)(s:V.okL σ.hasB σ.hasA xs)(h:wB (T.row t) xs K):
 ∃v' v,(loadVar t i).run P w= .ok v' w/\K v []/\Rv w G v' v/\v.ok σ.hasB σ.hasA:=by
 obtain⟨cc,k,A⟩:=y.out;unfold wB at h;split at h
 ·rename_i b
  rw[bC,aD3,iL]at h;obtain⟨B,h⟩:=aT h;have f:(xs.take (T.row t).size).length=(T.row t).size:=by simpa [SX]using B
  have q:(T.row t).size<=xs.length:=by rw[QL]at f;omega
  have e:=run_loadCells (P:=P) w i (T.row t).size cc (λj z=>(k j _ (QE Aa)).1);refine⟨.agg ((List.range (T.row t).size).map cc).toArray,_,?_,h, .agg _ _ ?_ ?_ ?_,?_⟩
  ·simp[loadVar,yG l m,b,iV l m,e]
  ·simp[q]
  ·intro c g
   simp only[List.mem_toArray,QZ,Sl]at g;obtain⟨j,z,rfl⟩:=g;exact(k j _ (QE Aa)).2
  ·grind
  ·grind [aH,Ri,V.ok]
 ·rename_i b
  split at h
  ·rename_i x r
   rw[force_eq]at h;have u:=k 0 x Ae;rw[add_zero']at u;exact⟨cc 0,x,by simp[loadVar,yG l m,b,run_load,u.1],h,A 0 x Ae,aH.1 s x Ae⟩
  ·exact h.elim
theorem flat_get{l:List V}{sz:Nat}(b:∀x∈l,x.cells.length=sz){i:Nat}{x:V}(hi:l[i]? =some x)(j:Nat)(f:j<sz):(l.flatMap V.cells)[i*sz+j]? =x.cells[j]? :=by
 induction l generalizing i with
 |nil=>simp at hi
 |cons y r c=>
  have e:y.cells.length=sz:=b y Ae;cases i<;>grind
theorem sH{l:List V}{sz:Nat}(b:∀x∈l,x.cells.length=sz):(l.flatMap V.cells).length=l.length*sz:=by
 induction l<;>grind
theorem Here.elem{l:List V}{sz:Nat}(h:∀x∈l,x.cells.length=sz){e:Addr}(f:Here w G e (l.flatMap V.cells)){i:Nat}{x:V}(hi:l[i]? =some x)(off:Nat):Here w G (e.add (i*sz+off)) (x.cells.drop off):=by
 obtain⟨cc,g,k⟩:=f.out
 have key:∀(j:Nat) (y:V),(x.cells.drop off)[j]? =some y->(l.flatMap V.cells)[i*sz+off+j]? =some y:=by
  intro j y b;rw[RI]at b
  have c:off+j<sz:=by
   grind
  rw[Td,flat_get h hi _ c];exact b
 refine⟨λj=>cc (i*sz+off+j),λj y b=>?_,λj y b=>k _ y (key j y b)⟩;rw[add_add'];exact g _ y (key j y b)
theorem RvL.here{g:Nat}{cur:Array Value}{t:TypeId}{i:Nat×Nat}(k:w.heap[g]? =some (.cells cur t i)){n:Nat}{xs:List V}(h:RvL w G (cur.toList.take n) xs):Here w G ⟨g,0,none⟩ xs:=by
 refine⟨λj=>cur.toList.getD j undef,λj y c=>?_,λj y c=>?_⟩
 ·have b:j< (cur.toList.take n).length:=by rw[h.len];exact(QD.1 c).1
  have hj':j<cur.toList.length:=by rw[QL]at b;omega
  have e:(cur.toList.take n)[j] =cur.toList[j] :=List.getElem_take;rw[rY,SL,cell_of_row w g j cur t i k];have f:cur.toList.getD j undef=cur.toList[j] :=F6
  show cur[j]? =some (cur.toList.getD j undef)/\(cur.toList.getD j undef).oneCell'=true;rw[f];refine⟨Ae,?_⟩;rw[<-e];exact h.one _ (Tm b)
 ·have b:j< (cur.toList.take n).length:=by rw[h.len];exact(QD.1 c).1
  have hj':j<cur.toList.length:=by rw[QL]at b;omega
  have e:(cur.toList.take n)[j] =cur.toList[j] :=List.getElem_take;have f:cur.toList.getD j undef=cur.toList[j] :=F6
  show Rv w G (cur.toList.getD j undef) y;rw[f,<-e];exact h.rel j _ y (QE b) c
theorem gW.reads{k:Nat}{en:AE}(h:gW T w G k en)(i:en.kind≠ .dead):(G.av k en.gen= .slice none 0 0/\en.l=[])\/
 ∃ad c sz,G.av k en.gen= .slice (some ad) en.l.length c/\en.l.length<=c/\c<=maxLen/\(∀x∈en.l,x.cells.length=sz)/\Here w G ad (en.l.flatMap V.cells):=by
 have own:∀ {u ty l},gJ T w G k u ty l->(u= .slice none 0 0/\l=[])\/∃ad c sz,u= .slice (some ad) l.length c/\l.length<=c/\c<=maxLen/\(∀x∈l,x.cells.length=sz)/\Here w G ad (l.flatMap V.cells):=by
  intro u ty l h;rcases h with⟨h|⟨a,h⟩,f⟩|⟨b,cap,cur,h1,h2,h3,h4,h5,h6,h7,m⟩
  ·exact .inl ⟨h,f⟩
  ·subst f
   exact .inr ⟨a,0,0,h,QH _,Ro _,(λx hx=>Hq),⟨λ_=>undef,(λj y e=>by simp at e),(λj y e=>by simp at e)⟩⟩
  ·exact .inr ⟨⟨b,0,none⟩,cap,_,h1,h4,h5,h7,m.here h3⟩
 have sl:∀ {u l},Rv w G u (.sl l)->(u= .slice none 0 0/\l=[])\/∃ad c sz,u= .slice (some ad) l.length c/\l.length<=c/\c<=maxLen/\(∀x∈l,x.cells.length=sz)/\Here w G ad (l.flatMap V.cells):=by
  intro u l h;exact OJ
 unfold gW at h;split at h
 ·rename_i g;exact absurd g i
 ·exact sl h
 ·exact own h.2
 ·rcases h.2 with h|h
  ·exact own h
  ·exact sl h.1.wK
theorem cG1(hT:bP T P)(inv:Inv T Φ σ a w G)(t:TypeId)(x:Operand)(ht:t<T.n t)(h:pW (T.row t) σ (σ.ev x) K):∃e v' v,a.eval x= .pointer (some e)/\(loadVar t e).run P w= .ok v' w/\K v []/\Rv w G v' v/\v.ok σ.hasB σ.hasA:=by
 obtain⟨l,u⟩:=inv.ev x
 have f:∀(e:Addr) (xs:List V),a.eval x= .pointer (some e)->Here w G e xs->V.okL σ.hasB σ.hasA xs->wB (T.row t) xs K->∃e v' v,a.eval x= .pointer (some e)/\(loadVar t e).run P w= .ok v' w/\K v []/\Rv w G v' v/\v.ok σ.hasB σ.hasA:=by
  grind [dU3]
 unfold pW at h;split at h
 ·rename_i i off q
  rw[q]at l;split at h
  ·rename_i cs p
   obtain⟨c,tt,N,M,g3⟩:=inv.box i cs p;rw[lQ]at h;have Y:Here w G ⟨G.β i,0,none⟩ cs:=RvL.here N (n:=c.toList.length) (by rw[Tn];exact M)
   refine f _ _ l.bI6 ?_ ?_ h
   ·obtain⟨cc,W,R⟩:=Y.out
    refine⟨λj=>cc (off+j),λj y b=>?_,λj y b=>?_⟩
    ·rw[RI]at b
     have:=W _ y b;simp_all [rY,SL]
    ·rw[RI]at b
     exact R _ y b
   ·have:=inv.wfB i cs p
    rw[aH]at this⊢;grind
  ·exact h.elim
 ·rename_i cs q
  rw[q]at l u;obtain⟨e,cc,C,_,L,hr⟩:=l.cW5;refine f e cs C ⟨cc,L,hr⟩ ?_ h;simp only[V.ok]at u;exact V.okL.imp (λ_ h=>h.elim) (λ_ _ h=>h.elim) _ u
 ·rename_i k g sz i off q
  rw[q]at l;split at h
  ·rename_i en m
   obtain⟨⟨S,U⟩,F⟩:=dX h;obtain⟨y,b,D⟩:=cO3 F;obtain⟨E,H⟩:=aT D;clear h F D;rw[iL]at E;have B:y.cells.length=sz:=by simpa [SX]using E
   obtain⟨e,n,c,C,s⟩:=l.dA8;subst S;rcases(inv.arr k en m).reads U with⟨A,J⟩|⟨X,c',r,A,J,e3,I,Q⟩
   ·rw[J]at b;simp at b
   ·rw[s]at A
    cases A;have:r=sz:=by rw[<-I y (QF b)];exact B
    subst this;rw[lQ]at H;refine f _ _ C (Q.elem I b off) ?_ H;have O:=aH.1 (inv.wfA k en m) y (QF b);have:=sF O
    rw[aH]at this⊢;exact λz Z=>V.pure.ok (this z (Rj Z)) _ _
  ·exact h.elim
 ·exact h.elim
theorem cZ0(g:bP T P)(inv:Inv T Φ σ a w G)(t:TypeId)(x:Operand)(f:o.op= .load t x)(i:t<T.n t)(h:pW (T.row t) σ (σ.ev x) K):Out T Φ σ a K ((execOp a.eval o).run P w):=by
 obtain⟨k,v',v,j,b,e,hv,c⟩:=cG1 g inv t x i h;exact .plain inv (by simp[execOp,f,j,Instr.loadAt,Instr.sureAddr,b]) e hv c
end
section
variable{T:Tab}{P:Program}{Φ:Fr}{σ:St}{a:Act}{w:World}{G:Gh}{K:VK}{o:Oper}{d:Nat}
theorem size_setRow(g:Nat)(cs:Array Value):(w.setRow g cs).heap.size=w.heap.size:=by simp[World.setRow]
theorem aN1(i:bP T P){t:TypeId}(j:t<T.n t){g off:Nat}{cur:Array Value}{b:TypeId}(e:w.heap[g]? =some (.cells cur b (0,0))){v:Value}(f:v.cells.size=(T.row t).size)(hl:off+v.cells.size<=cur.size)(k:∀c∈v.cells.toList,c.oneCell'=true):
 (storeVar t ⟨g,off,none⟩ v).run P w= .ok () (w.setRow g (cur.toList.take off++v.cells.toList++cur.toList.drop (off+v.cells.toList.length)).toArray):=by
 have:=run_storeCells_at (P:=P) g off b v.cells.toList 0 cur w e BD k;simp only[Tq]at this;simp[storeVar,iV i j,f,this]
theorem aF8{p:Nat->Prop}{q:Nat->Nat->Prop}{y:V}(h:y.atom=true)(b:y.ok p q):y.pure:=by
 cases y with
 |lit u=>simp only[V.pure,V.ok]
 |sl l=>simp only[V.pure,V.ok]at b⊢;exact b
 |cap l=>simp only[V.pure,V.ok]at b⊢;exact b
 |fn g l=>exact fn_atom_pure h b
 |_=>simp[V.atom]at h
theorem eC3{y:V}(h:y.atom=true):y.one=true:=by cases y<;>simp_all [V.atom,V.one]
theorem bE1{y:V}(h:y.atom=true):y.cells=[y] :=by cases y<;>simp_all [V.atom,V.cells]
theorem eA3{l:List V}{sz:Nat}(c:∀x∈l,x.cells.length=sz){i:Nat}{x x':V}(hi:l[i]? =some x){off:Nat}{ys:List V}(b:x'.cells=splice x.cells off ys)(k:off+ys.length<=sz):
 (l.set i x').flatMap V.cells=splice (l.flatMap V.cells) (i*sz+off) ys:=by
 induction l generalizing i with
 |nil=>simp at hi
 |cons y r m=>
  have f:y.cells.length=sz:=c y Ae;rw[mO]at b⊢
  cases i with
  |zero=>
   grind
  |succ i=>
   simp only[RG]at hi;have:=m (λx hx=>c x BH) hi;rw[mO]at this;have e:(i+1)*sz+off=y.cells.length+(i*sz+off):=by rw[f,Tt];omega
   simp only[List.set_cons_succ,RZ,this,e,List.take_append,List.drop_append];have g:List.take (y.cells.length+(i*sz+off)) y.cells=y.cells:=TS Aa;have n:List.drop (y.cells.length+(i*sz+off)+ys.length) y.cells=[] :=List.drop_of_length_le Aa
   have j:y.cells.length+(i*sz+off)+ys.length-y.cells.length=i*sz+off+ys.length:=Aa;rw[g,n,Nat.add_sub_cancel_left,j];simp
theorem cJ7(hT:bP T P)(inv:Inv T Φ σ a w G)(t:TypeId)(x y:Operand)(ho:o.op= .store t x y)(ht:t<T.n t)(h:qU (T.row t) σ (σ.ev x) (σ.ev y) K):Out T Φ σ a K ((execOp a.eval o).run P w):=by
 obtain⟨h1,h2⟩:=inv.ev x;obtain⟨y1,y2⟩:=inv.ev y;unfold qU at h;split at h
 ·rename_i i off hx
  rw[hx]at h1;split at h
  ·rename_i cs F
   obtain⟨X,h3⟩:=aT h;clear h;simp only[QN,iL]at X;obtain⟨⟨c1,c2⟩,c3⟩:=X;have af:(σ.ev y).cells.length=(T.row t).size:=Gm;have S:off+(T.row t).size<=cs.length:=by simpa using c2
   rw[bC]at h3;have R:=y1.cells (dY.1 c3);obtain⟨c,tt,g1,g2,g3⟩:=inv.box i cs F;have m:(a.eval y).cells.size=(T.row t).size:=by have:=R.len;simp at this;omega
   have aq:c.size=cs.length:=by have:=g2.len;simpa using this
   have s:=aN1 (P:=P) hT ht g1 (v:=a.eval y) (off:=off) m Aa R.one;refine⟨undef,w.setRow (G.β i) (c.toList.take off++(a.eval y).cells.toList++c.toList.drop (off+(a.eval y).cells.toList.length)).toArray,_,_,G, .inr ⟨by simp[execOp,ho,h1.bI6,Instr.storeAt,Instr.sureAddr,s],rfl⟩,h3,?_, .bot _,BK⟩
   refine inv.eJ4 F (c:=(c.toList.take off++(a.eval y).cells.toList++c.toList.drop (off+(a.eval y).cells.toList.length)).toArray) (t:=tt) ?_ (yV (inv.wfB i cs F) (sF y2) off) (SY w _ c _ tt _ g1) (λb hb=>SI w _ b _ hb) (size_setRow _ _) rfl rfl rfl;simpa using g2.splice R off
  ·exact h.elim
 ·rename_i k g sz i off hx
  rw[hx]at h1;split at h
  ·rename_i en C
   obtain⟨⟨hg,ac⟩,h3⟩:=dX h;obtain⟨z,W,h4⟩:=cO3 h3;obtain⟨X,h5⟩:=aT h4;clear h h3 h4;simp only[QN,iL]at X;obtain⟨⟨⟨c1,c2⟩,c4⟩,c3⟩:=X;have af:(σ.ev y).cells.length=(T.row t).size:=Gm;have S:off+(T.row t).size<=z.cells.length:=by simpa using c2
   have ae:z.cells.length=sz:=by simpa [SX]using c4
   rw[bC]at h5;have U:=dY.1 c3;have R:=y1.cells (λu H=>eC3 (U u H))
   obtain⟨ad,n,c,he,aa⟩:=h1.dA8;subst hg;have A:=inv.arr k en C;have ak:=A
   unfold gW at A;rw[ac]at A;obtain⟨ag,Y⟩:=A;rcases Y with⟨e1,e2⟩|⟨b,cap,cur,e1,e2,e3,e4,e5,e6,e7,e8⟩
   ·rw[e2]at W;simp at W
   ·rw[aa]at e1
    cases e1;have J:sz=(T.row en.ty).size:=by rw[<-ae];exact e7 z (QF W)
    have m:(a.eval y).cells.size=(T.row t).size:=by have:=R.len;simp at this;omega
    have hi:i<en.l.length:=(QD.1 W).1;have al:i*sz+sz<=en.l.length*sz:=by rw[<-Tt];exact U8 _ hi
    have aj:en.l.length*sz<=c*sz:=U8 _ e4;have F:cur.size=c*sz:=by rw[J];exact e6
    have s:=aN1 (P:=P) hT ht e3 (v:=a.eval y) (off:=i*sz+off) m Aa R.one
    have D:(aC4 z (splice z.cells off (σ.ev y).cells)).cells=splice z.cells off (σ.ev y).cells:=by
     have f:(splice z.cells off (σ.ev y).cells).length=z.cells.length:=by
      rw[mO];simp;omega
     unfold aC4;split
     ·rfl
     ·rename_i am
      have E:z.cells=[z] :=by cases z<;>simp_all [V.cells]
      rw[E]at f
      match B:splice z.cells off (σ.ev y).cells with
      | [] =>rw[E]at B;rw[B]at f;simp at f
      |u::r=>
       have hr:r=[] :=by
        simp_all
       subst hr;rw[E]at S;simp only[QK]at S;by_cases h0:(T.row t).size=0
       ·have hn:(σ.ev y).cells=[] :=Tc Aa
        rw[hn,E,mO]at B;simp_all
       ·have ab:off=0:=by omega
        subst ab;grind [mO,bE1]
    have N:=eA3 e7 W (x':=aC4 z (splice z.cells off (σ.ev y).cells)) (off:=off) (ys:=(σ.ev y).cells) D Aa
    have L:bM (en.l.set i (aC4 z (splice z.cells off (σ.ev y).cells))):=by
     have Z:=aH.1 (inv.wfA k en C);refine aH.2 ?_;intro u H;rcases List.mem_or_eq_of_mem_set H with H|H
     ·exact Z u H
     ·subst H
      have ai:=sF (Z z (QF W))
      have ah:bM (σ.ev y).cells:=by
       refine aH.2 ?_;exact λq M=>aF8 (U q M) (aH.1 (sF y2) q M)
      have hs:=yV ai ah off;unfold aC4;split
      ·simp only[V.ok];exact hs
      ·split
       ·rename_i q r M
        rw[M]at hs;exact hs.1
       ·simp only[V.ok]
    refine⟨undef,w.setRow b (cur.toList.take (i*sz+off)++(a.eval y).cells.toList++cur.toList.drop (i*sz+off+(a.eval y).cells.toList.length)).toArray,_,_,G, .inr ⟨?_,rfl⟩,h5,?_, .bot _,BK⟩
    ·rw[rY,SL]at he
     simp[execOp,ho,he,Instr.storeAt,Instr.sureAddr,s]
    ·have Q:Keep w (w.setRow b (cur.toList.take (i*sz+off)++(a.eval y).cells.toList++cur.toList.drop (i*sz+off+(a.eval y).cells.toList.length)).toArray) G G:=
      ⟨λ_ h=>h,λb' I=>SI w _ b' _ (λe=>by subst e;rw[e2]at I;cases I)⟩
     refine inv.zU (k:=k) (en:={en with l:=en.l.set i (aC4 z (splice z.cells off (σ.ev y).cells))}) (av':=G.av) (O':=G.O) (λg ⟨an,q1,q2⟩=>by rw[C]at q1;cases q1;exact q2) (λ_ _ _=>rfl) L ?_ (λ_ _ _=>rfl) (λ_=> .inl rfl)
      (λb' _ I=>SI w _ b' _ (λe=>by subst e;exact I e2)) GR rfl rfl rfl
     unfold gW;simp only[ac];refine⟨ag, .inr ⟨b,c,_,?_,e2,SY w b cur _ _ _ e3,by simpa using e4,e5,?_,?_,?_⟩⟩
     ·simpa using aa
     ·grind
     ·grind [List.mem_or_eq_of_mem_set,mO]
     ·rw[N]
      have B:=(e8.splice R (i*sz+off)).keep Q (p:=λ_=>False) (q:=λ_ _=>False) ?_ (λ_ h=>h.elim) (λ_ _ h=>h.elim)
      ·have ao:(a.eval y).cells.toList.length=(T.row t).size:=by simpa using m
       have e9:List.take ((en.l.set i (aC4 z (splice z.cells off (σ.ev y).cells))).length*(T.row en.ty).size) (cur.toList.take (i*sz+off)++(a.eval y).cells.toList++cur.toList.drop (i*sz+off+(a.eval y).cells.toList.length))=
        List.take (i*sz+off) (List.take (en.l.length*(T.row en.ty).size) cur.toList)++(a.eval y).cells.toList++List.drop (i*sz+off+(a.eval y).cells.toList.length) (List.take (en.l.length*(T.row en.ty).size) cur.toList):=by
        rw[Tj,<-J];rw[List.take_append,List.take_append,U4,U4,UG];have q1:min (en.l.length*sz) (i*sz+off)=i*sz+off:=Aa;have q2:min (i*sz+off) (en.l.length*sz)=i*sz+off:=Aa
        rw[q1,q2];have q3:(List.take (i*sz+off) cur.toList).length=i*sz+off:=by rw[QL];simp;omega
        rw[QG,q3,TS (l:=(a.eval y).cells.toList) Aa]
       simp_all
      ·refine yV ?_ ?_ _
       ·rw[aH]
        intro u H;obtain⟨j,hj⟩:=QY H;exact dF (inv.wfA k en C) hj
       ·rw[aH]
        exact λq M=>aF8 (U q M) (aH.1 (sF y2) q M)
  ·exact h.elim
 ·exact h.elim
end
section
variable{T:Tab}{P:Program}{Φ:Fr}{σ:St}{a:Act}{w:World}{G:Gh}{K:VK}{o:Oper}{d:Nat}
theorem vU(e:bP T P){t:TypeId}(h:t<T.n t)(g:(T.row t).kd= .slice)(i:(T.row t).elem<T.n (T.row t).elem)(c:Addr)(b cap:Nat)(k:IntKind)(n:Int)(f:0<=n)(j:n<b):
 (Instr.indexAt t (.slice (some c) b cap) (.int k n)).run P w= .ok (.pointer (some (c.add (n.toNat*(T.row (T.row t).elem).size)))) w:=by
 simp[Instr.indexAt,asIntOf,dI (jW (e t h) g),f,j,iV e i]
theorem vZ(c:bP T P){t:TypeId}(f:t<T.n t)(e:(T.row t).kd= .array)(g:(T.row t).elem<T.n (T.row t).elem)(b:Addr)(k:IntKind)(n:Nat)(h:n< (T.row t).alen):
 (Instr.indexAt t (.pointer (some b)) (.int k n)).run P w= .ok (.pointer (some (b.add (n*(T.row (T.row t).elem).size)))) w:=by
 simp[Instr.indexAt,asIntOf,dI (aR9 (c t f) e),h,iV c g,Instr.sureAddr]
theorem aY7(L:bP T P)(inv:Inv T Φ σ a w G)(t:TypeId)(x y:Operand)(M:o.op= .indexAddr t x y)(J:t<T.n t)(h:gI T (T.row t) σ (σ.ev x) (σ.ev y) K):Out T Φ σ a K ((execOp a.eval o).run P w):=by
 obtain⟨v,h2⟩:=inv.ev x;obtain⟨N,y2⟩:=inv.ev y
 have r:∀(l:List V) (m:IntKind) (n:Int),(T.row t).kd= .slice->a.eval y= .int m n->Rv w G (a.eval x) (.sl l)->bM l->
  need (0<=n/\n<l.length) (idx l n.toNat λx=>bJ x.cells λcs=>cond (Nat.beq (lenR cs) (T.row (T.row t).elem).size&&Nat.blt (T.row t).elem (T.n (T.row t).elem)) (K (.fp cs) []) False)->Out T Φ σ a K ((execOp a.eval o).run P w):=by
  intro l m n e b s ac hh;obtain⟨⟨n0,D⟩,A⟩:=dX hh;obtain⟨z,E,I⟩:=cO3 A;rw[bC]at I;obtain⟨f,h5⟩:=aT I;simp only[QN,iL]at f;have U:z.cells.length=(T.row (T.row t).elem).size:=by simpa [SX]using f.1
  have H:=blt f.2;rcases s.bK8 with⟨B,F⟩|⟨u,c,sz,cc,B,F,e3,e4,S,e6,e7⟩
  ·rw[F]at E;simp at E
  ·have W:sz=(T.row (T.row t).elem).size:=by rw[<-S z (QF E)];exact U
   have C:0<l.length:=by have:=(QD.1 E).1;omega
   refine .plain inv (v':= .pointer (some (u.add (n.toNat*(T.row (T.row t).elem).size)))) (by simp[execOp,M,b,B,vU L J e H u l.length c m n n0 D]) h5 ?_ ?_
   ·have hH:=Here.elem S (w:=w) (G:=G) ⟨cc,e6,e7⟩ E 0
    obtain⟨X,Z,Y⟩:=hH.out;rw[List.drop_zero,Tq,W]at Z;rw[List.drop_zero]at Y;exact .fp _ _ X (λ_=>by rw[add_block];exact e4 C) Z Y
   ·grind [sF,aH,QF,V.ok]
 unfold gI at h;split at h
 ·rename_i m n e q
  rw[q]at N;have b:=N.bH;split at h
  ·grind [V.ok]
  ·rename_i l s
   rw[s]at v h2;simp only[V.ok]at h2;exact r l m n e b v.wK h2 h
  ·rename_i k g s
   rw[s]at v h2;split at h
   ·rename_i en Q
    obtain⟨⟨hg,hd,n0,D⟩,A⟩:=dX h;obtain⟨f,I⟩:=aT A;simp only[QN]at f;have H:=blt f.2;subst hg;rcases(inv.arr k en Q).reads hd with⟨B,F⟩|⟨u,c,sz,B,F,e3,e4,S⟩
    ·rw[F]at D;simp at D;omega
    ·have O:a.eval x= .slice (some u) en.l.length c:=v.oQ.trans B
     refine .plain inv (v':= .pointer (some (u.add (n.toNat*(T.row (T.row t).elem).size)))) (by simp[execOp,M,b,O,vU L J e H u en.l.length c m n n0 D]) I ?_ EQ
     have:=Rv.ae (w:=w) (G:=G) k en.gen (T.row (T.row t).elem).size n.toNat 0 u en.l.length c B;simpa using this
   ·exact h.elim
  ·exact h.elim
 ·rename_i m n e q
  rw[q]at N;have b:a.eval y= .int m ((n:Nat):Int):=N.bH;split at h
  ·rename_i i off s
   rw[s]at v h2;obtain⟨f,A⟩:=aT h;simp only[QN]at f;refine .plain inv (v':= .pointer (some ((⟨G.β i,off,none⟩:Addr).add (n*(T.row (T.row t).elem).size)))) (by simp[execOp,M,b,v.bI6,vZ L J e (blt f.2) _ m n (blt f.1)]) A ?_ EQ
   rw[rY];exact .box _ _
  ·rename_i cs s
   rw[s]at v h2;obtain⟨f,A⟩:=aT h;simp only[QN]at f;obtain⟨u,cc,H,aa,R,hr⟩:=v.cW5;rw[bC,lQ]at A;refine .plain inv (v':= .pointer (some (u.add (n*(T.row (T.row t).elem).size)))) (by simp[execOp,M,b,H,vZ L J e (blt f.2) _ m n (blt f.1)]) A ?_ ?_
   ·refine .fp _ _ (λj=>cc (n*(T.row (T.row t).elem).size+j)) (λab=>?_) (λj y q=>?_) (λj y q=>?_)
    ·grind [add_block]
    ·rw[RI]at q
     rw[add_add'];exact R _ y q
    ·rw[RI]at q
     exact hr _ y q
   ·grind [aH,Rj,V.ok]
  ·exact h.elim
 ·exact h.elim
theorem dM3(C:bP T P)(inv:Inv T Φ σ a w G)(x:Operand)(t:TypeId)(B:o.op= .call ⟨.builtin .len,⟨[x]⟩,⟨[t]⟩⟩)(D:t<T.n t)
 (e:(T.row t).kd= .slice)(h:aE9 σ (σ.ev x) K):Out T Φ σ a K ((execOp a.eval o).run P w):=by
 obtain⟨i,F⟩:=inv.ev x
 have r:∀(u:Value) (m:Nat),a.eval x=u->(Builtin.len_ #[t] o.type #[u]).run P w= .ok (goInt m) w->(execOp a.eval o).run P w= .ok (.value (.int .i64 m)) w:=by
  intro u m s E;simp only[execOp,B,resolve,invoke,builtin,RN,Sz,QX,List.map_toArray,QW,RY,s,E];rfl
 have sl:∀(b:Option Addr) (m c:Nat),(T.row t).kd= .slice->a.eval x= .slice b m c->(execOp a.eval o).run P w= .ok (.value (.int .i64 m)) w:=λb m c e s=>
  r _ m s (by simp[Builtin.len_,dI (jW (C t D) e)])
 unfold aE9 at h;split at h
 ·rename_i j
  rw[j]at i;exact .plain inv (sl none 0 0 e i.bH) h (I_ok _ _ _ _) dL
 ·rename_i l j
  rw[j]at i;rcases i.bK8 with⟨f,p⟩|⟨y,c,sz,cc,f,_⟩
  ·subst p;exact .plain inv (sl none 0 0 e f) h (I_ok _ _ _ _) dL
  ·exact .plain inv (sl _ _ c e f) h (I_ok _ _ _ _) dL
 ·rename_i l j
  rw[j]at i;rcases i.vP with⟨f,p⟩|⟨y,sz,cc,f,_⟩
  ·subst p;exact .plain inv (sl none 0 0 e f) h (I_ok _ _ _ _) dL
  ·exact .plain inv (sl _ _ _ e f) h (I_ok _ _ _ _) dL
 ·rename_i k g j
  rw[j]at i;split at h
  ·rename_i en v
   obtain⟨⟨z,A⟩,q⟩:=dX h;subst z;rcases(inv.arr k en v).reads A with⟨f,p⟩|⟨y,c,sz,f,_⟩
   ·rw[p]at q;exact .plain inv (sl none 0 0 e (i.oQ.trans f)) q (I_ok _ _ _ _) dL
   ·exact .plain inv (sl _ _ c e (i.oQ.trans f)) q (I_ok _ _ _ _) dL
  ·exact h.elim
 ·exact h.elim
theorem cR9(g:bP T P)(inv:Inv T Φ σ a w G)(x:Operand)(t:TypeId)(f:o.op= .call ⟨.builtin .len,⟨[x]⟩,⟨[t]⟩⟩)(i:t<T.n t)(b:(T.row t).kd= .str)(h:aI4 (σ.ev x) K):Out T Φ σ a K ((execOp a.eval o).run P w):=by
 obtain⟨c,k⟩:=inv.ev x;unfold aI4 at h;split at h
 ·rename_i s e
  rw[e]at c;have j:(Builtin.len_ #[t] o.type #[.string s]).run P w= .ok (goInt s.size) w:=by simp[Builtin.len_,dI (aF2 (g t i) b)]
  refine .plain inv (v':= .int .i64 s.size) ?_ h (I_ok _ _ _ _) dL;simp only[execOp,f,resolve,invoke,builtin,RN,Sz,QX,List.map_toArray,QW,RY,c.bH,j];rfl
 ·exact h.elim
theorem cE0(l:bP T P){t:TypeId}(m:t<T.n t){cs:Array Value}{xs:List V}(z:cs.size=xs.length)(A:∀c∈cs,c.oneCell'=true)(y:∀(i:Nat) c x,cs[i]? =some c->xs[i]? =some x->Rv w G c x)(f:V.okL σ.hasB σ.hasA xs){off:Nat}
 (h:wB (T.row t) (jX xs off) K):∃v' v,(part t cs off).run P w= .ok v' w/\K v []/\Rv w G v' v/\v.ok σ.hasB σ.hasA:=by
 rw[lQ]at h;unfold wB at h;split at h
 ·rename_i b
  rw[bC,aD3,iL]at h;obtain⟨q,s⟩:=aT h;have e:((xs.drop off).take (T.row t).size).length=(T.row t).size:=by simpa [SX]using q
  have u:off+(T.row t).size<=xs.length\/(T.row t).size=0:=by rw[QL,Rz]at e;omega
  refine⟨.agg (cs.extract off (off+(T.row t).size)),_,by simp[part,yG l m,b,iV l m],s, .agg _ _ ?_ ?_ ?_,?_⟩
  ·rw[e,Array.size_extract];omega
  ·intro c k
   rw[Array.mem_iff_getElem?]at k;grind
  ·grind
  ·simp only[V.ok]
   rw[aH]at f⊢;grind
 ·rename_i b
  split at h
  ·rename_i x r g
   rw[force_eq]at h
   have j:xs[off]? =some x:=by
    have:(xs.drop off)[0]? =some x:=by rw[g];rfl
    rwa [RI,Tq]at this
   have hlt:off<cs.size:=by rw[z];exact(QD.1 j).1
   refine⟨cs[off],x,by simp[part,yG l m,b,hlt],h,y off _ x Iw j,aH.1 f x (QF j)⟩
  ·exact h.elim
theorem cL3(l:bP T P)(inv:Inv T Φ σ a w G)(s:TypeId)(x:Operand)(f:Nat)(E:o.op= .field s x f)(A:s<T.n s)(h:aM2 T (T.row s) (σ.ev x) f K):Out T Φ σ a K ((execOp a.eval o).run P w):=by
 obtain⟨k,i⟩:=inv.ev x;unfold aM2 at h;split at h
 ·rename_i off z L ty cs j b y
  rw[uN]at b;rw[y]at k i;obtain⟨p,B⟩:=aT h;obtain⟨vs,D,H,q,F⟩:=k.zV;obtain⟨m,C,t,J⟩:=yJ (l s A) j;rw[t,Rk]at b
  cases c:m.toList[f]? with
  |none=>rw[c]at b;cases b
  |some u=>
   rw[c]at b;simp only[Sr,RS,Prod.mk.injEq]at b;have e:m[f]? =some u:=by simpa using c
   simp only[V.ok]at i;obtain⟨v',v,I,r,hv,g⟩:=cE0 l (blt p) H q F i (P:=P) B;refine .plain inv (v':=v') ?_ r hv g;simp[execOp,E,D,Instr.field,dI C,e,asAgg,b.1,b.2.2.2,I]
 ·exact h.elim
theorem cK7(f:bP T P)(inv:Inv T Φ σ a w G)(t:TypeId)(x y:Operand)(A:o.op= .index t x y)(u:t<T.n t)(h:aM6 T (T.row t) (σ.ev x) (σ.ev y) K):Out T Φ σ a K ((execOp a.eval o).run P w):=by
 obtain⟨e,r⟩:=inv.ev x;obtain⟨g,J⟩:=inv.ev y;unfold aM6 at h;split at h
 ·rename_i s z n b m i
  rw[m]at e;rw[i]at g;obtain⟨⟨n0,I⟩,q⟩:=dX h;have k:n.toNat<s.size:=Aa;refine .plain inv ?_ q (I_ok _ _ _ _) dL;simp[execOp,A,e.bH,g.bH,Instr.index,asIntOf,dI (aF2 (f t u) b),n0,k,byteAt]
 ·rename_i cs z n b m i
  rw[m]at e r;rw[i]at g;obtain⟨c,q⟩:=aT h;simp only[QN]at c;obtain⟨vs,D,F,B,E⟩:=e.zV;simp only[V.ok]at r;obtain⟨v',v,H,C,hv,l⟩:=cE0 f (blt c.2) F B E r (P:=P) q;have j:a.eval y= .int z ((n:Nat):Int):=g.bH;refine .plain inv (v':=v') ?_ C hv l;simp[execOp,A,D,j,Instr.index,asIntOf,dI (aR9 (f t u) b),blt c.1,iV f (blt c.2),H]
 ·exact h.elim
theorem bO9(off:Nat):∀(l:List Value) (k:Nat) (b:Array Value),off+k+l.length<=b.size->
 ((l.zipIdx k).foldl (λcs p=>cs.setIfInBounds (off+p.2) p.1) b).toList=b.toList.take (off+k)++l++b.toList.drop (off+k+l.length)
 | [],k,b,h=>Ae
 |v::r,k,b,h=>by
  simp only[List.zipIdx_cons,RF];rw[bO9 off r (k+1) _ (by simp at h⊢;omega)]
  simp only[Array.toList_setIfInBounds,QM]at h⊢;apply List.ext_getElem?;intro i;simp only[U7,TI,RI,QL,QG,List.getElem?_set,Tj,RD,QM];grind
theorem cV2(off:Nat)(vs b:Array Value)(h:off+vs.size<=b.size):(vs.zipIdx.foldl (λcs (c,j)=>cs.setIfInBounds (off+j) c) b).toList=b.toList.take off++vs.toList++b.toList.drop (off+vs.toList.length):=by
 have:=bO9 off vs.toList 0 b Ff;simp only[Tq]at this;grind [Array.toList_zipIdx]
theorem bL4(inv:Inv T Φ σ a w G){f place':Nat->Option (Nat×Nat)}(s:List (Nat×Operand)):∀(b:Array Value) (xs:List V) {K:List V->Prop},(∀i,i∈s.map (·.1)->∀q,f i=some q->place' i=some q)->RvL w G b.toList xs->V.okL σ.hasB σ.hasA xs->oI f σ s xs K->
 ∃e g,Instr.fill place' b (s.map λp=>(p.1,a.eval p.2))=some e/\RvL w G e.toList g/\V.okL σ.hasB σ.hasA g/\g.length=xs.length/\K g:=by
 induction s with
 |nil=>
  intro b xs K _ t k h;have m:bJ xs K:=h;rw[bC]at m;exact⟨b,xs,rfl,t,k,rfl,m⟩
 |cons p r B=>
  intro b xs K n t k h
  have m:(match f p.1 with
   |some (o,z)=>cond (Nat.beq (lenR (σ.ev p.2).cells) z&&Nat.ble (o+z) (lenR xs)&&allR V.one (σ.ev p.2).cells) (oI f σ r (splice xs o (σ.ev p.2).cells) K) False
   |none=>False):=h
  split at m
  ·rename_i off z C
   obtain⟨y,F⟩:=aT m;simp only[QN,iL]at y;obtain⟨⟨c1,D⟩,L⟩:=y;have H:(σ.ev p.2).cells.length=z:=Gm;have M:off+z<=xs.length:=by simpa using D
   obtain⟨O,R⟩:=inv.ev p.2;have hv:=O.cells (dY.1 L);have u:(a.eval p.2).cells.size=z:=by have:=hv.len;simp at this;omega
   have N:b.size=xs.length:=by have:=t.len;simpa using this
   have l:=cV2 off (a.eval p.2).cells b Aa
   have v:RvL w G ((a.eval p.2).cells.zipIdx.foldl (λcs (c,j)=>cs.setIfInBounds (off+j) c) b).toList (splice xs off (σ.ev p.2).cells):=by
    rw[l];exact t.splice hv off
   obtain⟨e,g,J,E,A,Q,I⟩:=B _ _ (λi hi=>n i (by simp[hi])) v (yV k (sF R) off) F
   refine⟨e,g,?_,E,A,?_,I⟩
   ·have x:=n p.1 Ae _ C
    simp only[QW,Instr.fill,x];rw[Q5 (by simp[u];omega)]
    exact J
   ·rw[Q,mO];simp;omega
  ·exact m.elim
theorem cM3(B:bP T P)(inv:Inv T Φ σ a w G)(t:TypeId)(m:Array (Nat×Operand))(O:o.op= .build t m)(D:t<T.n t)(h:vO T (T.row t) σ m.toList K):Out T Φ σ a K ((execOp a.eval o).run P w):=by
 obtain⟨z,N,v,E,Q⟩:=aC3 (w:=w) B D;have j:(m.map λ(p:Nat×Operand)=>(p.1,a.eval p.2)).toList=m.toList.map λp=>(p.1,a.eval p.2):=Ae;have M:RvL w G z.cells.toList (mapR V.lit (T.row t).zero):=by rw[dU,<-v];exact aM4 (by rw[v];exact E)
 have A:V.okL σ.hasB σ.hasA (mapR V.lit (T.row t).zero):=by rw[dU];exact bC6
 have y:∀(b:Array Value) (g:List V),RvL w G b.toList g->Rv w G (.agg b) (.agg g):=λb g L=>
  .agg _ _ (by have:=L.len;simpa using this) (by have:=L.one;simpa using this) (λi c x hc U=>L.rel i c x D9 U)
 unfold vO at h;split at h
 ·rename_i k
  obtain⟨r,X,R,S⟩:=yJ (B t D) k
  have e:∀(l:List Field),(∀f∈l,∃i,P.info? f.type=some i/\i.size=vI P f.type)->(l.mapM (λf=>(do pure (f.offset,<-sizeOf f.type):Sem (Nat×Nat)))).run P w= .ok (l.map λf=>(f.offset,vI P f.type)) w:=by
   intro l
   induction l<;>simp_all [List.mapM_cons,bG2,QX,QW]
  have u:(r.mapM (λf=>(do pure (f.offset,<-sizeOf f.type):Sem (Nat×Nat)))).run P w= .ok (r.map λf=>(f.offset,vI P f.type)) w:=by
   have:=e r.toList (by simpa using S)
   rw[Array.mapM_eq_mapM_toList];simp only[Sem.run_map,this,QX];rw[<-Array.toList_map,Array.toArray_toList]
  obtain⟨b,g,J,F,C,Y,I⟩:=bL4 inv (place':=λi=>(r.map λf=>(f.offset,vI P f.type))[i]?) m.toList z.cells _ (by
   intro i _ q s;rw[uN,R,Rk]at s;simp only[Array.getElem?_map]
   cases H:r.toList[i]? with
   |none=>rw[H]at s;cases s
   |some f=>
    rw[H]at s;have:r[i]? =some f:=by simpa using H
    rw[this];simpa using s) M A h
  refine .plain inv (v':= .agg b) ?_ I (y _ _ F) (by simpa only[V.ok]using C)
  simp only[execOp,O,Instr.build,RN,N,QX,dI X,u,j];rw[J];simp
 ·rename_i k
  obtain⟨hc,W⟩:=aT h;have Z:=blt hc;obtain⟨b,g,J,F,C,Y,I⟩:=bL4 inv (place':=λi=>some (i*(T.row (T.row t).elem).size,(T.row (T.row t).elem).size)) m.toList z.cells _ (λ_ _ _ h=>h) M A W;refine .plain inv (v':= .agg b) ?_ I (y _ _ F) (by simpa only[V.ok]using C)
  simp only[execOp,O,Instr.build,RN,N,QX,dI (aR9 (B t D) k),iV B Z,j];rw[J];simp
 ·exact h.elim
theorem cY0(e:bP T P)(inv:Inv T Φ σ a w G)(s t:TypeId)(x:Operand)(p:o.op= .convert s t x)(h:bE4 T s t (σ.ev x) K):Out T Φ σ a K ((execOp a.eval o).run P w):=by
 obtain⟨f,u⟩:=inv.ev x;unfold bE4 at h;split at h
 ·rename_i r k q n c j l i
  simp only[QN]at c;rw[i]at f;have g:=bY7 (e s (blt c.1)) j;have m:=bY7 (e t (blt c.2)) l
  exact .plain inv (by simp[execOp,p,f.bH,convert,dI g,dI m,Conv.intToInt]) (wI h) (I_ok _ _ _ _) dL
 ·rename_i b c j l i
  simp only[QN]at c;rw[i]at f;have g:=aF2 (e s (blt c.1)) j;have m:=aF2 (e t (blt c.2)) l
  exact .plain inv (by simp[execOp,p,f.bH,convert,dI g,dI m]) h (.lit _ rfl) dL
 ·exact h.elim
end
section
variable{T:Tab}{P:Program}{Φ:Fr}{σ:St}{a:Act}{w:World}{G:Gh}{K:VK}{o:Oper}{d:Nat}
theorem cH6{b:Type}(n:Nat)(l:List b):(repR n l).length=n*l.length:=by
 induction n with
 |zero=>show([] :List b).length=_;simp
 |succ n c=>
  have:repR (n+1) l=appR l (repR n l):=rfl;grind [bT,QG,Tt]
theorem eI7{c:Type}(n:Nat)(l:List c):∀j,j<n*l.length->(repR n l)[j]? =l[j% l.length]? :=by
 induction n with
 |zero=>intro j b;simp at b
 |succ n e=>
  intro j b;have:repR (n+1) l=appR l (repR n l):=rfl;rw[this,bT,U7];split<;>grind [Nat.mod_eq_of_lt,Tt,Nat.mod_eq_sub_mod]
theorem cH9{b β:Type}(f:b->β)(n:Nat)(l:List b):repR n (l.map f)=(repR n l).map f:=by
 induction n with
 |zero=>rfl
 |succ n c=>
  have e:repR (n+1) l=appR l (repR n l):=rfl;have g:repR (n+1) (l.map f)=appR (l.map f) (repR n (l.map f)):=rfl
  grind [bT]
theorem bA5{b:Type}(n:Nat)(l:List b){x:b}(h:x∈repR n l):x∈l:=by
 induction n with
 |zero=>cases h
 |succ n c=>
  have:repR (n+1) l=appR l (repR n l):=rfl;grind [bT]
theorem cG7(zero:Array Value)(n:Nat)(b:0<zero.size):((Array.range (n*zero.size)).map (zero[·% zero.size]!)).toList=repR n zero.toList:=by
 apply List.ext_getElem?;intro j;by_cases c:j<n*zero.size
 ·grind [RV,eI7]
 ·rw[SS AU,SS (by rw[cH6];simp;omega)]
theorem Inv.dC7(inv:Inv T Φ σ a w G){k gen:Nat}(v:∀g,σ.hasA k g->g<gen){m:AK}(H:m= .own\/m= .ap){cur:Array Value}{e:TypeId}(L:e<T.n e){l:List V}{cap n0:Nat}(f:l.length<=cap)(D:cap<=maxLen)(s:cur.size=cap*(T.row e).size)
 (F:∀x∈l,x.cells.length=(T.row e).size)(y:bM l)(I:RvL w G (cur.toList.take (l.length*(T.row e).size)) (l.flatMap V.cells)):
 ∃G',Inv T Φ (σ.apps [.a k ⟨gen,m,e,l⟩]) a ({w with drawn:=n0}.alloc (.cells cur e)) G'/\G'.av k gen= .slice (some ⟨w.heap.size,0,none⟩) l.length cap:=by
 let av':Nat->Nat->Value:=λr g=>if r=k/\g=gen then .slice (some ⟨w.heap.size,0,none⟩) l.length cap else G.av r g
 let G':Gh:={G with av:=av',O:=upd G.O w.heap.size (.ar k)}
 let w':World:={w with drawn:=n0}.alloc (.cells cur e)
 have c:∀b,b<w.heap.size->w'.heap[b]? =w.heap[b]? :=λb hb=>Ua {w with drawn:=n0} _ hb
 have t:Keep w w' G G':=⟨λb hb=>by
  have J:=inv.tag b AP;show upd G.O _ _ b=_;rw[upd_ne _ _ Aa];exact hb,λb hb=>c b (inv.tag b AP)⟩
 have i:av' k gen= .slice (some ⟨w.heap.size,0,none⟩) l.length cap:=Iu
 have A:gJ T w' G' k (G'.av k gen) e l:=by
  refine .inr ⟨w.heap.size,cap,cur,i,upd_same _ _ _,Un {w with drawn:=n0} _,f,D,s,F,I.keep t (p:=λ_=>False) (q:=λ_ _=>False) ?_ (λ_ h=>h.elim) (λ_ _ h=>h.elim)⟩
  rw[aH];intro u C;obtain⟨j,E⟩:=QY C;exact dF y E
 refine⟨G',?_,i⟩;refine inv.zU (w':=w') (k:=k) (en:=⟨gen,m,e,l⟩) (av':=av') (O':=upd G.O w.heap.size (.ar k)) (λg z=>TR (v g z)) (λr g z=>?_) y ?_ ?_ ?_ (λb hb _=>c b hb) (by simp[w']) rfl rfl rfl
 ·grind
 ·grind [gW]
 ·intro b hb _;exact upd_ne _ _ (by have:=inv.tag b hb;omega)
 ·intro b
  by_cases B:b=w.heap.size
  ·subst B;exact .inr (.inr (.inl ⟨upd_same _ _ _,aN0 inv,by simp[w']⟩))
  ·exact .inl (upd_ne _ _ B)
theorem zK{k:Nat}(b:σ.ar k=none)(gen:Nat):∀g,σ.hasA k g->g<gen:=λg ⟨en,h,_⟩=>by rw[b]at h;cases h
theorem Inv.eK2(inv:Inv T Φ σ a w G){k:Nat}(m:σ.ar k=none){c:AK}(f:c= .own\/c= .ap){cur:Array Value}{e:TypeId}(p:e<T.n e){l:List V}{cap n0:Nat}(b:l.length<=cap)(h:cap<=maxLen)(g:cur.size=cap*(T.row e).size)
 (j:∀x∈l,x.cells.length=(T.row e).size)(i:bM l)(q:RvL w G (cur.toList.take (l.length*(T.row e).size)) (l.flatMap V.cells)):
 ∃G',Inv T Φ (σ.apps [.a k ⟨0,c,e,l⟩]) a ({w with drawn:=n0}.alloc (.cells cur e)) G'/\G'.av k 0= .slice (some ⟨w.heap.size,0,none⟩) l.length cap:=
 inv.dC7 (zK m 0) f p b h g j i q
theorem chunk_ok(agg:Bool)(z:Nat):∀(n:Nat) (cs:List V),cs.length=n*z->(∀x∈cs,x.atom=true)->(agg=false->z=1)->
 (chunk agg z n cs).flatMap V.cells=cs/\(chunk agg z n cs).length=n/\(∀x∈chunk agg z n cs,x.cells.length=z)/\(∀(p:Nat->Prop) (q:Nat->Nat->Prop),V.okL p q cs->bM (chunk agg z n cs)):=by
 intro n
 induction n with
 |zero=>
  intro cs h _ _;have:cs=[] :=Tc Ff;subst this;exact⟨rfl,rfl,λx hx=>Hq,λ_ _ _=>(by show V.okL _ _ [];simp only[V.okL])⟩
 |succ n v=>
  intro cs h e g;rw[Tt]at h;have u:(cs.drop z).length=n*z:=by rw[Rz];omega
  obtain⟨s,m,t,i⟩:=v (cs.drop z) u (λx hx=>e x (Rj hx)) g;have k:chunk agg z (n+1) cs=cD6 agg z cs::chunk agg z n (jX cs z):=rfl
  rw[k,lQ]
  cases agg with
  |true=>
   have f:cD6 true z cs= .agg (cs.take z):=by rw[<-aD3];rfl
   rw[f];refine⟨?_,by simp[m],?_,?_⟩
   ·rw[RZ,s];exact RQ z cs
   ·grind [V.cells]
   ·intro p q b
    refine aH.2 λx hx=>?_;rcases QO.1 hx with rfl|hx
    ·grind [aH,aF8,Ri,V.ok]
    ·exact aH.1 (i p q (aH.2 λy c=>aH.1 b y (Rj c))) x hx
  |false=>
   have j:=g rfl;subst j
   match cs,h with
   |x::r,h=>
    simp only[List.drop_succ_cons,List.drop_zero]at s m t i⊢;have f:cD6 false 1 (x::r)=x:=rfl;rw[f];have l:=bE1 (e x Ae)
    refine⟨?_,by simp[m],?_,?_⟩
    ·rw[RZ,s,l];rfl
    ·simp_all
    ·intro p q b
     refine aH.2 λy c=>?_;rcases QO.1 c with rfl|c
     ·exact aF8 (e y Ae) (aH.1 b y Ae)
     ·exact aH.1 (i p q (aH.2 λy c=>aH.1 b y (by simp[c]))) y c
theorem dO5(b:bP T P){t:TypeId}(c:t<T.n t)(h:(T.row t).agg=false):(T.row t).size=1:=by
 obtain⟨i,l,p,g,z,j,q,e,f,m,k⟩:=(b t c).info;simp_all
theorem aQ0{k:Nat}{u:Value}(b:G.av k 0=u)(c:u.oneCell'=true):Rv w G u (.arr k 0):=by
 subst b;exact .arr k 0 c
theorem bG7(l:bP T P){t:TypeId}(s:t<T.n t)(j:(T.row t).kd= .slice)(v:(T.row t).elem<T.n (T.row t).elem){n:Nat}(g:¬(n*(T.row (T.row t).elem).size>2^24)){z:Value}(q:(zeroValue (T.row t).elem).run P w= .ok z w)(c:Array (Nat×Value)){b:Array Value}
 (k:Instr.fill (λi=>some (i*(T.row (T.row t).elem).size,(T.row (T.row t).elem).size)) ((Array.range (n*(T.row (T.row t).elem).size)).map (z.cells[·% z.cells.size]!)) c.toList=some b):
 (Instr.buildSlice t n c).run P w= .ok (.slice (some ⟨w.heap.size,0,none⟩) n n) (w.alloc (.cells b (T.row t).elem)):=by
 have r:=jW (l t s) j;unfold Instr.buildSlice;simp only[RN,dI r,QX,iV l v];rw[Q5 g];by_cases e:n*(T.row (T.row t).elem).size=0
 ·have u:∀f:Nat->Value,(Array.range (n*(T.row (T.row t).elem).size)).map f= #[] :=by rw[e];intro f;exact Array.size_eq_zero_iff.1 Ae
  rw[u]at k;have m:∀f:Nat->Value,(Array.range 0).map f= #[] :=λf=>Array.size_eq_zero_iff.1 Ae;simp only[e,TQ,RN,Sz,QX,m,k];simp[newRow,newObj,Sem.run]
 ·simp only[e,Ue,RN,q,Sz,QX]
  rw[k];simp[newRow,newObj,Sem.run]
theorem aQ7(u:bP T P)(inv:Inv T Φ σ a w G)(t:TypeId)(n:Nat)(m:Array (Nat×Operand))(ho:o.op= .buildSlice t n m)(D:t<T.n t)(h:iZ T (T.row t) σ d n m.toList K):Out T Φ σ a K ((execOp a.eval o).run P w):=by
 have r:(m.map λ(p:Nat×Operand)=>(p.1,a.eval p.2)).toList=m.toList.map λp=>(p.1,a.eval p.2):=Ae;unfold iZ at h;split at h
 ·rename_i s W
  have hu:=jW (u t D) s;obtain⟨C,h2⟩:=aT h;simp only[QN]at C;obtain⟨⟨M,c3⟩,c4⟩:=C;have c:=blt M
  have k:=blt c4;have X:n*(T.row (T.row t).elem).size<=1000:=by simpa using c3
  obtain⟨z,hz,Q,N,v⟩:=aC3 (w:=w) u c
  have U:z.cells.size=(T.row (T.row t).elem).size:=by
   grind
  have f:V.okL σ.hasB σ.hasA (repR n (mapR V.lit (T.row (T.row t).elem).zero)):=by
   refine aH.2 λx R=>?_;have:=bA5 _ _ R
   grind [dU,dL]
  have B:RvL w G ((Array.range (n*(T.row (T.row t).elem).size)).map (z.cells[·% z.cells.size]!)).toList (repR n (mapR V.lit (T.row (T.row t).elem).zero)):=by
   grind [cG7,dU,cH9,aM4,bA5]
  obtain⟨b,e,F,E,J,q4,Y⟩:=bL4 inv (place':=λi=>some (i*(T.row (T.row t).elem).size,(T.row (T.row t).elem).size)) m.toList _ _ (λ_ _ _ h=>h) B f h2;obtain⟨c1,S⟩:=aT Y;have g:e.length=n*(T.row (T.row t).elem).size:=by rw[q4,cH6,dU,QS,v]
  obtain⟨k1,H,Z,L⟩:=chunk_ok (T.row (T.row t).elem).agg (T.row (T.row t).elem).size n e g (dY.1 c1) (λO=>dO5 u c O);have q:b.size=n*(T.row (T.row t).elem).size:=by have:=E.len;simp at this;omega
  have I:n<=1000:=QV (Nat.le_mul_of_pos_right n k) X
  obtain⟨G',j,y⟩:=inv.eK2 W (.inl rfl) c (cur:=b) (l:=chunk (T.row (T.row t).elem).agg (T.row (T.row t).elem).size n e) (cap:=n) (n0:=w.drawn) Aa Cf q Z (L _ _ J)
   (by rw[k1,H,<-q,TS (by simp)];exact E)
  refine⟨.slice (some ⟨w.heap.size,0,none⟩) n n,w.alloc (.cells b (T.row t).elem),_,_,G', .inl ?_,S,j,aQ0 (by rw[y,H]) rfl,?_⟩
  ·have A:¬(n*(T.row (T.row t).elem).size>2^24):=by omega
   rw[<-r]at F;simp only[execOp,ho,RN,bG7 u D s c A hz _ F,QX,Sz]
  ·exact JL
 ·exact h.elim
theorem bL2(n:Nat)(x:V):(List.replicate n x).flatMap V.cells=repR n x.cells:=by
 induction n with
 |zero=>rfl
 |succ n b=>
  have:repR (n+1) x.cells=appR x.cells (repR n x.cells):=rfl;rw[this,bT,List.replicate_succ,RZ,b]
theorem cX4(f:bP T P){e:TypeId}(g:e<T.n e):(rU (T.row e) (mapR V.lit (T.row e).zero)).cells=(T.row e).zero.map V.lit/\(rU (T.row e) (mapR V.lit (T.row e).zero)).pure:=by
 obtain⟨i,m,q,k,z,l,r,h,j,p,b⟩:=(f e g).info;rw[dU];unfold rU;split
 ·exact⟨rfl,by simp only[V.pure,V.ok];exact bC6⟩
 ·rename_i c
  rw[b c];exact⟨rfl,by simp only[QW,RY,V.pure,V.ok]⟩
theorem bM9(g:bP T P){t:TypeId}(s:t<T.n t)(j:(T.row t).kd= .slice)(l:(T.row t).elem<T.n (T.row t).elem){n:Nat}(B:n*(T.row (T.row t).elem).bytes<=140737488355328)(u:n<=140737488355328){z:Value}(r:(zeroValue (T.row t).elem).run P w= .ok z w):
 ∃b:Array Value,b=((Array.range (n*(T.row (T.row t).elem).size)).map (z.cells[·% z.cells.size]!))/\
 (Instr.makeSlice t (.int .i64 n) (.int .i64 n)).run P w= .ok (.slice (some ⟨w.heap.size,0,none⟩) n n) (w.alloc (.cells b (T.row t).elem)):=by
 have v:=jW (g t s) j;obtain⟨i,y,C,k,_⟩:=(g _ l).info;refine⟨_,rfl,?_⟩;have c:IntKind.i64.wrap (n:Int)=n:=IntWalk.i64_in _ Aa
 have A:((i.bytes:Int)*(n:Int))<=140737488355328:=by rw[k,Int.mul_comm];omega
 unfold Instr.makeSlice;simp only[RN,dI v,QX,asInt,asIntOf,Sz,cO9 y,c]
 have x:(decide ((n:Int)<0)||decide ((i.bytes:Int)*(n:Int)>2^48)||decide ((n:Int)<0)||decide ((n:Int)>(n:Int)))=false:=by
  grind
 rw[Q5 (by rw[x];simp)]
 have m:¬(n*i.bytes>roomBytes):=by rw[k];simp only[roomBytes];omega
 simp only[RP,askRoom,Q5 m,Sz,QX,iV g l,RN];by_cases e:n*(T.row (T.row t).elem).size=0
 ·have q:∀f:Nat->Value,(Array.range 0).map f= #[] :=λf=>Array.size_eq_zero_iff.1 Ae
  simp only[e,TQ,q];simp[newRow,newObj,Sem.run]
 ·simp only[e,Ue,RN,r,Sz,QX]
  simp[newRow,newObj,Sem.run]
theorem aY6(s:bP T P)(inv:Inv T Φ σ a w G)(t:TypeId)(x y:Operand)(X:o.op= .makeSlice t x y)(J:t<T.n t)(h:jY T (T.row t) σ d (σ.ev x) (σ.ev y) K):Out T Φ σ a K ((execOp a.eval o).run P w):=by
 obtain⟨C,Y⟩:=inv.ev x;obtain⟨F,y2⟩:=inv.ev y;unfold jY at h;split at h
 ·rename_i n c B S Q H
  rw[Q]at C;rw[H]at F;obtain⟨⟨n0,I,Z,n3⟩,U⟩:=dX h;obtain⟨j,D⟩:=aT U;simp only[QN]at j;have i:=blt j.1;have N:=blt j.2
  subst I;obtain⟨m,rfl⟩:=Int.eq_ofNat_of_zero_le n0;rw[RP]at D;obtain⟨z,W,O,L,k⟩:=aC3 (w:=w) s i
  have R:z.cells.size=(T.row (T.row t).elem).size:=by
   grind
  obtain⟨b,v,f⟩:=bM9 (w:=w) s J B i (n:=m) Aa Aa W;obtain⟨E,M⟩:=cX4 s i;have g:b.size=m*(T.row (T.row t).elem).size:=by rw[v];simp
  have A:RvL w G b.toList (repR m ((T.row (T.row t).elem).zero.map V.lit)):=by
   grind [cG7,cH9,aM4,bA5]
  obtain⟨G',e,r⟩:=inv.eK2 S (.inl rfl) i (cur:=b) (l:=List.replicate m (rU (T.row (T.row t).elem) (mapR V.lit (T.row (T.row t).elem).zero))) (cap:=m) (n0:=w.drawn) Ae Cf g
   (by intro u q;obtain⟨_,rfl⟩:=List.mem_replicate.1 q;rw[E];simpa using k)
   (aH.2 λu q=>by obtain⟨_,rfl⟩:=List.mem_replicate.1 q;exact M)
   (by rw[bL2,E,List.length_replicate,<-g,TS (by simp)];exact A)
  refine⟨.slice (some ⟨w.heap.size,0,none⟩) m m,w.alloc (.cells b (T.row t).elem),_,_,G', .inl ?_,D,e,aQ0 (by rw[r,List.length_replicate]) rfl,?_⟩
  ·simp only[execOp,X,C.bH,F.bH,RN,f,QX,Sz]
  ·exact JL
 ·exact h.elim
end
end Go.Ab
