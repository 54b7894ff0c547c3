/-
  How the relation goes on when the world changes.
-/
import Derived.Test.YtdjgbagnajikeaaGreatDoorA1
set_option linter.unusedVariables false
set_option linter.unusedSimpArgs false
noncomputable section
namespace Go.Ab
section
variable{T:Tab}{P:Program}{Φ:Fr}{σ σ':St}{a:Act}{w w':World}{G G':Gh}
theorem gJ.keep{k:Nat}{u:Value}{ty:TypeId}{l:List V}(r:Keep w w' G G')(hp:bM l)(d:∀b,G.O b= .ar k->G'.O b= .ar k/\w'.heap[b]? =w.heap[b]?)(h:gJ T w G k u ty l):gJ T w' G' k u ty l:=by
 rcases h with h|⟨b,cap,cur,e,c,f,g,i,m,n,o⟩
 ·exact .inl h
 ·refine .inr ⟨b,cap,cur,e,(d b c).1,(d b c).2.trans f,g,i,m,n,o.keep r (p:=λ_=>False) (q:=λ_ _=>False) ?_ (λ_ h=>h.elim) (λ_ _ h=>h.elim)⟩
  rw[aH];intro y hy;exact QD
theorem Rv.aW{v:Value}{x:V}(b:Keep w w' G G')(c:x.pure)(h:Rv w G v x):Rv w' G' v x:=h.keep b c (λ_ h=>h.elim) (λ_ _ h=>h.elim)
theorem bL6.keep{d:TypeDesc}{k:Nat}{u:Value}{es:List V}(q:Keep w w' G G')(g:∀b,G.O b= .ar k->G'.O b= .ar k/\w'.heap[b]? =w.heap[b]?)(h:bL6 d w G k u es):bL6 d w' G' k u es:=by
 obtain⟨b,e,c,m,f,n,o,p⟩:=h;refine⟨b,e,c,m,(g b f).1,(g b f).2.trans n,o,λs r=>?_⟩;have:=p s r
 cases j:jG s es with
 |none=>rw[j]at this;exact this
 |some x=>
  rw[j]at this;obtain⟨i,v,t,y,z,l⟩:=this;exact⟨i,v,t,y,z.aW q l,l⟩
theorem gW.keep{k:Nat}{en:AE}(d:Keep w w' G G')(hp:bM en.l)(f:G'.av k en.gen=G.av k en.gen)(e:∀b,G.O b= .ar k->G'.O b= .ar k/\w'.heap[b]? =w.heap[b]?)(h:gW T w G k en):gW T w' G' k en:=by
 unfold gW at*;rw[f];have j:(V.sl en.l).pure:=Az;have g:(V.cap en.l).pure:=Az
 split
 ·rename_i c
  rw[c]at h;simp only at h⊢;split
  ·trivial
  ·rename_i i;rw[i]at h;exact bL6.keep d e h
 ·rename_i c;rw[c]at h;exact h.aW d j
 ·rename_i c;rw[c]at h;exact⟨h.1,h.2.keep d hp e⟩
 ·rename_i c;rw[c]at h;exact⟨h.1,h.2.imp (·.keep d hp e) (λh=>⟨h.1.aW d g,h.2⟩)⟩
theorem Inv.change(inv:Inv T Φ σ a w G)(henv:σ'.env=σ.env)(hk:Keep w w' G G')
 (hβ:∀i,σ.hasB i->G'.β i=G.β i)(hav:∀k g,σ.hasA k g->G'.av k g=G.av k g)
 (hB:∀i,σ.hasB i->σ'.hasB i)(hA:∀k g,σ.hasA k g->σ'.hasA k g)
 (hbox:∀i cs,σ'.bx i=some cs->(σ.bx i=some cs/\G'.O (G.β i)= .bx i/\w'.heap[G.β i]? =w.heap[G.β i]?)\/
  ((∃c t,w'.heap[G'.β i]? =some (.cells c t (0,0))/\RvL w' G' c.toList cs/\G'.O (G'.β i)= .bx i)/\V.okL σ'.hasB σ'.hasA cs))
 (harr:∀k en,σ'.ar k=some en->(σ.ar k=some en/\∀b,G.O b= .ar k->G'.O b= .ar k/\w'.heap[b]? =w.heap[b]?)\/(gW T w' G' k en/\bM en.l))
 (htag:∀b,G'.O b≠ .ext->b<w'.heap.size)(hO:∀b,G'.O b=G.O b\/G'.O b= .ext\/Φ.mine b)
 (hframe:∀b,w'.heap[b]? =w.heap[b]? \/Φ.mine b)(hsize:w.heap.size<=w'.heap.size)(hos:w'.os=w.os)(htape:w'.tape=w.tape)(hout:w'.output=w.output):Inv T Φ σ' a w' G' where
 nd:=inv.nd
 kp:=inv.kp
 sz:=inv.sz
 env s:=by rw[henv];exact(inv.env s).keep hk (inv.wfE s) hβ hav
 wfE s:=by rw[henv];exact V.ok.imp hB hA _ (inv.wfE s)
 box i cs hi:=by
  rcases hbox i cs hi with⟨h1,h2,h3⟩|⟨h1,_⟩
  ·obtain⟨c,t,g1,g2,g3⟩:=inv.box i cs h1
   refine⟨c,t,?_,g2.keep hk (inv.wfB i cs h1) hβ hav,?_⟩
   ·rw[hβ i ⟨cs,h1⟩,h3];exact g1
   ·rw[hβ i ⟨cs,h1⟩];exact h2
  ·exact h1
 wfB i cs hi:=by
  rcases hbox i cs hi with⟨h1,_,_⟩|⟨_,h2⟩
  ·exact V.okL.imp hB hA _ (inv.wfB i cs h1)
  ·exact h2
 arr k en hk':=by
  rcases harr k en hk' with⟨h1,h2⟩|⟨h1,_⟩
  ·exact(inv.arr k en h1).keep hk (inv.wfA k en h1) (hav k en.gen ⟨en,h1,QV _⟩) h2
  ·exact h1
 wfA k en hk':=by
  rcases harr k en hk' with⟨h1,_⟩|⟨_,h2⟩
  ·exact inv.wfA k en h1
  ·exact h2
 tag:=htag
 mineB b i h:=by
  rcases hO b with h1|h1|h1
  ·exact inv.mineB b i (h1▸h)
  ·rw[h1]at h;cases h
  ·exact h1
 mineA b k h:=by
  rcases hO b with h1|h1|h1
  ·exact inv.mineA b k (h1▸h)
  ·rw[h1]at h;cases h
  ·exact h1
 fzm b h:=by
  rcases hO b with h1|h1|h1
  ·exact inv.fzm b (h1▸h)
  ·rw[h1]at h;cases h
  ·exact .inr h1
 F0 b h:=hk.fz b (inv.F0 b h)
 frame b hb hg:=by
  rcases hframe b with h1|h1
  ·rw[h1];exact inv.frame b hb hg
  ·rcases h1 with h1|h1
   ·omega
   ·exact absurd h1 hg
 size:=Ro inv.size hsize
 os:=hos.trans inv.os
 tape:=htape.trans inv.tape
 output:=hout.trans inv.output
 args j v h:=by
  obtain⟨h1,h2,en,h3⟩:=inv.args j v h;have hh:σ.hasA j 0:=⟨en,h3,RI _⟩;obtain⟨en',h4,_⟩:=hA j 0 hh;simp_all
 lay:=inv.lay
 argb i b h:=by
  obtain⟨h1,h2,cs,h3⟩:=inv.argb i b h;obtain⟨cs',h4⟩:=hB i ⟨cs,h3⟩;exact⟨(hβ i ⟨cs,h3⟩).trans h1,h2,cs',h4⟩
theorem upd_same{b:Type}(f:Nat->b)(s:Nat)(x:b):upd f s x s=x:=by simp[upd]
theorem upd_ne{b:Type}(f:Nat->b){s t:Nat}(x:b)(h:t≠s):upd f s x t=f t:=by
 have:Nat.beq t s=false:=FT;simp[upd,this]
theorem Inv.ext_size(inv:Inv T Φ σ a w G){b:Nat}(h:w.heap.size<=b):G.O b= .ext:=by
 cases c:G.O b with
 |ext=>rfl
 |_=>have:=inv.tag b (by rw[c];simp);omega
theorem aN0(inv:Inv T Φ σ a w G):Φ.mine w.heap.size:= .inl inv.size
theorem Inv.lM(inv:Inv T Φ σ a w G){d:Nat}(hd:σ.bx d=none){c:Array Value}{t:TypeId}{cs:List V}(n:RvL w G c.toList cs)(j:V.okL σ.hasB σ.hasA cs):
 Inv T Φ (σ.apps [.b d cs]) a (w.alloc (.cells c t)) {G with β:=upd G.β d w.heap.size,O:=upd G.O w.heap.size (.bx d)}:=by
 have f:∀b,b<w.heap.size->(w.alloc (.cells c t)).heap[b]? =w.heap[b]? :=λb hb=>Un w _ hb;have hne:∀b,G.O b≠ .ext->b≠w.heap.size:=λb hb e=>by have:=inv.tag b hb;omega
 have g:Keep w (w.alloc (.cells c t)) G {G with β:=upd G.β d w.heap.size,O:=upd G.O w.heap.size (.bx d)}:=
  ⟨λb hb=>Dw,λb hb=>f b (inv.tag b AP)⟩
 have l:∀i,σ.hasB i->upd G.β d w.heap.size i=G.β i:=λi ⟨x,hx⟩=>upd_ne _ _ (λe=>Ef)
 have m:∀i,σ.hasB i->(σ.apps [.b d cs]).hasB i:=λi ⟨x,hx⟩=>⟨x,by
  show upd σ.bx d _ i=_;rw[upd_ne _ _ (λe=>Ef)];exact hx⟩
 refine inv.change rfl g l (λ_ _ _=>rfl) m (λ_ _ h=>h) ?_ ?_ ?_ ?_ ?_ Af rfl rfl rfl
 ·intro i xs hi
  by_cases e:i=d
  ·subst e
   refine .inr ⟨⟨c,t,?_,?_,?_⟩,?_⟩
   ·show(w.alloc _).heap[upd G.β i w.heap.size i]? =_
    rw[upd_same];exact U3 w _
   ·have:xs=cs:=by
     exact OV
    subst this;exact n.keep g j l (λ_ _ _=>rfl)
   ·grind [upd_same]
   ·have:xs=cs:=by
     exact OV
    subst this;exact V.okL.imp m (λ_ _ h=>h) _ j
  ·exact KA
 ·intro k en o
  refine .inl ⟨o,λb hb=>?_⟩;have q:=inv.tag b AP
  grind [upd_ne]
 ·intro b hb
  by_cases e:b=w.heap.size
  ·subst e;simp
  ·have h2:upd G.O w.heap.size (.bx d) b≠ .ext:=hb
   rw[upd_ne _ _ e]at h2;have:=inv.tag b h2;simp;omega
 ·grind [aN0,upd_ne]
 ·intro b
  rcases UD b w.heap.size with h|h|h
  ·exact .inl (f b h)
  ·subst h;exact .inr (aN0 inv)
  ·refine .inl ?_
   rw[Array.getElem?_eq_none AV,Array.getElem?_eq_none Aa]
theorem Inv.takeBox(inv:Inv T Φ σ a w G){d:Nat}(hd:σ.bx d=none){f:Nat}(g:G.O f= .ext)(u:Φ.mine f)(l:f<w.heap.size){c:Array Value}{t:TypeId}{cs:List V}(s:w.heap[f]? =some (.cells c t (0,0)))(q:RvL w G c.toList cs)(m:V.okL σ.hasB σ.hasA cs):
 Inv T Φ (σ.apps [.b d cs]) a w {G with β:=upd G.β d f,O:=upd G.O f (.bx d)}:=by
 have hne:∀b,G.O b≠ .ext->b≠f:=λb hb e=>hb (by rw[e];exact g)
 have j:Keep w w G {G with β:=upd G.β d f,O:=upd G.O f (.bx d)}:=
  ⟨λb hb=>Dw,λb hb=>rfl⟩
 have n:∀i,σ.hasB i->upd G.β d f i=G.β i:=λi ⟨x,hx⟩=>upd_ne _ _ (λe=>Ef)
 have o:∀i,σ.hasB i->(σ.apps [.b d cs]).hasB i:=λi ⟨x,hx⟩=>⟨x,by
  show upd σ.bx d _ i=_;rw[upd_ne _ _ (λe=>Ef)];exact hx⟩
 refine inv.change rfl j n (λ_ _ _=>rfl) o (λ_ _ h=>h) ?_ ?_ ?_ ?_ ?_ (QV _) rfl rfl rfl
 ·intro i xs hi
  by_cases e:i=d
  ·subst e
   have hx:xs=cs:=by
    exact OV
   subst hx;refine .inr ⟨⟨c,t,?_,q.keep j m n (λ_ _ _=>rfl),?_⟩,V.okL.imp o (λ_ _ h=>h) _ m⟩
   ·grind [upd_same]
   ·grind [upd_same]
  ·exact KA
 ·intro k en r
  refine .inl ⟨r,λb hb=>?_⟩;grind [upd_ne]
 ·intro b hb
  by_cases e:b=f
  ·subst e;exact l
  ·have h2:upd G.O f (.bx d) b≠ .ext:=hb
   rw[upd_ne _ _ e]at h2;exact inv.tag b h2
 ·grind [upd_ne]
 ·intro b
  exact .inl rfl
theorem Inv.eJ4(inv:Inv T Φ σ a w G){i:Nat}{old cs:List V}(hi:σ.bx i=some old){c:Array Value}{t:TypeId}(v:RvL w G c.toList cs)(m:V.okL σ.hasB σ.hasA cs)
 (A:w'.heap[G.β i]? =some (.cells c t (0,0)))(q:∀b,b≠G.β i->w'.heap[b]? =w.heap[b]?)(z:w'.heap.size=w.heap.size)(r:w'.os=w.os)(f:w'.tape=w.tape)(n:w'.output=w.output):
 Inv T Φ (σ.apps [.b i cs]) a w' G:=by
 obtain⟨D,L,E,F,o⟩:=inv.box i old hi;have l:Keep w w' G G:=⟨λ_ h=>h,λb d=>q b (λe=>by subst e;rw[o]at d;cases d)⟩
 have s:∀j,σ.hasB j->(σ.apps [.b i cs]).hasB j:=λj ⟨x,B⟩=>by
  by_cases e:j=i
  ·subst e;exact⟨cs,upd_same _ _ _⟩
  ·exact⟨x,by show upd σ.bx i _ j=_;rw[upd_ne _ _ e];exact B⟩
 refine inv.change rfl l (λ_ _=>rfl) (λ_ _ _=>rfl) s (λ_ _ h=>h) ?_ ?_ ?_ (λ_=> .inl rfl) ?_ Aa r f n
 ·intro j xs u
  by_cases e:j=i
  ·subst e
   have:xs=cs:=by
    have g:upd σ.bx j (some cs) j=some xs:=u;rw[upd_same]at g;cases g;rfl
   subst this;exact .inr ⟨⟨c,t,A,v.keep l m (λ_ _=>rfl) (λ_ _ _=>rfl),o⟩,V.okL.imp s (λ_ _ h=>h) _ m⟩
  ·have g:σ.bx j=some xs:=by
    have g:upd σ.bx i (some cs) j=some xs:=u;rwa [upd_ne _ _ e]at g
   obtain⟨C,K,H,I,J⟩:=inv.box j xs g;grind
 ·intro k en y
  exact .inl ⟨y,λb d=>⟨d,q b (λe=>by subst e;rw[o]at d;cases d)⟩⟩
 ·intro b d;rw[z];exact inv.tag b d
 ·intro b
  by_cases e:b=G.β i
  ·subst e;exact .inr (inv.mineB _ i o)
  ·exact .inl (q b e)
theorem Inv.zU(inv:Inv T Φ σ a w G){k:Nat}{en:AE}{av':Nat->Nat->Value}{O':Nat->Tag}
 (D:∀g,σ.hasA k g->g<=en.gen)(r:∀z g,σ.hasA z g->av' z g=G.av z g)(H:bM en.l)
 (v:gW T w' {G with av:=av',O:=O'} k en)
 (A:∀b,G.O b≠ .ext->G.O b≠ .ar k->O' b=G.O b)(q:∀b,O' b=G.O b\/O' b= .ext\/(O' b= .ar k/\Φ.mine b/\b<w'.heap.size)\/(O' b= .fz/\G.O b= .ar k))
 (u:∀b,b<w.heap.size->G.O b≠ .ar k->w'.heap[b]? =w.heap[b]?)(I:w.heap.size<=w'.heap.size)(y:w'.os=w.os)(d:w'.tape=w.tape)(n:w'.output=w.output):
 Inv T Φ (σ.apps [.a k en]) a w' {G with av:=av',O:=O'}:=by
 have m:∀b,G.O b≠ .ext->b<w.heap.size:=inv.tag;have s:Keep w w' G {G with av:=av',O:=O'}:=⟨λb hb=>(A b AP AP).trans hb,λb hb=>u b (m b AP) AP⟩
 have o:∀j g,σ.hasA j g->(σ.apps [.a k en]).hasA j g:=λj g B=>by
  by_cases e:j=k
  ·subst e;exact⟨en,upd_same _ _ _,D g B⟩
  ·obtain⟨x,J,E⟩:=B
   exact⟨x,by show upd σ.ar k _ j=_;rw[upd_ne _ _ e];exact J,E⟩
 refine inv.change rfl s (λ_ _=>rfl) r (λ_ h=>h) o ?_ ?_ ?_ ?_ ?_ I y d n
 ·intro i cs hi
  obtain⟨c,t,K,L,q3⟩:=inv.box i cs hi;have F:=m (G.β i) Hq;exact .inl ⟨hi,(A _ Hq Hq).trans q3,u _ F Hq⟩
 ·intro j x C
  by_cases e:j=k
  ·subst e
   have:x=en:=by
    have f:upd σ.ar j (some en) j=some x:=C;rw[upd_same]at f;cases f;rfl
   subst this;exact .inr ⟨v,H⟩
  ·have f:σ.ar j=some x:=by
    have f:upd σ.ar k (some en) j=some x:=C;rwa [upd_ne _ _ e]at f
   simp_all
 ·grind
 ·intro b
  rcases q b with h|h|h|h
  ·exact .inl h
  ·exact .inr (.inl h)
  ·exact .inr (.inr h.2.1)
  ·exact .inr (.inr (inv.mineA b k h.2))
 ·intro b
  rcases RX b w.heap.size with h|h
  ·by_cases e:G.O b= .ar k
   ·exact .inr (inv.mineA b k e)
   ·exact .inl (u b h e)
  ·exact .inr (.inl (Ro inv.size h))
theorem Inv.bA3(inv:Inv T Φ σ a w G){d:Nat}(hd:Φ.wr d){v':Value}{v:V}(hv:Rv w G v' v)(hok:v.ok σ.hasB σ.hasA):Inv T Φ (σ.set d v) (a.put (some d) v') w G where
 nd:=inv.nd
 kp s u h:=by
  have hs:s≠d:=λe=>by rw[e,hd.2]at h;cases h
  show(a.tmps.setIfInBounds d v').getD s undef=u;rw[show(a.tmps.setIfInBounds d v').getD s undef=a.tmps.getD s undef by simp[Array.getElem?_setIfInBounds_ne (Ne.symm hs)]]
  exact inv.kp s u h
 sz:=by show(a.tmps.setIfInBounds d v').size=_;simp[inv.sz]
 env s:=by
  show Rv w G ((a.tmps.setIfInBounds d v').getD s undef) (upd σ.env d v s);by_cases e:s=d
  ·subst e
   rw[upd_same];have:(a.tmps.setIfInBounds s v').getD s undef=v':=by simp[inv.sz,hd.1]
   rw[this];exact hv
  ·rw[upd_ne _ _ e]
   have:(a.tmps.setIfInBounds d v').getD s undef=a.tmps.getD s undef:=by
    simp[Array.getElem?_setIfInBounds_ne (Ne.symm e)]
   rw[this];exact inv.env s
 wfE s:=by
  show(upd σ.env d v s).ok _ _;by_cases e:s=d
  ·subst e;rw[upd_same];exact hok
  ·rw[upd_ne _ _ e];exact inv.wfE s
 box:=inv.box
 wfB:=inv.wfB
 arr:=inv.arr
 wfA:=inv.wfA
 tag:=inv.tag
 mineB:=inv.mineB
 mineA:=inv.mineA
 fzm:=inv.fzm
 F0:=inv.F0
 frame:=inv.frame
 size:=inv.size
 os:=inv.os
 tape:=inv.tape
 output:=inv.output
 args:=inv.args
 lay:=inv.lay
 argb:=inv.argb
theorem Inv.drew(inv:Inv T Φ σ a w G)(n:Nat):Inv T Φ σ a {w with drawn:=n} G:=
 inv.change rfl ⟨λ_ h=>h,λ_ _=>rfl⟩ (λ_ _=>rfl) (λ_ _ _=>rfl) (λ_ h=>h) (λ_ _ h=>h)
  (λi cs hi=> .inl ⟨hi,(inv.box i cs hi).choose_spec.choose_spec.2.2,rfl⟩) (λ_ _ c=> .inl ⟨c,λ_ b=>⟨b,rfl⟩⟩) inv.tag (λ_=> .inl rfl) (λ_=> .inl rfl) (QV _) rfl rfl rfl
end
section
variable{T:Tab}{P:Program}{Φ:Fr}{σ:St}{a:Act}{w:World}{G:Gh}{K:VK}{o:Oper}{d:Nat}
theorem RvL.append{vs e:List Value}{xs ys:List V}(h:RvL w G vs xs)(c:RvL w G e ys):RvL w G (vs++e) (xs++ys):=by
 refine⟨by simp[h.len,c.len],?_,?_⟩
 ·intro v hv
  rcases QX.1 hv with hv|hv
  ·exact h.one v hv
  ·exact c.one v hv
 ·intro i v x hv b
  have f:=h.len;rw[UI]at hv b;by_cases hi:i<vs.length
  ·rw[QO hi]at hv
   rw[QO Aa]at b;exact h.rel i v x hv b
  ·rw[Q5 hi]at hv
   rw[Q5 Aa,<-f]at b;exact c.rel _ v x hv b
theorem RvL.take{vs:List Value}{xs:List V}(h:RvL w G vs xs)(n:Nat):RvL w G (vs.take n) (xs.take n):=by
 refine⟨by simp[h.len],λv hv=>h.one v (RG hv),λi v x hv b=>?_⟩
 rw[TK]at hv b;split at hv
 ·rename_i hi;rw[QO hi]at b;exact h.rel i v x hv b
 ·cases hv
theorem RvL.drop{vs:List Value}{xs:List V}(h:RvL w G vs xs)(n:Nat):RvL w G (vs.drop n) (xs.drop n):=by
 refine⟨by simp[h.len],λv hv=>h.one v (Rz hv),λi v x hv b=>?_⟩
 rw[Si]at hv b;exact h.rel _ v x hv b
theorem RvL.splice{vs b:List Value}{xs ys:List V}(h:RvL w G vs xs)(c:RvL w G b ys)(off:Nat):RvL w G (vs.take off++b++vs.drop (off+b.length)) (Ab.splice xs off ys):=by
 rw[mO,SE,c.len];exact(h.take off).append (c.append (h.drop _))
theorem yV{p:Nat->Prop}{q:Nat->Nat->Prop}{xs ys:List V}(h:V.okL p q xs)(b:V.okL p q ys)(off:Nat):V.okL p q (splice xs off ys):=by
 grind [mO,aH,RG,Rz]
theorem aM4{vs:List Value}(h:∀v∈vs,v.oneCell'=true):RvL w G vs (vs.map .lit):=by
 refine⟨Af,h,λi v x hv b=>?_⟩;rw[RD,hv]at b;simp at b;subst b;exact .lit v (h v (QT hv))
theorem bC6{p:Nat->Prop}{q:Nat->Nat->Prop}{vs:List Value}:V.okL p q (vs.map .lit):=by
 grind [aH,dL]
theorem aK8(inv:Inv T Φ σ a w G){c:Array Value}{t:TypeId}{cs:List V}(e:(∀y∈cs,y.one=true)->RvL w G c.toList cs)(f:V.okL σ.hasB σ.hasA cs)(h:lM σ d cs K){b:Result Next}
 (j:b= .ok (.value (.pointer (some ⟨w.heap.size,0,none⟩))) (w.alloc (.cells c t))):Out T Φ σ a K b:=by
 unfold lM at h;split at h
 ·rename_i i
  rw[bC]at h;obtain⟨g,h⟩:=aT h;have e:=e (dY.1 g);refine⟨_,_,_,_,_, .inl j,h,inv.lM i (t:=t) e f,?_,?_⟩
  ·have:=Rv.box (w:=w.alloc (.cells c t)) (G:={G with β:=upd G.β d w.heap.size,O:=upd G.O w.heap.size (.bx d)}) d 0
   simp only[upd_same]at this;exact this
  ·simp only[V.ok]
   exact⟨cs,upd_same _ _ _⟩
 ·exact h.elim
theorem dM8(inv:Inv T Φ σ a w G)(t:TypeId)(x:Operand)(g:o.op= .box t x)(h:lM σ d (σ.ev x).cells K):Out T Φ σ a K ((execOp a.eval o).run P w):=by
 obtain⟨b,e⟩:=inv.ev x;exact aK8 inv (t:=t) (c:=(a.eval x).cells) (λf=>b.cells f) (sF e) h (by simp[execOp,g,Instr.box,newVar,newRow,newObj,Sem.run])
theorem aC3(j:bP T P){t:TypeId}(k:t<T.n t):∃z,(zeroValue t).run P w= .ok z w/\z.cells.toList=(T.row t).zero/\(∀c∈(T.row t).zero,c.oneCell'=true)/\(T.row t).zero.length=(T.row t).size:=by
 obtain⟨i,b,l,m,z,e,f,g,h,_⟩:=(j t k).info;exact⟨z,by simp[zeroValue,typeInfo,b,e],f,g,h⟩
theorem cJ8(f:bP T P)(inv:Inv T Φ σ a w G)(t:TypeId)(g:o.op= .alloc t)(i:t<T.n t)(h:lM σ d (mapR .lit (T.row t).zero) K):Out T Φ σ a K ((execOp a.eval o).run P w):=by
 obtain⟨z,j,b,e,_⟩:=aC3 (w:=w) f i;rw[dU,<-b]at h;exact aK8 inv (t:=t) (c:=z.cells) (λ_=>aM4 (by rw[b];exact e)) bC6 h (by simp[execOp,g,Instr.alloc,j,newVar,newRow,newObj,Sem.run])
theorem yJ{t:TypeId}{r:Row}(h:aH9 P t r)(g:r.kd= .struct):∃b,P.underlying t=some (.struct b)/\r.flds=b.toList.map (λf=>(f.offset,vI P f.type,kdOf (P.underlying f.type),f.type))/\(∀f∈b,∃i,P.info? f.type=some i/\i.size=vI P f.type):=by
 obtain⟨e,j,c,_,_,_,_,k⟩:=h.und;rw[g]at c;cases e<;>simp[kdOf]at c<;>simp_all
theorem jW{t:TypeId}{r:Row}(h:aH9 P t r)(e:r.kd= .slice):P.underlying t=some (.slice r.elem):=by
 obtain⟨c,f,b,_,g,_,_⟩:=h.und;rw[e]at b;cases c<;>simp[kdOf]at b<;>simp_all
theorem aR9{t:TypeId}{r:Row}(h:aH9 P t r)(e:r.kd= .array):P.underlying t=some (.array r.alen r.elem):=by
 obtain⟨c,f,b,_,_,g,_⟩:=h.und;rw[e]at b;cases c<;>simp[kdOf]at b<;>simp_all
theorem eT8{t:TypeId}{r:Row}(h:aH9 P t r)(e:r.kd= .map):P.underlying t=some (.map r.alen r.elem):=by
 obtain⟨c,f,b,_,_,_,g,_⟩:=h.und;rw[e]at b;cases c<;>simp[kdOf]at b<;>simp_all
theorem aF2{t:TypeId}{r:Row}(h:aH9 P t r)(hk:r.kd= .str):P.underlying t=some .string:=MH
theorem bY7{t:TypeId}{r:Row}(h:aH9 P t r){k:IntKind}(f:r.kd= .int k):P.underlying t=some (.int k):=by
 obtain⟨c,e,b,_⟩:=h.und;rw[f]at b;cases c<;>simp[kdOf]at b;subst b;exact e
theorem iV(e:bP T P){t:TypeId}(f:t<T.n t)(w:World):(sizeOf t).run P w= .ok (T.row t).size w:=by
 obtain⟨i,b,c,_⟩:=(e t f).info;rw[bG2 b,c]
theorem yG(f:bP T P){t:TypeId}(g:t<T.n t)(w:World):(isAgg t).run P w= .ok (T.row t).agg w:=by
 obtain⟨b,c,_,e,_⟩:=(f t g).und;rw[e];cases b<;>simp[isAgg,dI c,aggB]
theorem bN6(v:bP T P){s:TypeId}(x:s<T.n s){f:Nat}{off z:Nat}{A:Kd×TypeId}(c:(T.row s).flds[f]? =some (off,z,A))(y:z≠0)(g:(T.row s).kd= .struct)(k:Addr):
 (Instr.fieldAt s (.pointer (some k)) f).run P w= .ok (.pointer (some (k.add off))) w:=by
 obtain⟨m,r,t,u⟩:=yJ (v s x) g;rw[t,RD]at c
 cases b:m.toList[f]? with
 |none=>rw[b]at c;cases c
 |some l=>
  rw[b]at c;simp only[SK,Sv,Prod.mk.injEq]at c;obtain⟨p,q,_⟩:=c;have e:m[f]? =some l:=by simpa using b
  obtain⟨i,hi,j⟩:=u l (by have:=QT b;simpa using this)
  have h:i.size≠0:=by rw[j,q];exact y
  simp[Instr.fieldAt,dI r,e,Instr.sureAddr,fieldPlace,bG2 hi,h,p]
theorem aY3(C:bP T P)(inv:Inv T Φ σ a w G)(s:TypeId)(x:Operand)(f:Nat)(H:o.op= .fieldAddr s x f)(J:s<T.n s)(h:jB (T.row s) (σ.ev x) f K):Out T Φ σ a K ((execOp a.eval o).run P w):=by
 obtain⟨l,h2⟩:=inv.ev x;unfold jB at h;split at h
 ·rename_i off z L u B
  rw[uN]at B
  cases v:Nat.beq z 0 with
  |true=>rw[v]at h;exact h.elim
  |false=>
   rw[v]at h;have A:z≠0:=by rintro rfl;simp at v
   have b:∀e,a.eval x= .pointer (some e)->(execOp a.eval o).run P w= .ok (.value (.pointer (some (e.add off)))) w:=λe m=>by
    simp[execOp,H,m,bN6 C J B A u e]
   simp only[SX]at h;split at h
   ·rename_i i of q
    rw[q]at l h2;refine .plain inv (b _ l.bI6) h ?_ EX;rw[rY];exact .box i (of+off)
   ·rename_i cs q
    rw[q]at l h2;obtain⟨e,cc,m,E,D,I⟩:=l.cW5;rw[bC,lQ]at h;refine .plain inv (b e m) h ?_ ?_
    ·refine .fp _ _ (λj=>cc (off+j)) (λF=>?_) (λj y r=>?_) (λj y r=>?_)
     ·grind [add_block]
     ·rw[Si]at r
      rw[add_add'];exact D _ y r
     ·rw[Si]at r
      exact I _ y r
    ·grind [aH,Rz,V.ok]
   ·rename_i k g sz i of q
    rw[q]at l h2;obtain⟨e,n,c,m,t⟩:=l.dA8;refine .plain inv (b _ m) h ?_ EX;rw[add_add',TN];exact .ae k g sz i (of+off) e n c t
   ·exact h.elim
 ·exact h.elim
structure Here(w:World)(G:Gh)(ad:Addr)(xs:List V):Prop where
 out:∃cc:Nat->Value,At w ad cc xs/\∀(j:Nat) y,xs[j]? =some y->Rv w G (cc j) y
theorem dU3(k:bP T P){t:TypeId}(s:t<T.n t){i:Addr}{xs:List V}(z:Here w G i xs)(q:V.okL σ.hasB σ.hasA xs)(h:wB (T.row t) xs K):
 ∃v' v,(loadVar t i).run P w= .ok v' w/\K v []/\Rv w G v' v/\v.ok σ.hasB σ.hasA:=by
 obtain⟨cc,l,B⟩:=z.out;unfold wB at h;split at h
 ·rename_i b
  rw[bC,aD3,iL]at h;obtain⟨y,h⟩:=aT h;have g:(xs.take (T.row t).size).length=(T.row t).size:=by simpa [Tv]using y
  have m:(T.row t).size<=xs.length:=by rw[QZ]at g;omega
  have e:=run_loadCells (P:=P) w i (T.row t).size cc (λj A=>(l j _ (QS Aa)).1);refine⟨.agg ((List.range (T.row t).size).map cc).toArray,_,?_,h, .agg _ _ ?_ ?_ ?_,?_⟩
  ·simp[loadVar,yG k s,b,iV k s,e]
  ·simp[m]
  ·intro c f
   simp only[List.mem_toArray,Ru,SH]at f;obtain⟨j,A,rfl⟩:=f;exact(l j _ (QS Aa)).2
  ·grind
  ·grind [aH,RG,V.ok]
 ·rename_i b
  split at h
  ·rename_i x r
   rw[force_eq]at h;have u:=l 0 x Af;rw[add_zero']at u;exact⟨cc 0,x,by simp[loadVar,yG k s,b,run_load,u.1],h,B 0 x Af,aH.1 q x Af⟩
  ·exact h.elim
theorem flat_get{l:List V}{sz:Nat}(b:∀x∈l,x.cells.length=sz){i:Nat}{x:V}(hi:l[i]? =some x)(j:Nat)(c:j<sz):(l.flatMap V.cells)[i*sz+j]? =x.cells[j]? :=by
 induction l generalizing i with
 |nil=>simp at hi
 |cons y r f=>
  have e:y.cells.length=sz:=b y Af;cases i<;>grind
theorem sH{l:List V}{sz:Nat}(b:∀x∈l,x.cells.length=sz):(l.flatMap V.cells).length=l.length*sz:=by
 induction l<;>grind
theorem Here.elem{l:List V}{sz:Nat}(k:∀x∈l,x.cells.length=sz){e:Addr}(g:Here w G e (l.flatMap V.cells)){i:Nat}{x:V}(hi:l[i]? =some x)(off:Nat):Here w G (e.add (i*sz+off)) (x.cells.drop off):=by
 obtain⟨cc,f,h⟩:=g.out
 have key:∀(j:Nat) (y:V),(x.cells.drop off)[j]? =some y->(l.flatMap V.cells)[i*sz+off+j]? =some y:=by
  intro j y b;rw[Si]at b
  have c:off+j<sz:=by
   grind
  rw[TN,flat_get k hi _ c];exact b
 refine⟨λj=>cc (i*sz+off+j),λj y b=>?_,λj y b=>h _ y (key j y b)⟩;rw[add_add'];exact f _ y (key j y b)
theorem RvL.here{g:Nat}{cur:Array Value}{t:TypeId}{i:Nat×Nat}(k:w.heap[g]? =some (.cells cur t i)){n:Nat}{xs:List V}(h:RvL w G (cur.toList.take n) xs):Here w G ⟨g,0,none⟩ xs:=by
 refine⟨λj=>cur.toList.getD j undef,λj y c=>?_,λj y c=>?_⟩
 ·have b:j< (cur.toList.take n).length:=by rw[h.len];exact(QR.1 c).1
  have hj':j<cur.toList.length:=by rw[QZ]at b;omega
  have f:(cur.toList.take n)[j] =cur.toList[j] :=List.getElem_take;rw[rY,Tm,cell_of_row w g j cur t i k];have e:cur.toList.getD j undef=cur.toList[j] :=FB
  show cur[j]? =some (cur.toList.getD j undef)/\(cur.toList.getD j undef).oneCell'=true;rw[e];refine⟨Af,?_⟩;rw[<-f];exact h.one _ (TA b)
 ·have b:j< (cur.toList.take n).length:=by rw[h.len];exact(QR.1 c).1
  have hj':j<cur.toList.length:=by rw[QZ]at b;omega
  have f:(cur.toList.take n)[j] =cur.toList[j] :=List.getElem_take;have e:cur.toList.getD j undef=cur.toList[j] :=FB
  show Rv w G (cur.toList.getD j undef) y;rw[e,<-f];exact h.rel j _ y (QS b) c
theorem gW.reads{k:Nat}{en:AE}(h:gW T w G k en)(i:en.kind≠ .dead):(G.av k en.gen= .slice none 0 0/\en.l=[])\/
 ∃ad c sz,G.av k en.gen= .slice (some ad) en.l.length c/\en.l.length<=c/\c<=maxLen/\(∀x∈en.l,x.cells.length=sz)/\Here w G ad (en.l.flatMap V.cells):=by
 have own:∀ {u ty l},gJ T w G k u ty l->(u= .slice none 0 0/\l=[])\/∃ad c sz,u= .slice (some ad) l.length c/\l.length<=c/\c<=maxLen/\(∀x∈l,x.cells.length=sz)/\Here w G ad (l.flatMap V.cells):=by
  intro u ty l h;rcases h with⟨h|⟨a,h⟩,f⟩|⟨b,cap,cur,h1,h2,h3,h4,h5,h6,h7,g⟩
  ·exact .inl ⟨h,f⟩
  ·subst f
   exact .inr ⟨a,0,0,h,QV _,RI _,(λx hx=>Ht),⟨λ_=>undef,(λj y e=>by simp at e),(λj y e=>by simp at e)⟩⟩
  ·exact .inr ⟨⟨b,0,none⟩,cap,_,h1,h4,h5,h7,g.here h3⟩
 have sl:∀ {u l},Rv w G u (.sl l)->(u= .slice none 0 0/\l=[])\/∃ad c sz,u= .slice (some ad) l.length c/\l.length<=c/\c<=maxLen/\(∀x∈l,x.cells.length=sz)/\Here w G ad (l.flatMap V.cells):=by
  intro u l h;exact Ph
 unfold gW at h;split at h
 ·rename_i m;exact absurd m i
 ·exact sl h
 ·exact own h.2
 ·rcases h.2 with h|h
  ·exact own h
  ·exact sl h.1.wK
theorem cG1(hT:bP T P)(inv:Inv T Φ σ a w G)(t:TypeId)(x:Operand)(ht:t<T.n t)(h:pW (T.row t) σ (σ.ev x) K):∃b v' v,a.eval x= .pointer (some b)/\(loadVar t b).run P w= .ok v' w/\K v []/\Rv w G v' v/\v.ok σ.hasB σ.hasA:=by
 obtain⟨l,s⟩:=inv.ev x
 have f:∀(b:Addr) (xs:List V),a.eval x= .pointer (some b)->Here w G b xs->V.okL σ.hasB σ.hasA xs->wB (T.row t) xs K->∃b v' v,a.eval x= .pointer (some b)/\(loadVar t b).run P w= .ok v' w/\K v []/\Rv w G v' v/\v.ok σ.hasB σ.hasA:=by
  grind [dU3]
 unfold pW at h;split at h
 ·rename_i i off q
  rw[q]at l;split at h
  ·rename_i cs m
   obtain⟨c,tt,N,O,g3⟩:=inv.box i cs m;rw[lQ]at h;have U:Here w G ⟨G.β i,0,none⟩ cs:=RvL.here N (n:=c.toList.length) (by rw[TL];exact O)
   refine f _ _ l.bI6 ?_ ?_ h
   ·obtain⟨cc,Z,q2⟩:=U.out
    refine⟨λj=>cc (off+j),λj y e=>?_,λj y e=>?_⟩
    ·rw[Si]at e
     have:=Z _ y e;simp_all [rY,Tm]
    ·rw[Si]at e
     exact q2 _ y e
   ·have:=inv.wfB i cs m
    rw[aH]at this⊢;grind
  ·exact h.elim
 ·rename_i cs q
  rw[q]at l s;obtain⟨b,cc,A,_,Q,X⟩:=l.cW5;refine f b cs A ⟨cc,Q,X⟩ ?_ h;simp only[V.ok]at s;exact V.okL.imp (λ_ h=>h.elim) (λ_ _ h=>h.elim) _ s
 ·rename_i k g sz i off q
  rw[q]at l;split at h
  ·rename_i en p
   obtain⟨⟨S,R⟩,F⟩:=dX h;obtain⟨y,e,H⟩:=cO3 F;obtain⟨J,I⟩:=aT H;clear h F H;rw[iL]at J;have B:y.cells.length=sz:=by simpa [Tv]using J
   obtain⟨b,n,c,A,u⟩:=l.dA8;subst S;rcases(inv.arr k en p).reads R with⟨r,D⟩|⟨L,c',C,r,D,e3,E,M⟩
   ·rw[D]at e;simp at e
   ·rw[u]at r
    cases r;have:C=sz:=by rw[<-E y (QT e)];exact B
    subst this;rw[lQ]at I;refine f _ _ A (M.elem E e off) ?_ I;have W:=aH.1 (inv.wfA k en p) y (QT e);have:=sF W
    rw[aH]at this⊢;exact λz Y=>V.pure.ok (this z (Rz Y)) _ _
  ·exact h.elim
 ·exact h.elim
theorem cZ0(e:bP T P)(inv:Inv T Φ σ a w G)(t:TypeId)(x:Operand)(i:o.op= .load t x)(j:t<T.n t)(h:pW (T.row t) σ (σ.ev x) K):Out T Φ σ a K ((execOp a.eval o).run P w):=by
 obtain⟨k,v',v,f,b,g,hv,c⟩:=cG1 e inv t x j h;exact .plain inv (by simp[execOp,i,f,Instr.loadAt,Instr.sureAddr,b]) g hv c
end
section
variable{T:Tab}{P:Program}{Φ:Fr}{σ:St}{a:Act}{w:World}{G:Gh}{K:VK}{o:Oper}{d:Nat}
theorem size_setRow(g:Nat)(cs:Array Value):(w.setRow g cs).heap.size=w.heap.size:=by simp[World.setRow]
theorem aN1(f:bP T P){t:TypeId}(j:t<T.n t){g off:Nat}{cur:Array Value}{b:TypeId}(k:w.heap[g]? =some (.cells cur b (0,0))){v:Value}(i:v.cells.size=(T.row t).size)(hl:off+v.cells.size<=cur.size)(e:∀c∈v.cells.toList,c.oneCell'=true):
 (storeVar t ⟨g,off,none⟩ v).run P w= .ok () (w.setRow g (cur.toList.take off++v.cells.toList++cur.toList.drop (off+v.cells.toList.length)).toArray):=by
 have:=run_storeCells_at (P:=P) g off b v.cells.toList 0 cur w k BF e;simp only[TM]at this;simp[storeVar,iV f j,i,this]
theorem aF8{p:Nat->Prop}{q:Nat->Nat->Prop}{y:V}(h:y.atom=true)(b:y.ok p q):y.pure:=by
 cases y with
 |lit u=>simp only[V.pure,V.ok]
 |sl l=>simp only[V.pure,V.ok]at b⊢;exact b
 |cap l=>simp only[V.pure,V.ok]at b⊢;exact b
 |fn g l=>exact fn_atom_pure h b
 |_=>simp[V.atom]at h
theorem eC3{y:V}(h:y.atom=true):y.one=true:=by cases y<;>simp_all [V.atom,V.one]
theorem bE1{y:V}(h:y.atom=true):y.cells=[y] :=by cases y<;>simp_all [V.atom,V.cells]
theorem eA3{l:List V}{sz:Nat}(c:∀x∈l,x.cells.length=sz){i:Nat}{x x':V}(hi:l[i]? =some x){off:Nat}{ys:List V}(b:x'.cells=splice x.cells off ys)(f:off+ys.length<=sz):
 (l.set i x').flatMap V.cells=splice (l.flatMap V.cells) (i*sz+off) ys:=by
 induction l generalizing i with
 |nil=>simp at hi
 |cons y r j=>
  have g:y.cells.length=sz:=c y Af;rw[mO]at b⊢
  cases i with
  |zero=>
   grind
  |succ i=>
   simp only[RZ]at hi;have:=j (λx hx=>c x BI) hi;rw[mO]at this;have e:(i+1)*sz+off=y.cells.length+(i*sz+off):=by rw[g,TP];omega
   simp only[List.set_cons_succ,SS,this,e,List.take_append,List.drop_append];have k:List.take (y.cells.length+(i*sz+off)) y.cells=y.cells:=Ug Aa;have m:List.drop (y.cells.length+(i*sz+off)+ys.length) y.cells=[] :=List.drop_of_length_le Aa
   have n:y.cells.length+(i*sz+off)+ys.length-y.cells.length=i*sz+off+ys.length:=Aa;rw[k,m,Nat.add_sub_cancel_left,n];simp
theorem cJ7(hT:bP T P)(inv:Inv T Φ σ a w G)(t:TypeId)(x y:Operand)(ho:o.op= .store t x y)(ht:t<T.n t)(h:qU (T.row t) σ (σ.ev x) (σ.ev y) K):Out T Φ σ a K ((execOp a.eval o).run P w):=by
 obtain⟨h1,h2⟩:=inv.ev x;obtain⟨y1,y2⟩:=inv.ev y;unfold qU at h;split at h
 ·rename_i i off hx
  rw[hx]at h1;split at h
  ·rename_i cs D
   obtain⟨hc,Y⟩:=aT h;clear h;simp only[Ri,iL]at hc;obtain⟨⟨c1,c2⟩,c3⟩:=hc;have af:(σ.ev y).cells.length=(T.row t).size:=Gt;have L:off+(T.row t).size<=cs.length:=by simpa using c2
   rw[bC]at Y;have U:=y1.cells (dY.1 c3);obtain⟨c,tt,g1,g2,g3⟩:=inv.box i cs D;have m:(a.eval y).cells.size=(T.row t).size:=by have:=U.len;simp at this;omega
   have aq:c.size=cs.length:=by have:=g2.len;simpa using this
   have s:=aN1 (P:=P) hT ht g1 (v:=a.eval y) (off:=off) m Aa U.one;refine⟨undef,w.setRow (G.β i) (c.toList.take off++(a.eval y).cells.toList++c.toList.drop (off+(a.eval y).cells.toList.length)).toArray,_,_,G, .inr ⟨by simp[execOp,ho,h1.bI6,Instr.storeAt,Instr.sureAddr,s],rfl⟩,Y,?_, .bot _,BL⟩
   refine inv.eJ4 D (c:=(c.toList.take off++(a.eval y).cells.toList++c.toList.drop (off+(a.eval y).cells.toList.length)).toArray) (t:=tt) ?_ (yV (inv.wfB i cs D) (sF y2) off) (TB w _ c _ tt _ g1) (λb hb=>Ti w _ b _ hb) (size_setRow _ _) rfl rfl rfl;simpa using g2.splice U off
  ·exact h.elim
 ·rename_i k g sz i off hx
  rw[hx]at h1;split at h
  ·rename_i en E
   obtain⟨⟨hg,aa⟩,Y⟩:=dX h;obtain⟨z,W,h4⟩:=cO3 Y;obtain⟨hc,h5⟩:=aT h4;clear h Y h4;simp only[Ri,iL]at hc;obtain⟨⟨⟨c1,c2⟩,c4⟩,c3⟩:=hc;have af:(σ.ev y).cells.length=(T.row t).size:=Gt;have L:off+(T.row t).size<=z.cells.length:=by simpa using c2
   have ag:z.cells.length=sz:=by simpa [Tv]using c4
   rw[bC]at h5;have M:=dY.1 c3;have U:=y1.cells (λu I=>eC3 (M u I))
   obtain⟨ad,n,c,he,Z⟩:=h1.dA8;subst hg;have F:=inv.arr k en E;have an:=F
   unfold gW at F;rw[aa]at F;obtain⟨ai,ac⟩:=F;rcases ac with⟨e1,X⟩|⟨b,cap,cur,e1,X,e3,e4,e5,e6,e7,e8⟩
   ·rw[X]at W;simp at W
   ·rw[Z]at e1
    cases e1;have J:sz=(T.row en.ty).size:=by rw[<-ag];exact e7 z (QT W)
    have m:(a.eval y).cells.size=(T.row t).size:=by have:=U.len;simp at this;omega
    have hi:i<en.l.length:=(QR.1 W).1;have al:i*sz+sz<=en.l.length*sz:=by rw[<-TP];exact UJ _ hi
    have ah:en.l.length*sz<=c*sz:=UJ _ e4;have D:cur.size=c*sz:=by rw[J];exact e6
    have s:=aN1 (P:=P) hT ht e3 (v:=a.eval y) (off:=i*sz+off) m Aa U.one
    have C:(aC4 z (splice z.cells off (σ.ev y).cells)).cells=splice z.cells off (σ.ev y).cells:=by
     have f:(splice z.cells off (σ.ev y).cells).length=z.cells.length:=by
      rw[mO];simp;omega
     unfold aC4;split
     ·rfl
     ·rename_i am
      have A:z.cells=[z] :=by cases z<;>simp_all [V.cells]
      rw[A]at f
      match H:splice z.cells off (σ.ev y).cells with
      | [] =>rw[A]at H;rw[H]at f;simp at f
      |u::r=>
       have hr:r=[] :=by
        simp_all
       subst hr;rw[A]at L;simp only[QY]at L;by_cases h0:(T.row t).size=0
       ·have hn:(σ.ev y).cells=[] :=TD Aa
        rw[hn,A,mO]at H;simp_all
       ·have ab:off=0:=by omega
        subst ab;grind [mO,bE1]
    have N:=eA3 e7 W (x':=aC4 z (splice z.cells off (σ.ev y).cells)) (off:=off) (ys:=(σ.ev y).cells) C Aa
    have R:bM (en.l.set i (aC4 z (splice z.cells off (σ.ev y).cells))):=by
     have ae:=aH.1 (inv.wfA k en E);refine aH.2 ?_;intro u I;rcases List.mem_or_eq_of_mem_set I with I|I
     ·exact ae u I
     ·subst I
      have ak:=sF (ae z (QT W))
      have aj:bM (σ.ev y).cells:=by
       refine aH.2 ?_;exact λq S=>aF8 (M q S) (aH.1 (sF y2) q S)
      have hs:=yV ak aj off;unfold aC4;split
      ·simp only[V.ok];exact hs
      ·split
       ·rename_i q r S
        rw[S]at hs;exact hs.1
       ·simp only[V.ok]
    refine⟨undef,w.setRow b (cur.toList.take (i*sz+off)++(a.eval y).cells.toList++cur.toList.drop (i*sz+off+(a.eval y).cells.toList.length)).toArray,_,_,G, .inr ⟨?_,rfl⟩,h5,?_, .bot _,BL⟩
    ·rw[rY,Tm]at he
     simp[execOp,ho,he,Instr.storeAt,Instr.sureAddr,s]
    ·have Q:Keep w (w.setRow b (cur.toList.take (i*sz+off)++(a.eval y).cells.toList++cur.toList.drop (i*sz+off+(a.eval y).cells.toList.length)).toArray) G G:=
      ⟨λ_ h=>h,λb' B=>Ti w _ b' _ (λe=>by subst e;rw[X]at B;cases B)⟩
     refine inv.zU (k:=k) (en:={en with l:=en.l.set i (aC4 z (splice z.cells off (σ.ev y).cells))}) (av':=G.av) (O':=G.O) (λg ⟨ao,q1,q2⟩=>by rw[E]at q1;cases q1;exact q2) (λ_ _ _=>rfl) R ?_ (λ_ _ _=>rfl) (λ_=> .inl rfl)
      (λb' _ B=>Ti w _ b' _ (λe=>by subst e;exact B X)) GU rfl rfl rfl
     unfold gW;simp only[aa];refine⟨ai, .inr ⟨b,c,_,?_,X,TB w b cur _ _ _ e3,by simpa using e4,e5,?_,?_,?_⟩⟩
     ·simpa using Z
     ·grind
     ·grind [List.mem_or_eq_of_mem_set,mO]
     ·rw[N]
      have H:=(e8.splice U (i*sz+off)).keep Q (p:=λ_=>False) (q:=λ_ _=>False) ?_ (λ_ h=>h.elim) (λ_ _ h=>h.elim)
      ·have ar:(a.eval y).cells.toList.length=(T.row t).size:=by simpa using m
       have e9:List.take ((en.l.set i (aC4 z (splice z.cells off (σ.ev y).cells))).length*(T.row en.ty).size) (cur.toList.take (i*sz+off)++(a.eval y).cells.toList++cur.toList.drop (i*sz+off+(a.eval y).cells.toList.length))=
        List.take (i*sz+off) (List.take (en.l.length*(T.row en.ty).size) cur.toList)++(a.eval y).cells.toList++List.drop (i*sz+off+(a.eval y).cells.toList.length) (List.take (en.l.length*(T.row en.ty).size) cur.toList):=by
        rw[Tz,<-J];rw[List.take_append,List.take_append,UW,UW,UX];have q1:min (en.l.length*sz) (i*sz+off)=i*sz+off:=Aa;have q2:min (i*sz+off) (en.l.length*sz)=i*sz+off:=Aa
        rw[q1,q2];have q3:(List.take (i*sz+off) cur.toList).length=i*sz+off:=by rw[QZ];simp;omega
        rw[QU,q3,Ug (l:=(a.eval y).cells.toList) Aa]
       simp_all
      ·refine yV ?_ ?_ _
       ·rw[aH]
        intro u I;obtain⟨j,hj⟩:=Rx I;exact dF (inv.wfA k en E) hj
       ·rw[aH]
        exact λq S=>aF8 (M q S) (aH.1 (sF y2) q S)
  ·exact h.elim
 ·exact h.elim
end
section
variable{T:Tab}{P:Program}{Φ:Fr}{σ:St}{a:Act}{w:World}{G:Gh}{K:VK}{o:Oper}{d:Nat}
theorem vU(e:bP T P){t:TypeId}(j:t<T.n t)(i:(T.row t).kd= .slice)(h:(T.row t).elem<T.n (T.row t).elem)(c:Addr)(b cap:Nat)(k:IntKind)(n:Int)(f:0<=n)(g:n<b):
 (Instr.indexAt t (.slice (some c) b cap) (.int k n)).run P w= .ok (.pointer (some (c.add (n.toNat*(T.row (T.row t).elem).size)))) w:=by
 simp[Instr.indexAt,asIntOf,dI (jW (e t j) i),f,g,iV e h]
theorem vZ(c:bP T P){t:TypeId}(h:t<T.n t)(g:(T.row t).kd= .array)(f:(T.row t).elem<T.n (T.row t).elem)(b:Addr)(k:IntKind)(n:Nat)(e:n< (T.row t).alen):
 (Instr.indexAt t (.pointer (some b)) (.int k n)).run P w= .ok (.pointer (some (b.add (n*(T.row (T.row t).elem).size)))) w:=by
 simp[Instr.indexAt,asIntOf,dI (aR9 (c t h) g),e,iV c f,Instr.sureAddr]
theorem aY7(J:bP T P)(inv:Inv T Φ σ a w G)(t:TypeId)(x y:Operand)(L:o.op= .indexAddr t x y)(M:t<T.n t)(h:gI T (T.row t) σ (σ.ev x) (σ.ev y) K):Out T Φ σ a K ((execOp a.eval o).run P w):=by
 obtain⟨v,h2⟩:=inv.ev x;obtain⟨N,y2⟩:=inv.ev y
 have r:∀(l:List V) (m:IntKind) (n:Int),(T.row t).kd= .slice->a.eval y= .int m n->Rv w G (a.eval x) (.sl l)->bM l->
  need (0<=n/\n<l.length) (idx l n.toNat λx=>bJ x.cells λcs=>cond (Nat.beq (lenR cs) (T.row (T.row t).elem).size&&Nat.blt (T.row t).elem (T.n (T.row t).elem)) (K (.fp cs) []) False)->Out T Φ σ a K ((execOp a.eval o).run P w):=by
  intro l m n b e s ac hh;obtain⟨⟨n0,H⟩,A⟩:=dX hh;obtain⟨z,F,I⟩:=cO3 A;rw[bC]at I;obtain⟨f,h5⟩:=aT I;simp only[Ri,iL]at f;have R:z.cells.length=(T.row (T.row t).elem).size:=by simpa [Tv]using f.1
  have D:=blt f.2;rcases s.bK8 with⟨B,C⟩|⟨q,c,sz,cc,B,C,e3,Y,Q,e6,e7⟩
  ·rw[C]at F;simp at F
  ·have W:sz=(T.row (T.row t).elem).size:=by rw[<-Q z (QT F)];exact R
   have E:0<l.length:=by have:=(QR.1 F).1;omega
   refine .plain inv (v':= .pointer (some (q.add (n.toNat*(T.row (T.row t).elem).size)))) (by simp[execOp,L,e,B,vU J M b D q l.length c m n n0 H]) h5 ?_ ?_
   ·have hH:=Here.elem Q (w:=w) (G:=G) ⟨cc,e6,e7⟩ F 0
    obtain⟨O,Z,q2⟩:=hH.out;rw[List.drop_zero,TM,W]at Z;rw[List.drop_zero]at q2;exact .fp _ _ O (λ_=>by rw[add_block];exact Y E) Z q2
   ·grind [sF,aH,QT,V.ok]
 unfold gI at h;split at h
 ·rename_i m n b u
  rw[u]at N;have e:=N.bH;split at h
  ·grind [V.ok]
  ·rename_i l s
   rw[s]at v h2;simp only[V.ok]at h2;exact r l m n b e v.wK h2 h
  ·rename_i k g s
   rw[s]at v h2;split at h
   ·rename_i en U
    obtain⟨⟨hg,hd,n0,H⟩,A⟩:=dX h;obtain⟨f,I⟩:=aT A;simp only[Ri]at f;have D:=blt f.2;subst hg;rcases(inv.arr k en U).reads hd with⟨B,C⟩|⟨q,c,sz,B,C,e3,Y,Q⟩
    ·rw[C]at H;simp at H;omega
    ·have X:a.eval x= .slice (some q) en.l.length c:=v.oQ.trans B
     refine .plain inv (v':= .pointer (some (q.add (n.toNat*(T.row (T.row t).elem).size)))) (by simp[execOp,L,e,X,vU J M b D q en.l.length c m n n0 H]) I ?_ EX
     have:=Rv.ae (w:=w) (G:=G) k en.gen (T.row (T.row t).elem).size n.toNat 0 q en.l.length c B;simpa using this
   ·exact h.elim
  ·exact h.elim
 ·rename_i m n b u
  rw[u]at N;have e:a.eval y= .int m ((n:Nat):Int):=N.bH;split at h
  ·rename_i i off s
   rw[s]at v h2;obtain⟨f,A⟩:=aT h;simp only[Ri]at f;refine .plain inv (v':= .pointer (some ((⟨G.β i,off,none⟩:Addr).add (n*(T.row (T.row t).elem).size)))) (by simp[execOp,L,e,v.bI6,vZ J M b (blt f.2) _ m n (blt f.1)]) A ?_ EX
   rw[rY];exact .box _ _
  ·rename_i cs s
   rw[s]at v h2;obtain⟨f,A⟩:=aT h;simp only[Ri]at f;obtain⟨q,cc,D,aa,S,hr⟩:=v.cW5;rw[bC,lQ]at A;refine .plain inv (v':= .pointer (some (q.add (n*(T.row (T.row t).elem).size)))) (by simp[execOp,L,e,D,vZ J M b (blt f.2) _ m n (blt f.1)]) A ?_ ?_
   ·refine .fp _ _ (λj=>cc (n*(T.row (T.row t).elem).size+j)) (λab=>?_) (λj y u=>?_) (λj y u=>?_)
    ·grind [add_block]
    ·rw[Si]at u
     rw[add_add'];exact S _ y u
    ·rw[Si]at u
     exact hr _ y u
   ·grind [aH,Rz,V.ok]
  ·exact h.elim
 ·exact h.elim
theorem dM3(z:bP T P)(inv:Inv T Φ σ a w G)(x:Operand)(t:TypeId)(C:o.op= .call ⟨.builtin .len,⟨[x]⟩,⟨[t]⟩⟩)(E:t<T.n t)
 (e:(T.row t).kd= .slice)(h:aE9 σ (σ.ev x) K):Out T Φ σ a K ((execOp a.eval o).run P w):=by
 obtain⟨i,F⟩:=inv.ev x
 have v:∀(u:Value) (m:Nat),a.eval x=u->(Builtin.len_ #[t] o.type #[u]).run P w= .ok (goInt m) w->(execOp a.eval o).run P w= .ok (.value (.int .i64 m)) w:=by
  intro u m s D;simp only[execOp,C,resolve,invoke,builtin,Sr,SQ,Rt,List.map_toArray,Rq,SC,s,D];rfl
 have sl:∀(b:Option Addr) (m c:Nat),(T.row t).kd= .slice->a.eval x= .slice b m c->(execOp a.eval o).run P w= .ok (.value (.int .i64 m)) w:=λb m c e s=>
  v _ m s (by simp[Builtin.len_,dI (jW (z t E) e)])
 unfold aE9 at h;split at h
 ·rename_i j
  rw[j]at i;exact .plain inv (sl none 0 0 e i.bH) h (I_ok _ _ _ _) dL
 ·rename_i l j
  rw[j]at i;rcases i.bK8 with⟨f,p⟩|⟨y,c,sz,cc,f,_⟩
  ·subst p;exact .plain inv (sl none 0 0 e f) h (I_ok _ _ _ _) dL
  ·exact .plain inv (sl _ _ c e f) h (I_ok _ _ _ _) dL
 ·rename_i l j
  rw[j]at i;rcases i.vP with⟨f,p⟩|⟨y,sz,cc,f,_⟩
  ·subst p;exact .plain inv (sl none 0 0 e f) h (I_ok _ _ _ _) dL
  ·exact .plain inv (sl _ _ _ e f) h (I_ok _ _ _ _) dL
 ·rename_i k g j
  rw[j]at i;split at h
  ·rename_i en r
   obtain⟨⟨B,A⟩,q⟩:=dX h;subst B;rcases(inv.arr k en r).reads A with⟨f,p⟩|⟨y,c,sz,f,_⟩
   ·rw[p]at q;exact .plain inv (sl none 0 0 e (i.oQ.trans f)) q (I_ok _ _ _ _) dL
   ·exact .plain inv (sl _ _ c e (i.oQ.trans f)) q (I_ok _ _ _ _) dL
  ·exact h.elim
 ·exact h.elim
theorem cR9(e:bP T P)(inv:Inv T Φ σ a w G)(x:Operand)(t:TypeId)(f:o.op= .call ⟨.builtin .len,⟨[x]⟩,⟨[t]⟩⟩)(i:t<T.n t)(b:(T.row t).kd= .str)(h:aI4 (σ.ev x) K):Out T Φ σ a K ((execOp a.eval o).run P w):=by
 obtain⟨c,k⟩:=inv.ev x;unfold aI4 at h;split at h
 ·rename_i s j
  rw[j]at c;have g:(Builtin.len_ #[t] o.type #[.string s]).run P w= .ok (goInt s.size) w:=by simp[Builtin.len_,dI (aF2 (e t i) b)]
  refine .plain inv (v':= .int .i64 s.size) ?_ h (I_ok _ _ _ _) dL;simp only[execOp,f,resolve,invoke,builtin,Sr,SQ,Rt,List.map_toArray,Rq,SC,c.bH,g];rfl
 ·exact h.elim
theorem cE0(g:bP T P){t:TypeId}(k:t<T.n t){cs:Array Value}{xs:List V}(u:cs.size=xs.length)(A:∀c∈cs,c.oneCell'=true)(z:∀(i:Nat) c x,cs[i]? =some c->xs[i]? =some x->Rv w G c x)(f:V.okL σ.hasB σ.hasA xs){off:Nat}
 (h:wB (T.row t) (jX xs off) K):∃v' v,(part t cs off).run P w= .ok v' w/\K v []/\Rv w G v' v/\v.ok σ.hasB σ.hasA:=by
 rw[lQ]at h;unfold wB at h;split at h
 ·rename_i b
  rw[bC,aD3,iL]at h;obtain⟨s,q⟩:=aT h;have e:((xs.drop off).take (T.row t).size).length=(T.row t).size:=by simpa [Tv]using s
  have y:off+(T.row t).size<=xs.length\/(T.row t).size=0:=by rw[QZ,RU]at e;omega
  refine⟨.agg (cs.extract off (off+(T.row t).size)),_,by simp[part,yG g k,b,iV g k],q, .agg _ _ ?_ ?_ ?_,?_⟩
  ·rw[e,Array.size_extract];omega
  ·intro c j
   rw[Array.mem_iff_getElem?]at j;grind
  ·grind
  ·simp only[V.ok]
   rw[aH]at f⊢;grind
 ·rename_i b
  split at h
  ·rename_i x r m
   rw[force_eq]at h
   have l:xs[off]? =some x:=by
    have:(xs.drop off)[0]? =some x:=by rw[m];rfl
    rwa [Si,TM]at this
   have hlt:off<cs.size:=by rw[u];exact(QR.1 l).1
   refine⟨cs[off],x,by simp[part,yG g k,b,hlt],h,z off _ x I7 l,aH.1 f x (QT l)⟩
  ·exact h.elim
theorem cL3(m:bP T P)(inv:Inv T Φ σ a w G)(s:TypeId)(x:Operand)(f:Nat)(C:o.op= .field s x f)(E:s<T.n s)(h:aM2 T (T.row s) (σ.ev x) f K):Out T Φ σ a K ((execOp a.eval o).run P w):=by
 obtain⟨l,e⟩:=inv.ev x;unfold aM2 at h;split at h
 ·rename_i off z J ty cs i b F
  rw[uN]at b;rw[F]at l e;obtain⟨A,y⟩:=aT h;obtain⟨vs,p,q,r,t⟩:=l.zV;obtain⟨k,H,I,L⟩:=yJ (m s E) i;rw[I,RD]at b
  cases c:k.toList[f]? with
  |none=>rw[c]at b;cases b
  |some u=>
   rw[c]at b;simp only[SK,Sv,Prod.mk.injEq]at b;have g:k[f]? =some u:=by simpa using c
   simp only[V.ok]at e;obtain⟨v',v,D,B,hv,j⟩:=cE0 m (blt A) q r t e (P:=P) y;refine .plain inv (v':=v') ?_ B hv j;simp[execOp,C,p,Instr.field,dI H,g,asAgg,b.1,b.2.2.2,D]
 ·exact h.elim
theorem cK7(e:bP T P)(inv:Inv T Φ σ a w G)(t:TypeId)(x y:Operand)(u:o.op= .index t x y)(z:t<T.n t)(h:aM6 T (T.row t) (σ.ev x) (σ.ev y) K):Out T Φ σ a K ((execOp a.eval o).run P w):=by
 obtain⟨c,i⟩:=inv.ev x;obtain⟨g,J⟩:=inv.ev y;unfold aM6 at h;split at h
 ·rename_i s A n b m q
  rw[m]at c;rw[q]at g;obtain⟨⟨n0,I⟩,j⟩:=dX h;have k:n.toNat<s.size:=Aa;refine .plain inv ?_ j (I_ok _ _ _ _) dL;simp[execOp,u,c.bH,g.bH,Instr.index,asIntOf,dI (aF2 (e t z) b),n0,k,byteAt]
 ·rename_i cs A n b m q
  rw[m]at c i;rw[q]at g;obtain⟨f,j⟩:=aT h;simp only[Ri]at f;obtain⟨vs,B,C,D,E⟩:=c.zV;simp only[V.ok]at i;obtain⟨v',v,H,F,hv,l⟩:=cE0 e (blt f.2) C D E i (P:=P) j;have r:a.eval y= .int A ((n:Nat):Int):=g.bH;refine .plain inv (v':=v') ?_ F hv l;simp[execOp,u,B,r,Instr.index,asIntOf,dI (aR9 (e t z) b),blt f.1,iV e (blt f.2),H]
 ·exact h.elim
theorem bO9(off:Nat):∀(l:List Value) (k:Nat) (b:Array Value),off+k+l.length<=b.size->
 ((l.zipIdx k).foldl (λcs p=>cs.setIfInBounds (off+p.2) p.1) b).toList=b.toList.take (off+k)++l++b.toList.drop (off+k+l.length)
 | [],k,b,h=>Af
 |v::r,k,b,h=>by
  simp only[List.zipIdx_cons,RY];rw[bO9 off r (k+1) _ (by simp at h⊢;omega)]
  simp only[Array.toList_setIfInBounds,Rf]at h⊢;apply List.ext_getElem?;intro i;simp only[UI,TK,Si,QZ,QU,List.getElem?_set,Tz,RV,Rf];grind
theorem cV2(off:Nat)(vs b:Array Value)(h:off+vs.size<=b.size):(vs.zipIdx.foldl (λcs (c,j)=>cs.setIfInBounds (off+j) c) b).toList=b.toList.take off++vs.toList++b.toList.drop (off+vs.toList.length):=by
 have:=bO9 off vs.toList 0 b Fp;simp only[TM]at this;grind [Array.toList_zipIdx]
theorem bL4(inv:Inv T Φ σ a w G){f place':Nat->Option (Nat×Nat)}(t:List (Nat×Operand)):∀(b:Array Value) (xs:List V) {K:List V->Prop},(∀i,i∈t.map (·.1)->∀q,f i=some q->place' i=some q)->RvL w G b.toList xs->V.okL σ.hasB σ.hasA xs->oI f σ t xs K->
 ∃e g,Instr.fill place' b (t.map λp=>(p.1,a.eval p.2))=some e/\RvL w G e.toList g/\V.okL σ.hasB σ.hasA g/\g.length=xs.length/\K g:=by
 induction t with
 |nil=>
  intro b xs K _ s l h;have m:bJ xs K:=h;rw[bC]at m;exact⟨b,xs,rfl,s,l,rfl,m⟩
 |cons p r L=>
  intro b xs K n s l h
  have m:(match f p.1 with
   |some (o,z)=>cond (Nat.beq (lenR (σ.ev p.2).cells) z&&Nat.ble (o+z) (lenR xs)&&allR V.one (σ.ev p.2).cells) (oI f σ r (splice xs o (σ.ev p.2).cells) K) False
   |none=>False):=h
  split at m
  ·rename_i off z J
   obtain⟨y,H⟩:=aT m;simp only[Ri,iL]at y;obtain⟨⟨c1,B⟩,D⟩:=y;have A:(σ.ev p.2).cells.length=z:=Gt;have C:off+z<=xs.length:=by simpa using B
   obtain⟨E,F⟩:=inv.ev p.2;have hv:=E.cells (dY.1 D);have x:(a.eval p.2).cells.size=z:=by have:=hv.len;simp at this;omega
   have I:b.size=xs.length:=by have:=s.len;simpa using this
   have k:=cV2 off (a.eval p.2).cells b Aa
   have v:RvL w G ((a.eval p.2).cells.zipIdx.foldl (λcs (c,j)=>cs.setIfInBounds (off+j) c) b).toList (splice xs off (σ.ev p.2).cells):=by
    rw[k];exact s.splice hv off
   obtain⟨e,g,M,N,O,Q,R⟩:=L _ _ (λi hi=>n i (by simp[hi])) v (yV l (sF F) off) H
   refine⟨e,g,?_,N,O,?_,R⟩
   ·have u:=n p.1 Af _ J
    simp only[Rq,Instr.fill,u];rw[Q5 (by simp[x];omega)]
    exact M
   ·rw[Q,mO];simp;omega
  ·exact m.elim
theorem cM3(B:bP T P)(inv:Inv T Φ σ a w G)(t:TypeId)(r:Array (Nat×Operand))(N:o.op= .build t r)(E:t<T.n t)(h:vO T (T.row t) σ r.toList K):Out T Φ σ a K ((execOp a.eval o).run P w):=by
 obtain⟨z,O,A,F,U⟩:=aC3 (w:=w) B E;have j:(r.map λ(p:Nat×Operand)=>(p.1,a.eval p.2)).toList=r.toList.map λp=>(p.1,a.eval p.2):=Af;have M:RvL w G z.cells.toList (mapR V.lit (T.row t).zero):=by rw[dU,<-A];exact aM4 (by rw[A];exact F)
 have u:V.okL σ.hasB σ.hasA (mapR V.lit (T.row t).zero):=by rw[dU];exact bC6
 have s:∀(b:Array Value) (g:List V),RvL w G b.toList g->Rv w G (.agg b) (.agg g):=λb g D=>
  .agg _ _ (by have:=D.len;simpa using this) (by have:=D.one;simpa using this) (λi c x hc S=>D.rel i c x DL S)
 unfold vO at h;split at h
 ·rename_i k
  obtain⟨m,X,Y,Z⟩:=yJ (B t E) k
  have e:∀(l:List Field),(∀f∈l,∃i,P.info? f.type=some i/\i.size=vI P f.type)->(l.mapM (λf=>(do pure (f.offset,<-sizeOf f.type):Sem (Nat×Nat)))).run P w= .ok (l.map λf=>(f.offset,vI P f.type)) w:=by
   intro l
   induction l<;>simp_all [List.mapM_cons,bG2,Rt,Rq]
  have v:(m.mapM (λf=>(do pure (f.offset,<-sizeOf f.type):Sem (Nat×Nat)))).run P w= .ok (m.map λf=>(f.offset,vI P f.type)) w:=by
   have:=e m.toList (by simpa using Z)
   rw[Array.mapM_eq_mapM_toList];simp only[Sem.run_map,this,Rt];rw[<-Array.toList_map,Array.toArray_toList]
  obtain⟨b,g,H,I,J,W,L⟩:=bL4 inv (place':=λi=>(m.map λf=>(f.offset,vI P f.type))[i]?) r.toList z.cells _ (by
   intro i _ q y;rw[uN,Y,RD]at y;simp only[Array.getElem?_map]
   cases C:m.toList[i]? with
   |none=>rw[C]at y;cases y
   |some f=>
    rw[C]at y;have:m[i]? =some f:=by simpa using C
    rw[this];simpa using y) M u h
  refine .plain inv (v':= .agg b) ?_ L (s _ _ I) (by simpa only[V.ok]using J)
  simp only[execOp,N,Instr.build,Sr,O,Rt,dI X,v,j];rw[H];simp
 ·rename_i k
  obtain⟨hc,Q⟩:=aT h;have R:=blt hc;obtain⟨b,g,H,I,J,W,L⟩:=bL4 inv (place':=λi=>some (i*(T.row (T.row t).elem).size,(T.row (T.row t).elem).size)) r.toList z.cells _ (λ_ _ _ h=>h) M u Q;refine .plain inv (v':= .agg b) ?_ L (s _ _ I) (by simpa only[V.ok]using J)
  simp only[execOp,N,Instr.build,Sr,O,Rt,dI (aR9 (B t E) k),iV B R,j];rw[H];simp
 ·exact h.elim
theorem cY0(f:bP T P)(inv:Inv T Φ σ a w G)(s t:TypeId)(x:Operand)(p:o.op= .convert s t x)(h:bE4 T s t (σ.ev x) K):Out T Φ σ a K ((execOp a.eval o).run P w):=by
 obtain⟨e,q⟩:=inv.ev x;unfold bE4 at h;split at h
 ·rename_i r k u n c g i j
  simp only[Ri]at c;rw[j]at e;have l:=bY7 (f s (blt c.1)) g;have m:=bY7 (f t (blt c.2)) i
  exact .plain inv (by simp[execOp,p,e.bH,convert,dI l,dI m,Conv.intToInt]) (wI h) (I_ok _ _ _ _) dL
 ·rename_i b c g i j
  simp only[Ri]at c;rw[j]at e;have l:=aF2 (f s (blt c.1)) g;have m:=aF2 (f t (blt c.2)) i
  exact .plain inv (by simp[execOp,p,e.bH,convert,dI l,dI m]) h (.lit _ rfl) dL
 ·exact h.elim
end
section
variable{T:Tab}{P:Program}{Φ:Fr}{σ:St}{a:Act}{w:World}{G:Gh}{K:VK}{o:Oper}{d:Nat}
theorem cH6{b:Type}(n:Nat)(l:List b):(repR n l).length=n*l.length:=by
 induction n with
 |zero=>show([] :List b).length=_;simp
 |succ n c=>
  have:repR (n+1) l=appR l (repR n l):=rfl;grind [bT,QU,TP]
theorem eI7{c:Type}(n:Nat)(l:List c):∀j,j<n*l.length->(repR n l)[j]? =l[j% l.length]? :=by
 induction n with
 |zero=>intro j b;simp at b
 |succ n e=>
  intro j b;have:repR (n+1) l=appR l (repR n l):=rfl;rw[this,bT,UI];split<;>grind [Nat.mod_eq_of_lt,TP,Nat.mod_eq_sub_mod]
theorem cH9{b β:Type}(f:b->β)(n:Nat)(l:List b):repR n (l.map f)=(repR n l).map f:=by
 induction n with
 |zero=>rfl
 |succ n g=>
  have c:repR (n+1) l=appR l (repR n l):=rfl;have e:repR (n+1) (l.map f)=appR (l.map f) (repR n (l.map f)):=rfl
  grind [bT]
theorem bA5{b:Type}(n:Nat)(l:List b){x:b}(h:x∈repR n l):x∈l:=by
 induction n with
 |zero=>cases h
 |succ n c=>
  have:repR (n+1) l=appR l (repR n l):=rfl;grind [bT]
theorem cG7(zero:Array Value)(n:Nat)(c:0<zero.size):((Array.range (n*zero.size)).map (zero[·% zero.size]!)).toList=repR n zero.toList:=by
 apply List.ext_getElem?;intro j;by_cases b:j<n*zero.size
 ·grind [SA,eI7]
 ·rw[Tt AV,Tt (by rw[cH6];simp;omega)]
theorem Inv.dC7(inv:Inv T Φ σ a w G){k gen:Nat}(t:∀g,σ.hasA k g->g<gen){m:AK}(D:m= .own\/m= .ap){cur:Array Value}{e:TypeId}(J:e<T.n e){l:List V}{cap n0:Nat}(i:l.length<=cap)(E:cap<=maxLen)(r:cur.size=cap*(T.row e).size)
 (I:∀x∈l,x.cells.length=(T.row e).size)(B:bM l)(F:RvL w G (cur.toList.take (l.length*(T.row e).size)) (l.flatMap V.cells)):
 ∃G',Inv T Φ (σ.apps [.a k ⟨gen,m,e,l⟩]) a ({w with drawn:=n0}.alloc (.cells cur e)) G'/\G'.av k gen= .slice (some ⟨w.heap.size,0,none⟩) l.length cap:=by
 let av':Nat->Nat->Value:=λv g=>if v=k/\g=gen then .slice (some ⟨w.heap.size,0,none⟩) l.length cap else G.av v g
 let G':Gh:={G with av:=av',O:=upd G.O w.heap.size (.ar k)}
 let w':World:={w with drawn:=n0}.alloc (.cells cur e)
 have c:∀b,b<w.heap.size->w'.heap[b]? =w.heap[b]? :=λb hb=>Un {w with drawn:=n0} _ hb
 have s:Keep w w' G G':=⟨λb hb=>by
  have L:=inv.tag b AP;show upd G.O _ _ b=_;rw[upd_ne _ _ Aa];exact hb,λb hb=>c b (inv.tag b AP)⟩
 have f:av' k gen= .slice (some ⟨w.heap.size,0,none⟩) l.length cap:=I5
 have A:gJ T w' G' k (G'.av k gen) e l:=by
  refine .inr ⟨w.heap.size,cap,cur,f,upd_same _ _ _,U3 {w with drawn:=n0} _,i,E,r,I,F.keep s (p:=λ_=>False) (q:=λ_ _=>False) ?_ (λ_ h=>h.elim) (λ_ _ h=>h.elim)⟩
  rw[aH];intro u H;obtain⟨j,C⟩:=Rx H;exact dF B C
 refine⟨G',?_,f⟩;refine inv.zU (w':=w') (k:=k) (en:=⟨gen,m,e,l⟩) (av':=av') (O':=upd G.O w.heap.size (.ar k)) (λg z=>Uf (t g z)) (λv g z=>?_) B ?_ ?_ ?_ (λb hb _=>c b hb) (by simp[w']) rfl rfl rfl
 ·grind
 ·grind [gW]
 ·intro b hb _;exact upd_ne _ _ (by have:=inv.tag b hb;omega)
 ·intro b
  by_cases y:b=w.heap.size
  ·subst y;exact .inr (.inr (.inl ⟨upd_same _ _ _,aN0 inv,by simp[w']⟩))
  ·exact .inl (upd_ne _ _ y)
theorem zK{k:Nat}(b:σ.ar k=none)(gen:Nat):∀g,σ.hasA k g->g<gen:=λg ⟨en,h,_⟩=>by rw[b]at h;cases h
theorem Inv.eK2(inv:Inv T Φ σ a w G){k:Nat}(i:σ.ar k=none){g:AK}(f:g= .own\/g= .ap){cur:Array Value}{e:TypeId}(h:e<T.n e){l:List V}{cap n0:Nat}(b:l.length<=cap)(j:cap<=maxLen)(c:cur.size=cap*(T.row e).size)
 (q:∀x∈l,x.cells.length=(T.row e).size)(m:bM l)(p:RvL w G (cur.toList.take (l.length*(T.row e).size)) (l.flatMap V.cells)):
 ∃G',Inv T Φ (σ.apps [.a k ⟨0,g,e,l⟩]) a ({w with drawn:=n0}.alloc (.cells cur e)) G'/\G'.av k 0= .slice (some ⟨w.heap.size,0,none⟩) l.length cap:=
 inv.dC7 (zK i 0) f h b j c q m p
theorem chunk_ok(agg:Bool)(z:Nat):∀(n:Nat) (cs:List V),cs.length=n*z->(∀x∈cs,x.atom=true)->(agg=false->z=1)->
 (chunk agg z n cs).flatMap V.cells=cs/\(chunk agg z n cs).length=n/\(∀x∈chunk agg z n cs,x.cells.length=z)/\(∀(p:Nat->Prop) (q:Nat->Nat->Prop),V.okL p q cs->bM (chunk agg z n cs)):=by
 intro n
 induction n with
 |zero=>
  intro cs h _ _;have:cs=[] :=TD Fp;subst this;exact⟨rfl,rfl,λx hx=>Ht,λ_ _ _=>(by show V.okL _ _ [];simp only[V.okL])⟩
 |succ n v=>
  intro cs h c g;rw[TP]at h;have t:(cs.drop z).length=n*z:=by rw[RU];omega
  obtain⟨l,m,u,s⟩:=v (cs.drop z) t (λx hx=>c x (Rz hx)) g;have i:chunk agg z (n+1) cs=cD6 agg z cs::chunk agg z n (jX cs z):=rfl
  rw[i,lQ]
  cases agg with
  |true=>
   have e:cD6 true z cs= .agg (cs.take z):=by rw[<-aD3];rfl
   rw[e];refine⟨?_,by simp[m],?_,?_⟩
   ·rw[SS,l];exact SI z cs
   ·grind [V.cells]
   ·intro p q b
    refine aH.2 λx hx=>?_;rcases Rh.1 hx with rfl|hx
    ·grind [aH,aF8,RG,V.ok]
    ·exact aH.1 (s p q (aH.2 λy f=>aH.1 b y (Rz f))) x hx
  |false=>
   have k:=g rfl;subst k
   match cs,h with
   |x::r,h=>
    simp only[List.drop_succ_cons,List.drop_zero]at l m u s⊢;have e:cD6 false 1 (x::r)=x:=rfl;rw[e];have j:=bE1 (c x Af)
    refine⟨?_,by simp[m],?_,?_⟩
    ·rw[SS,l,j];rfl
    ·simp_all
    ·intro p q b
     refine aH.2 λy f=>?_;rcases Rh.1 f with rfl|f
     ·exact aF8 (c y Af) (aH.1 b y Af)
     ·exact aH.1 (s p q (aH.2 λy f=>aH.1 b y (by simp[f]))) y f
theorem dO5(b:bP T P){t:TypeId}(c:t<T.n t)(h:(T.row t).agg=false):(T.row t).size=1:=by
 obtain⟨i,e,f,g,z,j,k,l,m,p,q⟩:=(b t c).info;simp_all
theorem aQ0{k:Nat}{u:Value}(b:G.av k 0=u)(c:u.oneCell'=true):Rv w G u (.arr k 0):=by
 subst b;exact .arr k 0 c
theorem bG7(l:bP T P){t:TypeId}(s:t<T.n t)(j:(T.row t).kd= .slice)(r:(T.row t).elem<T.n (T.row t).elem){n:Nat}(g:¬(n*(T.row (T.row t).elem).size>2^24)){z:Value}(v:(zeroValue (T.row t).elem).run P w= .ok z w)(c:Array (Nat×Value)){b:Array Value}
 (k:Instr.fill (λi=>some (i*(T.row (T.row t).elem).size,(T.row (T.row t).elem).size)) ((Array.range (n*(T.row (T.row t).elem).size)).map (z.cells[·% z.cells.size]!)) c.toList=some b):
 (Instr.buildSlice t n c).run P w= .ok (.slice (some ⟨w.heap.size,0,none⟩) n n) (w.alloc (.cells b (T.row t).elem)):=by
 have u:=jW (l t s) j;unfold Instr.buildSlice;simp only[Sr,dI u,Rt,iV l r];rw[Q5 g];by_cases e:n*(T.row (T.row t).elem).size=0
 ·have m:∀f:Nat->Value,(Array.range (n*(T.row (T.row t).elem).size)).map f= #[] :=by rw[e];intro f;exact Array.size_eq_zero_iff.1 Af
  rw[m]at k;have q:∀f:Nat->Value,(Array.range 0).map f= #[] :=λf=>Array.size_eq_zero_iff.1 Af;simp only[e,TY,Sr,SQ,Rt,q,k];simp[newRow,newObj,Sem.run]
 ·simp only[e,Ul,Sr,v,SQ,Rt]
  rw[k];simp[newRow,newObj,Sem.run]
theorem aQ7(u:bP T P)(inv:Inv T Φ σ a w G)(t:TypeId)(n:Nat)(s:Array (Nat×Operand))(W:o.op= .buildSlice t n s)(E:t<T.n t)(h:iZ T (T.row t) σ d n s.toList K):Out T Φ σ a K ((execOp a.eval o).run P w):=by
 have k:(s.map λ(p:Nat×Operand)=>(p.1,a.eval p.2)).toList=s.toList.map λp=>(p.1,a.eval p.2):=Af;unfold iZ at h;split at h
 ·rename_i g R
  have hu:=jW (u t E) g;obtain⟨C,O⟩:=aT h;simp only[Ri]at C;obtain⟨⟨L,M⟩,N⟩:=C;have c:=blt L
  have q:=blt N;have U:n*(T.row (T.row t).elem).size<=1000:=by simpa using M
  obtain⟨z,Y,aa,Z,B⟩:=aC3 (w:=w) u c
  have ab:z.cells.size=(T.row (T.row t).elem).size:=by
   grind
  have m:V.okL σ.hasB σ.hasA (repR n (mapR V.lit (T.row (T.row t).elem).zero)):=by
   refine aH.2 λx X=>?_;have:=bA5 _ _ X
   grind [dU,dL]
  have A:RvL w G ((Array.range (n*(T.row (T.row t).elem).size)).map (z.cells[·% z.cells.size]!)).toList (repR n (mapR V.lit (T.row (T.row t).elem).zero)):=by
   grind [cG7,dU,cH9,aM4,bA5]
  obtain⟨b,e,H,I,q3,q4,q5⟩:=bL4 inv (place':=λi=>some (i*(T.row (T.row t).elem).size,(T.row (T.row t).elem).size)) s.toList _ _ (λ_ _ _ h=>h) A m O;obtain⟨J,Q⟩:=aT q5;have j:e.length=n*(T.row (T.row t).elem).size:=by rw[q4,cH6,dU,Rl,B]
  obtain⟨k1,F,k3,k4⟩:=chunk_ok (T.row (T.row t).elem).agg (T.row (T.row t).elem).size n e j (dY.1 J) (λS=>dO5 u c S);have f:b.size=n*(T.row (T.row t).elem).size:=by have:=I.len;simp at this;omega
  have D:n<=1000:=Ro (Nat.le_mul_of_pos_right n q) U
  obtain⟨G',r,v⟩:=inv.eK2 R (.inl rfl) c (cur:=b) (l:=chunk (T.row (T.row t).elem).agg (T.row (T.row t).elem).size n e) (cap:=n) (n0:=w.drawn) Aa CB f k3 (k4 _ _ q3)
   (by rw[k1,F,<-f,Ug (by simp)];exact I)
  refine⟨.slice (some ⟨w.heap.size,0,none⟩) n n,w.alloc (.cells b (T.row t).elem),_,_,G', .inl ?_,Q,r,aQ0 (by rw[v,F]) rfl,?_⟩
  ·have y:¬(n*(T.row (T.row t).elem).size>2^24):=by omega
   rw[<-k]at H;simp only[execOp,W,Sr,bG7 u E g c y Y _ H,Rt,SQ]
  ·exact JW
 ·exact h.elim
theorem bL2(n:Nat)(x:V):(List.replicate n x).flatMap V.cells=repR n x.cells:=by
 induction n with
 |zero=>rfl
 |succ n b=>
  have:repR (n+1) x.cells=appR x.cells (repR n x.cells):=rfl;rw[this,bT,List.replicate_succ,SS,b]
theorem cX4(c:bP T P){e:TypeId}(f:e<T.n e):(rU (T.row e) (mapR V.lit (T.row e).zero)).cells=(T.row e).zero.map V.lit/\(rU (T.row e) (mapR V.lit (T.row e).zero)).pure:=by
 obtain⟨i,h,j,k,z,l,m,p,q,r,b⟩:=(c e f).info;rw[dU];unfold rU;split
 ·exact⟨rfl,by simp only[V.pure,V.ok];exact bC6⟩
 ·rename_i g
  rw[b g];exact⟨rfl,by simp only[Rq,SC,V.pure,V.ok]⟩
theorem bM9(g:bP T P){t:TypeId}(v:t<T.n t)(j:(T.row t).kd= .slice)(l:(T.row t).elem<T.n (T.row t).elem){n:Nat}(C:n*(T.row (T.row t).elem).bytes<=140737488355328)(u:n<=140737488355328){z:Value}(y:(zeroValue (T.row t).elem).run P w= .ok z w):
 ∃b:Array Value,b=((Array.range (n*(T.row (T.row t).elem).size)).map (z.cells[·% z.cells.size]!))/\
 (Instr.makeSlice t (.int .i64 n) (.int .i64 n)).run P w= .ok (.slice (some ⟨w.heap.size,0,none⟩) n n) (w.alloc (.cells b (T.row t).elem)):=by
 have x:=jW (g t v) j;obtain⟨i,s,A,k,_⟩:=(g _ l).info;refine⟨_,rfl,?_⟩;have c:IntKind.i64.wrap (n:Int)=n:=IntWalk.i64_in _ Aa
 have B:((i.bytes:Int)*(n:Int))<=140737488355328:=by rw[k,Int.mul_comm];omega
 unfold Instr.makeSlice;simp only[Sr,dI x,Rt,asInt,asIntOf,SQ,cO9 s,c]
 have m:(decide ((n:Int)<0)||decide ((i.bytes:Int)*(n:Int)>2^48)||decide ((n:Int)<0)||decide ((n:Int)>(n:Int)))=false:=by
  grind
 rw[Q5 (by rw[m];simp)]
 have q:¬(n*i.bytes>roomBytes):=by rw[k];simp only[roomBytes];omega
 simp only[Sz,askRoom,Q5 q,SQ,Rt,iV g l,Sr];by_cases e:n*(T.row (T.row t).elem).size=0
 ·have r:∀f:Nat->Value,(Array.range 0).map f= #[] :=λf=>Array.size_eq_zero_iff.1 Af
  simp only[e,TY,r];simp[newRow,newObj,Sem.run]
 ·simp only[e,Ul,Sr,y,SQ,Rt]
  simp[newRow,newObj,Sem.run]
theorem aY6(j:bP T P)(inv:Inv T Φ σ a w G)(t:TypeId)(x y:Operand)(J:o.op= .makeSlice t x y)(M:t<T.n t)(h:jY T (T.row t) σ d (σ.ev x) (σ.ev y) K):Out T Φ σ a K ((execOp a.eval o).run P w):=by
 obtain⟨E,x2⟩:=inv.ev x;obtain⟨F,y2⟩:=inv.ev y;unfold jY at h;split at h
 ·rename_i n c s I N O
  rw[N]at E;rw[O]at F;obtain⟨⟨n0,W,Y,Z⟩,H⟩:=dX h;obtain⟨q,C⟩:=aT H;simp only[Ri]at q;have i:=blt q.1;have L:=blt q.2
  subst W;obtain⟨m,rfl⟩:=Int.eq_ofNat_of_zero_le n0;rw[Sz]at C;obtain⟨z,Q,S,R,B⟩:=aC3 (w:=w) j i
  have U:z.cells.size=(T.row (T.row t).elem).size:=by
   grind
  obtain⟨b,r,f⟩:=bM9 (w:=w) j M s i (n:=m) Aa Aa Q;obtain⟨D,X⟩:=cX4 j i;have e:b.size=m*(T.row (T.row t).elem).size:=by rw[r];simp
  have v:RvL w G b.toList (repR m ((T.row (T.row t).elem).zero.map V.lit)):=by
   grind [cG7,cH9,aM4,bA5]
  obtain⟨G',g,k⟩:=inv.eK2 I (.inl rfl) i (cur:=b) (l:=List.replicate m (rU (T.row (T.row t).elem) (mapR V.lit (T.row (T.row t).elem).zero))) (cap:=m) (n0:=w.drawn) Af CB e
   (by intro u A;obtain⟨_,rfl⟩:=List.mem_replicate.1 A;rw[D];simpa using B)
   (aH.2 λu A=>by obtain⟨_,rfl⟩:=List.mem_replicate.1 A;exact X)
   (by rw[bL2,D,List.length_replicate,<-e,Ug (by simp)];exact v)
  refine⟨.slice (some ⟨w.heap.size,0,none⟩) m m,w.alloc (.cells b (T.row t).elem),_,_,G', .inl ?_,C,g,aQ0 (by rw[k,List.length_replicate]) rfl,?_⟩
  ·simp only[execOp,J,E.bH,F.bH,Sr,f,Rt,SQ]
  ·exact JW
 ·exact h.elim
end
section
variable{T:Tab}{P:Program}{Φ:Fr}{σ:St}{a:Act}{w:World}{G:Gh}{K:VK}{o:Oper}{d:Nat}
def Src(w:World)(G:Gh)(v:Value)(xs:List V):Prop:=
 (v= .slice none 0 0/\xs=[])\/∃ad c sz,v= .slice (some ad) xs.length c/\xs.length<=c/\c<=maxLen/\(∀x∈xs,x.cells.length=sz)/\Here w G ad (xs.flatMap V.cells)
theorem Rv.src{v:Value}{l:List V}(h:Rv w G v (.sl l)):Src w G v l:=by
 exact Ph
theorem aV9(inv:Inv T Φ σ a w G)(x:Operand){K:List V->Prop}(h:lF σ (σ.ev x) K):∃xs,K xs/\bM xs/\Src w G (a.eval x) xs:=by
 obtain⟨b,e⟩:=inv.ev x;unfold lF at h;split at h
 ·rename_i l c
  rw[c]at b e;simp only[V.ok]at e;exact⟨l,h,e,b.src⟩
 ·rename_i l c
  rw[c]at b e;simp only[V.ok]at e;exact⟨l,h,e,b.wK.src⟩
 ·rename_i c
  rw[c]at b;exact⟨[],h,Cb, .inl ⟨b.bH,rfl⟩⟩
 ·rename_i k g c
  rw[c]at b;split at h
  ·rename_i en f
   obtain⟨⟨m,j⟩,i⟩:=dX h;subst m;refine⟨en.l,i,inv.wfA k en f,?_⟩;have:=(inv.arr k en f).reads j;rw[b.oQ];exact this
  ·exact h.elim
 ·exact h.elim
theorem Src.news{v:Value}{xs:List V}{z:Nat}(h:Src w G v xs)(q:∀x∈xs,x.cells.length=z):∃b:List Value,b.length=xs.length*z/\RvL w G b (xs.flatMap V.cells)/\
 ((v= .slice none 0 0/\xs=[])\/∃g c,v= .slice (some g) xs.length c/\∀j u,b[j]? =some u->w.cell? (g.add j)=some u):=by
 rcases h with⟨i,k⟩|⟨g,c,sz,i,k,r,s,m⟩
 ·subst k
  exact⟨[],Af,⟨rfl,(λ_ h=>Ah),(λ_ _ _ h=>Hw)⟩, .inl ⟨i,rfl⟩⟩
 ·obtain⟨cc,l,t⟩:=m.out
  have n:=sH q;refine⟨(List.range (xs.flatMap V.cells).length).map cc,by rw[Rl,List.length_range,n],⟨Af,?_,?_⟩, .inr ⟨g,c,i,?_⟩⟩
  ·intro u e
   obtain⟨j,f,rfl⟩:=Ru.1 e;rw[SH]at f;exact(l j _ (QS f)).2
  ·grind
  ·intro j u e
   rw[RD]at e;by_cases f:j< (xs.flatMap V.cells).length
   ·rw[List.getElem?_range f]at e
    simp at e;subst e;exact(l j _ (QS f)).1
   ·simp_all
structure AppSrc(P:Program)(w:World)(t':TypeId)(v:Value)(n sz:Nat)(news:List Value):Prop where
 ty:P.underlying t'=some .string\/∃e',P.underlying t'=some (.slice e')
 len:∀w':World,(Builtin.lenOf v).run P w'= .ok n w'
 fst:∀w':World,w'.heap=w.heap->(Builtin.firstCells sz n v).run P w'= .ok news.toArray w'
theorem app_none{t g ty e:TypeId}{i:TypeInfo}(m:P.underlying t=some (.slice e))(hi:P.info? e=some i)(b:Option Addr){n c:Nat}(l:n<=c){v:Value}(h:AppSrc P w g v 0 i.size []):
 (Builtin.append_ #[t,g] ty #[.slice b n c,v]).run P w= .ok (.slice b n c) w:=by
 have j:=h.fst w rfl;have k:=h.len w
 rcases h.ty with f|⟨p,f⟩<;>cases b<;>simp[Builtin.append_,Rw m,Rw f,sizeOf,typeInfo,hi,k,j,l,storeCells]
theorem app_nil{t j ty e:TypeId}{i:TypeInfo}{z:Value}(u:P.underlying t=some (.slice e))(hi:P.info? e=some i)(x:i.zero=some z){n:Nat}{v:Value}{b:List Value}(h:AppSrc P w j v n i.size b)
 (k:0<n)(m:(n:Int)<=9223372036854775807)(l:n*i.bytes<=281474976710656):
 (Builtin.append_ #[t,j] ty #[.slice none 0 0,v]).run P w=
  .ok (.slice (some ⟨w.heap.size,0,none⟩) n (grownCap w n 0 e)) (w.drew.alloc (.cells (b.toArray++Builtin.zeroCells z.cells (grownCap w n 0 e-n)) e)):=by
 have s:n≠0:=Aa;have f:¬(9223372036854775807< (n:Int)):=Aa
 have c:¬(281474976710656<Builtin.nextslicecap n 0*i.bytes):=by rw[nextslicecap_zero k];omega
 have q:=h.fst w.drew rfl;have r:=h.len w
 rcases h.ty with g|⟨y,g⟩<;>simp[Builtin.append_,Rw u,Rw g,sizeOf,typeInfo,zeroValue,hi,x,r,s,f,c,Question.forced,run_firstCells_none,q,newRow,grownCap]
theorem app_grow{t y ty e:TypeId}{i:TypeInfo}{z:Value}(E:P.underlying t=some (.slice e))(hi:P.info? e=some i)(F:i.zero=some z)
 (b:Addr)(c f:Nat)(g:List Value)(s:g.length=c*i.size)(l:∀j v,g[j]? =some v->w.cell? (b.add j)=some v)
 {n:Nat}{v:Value}{k:List Value}(h:AppSrc P w y v n i.size k)
 (I:f<c+n)(A:((c+n:Nat):Int)<=9223372036854775807)(u:Builtin.nextslicecap (c+n) f*i.bytes<=281474976710656):
 (Builtin.append_ #[t,y] ty #[.slice (some b) c f,v]).run P w=
  .ok (.slice (some ⟨w.heap.size,0,none⟩) (c+n) (grownCap w (c+n) f e))
   (w.drew.alloc (.cells (g.toArray++k.toArray++Builtin.zeroCells z.cells (grownCap w (c+n) f e- (c+n))) e)):=by
 have D:¬(c+n<=f):=Aa;have q:¬(9223372036854775807< ((c:Int)+(n:Int))):=Aa
 have m:¬(281474976710656<Builtin.nextslicecap (c+n) f*i.bytes):=Aa;have B:=h.fst w.drew rfl
 have C:=h.len w;have r:=run_firstCells_some (P:=P) w.drew i.size c b c f g s (by simpa using l)
 rcases h.ty with x|⟨H,x⟩
 all_goals
  simp[Builtin.append_,Rw E,Rw x,sizeOf,typeInfo,zeroValue,hi,F,C,D,q,m,Question.forced,B,r,newRow,grownCap];congr 2;apply Array.ext';simp[SE]
theorem app_room{t p ty e:TypeId}{i:TypeInfo}(y:P.underlying t=some (.slice e))(hi:P.info? e=some i)
 (g b f:Nat)(cur:Array Value)(s:w.heap[g]? =some (.cells cur e (0,0)))
 {m:Nat}{v:Value}{c:List Value}(h:AppSrc P w p v m i.size c)(q:∀u∈c,u.oneCell'=true)
 (j:b+m<=f)(k:b*i.size+c.length<=cur.size):
 (Builtin.append_ #[t,p] ty #[.slice (some ⟨g,0,none⟩) b f,v]).run P w=
  .ok (.slice (some ⟨g,0,none⟩) (b+m) f) (w.setRow g (cur.toList.take (b*i.size)++c++cur.toList.drop (b*i.size+c.length)).toArray):=by
 have r:=h.fst w rfl;have x:=h.len w
 have l:=run_storeCells_at P g (b*i.size) e c 0 cur w s (by simpa using k) q
 simp only[TM]at l;rcases h.ty with n|⟨z,n⟩<;>simp[Builtin.append_,Rw y,Rw n,sizeOf,typeInfo,hi,x,j,r,Addr.add_lit,l]
def ASrc(P:Program)(w:World)(G:Gh)(t':TypeId)(v:Value)(sz:Nat)(xs:List V):Prop:=
 ∃news:List Value,news.length=xs.length*sz/\RvL w G news (xs.flatMap V.cells)/\AppSrc P w t' v xs.length sz news
theorem Src.app{k f:TypeId}(p:P.underlying k=some (.slice f)){v:Value}{xs:List V}{z:Nat}(h:Src w G v xs)(r:∀x∈xs,x.cells.length=z):ASrc P w G k v z xs:=by
 obtain⟨b,g,s,i⟩:=h.news r;refine⟨b,g,s, .inr ⟨f,p⟩,λw'=>?_,λw' q=>?_⟩
 ·rcases i with⟨rfl,rfl⟩|⟨e,c,rfl,_⟩<;>simp[Builtin.lenOf]
 ·rcases i with⟨rfl,rfl⟩|⟨e,c,rfl,l⟩
  ·simp_all [RH,Builtin.firstCells]
  ·have m:∀a:Addr,w'.cell? a=w.cell? a:=λa=>by unfold World.cell?;rw[q]
   exact run_firstCells_some (P:=P) w' z xs.length e xs.length c b g (λj u n=>by rw[m];exact l j u n)
theorem str_app{f:TypeId}(j:P.underlying f=some .string)(s:ByteArray){z:Nat}(e:∀x∈strV s,x.cells.length=z):ASrc P w G f (.string s) z (strV s):=by
 have g:(strV s).flatMap V.cells=(s.data.toList.map λb=>Value.int .u8 b.toNat).map .lit:=by
  unfold strV;rw[Ur]
  induction s.data.toList with
  |nil=>rfl
  |cons b l k=>rw[Rq,SS,k];rfl
 have c:(strV s).length=s.size:=Ei;refine⟨s.data.toList.map λb=>Value.int .u8 b.toNat,?_,?_, .inl j,λw'=>?_,λw' _=>?_⟩
 ·unfold strV at e⊢
  cases i:s.data.toList with
  |nil=>simp
  |cons b l=>
   have:=e (.lit (.int .u8 b.toNat)) (by rw[i];simp)
   grind [QY,V.cells]
 ·rw[g]
  exact aM4 (λv hv=>by obtain⟨b,_,rfl⟩:=Ru.1 hv;rfl)
 ·rw[c];simp[Builtin.lenOf]
 ·rw[c]
  simp[Builtin.firstCells];apply Array.ext';simp
theorem cV9(hT:bP T P)(inv:Inv T Φ σ a w G){t t':TypeId}(ht:t<T.n t)(ay:(T.row t).kd= .slice)(he:(T.row t).elem<T.n (T.row t).elem)(ty:TypeId){k gen:Nat}(ag:∀g,σ.hasA k g->g<gen){F:AK}{u v:Value}{l xs:List V}
 (Y:bM l)(a7:bM xs)(am:ASrc P w G t' v (T.row (T.row t).elem).size xs)(Z:∀x∈l,x.cells.length=(T.row (T.row t).elem).size)(hz:∀x∈xs,x.cells.length=(T.row (T.row t).elem).size)(hb:(l.length+xs.length)*(T.row (T.row t).elem).bytes<=140737488355328)(a5:l.length+xs.length<=140737488355328)
 (R:(gJ T w G k u (T.row t).elem l/\(F= .own\/F= .ap))\/(Rv w G u (.cap l)/\F= .ap)):
 ∃B w' G',(Builtin.append_ #[t,t'] ty #[u,v]).run P w= .ok B w'/\Inv T Φ (σ.apps [.a k ⟨gen,F,(T.row t).elem,l++xs⟩]) a w' G'/\G'.av k gen=B/\B.oneCell'=true:=by
 have az:F= .own\/F= .ap:=by rcases R with⟨_,h⟩|⟨_,h⟩<;>first|exact h|exact .inr h
 have ah:bM (l++xs):=aH.2 λx hx=>by
  grind [aH]
 have ao:∀x∈l++xs,x.cells.length=(T.row (T.row t).elem).size:=λx hx=>by
  grind
 obtain⟨r,n1,n2,n3⟩:=am;obtain⟨i,i1,i2,i3,z,i4,i5,i6,i7,i8,i9⟩:=(hT _ he).info;have S:=jW (hT t ht) ay
 have a3:z.cells.size=i.size:=by
  grind
 have same:xs=[]->(Builtin.append_ #[t,t'] ty #[u,v]).run P w= .ok u w->u.oneCell'=true->gW T w G k ⟨gen,F,(T.row t).elem,l⟩\/True->∃B w' G',(Builtin.append_ #[t,t'] ty #[u,v]).run P w= .ok B w'/\Inv T Φ (σ.apps [.a k ⟨gen,F,(T.row t).elem,l++xs⟩]) a w' G'/\G'.av k gen=B/\B.oneCell'=true:=by
  intro a2 Q H _;subst a2;refine⟨u,w,{G with av:=λA g=>if A=k/\g=gen then u else G.av A g,O:=G.O},Q,?_,Af,H⟩
  have M:Keep w w G {G with av:=λA g=>if A=k/\g=gen then u else G.av A g,O:=G.O}:=⟨λ_ h=>h,λ_ _=>rfl⟩
  refine inv.zU (w':=w) (k:=k) (en:=⟨gen,F,(T.row t).elem,l++[]⟩) (λg hg=>Uf (ag g hg)) (λA g hg=>?_) (by rw[Rn];exact Y) ?_ (λ_ _ _=>rfl) (λ_=> .inl rfl) (λ_ _ _=>rfl) (QV _) rfl rfl rfl
  ·grind
  ·rw[Rn]
   have ab:(λA g=>if A=k/\g=gen then u else G.av A g) k gen=u:=Af
   unfold gW;rcases R with⟨h,rfl|rfl⟩|⟨h,rfl⟩
   ·show _/\gJ _ _ _ _ ((λA g=>if A=k/\g=gen then u else G.av A g) k gen) _ _;rw[ab];exact⟨he,h.keep M Y (λb hb=>⟨hb,rfl⟩)⟩
   ·show _/\(gJ _ _ _ _ ((λA g=>if A=k/\g=gen then u else G.av A g) k gen) _ _\/_);rw[ab];exact⟨he, .inl (h.keep M Y (λb hb=>⟨hb,rfl⟩))⟩
   ·refine⟨he, .inr ⟨?_,Z⟩⟩;show Rv _ _ ((λA g=>if A=k/\g=gen then u else G.av A g) k gen) _;rw[ab];exact h.aW M (by simp only[V.pure,V.ok];exact Y)
 have aa:∀(f:List Value) (m:Nat),RvL w G f (l.flatMap V.cells)->l.length+xs.length<=m->m<=maxLen->
  (Builtin.append_ #[t,t'] ty #[u,v]).run P w= .ok (.slice (some ⟨w.heap.size,0,none⟩) (l.length+xs.length) m) (w.drew.alloc (.cells (f.toArray++r.toArray++Builtin.zeroCells z.cells (m- (l.length+xs.length))) (T.row t).elem))->
  ∃B w' G',(Builtin.append_ #[t,t'] ty #[u,v]).run P w= .ok B w'/\Inv T Φ (σ.apps [.a k ⟨gen,F,(T.row t).elem,l++xs⟩]) a w' G'/\G'.av k gen=B/\B.oneCell'=true:=by
  intro f m ho aw ax Q;have al:f.length=l.length*(T.row (T.row t).elem).size:=by rw[ho.len,sH Z]
  have ac:(f++r).length=(l++xs).length*(T.row (T.row t).elem).size:=by rw[QU,al,n1,QU,Nat.add_mul]
  obtain⟨G',aq,U⟩:=inv.dC7 (n0:=w.drawn+1) ag az he (cur:=f.toArray++r.toArray++Builtin.zeroCells z.cells (m- (l.length+xs.length))) (l:=l++xs) (cap:=m) (by simpa using aw) ax
   (by simp only[UE,Tf,size_zeroCells,a3,al,n1,i2,<-Nat.add_mul];congr 1;omega) ao ah
   (by
    rw[<-ac,TS];have:(f.toArray++r.toArray++Builtin.zeroCells z.cells (m- (l.length+xs.length))).toList=(f++r)++(Builtin.zeroCells z.cells (m- (l.length+xs.length))).toList:=Af;rw[this,List.take_left];exact ho.append n2)
  exact⟨_,_,G',Q,aq,by rw[U];simp,rfl⟩
 have au:((l.length+xs.length:Nat):Int)<=9223372036854775807:=Aa;have ai:∀old,old<l.length+xs.length->Builtin.nextslicecap (l.length+xs.length) old*i.bytes<=281474976710656:=λold h=>growslice_fits h (by rw[i3];exact hb)
 have aj:∀old,grownCap w (l.length+xs.length) old (T.row t).elem<=maxLen:=λold=>grownCap_le_maxLen w _ _ _ CB;rw[<-i2]at n3
 have empty:xs=[]->∀(b:Option Addr) (n c:Nat),n<=c->(Builtin.append_ #[t,t'] ty #[.slice b n c,v]).run P w= .ok (.slice b n c) w:=by
  rintro rfl b n c a6;grind [RH,app_none]
 by_cases hx0:xs=[]
 ·
  rcases R with⟨N,af⟩|⟨J,af⟩
  ·rcases N with⟨rfl|⟨a0,rfl⟩,rfl⟩|⟨b,cap,cur,rfl,I,h3,h4,h5,h6,h7,h8⟩
   ·exact MP
   ·exact same hx0 (empty hx0 (some a0) 0 0 (QV _)) rfl (.inr trivial)
   ·exact same hx0 (empty hx0 _ _ _ h4) rfl (.inr trivial)
  ·rcases J.vP with⟨rfl,_⟩|⟨ad,sz,cc,rfl,_⟩
   ·exact MP
   ·exact same hx0 (empty hx0 _ _ _ (QV _)) rfl (.inr trivial)
 ·have an:0<xs.length:=List.length_pos_iff.2 hx0
  have C:u= .slice none 0 0->l=[]->∃B w' G',(Builtin.append_ #[t,t'] ty #[u,v]).run P w= .ok B w'/\Inv T Φ (σ.apps [.a k ⟨gen,F,(T.row t).elem,l++xs⟩]) a w' G'/\G'.av k gen=B/\B.oneCell'=true:=by
   rintro rfl rfl;have hr:=app_nil (ty:=ty) S i1 i4 n3 an Aa (by rw[i3];simp at hb;omega)
   refine aa [] (grownCap w xs.length 0 (T.row t).elem) ⟨rfl,(λ_ h=>Ah),(λ_ _ _ h=>Hw)⟩ (by simpa using grownCap_ge w xs.length 0 _) (by simpa using aj 0) ?_
   rw[hr];simp
  have s:∀(b:Addr) (cap:Nat) (f:List Value),u= .slice (some b) l.length cap->RvL w G f (l.flatMap V.cells)->(∀j v,f[j]? =some v->w.cell? (b.add j)=some v)->cap<l.length+xs.length->
   ∃B w' G',(Builtin.append_ #[t,t'] ty #[u,v]).run P w= .ok B w'/\Inv T Φ (σ.apps [.a k ⟨gen,F,(T.row t).elem,l++xs⟩]) a w' G'/\G'.av k gen=B/\B.oneCell'=true:=by
   rintro b cap f rfl ho ae ak;have hr:=app_grow (ty:=ty) S i1 i4 b l.length cap f (by rw[ho.len,sH Z,i2]) ae n3 ak au (ai cap ak)
   exact aa f _ ho (grownCap_ge w _ _ _) (aj cap) hr
  rcases R with⟨N,af⟩|⟨J,af⟩
  ·rcases N with⟨H|⟨a0,H⟩,I⟩|⟨b,cap,cur,H,I,h3,h4,h5,h6,h7,h8⟩
   ·exact C H I
   ·exact s a0 0 [] (by rw[H,I];rfl) (by rw[I];exact⟨rfl,(λ_ h=>by cases h),(λ_ _ _ h=>by simp at h)⟩) (λj v h=>Hw) (by rw[I];simpa using an)
   ·have X:∀j v,(cur.toList.take (l.length*(T.row (T.row t).elem).size))[j]? =some v->w.cell? ((⟨b,0,none⟩:Addr).add j)=some v:=by
     intro j v hv;rw[rY,Tm,cell_of_row w b j cur _ _ h3];grind
    by_cases D:l.length+xs.length<=cap
    ·
     subst H;have L:l.length*i.size+r.length<=cur.size:=by rw[n1,h6,i2,<-Nat.add_mul];exact UJ _ D
     have hr:=app_room (ty:=ty) S i1 b l.length cap cur h3 n3 n2.one D L;rw[i2]at hr L
     let E:=(cur.toList.take (l.length*(T.row (T.row t).elem).size)++r++cur.toList.drop (l.length*(T.row (T.row t).elem).size+r.length)).toArray
     let w':=w.setRow b E
     let av':Nat->Nat->Value:=λA g=>if A=k/\g=gen then .slice (some ⟨b,0,none⟩) (l.length+xs.length) cap else G.av A g
     have U:av' k gen= .slice (some ⟨b,0,none⟩) (l.length+xs.length) cap:=I5;have M:Keep w w' G {G with av:=av',O:=G.O}:=⟨λ_ h=>h,λb' W=>Ti w b b' _ (λe=>by subst e;rw[I]at W;cases W)⟩
     have a4:(cur.toList.take (l.length*(T.row (T.row t).elem).size)).length=l.length*(T.row (T.row t).elem).size:=by rw[h8.len,sH Z]
     have a1:gJ T w' {G with av:=av',O:=G.O} k (av' k gen) (T.row t).elem (l++xs):=by
      refine .inr ⟨b,cap,E,by rw[U];simp,I,TB w b cur E _ _ h3,by simpa using D,h5,?_,ao,?_⟩
      ·grind
      ·have e1:E.toList.take ((l++xs).length*(T.row (T.row t).elem).size)=cur.toList.take (l.length*(T.row (T.row t).elem).size)++r:=by
        grind [QU,Nat.add_mul,List.take_left]
       rw[e1,TS];refine(h8.append n2).keep M (p:=λ_=>False) (q:=λ_ _=>False) ?_ (λ_ h=>h.elim) (λ_ _ h=>h.elim);rw[<-TS];refine aH.2 λy hy=>?_;obtain⟨j,hj⟩:=Rx hy;exact dF ah hj
     refine⟨_,w',{G with av:=av',O:=G.O},hr,?_,U,rfl⟩
     refine inv.zU (w':=w') (k:=k) (en:=⟨gen,F,(T.row t).elem,l++xs⟩) (av':=av') (O':=G.O) (λg hg=>Uf (ag g hg)) (λA g hg=>?_) ah ?_ (λ_ _ _=>rfl) (λ_=> .inl rfl)
      (λb' _ W=>Ti w b b' _ (λe=>by subst e;exact W I)) GU rfl rfl rfl
     ·grind
     ·grind [gW]
    ·exact s ⟨b,0,none⟩ cap _ H h8 X Aa
  ·rcases J.vP with⟨H,I⟩|⟨ar,sz,cc,H,I,h3,h4,h5,h6⟩
   ·exact C H I
   ·refine s ar l.length ((List.range (l.flatMap V.cells).length).map cc) H ⟨Af,?_,?_⟩ ?_ Aa
    ·intro u R
     obtain⟨j,hj,rfl⟩:=Ru.1 R;rw[SH]at hj;exact(h5 j _ (QS hj)).2
    ·grind
    ·intro j u R
     rw[RD]at R;by_cases hj:j< (l.flatMap V.cells).length
     ·rw[List.getElem?_range hj]at R
      simp at R;subst R;exact(h5 j _ (QS hj)).1
     ·simp_all
theorem contsK_sound(i:bP T P)(inv:Inv T Φ σ a w G){c:TypeId}(e:c<T.n c)(x:Operand){K:List V->Prop}(h:contsK (T.row c).kd σ (σ.ev x) K):∃xs,K xs/\bM xs/\∀z,(∀x∈xs,x.cells.length=z)->ASrc P w G c (a.eval x) z xs:=by
 unfold contsK at h;split at h
 ·rename_i b
  obtain⟨xs,f,j,k⟩:=aV9 inv x h;exact⟨xs,f,j,λz g=>k.app (jW (i c e) b) g⟩
 ·rename_i s b l
  have f:=(inv.ev x).1;rw[l]at f;refine⟨_,h,?_,λz g=>?_⟩
  ·grind [aH,dL,strV]
  ·rw[f.bH]
   exact str_app (aF2 (i c e) b) s g
 ·exact h.elim
theorem dV0{k:Kd}(h:dG6 k=true):k= .slice:=by cases k<;>first|rfl|cases h
theorem cB7(hT:bP T P)(inv:Inv T Φ σ a w G)(t I:TypeId)(s x:Operand)(ho:o.op= .call ⟨.builtin .append,⟨[s,x]⟩,⟨[t,I]⟩⟩)(ht:t<T.n t)(Y:I<T.n I)(h:kT T (T.row t) (T.row I).kd σ d (σ.ev s) (σ.ev x) K):Out T Φ σ a K ((execOp a.eval o).run P w):=by
 obtain⟨H,s2⟩:=inv.ev s
 have ab:(T.row t).kd= .slice->∀(J:Value) (w':World),(Builtin.append_ #[t,I] o.type #[a.eval s,a.eval x]).run P w= .ok J w'->(execOp a.eval o).run P w= .ok (.value J) w':=by
  intro f J w' X;simp only[execOp,ho,resolve,invoke,builtin,Sr,SQ,Rt,List.map_toArray,Rq,SC,X]
 have q:∀(k gen:Nat) (Q:AK) (l xs:List V),(∀g,σ.hasA k g->g<gen)->bM l->bM xs->(T.row t).kd= .slice->(T.row t).elem<T.n (T.row t).elem->ASrc P w G I (a.eval x) (T.row (T.row t).elem).size xs->(∀x∈l,x.cells.length=(T.row (T.row t).elem).size)->(∀x∈xs,x.cells.length=(T.row (T.row t).elem).size)->
  (l.length+xs.length)*(T.row (T.row t).elem).bytes<=140737488355328->l.length+xs.length<=140737488355328->((gJ T w G k (a.eval s) (T.row t).elem l/\(Q= .own\/Q= .ap))\/(Rv w G (a.eval s) (.cap l)/\Q= .ap))->
  K (.arr k gen) [.a k ⟨gen,Q,(T.row t).elem,l++xs⟩]->Out T Φ σ a K ((execOp a.eval o).run P w):=by
  intro k gen Q l xs z W j f E N aa hz hb U hu hk;obtain⟨J,w',G',X,O,S,h1⟩:=cV9 hT inv ht f E o.type z W j N aa hz hb U hu;refine⟨J,w',_,_,G', .inl (ab f J w' X),hk,O,?_,?_⟩
  ·subst S;exact .arr k gen h1
  ·exact JW
 unfold kT at h;split at h
 ·rename_i f
  obtain⟨hc,h2⟩:=aT h;simp only[Ri]at hc;have E:=blt hc.1;obtain⟨xs,r,j,e⟩:=contsK_sound hT inv Y x h2;split at r
  ·rename_i M
   rw[M]at H;split at r
   ·rename_i R
    obtain⟨⟨B,C,m⟩,D⟩:=dX r;exact q d 0 .own [] xs (zK R 0) Cb j f E (e _ m) (λx hx=>Ht) m (by simpa using B) (by simpa using C) (.inl ⟨.inl ⟨.inl H.bH,rfl⟩, .inl rfl⟩) (by simpa using D)
   ·exact r.elim
  ·rename_i l M
   rw[M]at H s2;split at r
   ·rename_i R
    obtain⟨⟨B,C,m⟩,D⟩:=dX r;simp only[V.ok]at s2
    cases l with
    |nil=>
     have hn:Nil0 (a.eval s):=by
      rcases H.vP with⟨h,_⟩|⟨ad,sz,cc,h,_⟩
      ·exact .inl h
      ·exact .inr ⟨ad,h⟩
     exact q d 0 .own [] xs (zK R 0) Cb j f E (e _ λx hx=>m x BI) (λx hx=>Ht) (λx hx=>m x BI) B C (.inl ⟨.inl ⟨hn,rfl⟩, .inl rfl⟩) D
    |cons y l=>
    exact q d 0 .ap (y::l) xs (zK R 0) s2 j f E (e _ λx hx=>m x (QX.2 (.inr hx))) (λx hx=>m x (QX.2 (.inl hx))) (λx hx=>m x (QX.2 (.inr hx))) B C (.inr ⟨H,rfl⟩) D
   ·exact r.elim
  ·rename_i k g M
   rw[M]at H;split at r
   ·rename_i en v
    obtain⟨⟨hg,i,Z,B,C,m⟩,D⟩:=dX r;subst hg;have c:=inv.arr k en v;have z:∀g,σ.hasA k g->g<en.gen+1:=λg ⟨ac,q1,q2⟩=>by rw[v]at q1;cases q1;omega
    have F:=H.oQ;unfold gW at c;rw[Z]at c
    have A:∀ {u:Value},gJ T w G k u (T.row t).elem en.l->∀x∈en.l,x.cells.length=(T.row (T.row t).elem).size:=by
     intro u L x hx;rcases L with⟨_,h⟩|⟨b,cap,cur,_,_,_,_,_,_,h7,_⟩
     ·rw[h]at hx;cases hx
     ·exact h7 x hx
    rcases i with i|i
    ·rw[i]at c
     exact q k (en.gen+1) en.kind en.l xs z (inv.wfA k en v) j f E (e _ m) (A c.2) m B C (.inl ⟨by rw[F];exact c.2, .inl i⟩) D
    ·rw[i]at c
     rcases c.2 with c|c
     ·exact q k (en.gen+1) en.kind en.l xs z (inv.wfA k en v) j f E (e _ m) (A c) m B C (.inl ⟨by rw[F];exact c, .inr i⟩) D
     ·exact q k (en.gen+1) en.kind en.l xs z (inv.wfA k en v) j f E (e _ m) c.2 m B C (.inr ⟨by rw[F];exact c.1,i⟩) D
   ·exact r.elim
  ·exact r.elim
 ·exact h.elim
end
section
variable{T:Tab}{P:Program}{Φ:Fr}{σ:St}{a:Act}{w:World}{G:Gh}{K:VK}{o:Oper}{d:Nat}
theorem cL9{xs:List V}{sz:Nat}(g:∀x∈xs,x.cells.length=sz){l h:Nat}(j:Nat){y:V}(k:(((xs.take h).drop l).flatMap V.cells)[j]? =some y):(xs.flatMap V.cells)[l*sz+j]? =some y:=by
 have c:xs.take h=(xs.take h).take l++(xs.take h).drop l:=(SI l _).symm;have e:xs=xs.take h++xs.drop h:=(SI h xs).symm
 by_cases i:l<=(xs.take h).length
 ·have b:(((xs.take h).take l).flatMap V.cells).length=l*sz:=by
   rw[sH (sz:=sz) (λx f=>g x (RG (RG f))),QZ];congr 1;omega
  rw[e,TS,c,TS,SE,Ut Aa,b,Nat.add_sub_cancel_left];grind
 ·grind
theorem qC(inv:Inv T Φ σ a w G)(x:Option Operand)(b:Int){K:Int->Prop}(h:bound (x.map σ.ev) b K):(x=none/\K b)\/∃y k n,x=some y/\a.eval y= .int k n/\K n:=by
 unfold bound at h;split at h
 ·simp_all
 ·rename_i k n c
  cases x with
  |none=>simp at c
  |some y=>
   simp at c;have:=(inv.ev y).1;rw[c]at this;exact .inr ⟨y,k,n,rfl,this.bH,h⟩
 ·exact h.elim
theorem fV(k:IntKind)(n:Int)(y:Nat)(c:BoundsCode)(b:0<=n)(e:n<=y):(Instr.sliceBound (.int k n) y c).run P w= .ok n.toNat w:=by
 simp[Instr.sliceBound,asIntOf,b,e]
theorem aW3(isS:Bool)(c cap:Nat)(lo hi:Option Value)(l b:Int)(j:(lo=none/\l=0)\/∃k,lo=some (.int k l))(e:(hi=none/\b=c)\/∃k,hi=some (.int k b))(g:0<=l)(m:l<=b)(i:b<=cap):
 (Instr.sliceBounds isS c cap lo hi none).run P w= .ok (l.toNat,b.toNat,cap) w:=by
 rcases j with⟨rfl,rfl⟩|⟨k,rfl⟩
 ·rcases e with⟨rfl,rfl⟩|⟨f,rfl⟩
  ·simp[Instr.sliceBounds]
  ·simp[Instr.sliceBounds,fV f b cap _ Aa i]
 ·rcases e with⟨rfl,rfl⟩|⟨f,rfl⟩
  ·simp[Instr.sliceBounds,fV k l c _ g Aa]
  ·simp[Instr.sliceBounds,fV f b cap _ Aa i,fV k l b.toNat _ g Aa]
theorem cP5(isS:Bool)(f cap:Nat)(lo:Option Value)(l b:Int)(c e:IntKind)(j:(lo=none/\l=0)\/∃k,lo=some (.int k l))(i:0<=l)(m:l<=b)(g:b<=cap):
 (Instr.sliceBounds isS f cap lo (some (.int c b)) (some (.int e b))).run P w= .ok (l.toNat,b.toNat,b.toNat) w:=by
 rcases j with⟨rfl,rfl⟩|⟨k,rfl⟩
 ·simp[Instr.sliceBounds,fV e b cap _ Aa g,fV c b b.toNat _ Aa Aa]
 ·simp[Instr.sliceBounds,fV e b cap _ Aa g,fV c b b.toNat _ Aa Aa,fV k l b.toNat _ i Aa]
theorem cH8(hT:bP T P)(inv:Inv T Φ σ a w G)(t:TypeId)(x:Operand)(lo hi M:Option Operand)(ho:o.op= .slice t x lo hi M)(ht:t<T.n t)
 (h:sZ T (T.row t) σ (σ.ev x) (lo.map σ.ev) (hi.map σ.ev) (M.map σ.ev) K):Out T Φ σ a K ((execOp a.eval o).run P w):=by
 obtain⟨E,Z⟩:=inv.ev x
 have D:∀(z:Option Operand) (n I:Int),((z=none/\n=I)\/∃y k,z=some y/\a.eval y= .int k n)->((z.map a.eval=none/\n=I)\/∃k,z.map a.eval=some (.int k n)):=by
  grind
 unfold sZ at h;split at h
 ·rename_i s Q C
  rw[C]at E;have hu:=aF2 (hT t ht) Q;split at h
  ·rename_i hm
   have an:M=none:=by cases M<;>simp_all
   subst an
   have v:∀(l e:Int),((lo=none/\l=0)\/∃y k,lo=some y/\a.eval y= .int k l)->((hi=none/\e=s.size)\/∃y k,hi=some y/\a.eval y= .int k e)->need (0<=l/\l<=e/\e<=s.size) (K (.lit (.string (s.extract l.toNat e.toNat))) [])->Out T Φ σ a K ((execOp a.eval o).run P w):=by
    intro l e hl H hn;obtain⟨⟨X,Y,q3⟩,hk⟩:=dX hn;have hb:=aW3 (P:=P) (w:=w) false s.size s.size _ _ l e (D lo l 0 hl) (D hi e s.size H) X Y q3;refine .plain inv (v':= .string (s.extract l.toNat e.toNat)) ?_ hk (.lit _ rfl) dL;simp only[execOp,ho,E.bH,Instr.sliceAt,Sr,dI hu,Rt,Instr.slice,Option.map_none,Option.isSome_none,Bool.false_eq_true,Ul,SQ,hb]
   rcases qC inv lo 0 h with⟨q,h⟩|⟨y,k,n,q,u,h⟩
   ·rcases qC inv hi _ h with⟨F,h⟩|⟨y',W,n',F,f2,h⟩
    ·simp_all
    ·simp_all
   ·grind [qC]
  ·exact h.elim
 ·rename_i Q
  have hu:=jW (hT t ht) Q;obtain⟨hc,h⟩:=aT h;have he:=blt hc
  obtain⟨xs,h,ao,ak⟩:∃xs,(bound (lo.map σ.ev) 0 λl=>bound (hi.map σ.ev) xs.length λh=>match M.map σ.ev with
   |none=>need (0<=l/\l<=h/\h<=xs.length/\(l=0\/∀x∈xs,x.cells.length=(T.row (T.row t).elem).size)) (K (.sl ((xs.take h.toNat).drop l.toNat)) [])
   |some m=>match hi.map σ.ev with
    |none=>False
    |some _=>bound (some m) 0 λm=>need (0<=l/\l<=h/\h<=xs.length/\m=h/\(l=0\/∀x∈xs,x.cells.length=(T.row (T.row t).elem).size)) (K (.cap ((xs.take h.toNat).drop l.toNat)) []))/\bM xs/\Rv w G (a.eval x) (.sl xs):=by
   unfold lV at h;split at h
   ·rename_i l C
    rw[C]at E Z;simp only[V.ok]at Z;exact⟨l,h,Z,E⟩
   ·rename_i l C
    rw[C]at E Z;simp only[V.ok]at Z;exact⟨l,h,Z,E.wK⟩
   ·rename_i C
    rw[C]at E;exact⟨[],h,Cb,by rw[E.bH];exact .slN⟩
   ·rename_i k g C
    split at h
    ·rename_i en ab
     obtain⟨⟨hg,hk⟩,h⟩:=dX h;rw[C]at E;have R:=inv.arr k en ab;unfold gW at R;rw[hk]at R;exact⟨en.l,h,inv.wfA k en ab,by rw[E.oQ,<-hg];exact R⟩
    ·exact h.elim
   ·exact h.elim
  have hsub:∀l e:Nat,bM ((xs.take e).drop l):=λl e=>aH.2 λy S=>aH.1 ao y (RG (Rz S))
  obtain⟨b,f,cap,hv,L,A⟩:∃b f cap,a.eval x= .slice b f cap/\f=xs.length/\((b=none/\f=0/\cap=0)\/∃r sz cc,b=some r/\f<=cap/\cap<=maxLen/\(0<f->G.O r.block= .fz)/\(∀x∈xs,x.cells.length=sz)/\At w r cc (xs.flatMap V.cells)/\∀(j:Nat) y,(xs.flatMap V.cells)[j]? =some y->Rv w G (cc j) y):=by
   rcases ak.bK8 with⟨q,u⟩|⟨r,c,sz,cc,q,u,e3,e4,U,e6,e7⟩
   ·exact⟨none,0,0,q,by rw[u];rfl, .inl ⟨rfl,rfl,rfl⟩⟩
   ·exact⟨some r,_,c,q,rfl, .inr ⟨r,sz,cc,rfl,u,e3,e4,U,e6,e7⟩⟩
  have au:f<=cap:=by rcases A with⟨_,h1,h2⟩|⟨_,_,_,_,h,_⟩<;>omega
  have N:∀(l e m:Nat),l<=e->e<=f->e<=m->m<=cap->(l=0\/∀x∈xs,x.cells.length=(T.row (T.row t).elem).size)->
   Rv w G (.slice (if m=l then b else b.map (·.add (l*(T.row (T.row t).elem).size))) (e-l) (m-l)) (.sl ((xs.take e).drop l))/\
   (m=e->Rv w G (.slice (if m=l then b else b.map (·.add (l*(T.row (T.row t).elem).size))) (e-l) (m-l)) (.cap ((xs.take e).drop l))):=by
   intro l e m X Y q3 q4 q5;have ac:((xs.take e).drop l).length=e-l:=by rw[RU,QZ];omega
   rcases A with⟨rfl,u,e3⟩|⟨r,sz,cc,rfl,u,e3,e4,U,e6,e7⟩
   ·have al:m=l:=by omega
    have h0:e-l=0:=Aa;have h1:m-l=0:=Aa
    have ag:(xs.take e).drop l=[] :=TD Aa;rw[QO al,h0,h1,ag];exact⟨.slN,λ_=> .capN⟩
   ·
    obtain⟨i,aj,aa,ai⟩:∃i,(if m=l then some r else(some r).map (·.add (l*(T.row (T.row t).elem).size)))=some i/\i.block=r.block/\(l<e->i=r.add (l*sz)):=by
     by_cases af:m=l
     ·rw[QO af];exact⟨r,rfl,rfl,λh=>Aa⟩
     ·rw[Q5 af]
      refine⟨_,rfl,add_block _ _,λae=>?_⟩;rcases q5 with rfl|q5
      ·simp
      ·have aq:xs≠ [] :=by rintro rfl;simp at L;omega
       obtain⟨y,ys,rfl⟩:=List.exists_cons_of_ne_nil aq;rw[<-q5 y Af,U y Af]
    rw[aj]
    have B:At w i (λj=>cc (l*sz+j)) (((xs.take e).drop l).flatMap V.cells):=by
     intro j y S
     have ae:l<e:=by
      rcases RX l e with h|h
      ·exact h
      ·rw[TD (by omega:((xs.take e).drop l).length=0)]at S;simp at S
     rw[ai ae,add_add'];exact e6 _ y (cL9 U j S)
    have hrel:∀(j:Nat) y,(((xs.take e).drop l).flatMap V.cells)[j]? =some y->Rv w G (cc (l*sz+j)) y:=λj y S=>e7 _ y (cL9 U j S);have J:0< ((xs.take e).drop l).length->G.O i.block= .fz:=λh=>by rw[aa];exact e4 (by omega)
    have ah:∀x∈(xs.take e).drop l,x.cells.length=sz:=λx C=>U x (RG (Rz C));constructor
    ·have:=Rv.slS (w:=w) (G:=G) i (m-l) ((xs.take e).drop l) sz _ Aa Aa J ah B hrel
     rwa [ac]at this
    ·intro am
     have:=Rv.capS (w:=w) (G:=G) i ((xs.take e).drop l) sz _ Aa J ah B hrel;rw[ac]at this;rw[am];exact this
  have run:∀(l e m:Nat),(Instr.sliceBounds true f cap (lo.map a.eval) (hi.map a.eval) (M.map a.eval)).run P w= .ok (l,e,m) w->
   (execOp a.eval o).run P w= .ok (.value (.slice (if m=l then b else b.map (·.add (l*(T.row (T.row t).elem).size))) (e-l) (m-l))) w:=by
   intro l e m hb;simp only[execOp,ho,hv,Instr.sliceAt,Sr,dI hu,Rt,Instr.slice,hb,iV hT he,SQ]
  have v:∀(l e:Int),((lo=none/\l=0)\/∃y k,lo=some y/\a.eval y= .int k l)->((hi=none/\e=xs.length)\/∃y k,hi=some y/\a.eval y= .int k e)->
   (match M.map σ.ev with
   |none=>need (0<=l/\l<=e/\e<=xs.length/\(l=0\/∀x∈xs,x.cells.length=(T.row (T.row t).elem).size)) (K (.sl ((xs.take e.toNat).drop l.toNat)) [])
   |some m=>match hi.map σ.ev with
    |none=>False
    |some _=>bound (some m) 0 λm=>need (0<=l/\l<=e/\e<=xs.length/\m=e/\(l=0\/∀x∈xs,x.cells.length=(T.row (T.row t).elem).size)) (K (.cap ((xs.take e.toNat).drop l.toNat)) []))->Out T Φ σ a K ((execOp a.eval o).run P w):=by
   intro l e hl H hn
   cases M with
   |none=>
    simp only[Option.map_none]at hn;obtain⟨⟨X,Y,q3,q4⟩,hk⟩:=dX hn;have hb:=aW3 (P:=P) (w:=w) true f cap _ _ l e (D lo l 0 hl) (D hi e f (by rw[L];exact H)) X Y Aa
    have hnv:=(N l.toNat e.toNat cap Aa Aa Aa (QV _) (q4.imp (λh=>by rw[h];rfl) id)).1
    exact Qd
   |some my=>
    rcases H with⟨rfl,_⟩|⟨yh,kh,rfl,ar⟩
    ·exact hn.elim
    simp only[SK]at hn;rcases qC inv (some my) 0 H8 with⟨q,_⟩|⟨y',W,m,q,u,hn⟩
    ·cases q
    ·cases q
     obtain⟨⟨X,Y,q3,q5,q4⟩,hk⟩:=dX hn;subst q5;have hb:=cP5 (P:=P) (w:=w) true f cap (lo.map a.eval) l m kh W (D lo l 0 hl) X Y Aa;rw[<-ar,<-u]at hb;have hnv:=(N l.toNat m.toNat m.toNat Aa Aa (QV _) Aa (q4.imp (λh=>by rw[h];rfl) id)).2 rfl
     exact Qd
  rcases qC inv lo 0 h with⟨q,h⟩|⟨y,k,n,q,u,h⟩
  ·rcases qC inv hi _ h with⟨F,h⟩|⟨y',W,n',F,f2,h⟩
   ·exact v 0 xs.length (.inl ⟨q,rfl⟩) (.inl ⟨F,rfl⟩) h
   ·exact v 0 n' (.inl ⟨q,rfl⟩) (.inr ⟨y',W,F,f2⟩) h
  ·rcases qC inv hi _ h with⟨F,h⟩|⟨y',W,n',F,f2,h⟩
   ·exact v n xs.length (.inr ⟨y,k,q,u⟩) (.inl ⟨F,rfl⟩) h
   ·exact v n n' (.inr ⟨y,k,q,u⟩) (.inr ⟨y',W,F,f2⟩) h
 ·exact h.elim
end
section
variable{T:Tab}{P:Program}{Φ:Fr}{σ:St}{a:Act}{w:World}{G:Gh}{K:VK}{o:Oper}{d:Nat}
theorem dT4{d:TypeDesc}{k s:Value}{e:MapEntry}(g:e.key=k)(j:MapKept.IsKey d k)(m:MapKept.IsKey d s):∀(l:List MapEntry) (i:Nat),(∀e∈l,MapKept.IsKey d e.key)->Instr.findNow d k l i=some none->
 Instr.findNow d s (l++[e]) i= @ite _ (k=s) (Classical.propDecidable _) (some (some (i+l.length,e.val))) (Instr.findNow d s l i):=by
 intro l
 induction l with
 |nil=>
  intro i _ _;obtain⟨r,u,B⟩:=Ua m j;simp only[Uc,Instr.findNow,g,u];grind
 |cons x r y=>
  intro i n v;have f:=n x Af;have C:=y (i+1) (λe g=>n e (by simp[g]))
  obtain⟨b,q,z⟩:=Ua j f;obtain⟨c,t,A⟩:=Ua m f;simp only[Ui,Instr.findNow,q,t]at v⊢;grind
theorem cN7{d:TypeDesc}{k s:Value}{v:Value}(z:MapKept.IsKey d k)(A:MapKept.IsKey d s):∀(l:List MapEntry) (i j:Nat) (u:Value),(∀e∈l,MapKept.IsKey d e.key)->Instr.findNow d k l i=some (some (j,u))->
 ∃q,j=i+q/\(∃e,l[q]? =some e/\e.key=k)/\Instr.findNow d s (l.modify q λe=> {e with key:=k,val:=v}) i= @ite _ (k=s) (Classical.propDecidable _) (some (some (j,v))) (Instr.findNow d s l i):=by
 intro l
 induction l with
 |nil=>intro i j u _ h;simp[Instr.findNow]at h
 |cons x r H=>
  intro i j u B f;have g:=B x Af;obtain⟨b,C,D⟩:=Ua z g;obtain⟨c,y,L⟩:=Ua A g;obtain⟨J,E,M⟩:=Ua A z;simp only[Instr.findNow,C]at f
  cases b with
  |true=>
   simp only[Sv,Prod.mk.injEq]at f;obtain⟨rfl,rfl⟩:=f;have t:=D.1 rfl;refine⟨0,rfl,⟨x,rfl,t.symm⟩,?_⟩;simp only[List.modify_zero_cons,Instr.findNow,y,E];grind
  |false=>
   simp only at f;obtain⟨I,rfl,⟨e,m,n⟩,N⟩:=H (i+1) j u (λe F=>B e (by simp[F])) f
   refine⟨I+1,Aa,⟨e,by simpa using m,n⟩,?_⟩
   simp only[List.modify_succ_cons,Instr.findNow,y];grind
theorem eO1{c:Kd}{b:TypeDesc}(h:c=kdOf (some b))(e:dY9 c=true):keyD c=b:=by
 subst h;cases b<;>simp_all [kdOf,dY9,keyD]
theorem dF2{b:Kd}{s:Value}(h:cD3 b s=true):MapKept.IsKey (keyD b) s:=by
 unfold cD3 at h;split at h
 ·split at h
  ·exact trivial
  ·cases h
 ·split at h
  ·have:=Q9 h
   subst this;exact rfl
  ·cases h
 ·cases h
theorem lit_key{b:Kd}{s:Value}(h:cD3 b s=true):litD s=keyD b:=by
 unfold cD3 at h;split at h
 ·split at h
  ·rfl
  ·cases h
 ·split at h
  ·have:=Q9 h
   subst this;rfl
  ·cases h
 ·cases h
theorem aW5(c:bP T P){t:TypeId}(q:t<T.n t)(h:bD5 T (T.row t)=true):∃e b,P.underlying t=some (.map e b)/\P.underlying e=some (keyD (T.row (T.row t).alen).kd)/\b=(T.row t).elem/\b<T.n b/\(T.row b).agg=false:=by
 unfold bD5 at h;simp only[Ri,Bool.not_eq_true']at h;obtain⟨⟨⟨⟨i,j⟩,k⟩,l⟩,m⟩:=h
 have p:(T.row t).kd= .map:=by
  revert i;cases(T.row t).kd<;>simp
 obtain⟨r,f,g,_⟩:=(c _ (blt k)).und;refine⟨_,_,eT8 (c t q) p,?_,rfl,blt l,m⟩;rw[eO1 g j];exact f
theorem bM3(v:bP T P)(inv:Inv T Φ σ a w G)(t:TypeId)(u:o.op= .makeMap t none)(x:t<T.n t)(h:oN T t σ d K):Out T Φ σ a K ((execOp a.eval o).run P w):=by
 unfold oN at h;split at h
 ·rename_i q
  obtain⟨_,r⟩:=aT h
  let av':Nat->Nat->Value:=λj g=>if j=d/\g=0 then .map (some w.heap.size)else G.av j g
  have c:av' d 0= .map (some w.heap.size):=I5;have f:∀b,b<w.heap.size->(w.alloc (.map #[] 0)).heap[b]? =w.heap[b]? :=λb e=>Un w _ e
  have i:Inv T Φ (σ.apps [.a d ⟨0, .dead,t,[.bot]⟩]) a (w.alloc (.map #[] 0)) {G with av:=av',O:=upd G.O w.heap.size (.ar d)}:=by
   refine inv.zU (w':=w.alloc (.map #[] 0)) (k:=d) (en:=⟨0, .dead,t,[.bot]⟩) (av':=av') (O':=upd G.O w.heap.size (.ar d)) (λg l=>Uf (zK q 0 g l)) (λj g l=>?_) ?_ ?_ ?_ ?_ (λb e _=>f b e) Af rfl rfl rfl
   ·have:¬(j=d/\g=0):=by rintro⟨rfl,rfl⟩;exact absurd (zK q 0 0 l) Aa
    simp[av',this]
   ·simp only[bM,V.okL,V.ok,and_self]
   ·exact⟨w.heap.size, #[],0,c,upd_same _ _ _,U3 w _,Af,λs _=>rfl⟩
   ·intro b e _;exact upd_ne _ _ (by have:=inv.tag b e;omega)
   ·intro b
    by_cases m:b=w.heap.size
    ·subst m;exact .inr (.inr (.inl ⟨upd_same _ _ _,aN0 inv,Af⟩))
    ·exact .inl (upd_ne _ _ m)
  refine⟨.map (some w.heap.size),w.alloc (.map #[] 0),_,_,_, .inl ?_,r,i,aQ0 (by rw[<-c]) rfl,?_⟩
  ·simp[execOp,u,Instr.makeMap,Result.andThen]
  ·exact JW
 ·exact h.elim
theorem eF3(c:bP T P){t:TypeId}(f:t<T.n t)(e:(T.row t).agg=false){z:Value}(b:(zeroValue t).run P w= .ok z w):(T.row t).zero=[z] :=by
 obtain⟨i,g,l,m,k,h,p,q,r,s,j⟩:=(c _ f).info
 have:(zeroValue t).run P w= .ok k w:=by
  simp[zeroValue,cO9 g,h,Result.andThen]
 rw[this]at b;cases b;exact j e
theorem bZ4(B:bP T P)(inv:Inv T Φ σ a w G)(t:TypeId)(x y:Operand)(ho:o.op= .lookup t x y false)(ht:t<T.n t)(h:rG T t σ (σ.ev x) (σ.ev y) K):Out T Φ σ a K ((execOp a.eval o).run P w):=by
 obtain⟨J,Z⟩:=inv.ev x;obtain⟨L,y2⟩:=inv.ev y;unfold rG at h;split at h
 ·rename_i k g s R S
  rw[R]at J;rw[S]at L;split at h
  ·rename_i en M
   split at h
   ·rename_i es N hl
    obtain⟨hg,h2⟩:=dX h;obtain⟨m,D⟩:=aT h2;simp only[Ri]at m;obtain⟨W,et,u1,u2,rfl,H,X⟩:=aW5 B ht m.1.1;have c:=dF2 m.1.2;have Q:en.ty=t:=SG m.2
    have u:=inv.arr k en M;unfold gW at u;rw[N,hl]at u;obtain⟨b,C,r,q1,q2,q3,I,F⟩:=(u:bL6 _ w G k _ es);rw[Q]at I F;have ex:a.eval x= .map (some b):=by rw[J.oQ,<-hg,q1]
    have ey:a.eval y=s:=L.bH;obtain⟨z,E,U,A,_⟩:=aC3 (w:=w) B H;have f:(T.row (T.row t).elem).zero=[z] :=eF3 B H X E
    rw[f]at D;have j:=D.out;have hc:∀e,(Instr.checkKey e 10000 W s).run P w= .ok () w:=λe=>MapKept.run_checkKey u2 c e 9999
    have q:=F s c
    cases l:jG s es with
    |none=>
     rw[l]at q j;refine .plain inv (v':=z) ?_ j (.lit z (A z (by rw[f];simp))) (by simp only[Option.getD,V.ok])
     simp[execOp,ho,ex,ey,Instr.lookup,dI u1,TQ q3,hc,U7 u2 q,E,Result.andThen]
    |some Y=>
     rw[l]at q j;obtain⟨i,v,r1,r2,r3,r4⟩:=q;refine .plain inv (v':=v) ?_ j r3 (r4.ok _ _);exact Px
   ·exact h.elim
  ·exact h.elim
 ·rename_i g cs s R S
  rw[R]at J Z;rw[S]at L;split at h
  ·rename_i kz es
   obtain⟨m,D⟩:=aT h;simp only[Ri]at m;obtain⟨W,et,u1,u2,rfl,H,X⟩:=aW5 B ht m.1.1;have c:=dF2 m.1.2;have O:litD kz=keyD (T.row (T.row t).alen).kd:=lit_key m.2
   obtain⟨b,C,r,val,ex,q3,I,F,q6⟩:=J.mp_inv;rw[O]at I F q6;have ey:a.eval y=s:=L.bH;obtain⟨z,E,U,A,_⟩:=aC3 (w:=w) B H;have f:(T.row (T.row t).elem).zero=[z] :=eF3 B H X E
   rw[f]at D;have j:=D.out;have hc:∀e,(Instr.checkKey e 10000 W s).run P w= .ok () w:=λe=>MapKept.run_checkKey u2 c e 9999
   cases l:jG s es with
   |none=>
    rw[l]at j;refine .plain inv (v':=z) ?_ j (.lit z (A z (by rw[f];simp))) (by simp only[Option.getD,V.ok])
    simp[execOp,ho,ex,ey,Instr.lookup,dI u1,TQ q3,hc,U7 u2 (I s c l),E,Result.andThen]
   |some Y=>
    rw[l]at j;obtain⟨⟨i,r1⟩,r2⟩:=F s Y c l;have hp:bM es:=by simp only[V.ok,V.okL]at Z;exact Z.2.2.1
    refine .plain inv (v':=val s) ?_ j (q6 s Y c l) ((assoc_pure hp l).ok _ _);exact Px
  ·exact h.elim
 ·exact h.elim
theorem cQ6{x:V}{p:Nat->Prop}{q:Nat->Nat->Prop}(h:x.atom=true)(hok:x.ok p q):x.pure:=JR
theorem Rv.dV8{w:World}{G:Gh}{v:Value}{x:V}(h:Rv w G v x)(b:x.atom=true):v.oneCell'=true:=by
 cases h with
 |lit u c=>exact c
 |slN=>rfl
 |slS=>rfl
 |capN=>rfl
 |capS=>rfl
 |fn=>rfl
 |fb=>rfl
 |mp=>rfl
 |_=>simp[V.atom]at b
theorem aA0(hT:bP T P)(inv:Inv T Φ σ a w G)(t:TypeId)(x y z:Operand)(X:o.op= .mapUpdate t x y z\/o.op= .insert t x y z)(ht:t<T.n t)(h:iE T t σ (σ.ev x) (σ.ev y) (σ.ev z) K):Out T Φ σ a K ((execOp a.eval o).run P w):=by
 obtain⟨x1,x2⟩:=inv.ev x;obtain⟨y1,y2⟩:=inv.ev y;obtain⟨z1,z2⟩:=inv.ev z;unfold iE at h;split at h
 ·rename_i k g s hx hy
  rw[hx]at x1;rw[hy]at y1;split at h
  ·rename_i en R
   split at h
   ·rename_i es ad hl
    obtain⟨hg,h2⟩:=dX h;obtain⟨I,h3⟩:=aT h2;simp only[Ri]at I;obtain⟨kt,et,u1,u2,rfl,u4,u5⟩:=aW5 hT ht I.1.1.1;have u:=dF2 I.1.1.2;have H:en.ty=t:=SG I.1.2
    have F:=inv.arr k en R;unfold gW at F;rw[ad,hl]at F;obtain⟨b,l,r,q1,Y,J,q4,q5⟩:=(F:bL6 _ w G k _ es);rw[H]at q4 q5;generalize N:keyD (T.row (T.row t).alen).kd=L at*;have ex:a.eval x= .map (some b):=by rw[x1.oQ,<-hg,q1]
    have ey:a.eval y=s:=y1.bH;have hc:∀e,(Instr.checkKey e 10000 kt s).run P w= .ok () w:=λe=>MapKept.run_checkKey u2 u e 9999
    have zp:(σ.ev z).pure:=cQ6 I.2 z2;have zo:(a.eval z).oneCell'=true:=z1.dV8 I.2
    have key:∃f c,(Instr.mapUpdate t (.map (some b)) s (a.eval z)).run P w= .ok () {w with heap:=w.heap.setIfInBounds b (.map f c)}/\(∀e∈f.toList,MapKept.IsKey L e.key)/\
     ∀A,MapKept.IsKey L A->∃j,Instr.findNow L A f.toList 0= @ite _ (s=A) (Classical.propDecidable _) (some (some (j,a.eval z))) (Instr.findNow L A l.toList 0):=by
     have U:=q5 s u
     cases M:jG s es with
     |none=>
      rw[M]at U;refine⟨l.push {key:=s,val:=a.eval z,born:=r},r+1,?_,?_,λA m=>?_⟩
      ·simp[Instr.mapUpdate,dI u1,TQ J,hc,U7 u2 U,MapKept.run_setObj_map _ J,Result.andThen]
      ·grind
      ·refine⟨0+l.toList.length,?_⟩
       rw[Array.toList_push];exact dT4 rfl u m _ 0 q4 U
     |some vv=>
      rw[M]at U;obtain⟨i,v,Z,_,_,_⟩:=U;have hm:=λA m=>cN7 (d:=L) (k:=s) (s:=A) (v:=a.eval z) u m l.toList 0 i v q4 Z;obtain⟨q,hi,⟨e,aa,ab⟩,_⟩:=hm s u;have ac:i=q:=Aa
      subst ac;have E:l[i]? =some e:=by simpa using aa
      refine⟨l.modify i λe=> {e with key:=s,val:=a.eval z},r,?_,?_,λA m=>?_⟩
      ·simp[Instr.mapUpdate,dI u1,TQ J,hc,U7 u2 Z,E,ab,MapKept.run_keyThatStays u,MapKept.run_setObj_map _ J,Result.andThen]
      ·intro e' Q
       rw[Array.toList_modify]at Q;obtain⟨j,ag⟩:=Rx Q;grind
      ·grind
    obtain⟨f,c,k1,k2,k3⟩:=key;have ae:b<w.heap.size:=inv.tag b (by rw[Y];simp)
    have D:∀C,C≠b->({w with heap:=w.heap.setIfInBounds b (.map f c)}:World).heap[C]? =w.heap[C]? :=λC B=>(MapKept.heap_set J).2 C B
    have S:Keep w {w with heap:=w.heap.setIfInBounds b (.map f c)} G {G with av:=G.av,O:=G.O}:=⟨λ_ h=>h,λC B=>D C (by rintro rfl;rw[Y]at B;cases B)⟩
    have W:Inv T Φ (σ.apps [.a k ⟨en.gen, .dead,en.ty, .bot:: .tup [.lit s,σ.ev z] ::es⟩]) a {w with heap:=w.heap.setIfInBounds b (.map f c)} {G with av:=G.av,O:=G.O}:=by
     refine inv.zU (w':={w with heap:=w.heap.setIfInBounds b (.map f c)}) (k:=k) (en:=⟨en.gen, .dead,en.ty, .bot:: .tup [.lit s,σ.ev z] ::es⟩) (av':=G.av) (O':=G.O) ?_ (λ_ _ _=>rfl) ?_ ?_ (λ_ _ _=>rfl) (λ_=> .inl rfl) (λC B hn=>D C (by rintro rfl;exact hn Y)) Af rfl rfl rfl
     ·rintro g' ⟨af,e1,e2⟩;simp_all
     ·have:=inv.wfA k en R
      rw[hl]at this;simp_all [true_and,U4,bM,V.okL,V.ok]
     ·refine⟨b,f,c,q1,Y,(MapKept.heap_set J).1,by rw[H,N];exact k2,λA m=>?_⟩
      rw[H,N]at m⊢;obtain⟨j,E⟩:=k3 A m;by_cases hs:s=A
      ·subst hs
       rw[QO rfl]at E;simp only[jG,TY];exact⟨j,_,E,zo,z1.aW S zp,zp⟩
      ·rw[Q5 hs]at E
       simp only[jG,hs,Ul];have:=q5 A m
       cases M:jG A es with
       |none=>rw[M]at this;rw[E];exact this
       |some vv=>
        rw[M]at this;obtain⟨i,v,Z,r2,r3,r4⟩:=this;exact⟨i,v,E.trans Z,r2,r3.aW S r4,r4⟩
    refine⟨undef,_,_,_,_, .inr ⟨?_,rfl⟩,h3,W, .bot _,BL⟩;rcases X with X|X<;>simp[execOp,X,ex,ey,k1,Result.andThen]
   ·exact h.elim
  ·exact h.elim
 ·exact h.elim
end
end Go.Ab
