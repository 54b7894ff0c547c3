/- Lemmas. -/
import Derived.Test.YtecbpikbjfihmaaGreatDoorA1
import Derived.Laws.BytesString
import Derived.Lib.ConvBytes
import Derived.Laws.Cells
set_option linter.all false
set_option autoImplicit true
set_option relaxedAutoImplicit true
noncomputable section
namespace Go.Ab
section
variable{T:Tab}{P:Program}{Φ:Fr}{σ:St}{a:Act}{w:World}{G:Gh}{K:VK}{o:Oper}{d:Nat}
def vU(e:bP T P)(j:t<T.n t)(i:(T.row t).kd= .slice)(h:(T.row t).elem<T.n (T.row t).elem) c(b cap:Nat) k(n:Int)(f:0<=n)(g:n<b):
 (Instr.indexAt t (.slice (some c) b cap) (.int k n)).run P w= .ok (.pointer (some (c.add (n.toNat*(T.row (T.row t).elem).size)))) w:=by
 simp[Instr.indexAt,asIntOf,dI (jW (e t j) i),f,g,iV e h]
def vZ(c:bP T P)(h:t<T.n t)(g:(T.row t).kd= .array)(f:(T.row t).elem<T.n (T.row t).elem) b k n(e:n< (T.row t).alen):
 (Instr.indexAt t (.pointer (some b)) (.int k n)).run P w= .ok (.pointer (some (b.add (n*(T.row (T.row t).elem).size)))) w:=by
 simp[Instr.indexAt,asIntOf,dI (aR9 (c t h) g),e,iV c f,Instr.sureAddr]
def aY7(J:bP T P)(inv:Inv T Φ σ a w G) t x y(L:o.op= .indexAddr t x y)(M:t<T.n t)(h:gI T (T.row t) σ (σ.ev x) (σ.ev y) K):Out T Φ σ a K ((execOp a.eval o).run P w):=by
 let⟨v,h2⟩:=inv.ev x;let⟨N,y2⟩:=inv.ev y
 have r:∀ l  m  n ,(T.row t).kd= .slice->a.eval y= .int m n->Rv w G (a.eval x) (.sl l)->bM l->
  need (0<=n/\n<l.length) (idx l n.toNat λx=>bJ x.cells λcs=>cond (Nat.beq (lenR cs) (T.row (T.row t).elem).size&&Nat.blt (T.row t).elem (T.n (T.row t).elem)) (K (.fp cs) []) False)->Out T Φ σ a K ((execOp a.eval o).run P w):=by
  intro l m n b e s ac hh;let⟨⟨n0,H⟩,A⟩:=dX hh;let⟨z,F,I⟩:=cO3 A;rw[bC]at I;let⟨f,h5⟩:=aT I;simp only[Ru,iL]at f;have R:z.cells.length=(T.row (T.row t).elem).size:=by simpa [TJ]using f.1
  have D:=blt f.2;rcases s.bK8 with⟨B,C⟩|⟨q,c,sz,cc,B,C,e3,Y,Q,e6,e7⟩
  ·rw[C]at F;simp at F
  ·have W:sz=(T.row (T.row t).elem).size:=by rw[<-Q z (QZ F)];exact R
   have E:0<l.length:=by have:=(QW.1 F).1;omega
   refine .plain inv (v':= .pointer (some (q.add (n.toNat*(T.row (T.row t).elem).size)))) (by simp[execOp,L,e,B,vU J M b D q l.length c m n n0 H]) h5 ?_ ?_
   ·have hH:=Here.elem Q (w:=w) (G:=G) ⟨cc,e6,e7⟩ F 0
    let⟨O,Z,q2⟩:=hH.out;rw[List.drop_zero,TW,W]at Z;exact .fp _ _ O (λ_=>by rw[add_block];exact Y E) Z q2
   ·grind [sF,aH,QZ,V.ok]
 unfold gI at h;split at h;rename_i m n b u;rw[u]at N;have e:=N.bH;split at h;grind [V.ok];rename_i l s;rw[s]at v h2;exact r l m n b e v.wK h2 h;rename_i k g s;rw[s]at v h2;split at h;rename_i en U;let⟨⟨hg,hd,n0,H⟩,A⟩:=dX h;let⟨f,I⟩:=aT A;simp only[Ru]at f;have D:=blt f.2;subst hg;rcases(inv.arr k en U).reads hd with⟨B,C⟩|⟨q,c,sz,B,C,e3,Y,Q⟩;rw[C]at H;simp at H;omega;have X:=v.oQ.trans B;refine .plain inv (v':= .pointer (some (q.add (n.toNat*(T.row (T.row t).elem).size)))) (by simp[execOp,L,e,X,vU J M b D q en.l.length c m n n0 H]) I ?_ ET;have:=Rv.ae (w:=w) (G:=G) k en.gen (T.row (T.row t).elem).size n.toNat 0 q en.l.length c B;simpa using this;exact h.elim;exact h.elim;rename_i m n b u;rw[u]at N;have e:=N.bH;split at h;rename_i i off s;rw[s]at v h2;let⟨f,A⟩:=aT h;simp only[Ru]at f;refine .plain inv (v':= .pointer (some ((⟨G.β i,off,none⟩:Addr).add (n*(T.row (T.row t).elem).size)))) (by simp[execOp,L,e,v.bI6,vZ J M b (blt f.2) _ m n (blt f.1)]) A ?_ ET;rw[rY];exact .box _ _;rename_i cs s;rw[s]at v h2;let⟨f,A⟩:=aT h;simp only[Ru]at f;let⟨q,cc,D,aa,S,hr⟩:=v.cW5;rw[bC,lQ]at A;refine .plain inv (v':= .pointer (some (q.add (n*(T.row (T.row t).elem).size)))) (by simp[execOp,L,e,D,vZ J M b (blt f.2) _ m n (blt f.1)]) A ?_ ?_;refine .fp _ _ (λj=>cc (n*(T.row (T.row t).elem).size+j)) (λab=>?_) (λj y u=>?_) (λj y u=>?_);grind [add_block];rw[SA]at u;rw[add_add'];exact S _ y u;rw[SA]at u;exact hr _ y u;grind [aH,RQ,V.ok];exact h.elim;exact h.elim
def dM3(z:bP T P)(inv:Inv T Φ σ a w G) x t(C:o.op= .call ⟨.builtin .len,⟨[x]⟩,⟨[t]⟩⟩)(E:t<T.n t)
 (e:(T.row t).kd= .slice)(h:aE9 σ (σ.ev x) K):Out T Φ σ a K ((execOp a.eval o).run P w):=by
 let⟨i,F⟩:=inv.ev x
 have v:∀ u  m ,a.eval x=u->(Builtin.len_ #[t] o.type #[u]).run P w= .ok (goInt m) w->(execOp a.eval o).run P w= .ok (.value (.int .i64 m)) w:=by
  intro u m s D;simp[execOp,C,resolve,invoke,builtin,SH,Tq,RG,List.map_toArray,Rt,SY,s,D];rfl
 have sl:∀(b:Option Addr) (m c:Nat),(T.row t).kd= .slice->a.eval x= .slice b m c->(execOp a.eval o).run P w= .ok (.value (.int .i64 m)) w:=λb m c e s=>
  v _ m s (by simp[Builtin.len_,dI (jW (z t E) e)])
 unfold aE9 at h;split at h
 ·rename_i j
  rw[j]at i;exact .plain inv (sl none 0 0 e i.bH) h (I_ok _ _ _ _) dL
 ·rename_i l j
  rw[j]at i;rcases i.bK8 with⟨f,p⟩|⟨y,c,sz,cc,f,_⟩
  ·subst p;exact .plain inv (sl none 0 0 e f) h (I_ok _ _ _ _) dL
  ·exact .plain inv (sl _ _ c e f) h (I_ok _ _ _ _) dL
 ·rename_i l j
  rw[j]at i;rcases i.vP with⟨f,p⟩|⟨y,sz,cc,f,_⟩
  ·subst p;exact .plain inv (sl none 0 0 e f) h (I_ok _ _ _ _) dL
  ·exact .plain inv (sl _ _ _ e f) h (I_ok _ _ _ _) dL
 ·rename_i k g j
  rw[j]at i;split at h
  ·rename_i en r
   let⟨⟨B,A⟩,q⟩:=dX h;subst B;rcases(inv.arr k en r).reads A with⟨f,p⟩|⟨y,c,sz,f,_⟩
   ·rw[p]at q;exact .plain inv (sl none 0 0 e (i.oQ.trans f)) q (I_ok _ _ _ _) dL
   ·exact .plain inv (sl _ _ c e (i.oQ.trans f)) q (I_ok _ _ _ _) dL
  ·exact h.elim
 ·exact h.elim
def cR9(e:bP T P)(inv:Inv T Φ σ a w G) x t(f:o.op= .call ⟨.builtin .len,⟨[x]⟩,⟨[t]⟩⟩)(i:t<T.n t)(b:(T.row t).kd= .str)(h:aI4 (σ.ev x) K):Out T Φ σ a K ((execOp a.eval o).run P w):=by
 let⟨c,k⟩:=inv.ev x;unfold aI4 at h;split at h;rename_i s j;rw[j]at c;have g:(Builtin.len_ #[t] o.type #[.string s]).run P w= .ok (goInt s.size) w:=by simp[Builtin.len_,dI (aF2 (e t i) b)]
 refine .plain inv (v':= .int .i64 s.size) ?_ h (I_ok _ _ _ _) dL;simp[execOp,f,resolve,invoke,builtin,SH,Tq,RG,List.map_toArray,Rt,SY,c.bH,g];rfl;exact h.elim
def cE0(g:bP T P)(k:t<T.n t)(u:cs.size=xs.length)(A:∀c∈cs,c.oneCell'=true)(z:∀(i:Nat) c x,cs[i]? =some c->xs[i]? =some x->Rv w G c x)(f:V.okL σ.hasB σ.hasA xs)
 (h:wB (T.row t) (jX xs off) K):∃v' v,(part t cs off).run P w= .ok v' w/\K v []/\Rv w G v' v/\v.ok σ.hasB σ.hasA:=by
 rw[lQ]at h;unfold wB at h;split at h
 ·rename_i b
  rw[bC,aD3,iL]at h;let⟨s,q⟩:=aT h;have e:((xs.drop off).take (T.row t).size).length=(T.row t).size:=by simpa [TJ]using s
  have y:off+(T.row t).size<=xs.length\/(T.row t).size=0:=by rw[Rk,Sr]at e;omega
  refine⟨.agg (cs.extract off (off+(T.row t).size)),_,by simp[part,yG g k,b,iV g k],q, .agg _ _ ?_ ?_ ?_,?_⟩
  ·rw[e,Array.size_extract];omega
  ·intro c j
   rw[Array.mem_iff_getElem?]at j;grind
  ·grind
  ·simp[V.ok]
   rw[aH]at f⊢;grind
 ·rename_i b
  split at h
  ·rename_i x r m
   rw[force_eq]at h
   have l:xs[off]? =some x:=by
    have:(xs.drop off)[0]? =some x:=by rw[m];rfl
    rwa [SA,TW]at this
   have hlt:off<cs.size:=by rw[u];exact(QW.1 l).1
   refine⟨cs[off],x,by simp[part,yG g k,b,hlt],h,z off _ x IG l,aH.1 f x (QZ l)⟩
  ·exact h.elim
def cL3(m:bP T P)(inv:Inv T Φ σ a w G) s x f(C:o.op= .field s x f)(E:s<T.n s)(h:aM2 T (T.row s) (σ.ev x) f K):Out T Φ σ a K ((execOp a.eval o).run P w):=by
 let⟨l,e⟩:=inv.ev x;unfold aM2 at h;split at h;rename_i off z J ty cs i b F;rw[uN]at b;rw[F]at l e;let⟨A,y⟩:=aT h;let⟨vs,p,q,r,t⟩:=l.zV;let⟨k,H,I,L⟩:=yJ (m s E) i;rw[I,RN]at b;cases c:k.toList[f]? with
 |none=>rw[c]at b;cases b
 |some u=>
  rw[c]at b;simp[Tj,SI,Prod.mk.injEq]at b;have g:k[f]? =some u:=by simpa using c
  let⟨v',v,D,B,hv,j⟩:=cE0 m (blt A) q r t e (P:=P) y;refine .plain inv (v':=v') ?_ B hv j;simp[execOp,C,p,Instr.field,dI H,g,asAgg,b.1,b.2.2.2,D]
 exact h.elim
def cK7(e:bP T P)(inv:Inv T Φ σ a w G) t x y(u:o.op= .index t x y)(z:t<T.n t)(h:aM6 T (T.row t) (σ.ev x) (σ.ev y) K):Out T Φ σ a K ((execOp a.eval o).run P w):=by
 let⟨c,i⟩:=inv.ev x;let⟨g,J⟩:=inv.ev y;unfold aM6 at h;split at h;rename_i s A n b m q;rw[m]at c;rw[q]at g;let⟨⟨n0,I⟩,j⟩:=dX h;have k:n.toNat<s.size:=Aa;refine .plain inv ?_ j (I_ok _ _ _ _) dL;simp[execOp,u,c.bH,g.bH,Instr.index,asIntOf,dI (aF2 (e t z) b),n0,k,byteAt];rename_i cs A n b m q;rw[m]at c i;rw[q]at g;let⟨f,j⟩:=aT h;simp only[Ru]at f;let⟨vs,B,C,D,E⟩:=c.zV;let⟨v',v,H,F,hv,l⟩:=cE0 e (blt f.2) C D E i (P:=P) j;have r:=g.bH;refine .plain inv (v':=v') ?_ F hv l;simp[execOp,u,B,r,Instr.index,asIntOf,dI (aR9 (e t z) b),blt f.1,iV e (blt f.2),H];exact h.elim
def bO9 off:∀ l  k (b:Array Value),off+k+l.length<=b.size->
 ((l.zipIdx k).foldl (λcs p=>cs.setIfInBounds (off+p.2) p.1) b).toList=b.toList.take (off+k)++l++b.toList.drop (off+k+l.length)
 | [],k,b,h=>Ad
 |v::r,k,b,h=>by
  simp[List.zipIdx_cons,RV];rw[bO9 off r (k+1) _ (by simp at h⊢;omega)];simp[Array.toList_setIfInBounds,Ro]at h⊢;apply List.ext_getElem?;intro i;simp[UW,TV,SA,Rk,QY,List.getElem?_set,TK,SB,Ro];grind
def cV2 off(vs b:Array Value)(h:off+vs.size<=b.size):(vs.zipIdx.foldl (λcs (c,j)=>cs.setIfInBounds (off+j) c) b).toList=b.toList.take off++vs.toList++b.toList.drop (off+vs.toList.length):=by
 have:=bO9 off vs.toList 0 b Fj;grind [Array.toList_zipIdx]
def bL4(inv:Inv T Φ σ a w G) t:∀ b  xs {K},(∀i,i∈t.map (·.1)->∀q,f i=some q->place' i=some q)->RvL w G b.toList xs->V.okL σ.hasB σ.hasA xs->oI f σ t xs K->
 ∃e g,Instr.fill place' b (t.map λp=>(p.1,a.eval p.2))=some e/\RvL w G e.toList g/\V.okL σ.hasB σ.hasA g/\g.length=xs.length/\K g:=by
 induction t with
 |nil=>
  intro b xs K _ s l h;have m:bJ xs K:=h;rw[bC]at m;exact⟨b,xs,rfl,s,l,rfl,m⟩
 |cons p r L=>
  intro b xs K n s l h
  have m:(match f p.1 with
   |some (o,z)=>cond (Nat.beq (lenR (σ.ev p.2).cells) z&&Nat.ble (o+z) (lenR xs)&&allR V.one (σ.ev p.2).cells) (oI f σ r (splice xs o (σ.ev p.2).cells) K) False
   |none=>False):=h
  split at m;rename_i off z J;let⟨y,H⟩:=aT m;simp[Ru,iL]at y;let⟨⟨c1,B⟩,D⟩:=y;have C:off+z<=xs.length:=by simpa using B
  let⟨E,F⟩:=inv.ev p.2;have hv:=E.cells (dY.1 D);have x:(a.eval p.2).cells.size=z:=by have:=hv.len;simp at this;omega
  have I:b.size=xs.length:=by have:=s.len;simpa using this
  have k:=cV2 off (a.eval p.2).cells b Aa
  have v:RvL w G ((a.eval p.2).cells.zipIdx.foldl (λcs (c,j)=>cs.setIfInBounds (off+j) c) b).toList (splice xs off (σ.ev p.2).cells):=by
   rw[k];exact s.splice hv off
  let⟨e,g,M,N,O,Q,R⟩:=L _ _ (λi hi=>n i (by simp[hi])) v (yV l (sF F) off) H;refine⟨e,g,?_,N,O,?_,R⟩;have u:=n p.1 Ad _ J;simp only[Rt,Instr.fill,u];rw[Q9 (by simp[x];omega)];exact M;rw[Q,mO];simp;omega;exact m.elim
def cM3(B:bP T P)(inv:Inv T Φ σ a w G) t r(N:o.op= .build t r)(E:t<T.n t)(h:vO T (T.row t) σ r.toList K):Out T Φ σ a K ((execOp a.eval o).run P w):=by
 let⟨z,O,A,F,U⟩:=aC3 (w:=w) B E;have j:(r.map λ(p:Nat×Operand)=>(p.1,a.eval p.2)).toList=r.toList.map λp=>(p.1,a.eval p.2):=Ad;have M:RvL w G z.cells.toList (mapR V.lit (T.row t).zero):=by rw[dU,<-A];exact aM4 (by rw[A];exact F)
 have u:V.okL σ.hasB σ.hasA (mapR V.lit (T.row t).zero):=by rw[dU];exact bC6
 have s:∀(b:Array Value) (g:List V),RvL w G b.toList g->Rv w G (.agg b) (.agg g):=λb g D=>
  .agg _ _ (by have:=D.len;simpa using this) (by have:=D.one;simpa using this) (λi c x hc S=>D.rel i c x D8 S)
 unfold vO at h;split at h;rename_i k;let⟨m,X,Y,Z⟩:=yJ (B t E) k
 have e:∀(l:List Field),(∀f∈l,∃i,P.info? f.type=some i/\i.size=vI P f.type)->(l.mapM (λf=>(do pure (f.offset,<-sizeOf f.type):Sem (Nat×Nat)))).run P w= .ok (l.map λf=>(f.offset,vI P f.type)) w:=by
  intro l;induction l<;>simp_all [List.mapM_cons,bG2,RG,Rt]
 have v:(m.mapM (λf=>(do pure (f.offset,<-sizeOf f.type):Sem (Nat×Nat)))).run P w= .ok (m.map λf=>(f.offset,vI P f.type)) w:=by
  have:=e m.toList (by simpa using Z);rw[Array.mapM_eq_mapM_toList];simp only[Sem.run_map,this,RG];rw[<-Array.toList_map,Array.toArray_toList]
 let⟨b,g,H,I,J,W,L⟩:=bL4 inv (place':=λi=>(m.map λf=>(f.offset,vI P f.type))[i]?) r.toList z.cells _ (by
  intro i _ q y;rw[uN,Y,RN]at y;simp[Array.getElem?_map];cases C:m.toList[i]? with
  |none=>rw[C]at y;cases y
  |some f=>
   rw[C]at y;have:m[i]? =some f:=by simpa using C
   rw[this];simpa using y) M u h
 refine .plain inv (v':= .agg b) ?_ L (s _ _ I) (by simpa only[V.ok]using J);simp only[execOp,N,Instr.build,SH,O,RG,dI X,v,j];rw[H];simp;rename_i k;let⟨hc,Q⟩:=aT h;have R:=blt hc;let⟨b,g,H,I,J,W,L⟩:=bL4 inv (place':=λi=>some (i*(T.row (T.row t).elem).size,(T.row (T.row t).elem).size)) r.toList z.cells _ (λ_ _ _ h=>h) M u Q;refine .plain inv (v':= .agg b) ?_ L (s _ _ I) (by simpa only[V.ok]using J);simp[execOp,N,Instr.build,SH,O,RG,dI (aR9 (B t E) k),iV B R,j];rw[H];simp;exact h.elim
def cY0(f:bP T P)(inv:Inv T Φ σ a w G) s t x(p:o.op= .convert s t x)(h:bE4 T s t (σ.ev x) K):Out T Φ σ a K ((execOp a.eval o).run P w):=by
 let⟨e,q⟩:=inv.ev x;unfold bE4 at h;split at h;rename_i r k u n c g i j;simp only[Ru]at c;rw[j]at e;have l:=bY7 (f s (blt c.1)) g;have m:=bY7 (f t (blt c.2)) i;exact .plain inv (by simp[execOp,p,e.bH,convert,dI l,dI m,Conv.intToInt]) (wI h) (I_ok _ _ _ _) dL;rename_i b c g i j;simp only[Ru]at c;rw[j]at e;have l:=aF2 (f s (blt c.1)) g;have m:=aF2 (f t (blt c.2)) i;exact .plain inv (by simp[execOp,p,e.bH,convert,dI l,dI m]) h (.lit _ rfl) dL;exact h.elim
end
section
variable{T:Tab}{P:Program}{Φ:Fr}{σ:St}{a:Act}{w:World}{G:Gh}{K:VK}{o:Oper}{d:Nat}
theorem cH6 n(l:List b):(repR n l).length=n*l.length:=by
 induction n with
 |zero=>show([] :List b).length=_;simp
 |succ n c=>
  have:repR (n+1) l=appR l (repR n l):=rfl;grind [bT,QY,TY]
theorem eI7 n(l:List c):∀j,j<n*l.length->(repR n l)[j]? =l[j% l.length]? :=by
 induction n with
 |zero=>intro j b;simp at b
 |succ n e=>
  intro j b;have:repR (n+1) l=appR l (repR n l):=rfl;rw[this,bT,UW];split<;>grind [Nat.mod_eq_of_lt,TY,Nat.mod_eq_sub_mod]
theorem cH9(f:b->β) n l:repR n (l.map f)=(repR n l).map f:=by
 induction n with
 |zero=>rfl
 |succ n g=>
  have c:repR (n+1) l=appR l (repR n l):=rfl;have e:repR (n+1) (l.map f)=appR (l.map f) (repR n (l.map f)):=rfl;grind [bT]
theorem bA5 n l{x:b}(h:x∈repR n l):x∈l:=by
 induction n with
 |zero=>cases h
 |succ n c=>
  have:repR (n+1) l=appR l (repR n l):=rfl;grind [bT]
theorem cG7(zero:Array Value) n(c:0<zero.size):((Array.range (n*zero.size)).map (zero[·% zero.size]!)).toList=repR n zero.toList:=by
 apply List.ext_getElem?;intro j;by_cases b:j<n*zero.size;grind [SC,eI7];rw[TG AY,TG (by rw[cH6];simp;omega)]
def Inv.dC7(inv:Inv T Φ σ a w G)(t:∀g,σ.hasA k g->g<gen)(D:m= .own\/m= .ap)(J:e<T.n e)(i:l.length<=cap)(E:cap<=maxLen)(r:cur.size=cap*(T.row e).size)
 (I:∀x∈l,x.cells.length=(T.row e).size)(B:bM l)(F:RvL w G (cur.toList.take (l.length*(T.row e).size)) (l.flatMap V.cells)):
 ∃G',Inv T Φ (σ.apps [.a k ⟨gen,m,e,l⟩]) a ({w with drawn:=n0}.alloc (.cells cur e)) G'/\G'.av k gen= .slice (some ⟨w.heap.size,0,none⟩) l.length cap:=by
 let av':Nat->Nat->Value:=λv g=>if v=k/\g=gen then .slice (some ⟨w.heap.size,0,none⟩) l.length cap else G.av v g
 let G':Gh:={G with av:=av',O:=upd G.O w.heap.size (.ar k)};let w':World:={w with drawn:=n0}.alloc (.cells cur e);have c:∀b,b<w.heap.size->w'.heap[b]? =w.heap[b]? :=λb hb=>Uw {w with drawn:=n0} _ hb
 have s:Keep w w' G G':=⟨λb hb=>by
  have L:=inv.tag b AV;show upd G.O _ _ b=_;rw[upd_ne _ _ Aa];exact hb,λb hb=>c b (inv.tag b AV)⟩
 have f:av' k gen= .slice (some ⟨w.heap.size,0,none⟩) l.length cap:=IE
 have A:gJ T w' G' k (G'.av k gen) e l:=by
  refine .inr ⟨w.heap.size,cap,cur,f,upd_same _ _ _,U6 {w with drawn:=n0} _,i,E,r,I,F.keep s (p:=λ_=>False) (q:=λ_ _=>False) ?_ (λ_ h=>h.elim) (λ_ _ h=>h.elim)⟩;rw[aH];intro u H;let⟨j,C⟩:=RF H;exact dF B C
 refine⟨G',?_,f⟩;refine inv.zU (w':=w') (k:=k) (en:=⟨gen,m,e,l⟩) (av':=av') (O':=upd G.O w.heap.size (.ar k)) (λg z=>Uf (t g z)) (λv g z=>?_) B ?_ ?_ ?_ (λb hb _=>c b hb) (by simp[w']) rfl rfl rfl
 ·grind
 ·grind [gW]
 ·intro b hb _;exact upd_ne _ _ (by have:=inv.tag b hb;omega)
 ·intro b
  by_cases y:b=w.heap.size
  ·subst y;exact .inr (.inr (.inl ⟨upd_same _ _ _,aN0 inv,by simp[w']⟩))
  ·exact .inl (upd_ne _ _ y)
def zK(b:σ.ar k=none) gen:∀g,σ.hasA k g->g<gen:=λg ⟨en,h,_⟩=>by rw[b]at h;cases h
def Inv.eK2(inv:Inv T Φ σ a w G)(i:σ.ar k=none)(f:g= .own\/g= .ap)(h:e<T.n e)(b:l.length<=cap)(j:cap<=maxLen)(c:cur.size=cap*(T.row e).size)
 (q:∀x∈l,x.cells.length=(T.row e).size)(m:bM l)(p:RvL w G (cur.toList.take (l.length*(T.row e).size)) (l.flatMap V.cells)):
 ∃G',Inv T Φ (σ.apps [.a k ⟨0,g,e,l⟩]) a ({w with drawn:=n0}.alloc (.cells cur e)) G'/\G'.av k 0= .slice (some ⟨w.heap.size,0,none⟩) l.length cap:=
 inv.dC7 (zK i 0) f h b j c q m p
def chunk_ok agg z:∀ n  cs,cs.length=n*z->(∀x∈cs,x.atom=true)->(agg=false->z=1)->
 (chunk agg z n cs).flatMap V.cells=cs/\(chunk agg z n cs).length=n/\(∀x∈chunk agg z n cs,x.cells.length=z)/\(∀ p  q,V.okL p q cs->bM (chunk agg z n cs)):=by
 intro n;induction n with
 |zero=>
  intro cs h _ _;have:cs=[] :=TQ Fj;subst this;exact⟨rfl,rfl,λx hx=>H8,λ_ _ _=>(by show V.okL _ _ [];simp[V.okL])⟩
 |succ n u=>
  intro cs h c f;rw[TY]at h;have s:(cs.drop z).length=n*z:=by rw[Sr];omega
  let⟨k,l,t,m⟩:=u (cs.drop z) s (λx hx=>c x (RQ hx)) f;have g:chunk agg z (n+1) cs=cD6 agg z cs::chunk agg z n (jX cs z):=rfl;rw[g,lQ];cases agg with
  |true=>
   have e:cD6 true z cs= .agg (cs.take z):=by rw[<-aD3];rfl
   rw[e];refine⟨?_,by simp[l],?_,?_⟩;rw[Tm,k];exact SG z cs;grind [V.cells];intro p q b;refine aH.2 λx hx=>?_;rcases Rl.1 hx with rfl|hx;grind [aH,aF8,RP,V.ok];exact aH.1 (m p q (aH.2 λy hy=>aH.1 b y (RQ hy))) x hx
  |false=>
   have j:=f rfl;subst j;match cs,h with
   |x::r,h=>
    simp only[List.drop_succ_cons,List.drop_zero]at k l t m⊢;have e:cD6 false 1 (x::r)=x:=rfl;rw[e];have i:=bE1 (c x Ad);refine⟨?_,by simp[l],?_,?_⟩;rw[Tm,k,i];rfl;simp_all;intro p q b;refine aH.2 λy hy=>?_;rcases Rl.1 hy with rfl|hy;exact aF8 (c y Ad) (aH.1 b y Ad);exact aH.1 (m p q (aH.2 λy hy=>aH.1 b y Gt)) y hy
def dO5(b:bP T P)(c:t<T.n t)(h:(T.row t).agg=false):(T.row t).size=1:=by
 let⟨i,e,f,g,z,j,k,l,m,p,q⟩:=(b t c).info;simp_all
def aQ0(b:G.av k 0=u)(c:u.oneCell'=true):Rv w G u (.arr k 0):=by
 subst b;exact .arr k 0 c
def bG7(l:bP T P)(s:t<T.n t)(j:(T.row t).kd= .slice)(r:(T.row t).elem<T.n (T.row t).elem)(g:¬(n*(T.row (T.row t).elem).size>2^24))(v:(zeroValue (T.row t).elem).run P w= .ok z w) c
 (k:Instr.fill (λi=>some (i*(T.row (T.row t).elem).size,(T.row (T.row t).elem).size)) ((Array.range (n*(T.row (T.row t).elem).size)).map (z.cells[·% z.cells.size]!)) c.toList=some b):
 (Instr.buildSlice t n c).run P w= .ok (.slice (some ⟨w.heap.size,0,none⟩) n n) (w.alloc (.cells b (T.row t).elem)):=by
 have u:=jW (l t s) j;unfold Instr.buildSlice;simp[SH,dI u,RG,iV l r];rw[Q9 g];by_cases e:n*(T.row (T.row t).elem).size=0
 ·have m:∀f:Nat->Value,(Array.range (n*(T.row (T.row t).elem).size)).map f= #[] :=by rw[e];intro f;exact Array.size_eq_zero_iff.1 Ad
  rw[m]at k;have q:∀f:Nat->Value,(Array.range 0).map f= #[] :=λf=>Array.size_eq_zero_iff.1 Ad;simp[e,Uy,SH,Tq,RG,q,k];simp[newRow,newObj,Sem.run]
 ·simp[e,Uu,SH,v,Tq,RG]
  rw[k];simp[newRow,newObj,Sem.run]
def aQ7(u:bP T P)(inv:Inv T Φ σ a w G) t n s(W:o.op= .buildSlice t n s)(E:t<T.n t)(h:iZ T (T.row t) σ d n s.toList K):Out T Φ σ a K ((execOp a.eval o).run P w):=by
 have k:(s.map λ(p:Nat×Operand)=>(p.1,a.eval p.2)).toList=s.toList.map λp=>(p.1,a.eval p.2):=Ad;unfold iZ at h;split at h;rename_i g R;let⟨C,O⟩:=aT h;simp only[Ru]at C;let⟨⟨L,M⟩,N⟩:=C;have c:=blt L;have q:=blt N;have U:n*(T.row (T.row t).elem).size<=1000:=by simpa using M
 let⟨z,Y,aa,Z,B⟩:=aC3 (w:=w) u c
 have ab:z.cells.size=(T.row (T.row t).elem).size:=by
  grind
 have m:V.okL σ.hasB σ.hasA (repR n (mapR V.lit (T.row (T.row t).elem).zero)):=by
  refine aH.2 λx X=>?_;have:=bA5 _ _ X;grind [dU,dL]
 have A:RvL w G ((Array.range (n*(T.row (T.row t).elem).size)).map (z.cells[·% z.cells.size]!)).toList (repR n (mapR V.lit (T.row (T.row t).elem).zero)):=by
  grind [cG7,dU,cH9,aM4,bA5]
 let⟨b,e,H,I,q3,q4,q5⟩:=bL4 inv (place':=λi=>some (i*(T.row (T.row t).elem).size,(T.row (T.row t).elem).size)) s.toList _ _ (λ_ _ _ h=>h) A m O;let⟨J,Q⟩:=aT q5;have j:e.length=n*(T.row (T.row t).elem).size:=by rw[q4,cH6,dU,Rw,B]
 let⟨k1,F,k3,k4⟩:=chunk_ok (T.row (T.row t).elem).agg (T.row (T.row t).elem).size n e j (dY.1 J) (λS=>dO5 u c S);have f:b.size=n*(T.row (T.row t).elem).size:=by have:=I.len;simp at this;omega
 have D:=Rz (Nat.le_mul_of_pos_right n q) U
 let⟨G',r,v⟩:=inv.eK2 R (.inl rfl) c (cur:=b) (l:=chunk (T.row (T.row t).elem).agg (T.row (T.row t).elem).size n e) (cap:=n) (n0:=w.drawn) Aa Cj f k3 (k4 _ _ q3)
  (by rw[k1,F,<-f,Um (by simp)];exact I)
 refine⟨.slice (some ⟨w.heap.size,0,none⟩) n n,w.alloc (.cells b (T.row t).elem),_,_,G', .inl ?_,Q,r,aQ0 (by rw[v,F]) rfl,?_⟩;have y:¬(n*(T.row (T.row t).elem).size>2^24):=by omega
 rw[<-k]at H;simp[execOp,W,SH,bG7 u E g c y Y _ H,RG,Tq];exact JU;exact h.elim
theorem bL2 n x:(List.replicate n x).flatMap V.cells=repR n x.cells:=by
 induction n with
 |zero=>rfl
 |succ n b=>
  have:repR (n+1) x.cells=appR x.cells (repR n x.cells):=rfl;rw[this,bT,List.replicate_succ,Tm,b]
def cX4(c:bP T P)(f:e<T.n e):(rU (T.row e) (mapR V.lit (T.row e).zero)).cells=(T.row e).zero.map V.lit/\(rU (T.row e) (mapR V.lit (T.row e).zero)).pure:=by
 let⟨i,h,j,k,z,l,m,p,q,r,b⟩:=(c e f).info;rw[dU];unfold rU;split;exact⟨rfl,by simp[V.pure,V.ok];exact bC6⟩;rename_i g;rw[b g];exact⟨rfl,by simp[Rt,SY,V.pure,V.ok]⟩
def bM9(g:bP T P)(v:t<T.n t)(j:(T.row t).kd= .slice)(l:(T.row t).elem<T.n (T.row t).elem)(C:n*(T.row (T.row t).elem).bytes<=140737488355328)(u:n<=140737488355328)(y:(zeroValue (T.row t).elem).run P w= .ok z w):
 ∃b,b=((Array.range (n*(T.row (T.row t).elem).size)).map (z.cells[·% z.cells.size]!))/\
 (Instr.makeSlice t (.int .i64 n) (.int .i64 n)).run P w= .ok (.slice (some ⟨w.heap.size,0,none⟩) n n) (w.alloc (.cells b (T.row t).elem)):=by
 have x:=jW (g t v) j;let⟨i,s,A,k,_⟩:=(g _ l).info;have c:IntKind.i64.wrap (n:Int)=n:=IntWalk.i64_in _ Aa;have B:((i.bytes:Int)*(n:Int))<=140737488355328:=by rw[k,Int.mul_comm];omega
 unfold Instr.makeSlice;simp only[SH,dI x,RG,asInt,asIntOf,Tq,cO9 s,c]
 have m:(decide ((n:Int)<0)||decide ((i.bytes:Int)*(n:Int)>2^48)||decide ((n:Int)<0)||decide ((n:Int)>(n:Int)))=false:=by
  grind
 rw[Q9 (by rw[m];simp)];have q:¬(n*i.bytes>roomBytes):=by rw[k];simp[roomBytes];omega
 simp[SK,askRoom,Q9 q,Tq,RG,iV g l,SH];by_cases e:n*(T.row (T.row t).elem).size=0
 ·have r:∀f:Nat->Value,(Array.range 0).map f= #[] :=λf=>Array.size_eq_zero_iff.1 Ad
  simp[e,Uy,r];simp[newRow,newObj,Sem.run]
 ·simp[e,Uu,SH,y,Tq,RG]
  simp[newRow,newObj,Sem.run]
def aY6(j:bP T P)(inv:Inv T Φ σ a w G) t x y(J:o.op= .makeSlice t x y)(M:t<T.n t)(h:jY T (T.row t) σ d (σ.ev x) (σ.ev y) K):Out T Φ σ a K ((execOp a.eval o).run P w):=by
 let⟨E,x2⟩:=inv.ev x;let⟨F,y2⟩:=inv.ev y;unfold jY at h;split at h;rename_i n c s I N O;rw[N]at E;rw[O]at F;let⟨⟨n0,W,Y,Z⟩,H⟩:=dX h;let⟨q,C⟩:=aT H;simp only[Ru]at q;have i:=blt q.1;have L:=blt q.2;subst W;obtain⟨m,rfl⟩:=Int.eq_ofNat_of_zero_le n0;let⟨z,Q,S,R,B⟩:=aC3 (w:=w) j i
 have U:z.cells.size=(T.row (T.row t).elem).size:=by
  grind
 let⟨b,r,f⟩:=bM9 (w:=w) j M s i (n:=m) Aa Aa Q;let⟨D,X⟩:=cX4 j i;have e:b.size=m*(T.row (T.row t).elem).size:=by rw[r];simp
 have v:RvL w G b.toList (repR m ((T.row (T.row t).elem).zero.map V.lit)):=by
  grind [cG7,cH9,aM4,bA5]
 let⟨G',g,k⟩:=inv.eK2 I (.inl rfl) i (cur:=b) (l:=List.replicate m (rU (T.row (T.row t).elem) (mapR V.lit (T.row (T.row t).elem).zero))) (cap:=m) (n0:=w.drawn) Ad Cj e
  (by intro u A;obtain⟨_,rfl⟩:=List.mem_replicate.1 A;rw[D];simpa using B)
  (aH.2 λu A=>by obtain⟨_,rfl⟩:=List.mem_replicate.1 A;exact X)
  (by rw[bL2,D,List.length_replicate,<-e,Um (by simp)];exact v)
 refine⟨.slice (some ⟨w.heap.size,0,none⟩) m m,w.alloc (.cells b (T.row t).elem),_,_,G', .inl ?_,C,g,aQ0 (by rw[k,List.length_replicate]) rfl,?_⟩;simp[execOp,J,E.bH,F.bH,SH,f,RG,Tq];exact JU;exact h.elim
end
section
variable{T:Tab}{P:Program}{Φ:Fr}{σ:St}{a:Act}{w:World}{G:Gh}{K:VK}{o:Oper}{d:Nat}
def Src(w:World)(G:Gh)(v:Value)(xs:List V):Prop:=
 (v= .slice none 0 0/\xs=[])\/∃ad c sz,v= .slice (some ad) xs.length c/\xs.length<=c/\c<=maxLen/\(∀x∈xs,x.cells.length=sz)/\Here w G ad (xs.flatMap V.cells)
def Rv.src(h:Rv w G v (.sl l)):Src w G v l:=by
 exact OU
def aV9(inv:Inv T Φ σ a w G) x{K}(h:lF σ (σ.ev x) K):∃xs,K xs/\bM xs/\Src w G (a.eval x) xs:=by
 let⟨b,e⟩:=inv.ev x;unfold lF at h;split at h;rename_i l c;rw[c]at b e;exact⟨l,h,e,b.src⟩;rename_i l c;rw[c]at b e;exact⟨l,h,e,b.wK.src⟩;rename_i c;rw[c]at b;exact⟨[],h,Cc, .inl ⟨b.bH,rfl⟩⟩;rename_i k g c;rw[c]at b;split at h;rename_i en f;let⟨⟨m,j⟩,i⟩:=dX h;subst m;refine⟨en.l,i,inv.wfA k en f,?_⟩;have:=(inv.arr k en f).reads j;rw[b.oQ];exact this;exact h.elim;exact h.elim
def Src.news(h:Src w G v xs)(q:∀x∈xs,x.cells.length=z):∃b,b.length=xs.length*z/\RvL w G b (xs.flatMap V.cells)/\
 ((v= .slice none 0 0/\xs=[])\/∃g c,v= .slice (some g) xs.length c/\∀j u,b[j]? =some u->w.cell? (g.add j)=some u):=by
 rcases h with⟨i,k⟩|⟨g,c,sz,i,k,r,s,m⟩
 ·subst k
  exact⟨[],Ad,⟨rfl,(λ_ h=>Ah),(λ_ _ _ h=>HY)⟩, .inl ⟨i,rfl⟩⟩
 ·let⟨cc,l,t⟩:=m.out
  have n:=sH q;refine⟨(List.range (xs.flatMap V.cells).length).map cc,by rw[Rw,List.length_range,n],⟨Ad,?_,?_⟩, .inr ⟨g,c,i,?_⟩⟩
  ·intro u e
   obtain⟨j,f,rfl⟩:=Rn.1 e;rw[Tf]at f;exact(l j _ (QX f)).2
  ·grind
  ·intro j u e
   rw[RN]at e;by_cases f:j< (xs.flatMap V.cells).length
   ·rw[List.getElem?_range f]at e
    simp at e;subst e;exact(l j _ (QX f)).1
   ·simp_all
structure AppSrc(P:Program)(w:World)(t':TypeId)(v:Value)(n sz:Nat)(news:List Value):Prop where
 ty:P.underlying t'=some .string\/∃e',P.underlying t'=some (.slice e')
 len:∀w':World,(Builtin.lenOf v).run P w'= .ok n w'
 fst:∀w':World,w'.heap=w.heap->(Builtin.firstCells sz n v).run P w'= .ok news.toArray w'
theorem app_none(m:P.underlying t=some (.slice e))(hi:P.info? e=some i) b(l:n<=c)(h:AppSrc P w g v 0 i.size []):
 (Builtin.append_ #[t,g] ty #[.slice b n c,v]).run P w= .ok (.slice b n c) w:=by
 have j:=h.fst w rfl;have k:=h.len w;rcases h.ty with f|⟨p,f⟩<;>cases b<;>simp[Builtin.append_,RJ m,RJ f,sizeOf,typeInfo,hi,k,j,l,storeCells]
def app_nil(u:P.underlying t=some (.slice e))(hi:P.info? e=some i)(x:i.zero=some z)(h:AppSrc P w j v n i.size b)
 (k:0<n)(m:(n:Int)<=9223372036854775807)(l:n*i.bytes<=281474976710656):
 (Builtin.append_ #[t,j] ty #[.slice none 0 0,v]).run P w=
  .ok (.slice (some ⟨w.heap.size,0,none⟩) n (grownCap w n 0 e)) (w.drew.alloc (.cells (b.toArray++Builtin.zeroCells z.cells (grownCap w n 0 e-n)) e)):=by
 have s:n≠0:=Aa;have f:¬(9223372036854775807< (n:Int)):=Aa;have c:¬(281474976710656<Builtin.nextslicecap n 0*i.bytes):=by rw[nextslicecap_zero k];omega
 have q:=h.fst w.drew rfl;have r:=h.len w;rcases h.ty with g|⟨y,g⟩<;>simp[Builtin.append_,RJ u,RJ g,sizeOf,typeInfo,zeroValue,hi,x,r,s,f,c,Question.forced,run_firstCells_none,q,newRow,grownCap]
def app_grow(E:P.underlying t=some (.slice e))(hi:P.info? e=some i)(F:i.zero=some z)
  b c f(g:List Value)(s:g.length=c*i.size)(l:∀j v,g[j]? =some v->w.cell? (b.add j)=some v)
 (h:AppSrc P w y v n i.size k)
 (I:f<c+n)(A:((c+n:Nat):Int)<=9223372036854775807)(u:Builtin.nextslicecap (c+n) f*i.bytes<=281474976710656):
 (Builtin.append_ #[t,y] ty #[.slice (some b) c f,v]).run P w=
  .ok (.slice (some ⟨w.heap.size,0,none⟩) (c+n) (grownCap w (c+n) f e))
   (w.drew.alloc (.cells (g.toArray++k.toArray++Builtin.zeroCells z.cells (grownCap w (c+n) f e- (c+n))) e)):=by
 have D:¬(c+n<=f):=Aa;have q:¬(9223372036854775807< ((c:Int)+(n:Int))):=Aa;have m:¬(281474976710656<Builtin.nextslicecap (c+n) f*i.bytes):=Aa;have B:=h.fst w.drew rfl;have C:=h.len w;have r:=run_firstCells_some (P:=P) w.drew i.size c b c f g s (by simpa using l);rcases h.ty with x|⟨H,x⟩
 all_goals
  simp[Builtin.append_,RJ E,RJ x,sizeOf,typeInfo,zeroValue,hi,F,C,D,q,m,Question.forced,B,r,newRow,grownCap];congr 2;apply Array.ext';simp[Tn]
def app_room(y:P.underlying t=some (.slice e))(hi:P.info? e=some i)
  g b f cur(s:w.heap[g]? =some (.cells cur e (0,0)))
 (h:AppSrc P w p v m i.size c)(q:∀u∈c,u.oneCell'=true)
 (j:b+m<=f)(k:b*i.size+c.length<=cur.size):
 (Builtin.append_ #[t,p] ty #[.slice (some ⟨g,0,none⟩) b f,v]).run P w=
  .ok (.slice (some ⟨g,0,none⟩) (b+m) f) (w.setRow g (cur.toList.take (b*i.size)++c++cur.toList.drop (b*i.size+c.length)).toArray):=by
 have r:=h.fst w rfl;have x:=h.len w;have l:=run_storeCells_at P g (b*i.size) e c 0 cur w s (by simpa using k) q;simp[TW]at l;rcases h.ty with n|⟨z,n⟩<;>simp[Builtin.append_,RJ y,RJ n,sizeOf,typeInfo,hi,x,j,r,Addr.add_lit,l]
def ASrc(P:Program)(w:World)(G:Gh)(t':TypeId)(v:Value)(sz:Nat)(xs:List V):Prop:=
 ∃news:List Value,news.length=xs.length*sz/\RvL w G news (xs.flatMap V.cells)/\AppSrc P w t' v xs.length sz news
def Src.app(p:P.underlying k=some (.slice f))(h:Src w G v xs)(r:∀x∈xs,x.cells.length=z):ASrc P w G k v z xs:=by
 let⟨b,g,s,i⟩:=h.news r;refine⟨b,g,s, .inr ⟨f,p⟩,λw'=>?_,λw' q=>?_⟩;rcases i with⟨rfl,rfl⟩|⟨e,c,rfl,_⟩<;>simp[Builtin.lenOf];rcases i with⟨rfl,rfl⟩|⟨e,c,rfl,l⟩;simp_all [RS,Builtin.firstCells];have m:∀a:Addr,w'.cell? a=w.cell? a:=λa=>by unfold World.cell?;rw[q]
 exact run_firstCells_some (P:=P) w' z xs.length e xs.length c b g (λj u n=>by rw[m];exact l j u n)
def str_app(j:P.underlying f=some .string) s(e:∀x∈strV s,x.cells.length=z):ASrc P w G f (.string s) z (strV s):=by
 have g:(strV s).flatMap V.cells=(s.data.toList.map λb=>Value.int .u8 b.toNat).map .lit:=by
  unfold strV;rw[TI];induction s.data.toList with
  |nil=>rfl
  |cons b l k=>rw[Rt,Tm,k];rfl
 have c:(strV s).length=s.size:=Ea;refine⟨s.data.toList.map λb=>Value.int .u8 b.toNat,?_,?_, .inl j,λw'=>?_,λw' _=>?_⟩;unfold strV at e⊢;cases i:s.data.toList with
 |nil=>simp
 |cons b l=>
  have:=e (.lit (.int .u8 b.toNat)) (by rw[i];simp);grind [Rj,V.cells]
 rw[g];exact aM4 (λv hv=>by obtain⟨b,_,rfl⟩:=Rn.1 hv;rfl);rw[c];simp[Builtin.lenOf];rw[c];simp[Builtin.firstCells];apply Array.ext';simp
def cV9(hT:bP T P)(inv:Inv T Φ σ a w G)(ht:t<T.n t)(ay:(T.row t).kd= .slice)(he:(T.row t).elem<T.n (T.row t).elem) ty(ag:∀g,σ.hasA k g->g<gen)
 (Y:bM l)(a7:bM xs)(am:ASrc P w G t' v (T.row (T.row t).elem).size xs)(Z:∀x∈l,x.cells.length=(T.row (T.row t).elem).size)(hz:∀x∈xs,x.cells.length=(T.row (T.row t).elem).size)(hb:(l.length+xs.length)*(T.row (T.row t).elem).bytes<=140737488355328)(a5:l.length+xs.length<=140737488355328)
 (R:(gJ T w G k u (T.row t).elem l/\(F= .own\/F= .ap))\/(Rv w G u (.cap l)/\F= .ap)):
 ∃B w' G',(Builtin.append_ #[t,t'] ty #[u,v]).run P w= .ok B w'/\Inv T Φ (σ.apps [.a k ⟨gen,F,(T.row t).elem,l++xs⟩]) a w' G'/\G'.av k gen=B/\B.oneCell'=true:=by
 have az:F= .own\/F= .ap:=by rcases R with⟨_,h⟩|⟨_,h⟩<;>first|exact h|exact .inr h
 have ah:bM (l++xs):=aH.2 λx hx=>by
  grind [aH]
 have ao:∀x∈l++xs,x.cells.length=(T.row (T.row t).elem).size:=λx hx=>by
  grind
 let⟨r,n1,n2,n3⟩:=am;let⟨i,i1,i2,i3,z,i4,i5,i6,i7,i8,i9⟩:=(hT _ he).info;have S:=jW (hT t ht) ay
 have a3:z.cells.size=i.size:=by
  grind
 have same:xs=[]->(Builtin.append_ #[t,t'] ty #[u,v]).run P w= .ok u w->u.oneCell'=true->gW T w G k ⟨gen,F,(T.row t).elem,l⟩\/True->∃B w' G',(Builtin.append_ #[t,t'] ty #[u,v]).run P w= .ok B w'/\Inv T Φ (σ.apps [.a k ⟨gen,F,(T.row t).elem,l++xs⟩]) a w' G'/\G'.av k gen=B/\B.oneCell'=true:=by
  intro a2 Q H _;subst a2;refine⟨u,w,{G with av:=λA g=>if A=k/\g=gen then u else G.av A g,O:=G.O},Q,?_,Ad,H⟩;have M:Keep w w G {G with av:=λA g=>if A=k/\g=gen then u else G.av A g,O:=G.O}:=⟨λ_ h=>h,λ_ _=>rfl⟩;refine inv.zU (w':=w) (k:=k) (en:=⟨gen,F,(T.row t).elem,l++[]⟩) (λg hg=>Uf (ag g hg)) (λA g hg=>?_) (by rw[Rq];exact Y) ?_ (λ_ _ _=>rfl) (λ_=> .inl rfl) (λ_ _ _=>rfl) (Rf _) rfl rfl rfl;grind;rw[Rq];have ab:(λA g=>if A=k/\g=gen then u else G.av A g) k gen=u:=Ad;unfold gW;rcases R with⟨h,rfl|rfl⟩|⟨h,rfl⟩;show _/\gJ _ _ _ _ ((λA g=>if A=k/\g=gen then u else G.av A g) k gen) _ _;rw[ab];exact⟨he,h.keep M Y (λb hb=>⟨hb,rfl⟩)⟩;show _/\(gJ _ _ _ _ ((λA g=>if A=k/\g=gen then u else G.av A g) k gen) _ _\/_);rw[ab];exact⟨he, .inl (h.keep M Y (λb hb=>⟨hb,rfl⟩))⟩;refine⟨he, .inr ⟨?_,Z⟩⟩;show Rv _ _ ((λA g=>if A=k/\g=gen then u else G.av A g) k gen) _;rw[ab];exact h.aW M (by simp[V.pure,V.ok];exact Y)
 have aa:∀ f  m ,RvL w G f (l.flatMap V.cells)->l.length+xs.length<=m->m<=maxLen->
  (Builtin.append_ #[t,t'] ty #[u,v]).run P w= .ok (.slice (some ⟨w.heap.size,0,none⟩) (l.length+xs.length) m) (w.drew.alloc (.cells (f.toArray++r.toArray++Builtin.zeroCells z.cells (m- (l.length+xs.length))) (T.row t).elem))->
  ∃B w' G',(Builtin.append_ #[t,t'] ty #[u,v]).run P w= .ok B w'/\Inv T Φ (σ.apps [.a k ⟨gen,F,(T.row t).elem,l++xs⟩]) a w' G'/\G'.av k gen=B/\B.oneCell'=true:=by
  intro f m ho aw ax Q;have al:f.length=l.length*(T.row (T.row t).elem).size:=by rw[ho.len,sH Z]
  have ac:(f++r).length=(l++xs).length*(T.row (T.row t).elem).size:=by rw[QY,al,n1,QY,Nat.add_mul]
  let⟨G',aq,U⟩:=inv.dC7 (n0:=w.drawn+1) ag az he (cur:=f.toArray++r.toArray++Builtin.zeroCells z.cells (m- (l.length+xs.length))) (l:=l++xs) (cap:=m) (by simpa using aw) ax
   (by simp[UO,Tz,size_zeroCells,a3,al,n1,i2,<-Nat.add_mul];congr 1;omega) ao ah
   (by
    rw[<-ac,Ub];have:(f.toArray++r.toArray++Builtin.zeroCells z.cells (m- (l.length+xs.length))).toList=(f++r)++(Builtin.zeroCells z.cells (m- (l.length+xs.length))).toList:=Ad;rw[this,List.take_left];exact ho.append n2)
  exact⟨_,_,G',Q,aq,by rw[U];simp,rfl⟩
 have au:((l.length+xs.length:Nat):Int)<=9223372036854775807:=Aa;have ai:∀old,old<l.length+xs.length->Builtin.nextslicecap (l.length+xs.length) old*i.bytes<=281474976710656:=λold h=>growslice_fits h (by rw[i3];exact hb);have aj:∀old,grownCap w (l.length+xs.length) old (T.row t).elem<=maxLen:=λold=>grownCap_le_maxLen w _ _ _ Cj;rw[<-i2]at n3
 have empty:xs=[]->∀ b  n c ,n<=c->(Builtin.append_ #[t,t'] ty #[.slice b n c,v]).run P w= .ok (.slice b n c) w:=by
  rintro rfl b n c a6;grind [RS,app_none]
 by_cases hx0:xs=[]
 ·
  rcases R with⟨N,af⟩|⟨J,af⟩
  ·rcases N with⟨rfl|⟨a0,rfl⟩,rfl⟩|⟨b,cap,cur,rfl,I,h3,h4,h5,h6,h7,h8⟩
   ·exact MN
   ·exact same hx0 (empty hx0 (some a0) 0 0 (Rf _)) rfl (.inr trivial)
   ·exact same hx0 (empty hx0 _ _ _ h4) rfl (.inr trivial)
  ·rcases J.vP with⟨rfl,_⟩|⟨ad,sz,cc,rfl,_⟩
   ·exact MN
   ·exact same hx0 (empty hx0 _ _ _ (Rf _)) rfl (.inr trivial)
 ·have an:=List.length_pos_iff.2 hx0
  have C:u= .slice none 0 0->l=[]->∃B w' G',(Builtin.append_ #[t,t'] ty #[u,v]).run P w= .ok B w'/\Inv T Φ (σ.apps [.a k ⟨gen,F,(T.row t).elem,l++xs⟩]) a w' G'/\G'.av k gen=B/\B.oneCell'=true:=by
   rintro rfl rfl;have hr:=app_nil (ty:=ty) S i1 i4 n3 an Aa (by rw[i3];simp at hb;omega);refine aa [] (grownCap w xs.length 0 (T.row t).elem) ⟨rfl,(λ_ h=>Ah),(λ_ _ _ h=>HY)⟩ (by simpa using grownCap_ge w xs.length 0 _) (by simpa using aj 0) ?_;rw[hr];simp
  have s:∀ b  cap  f ,u= .slice (some b) l.length cap->RvL w G f (l.flatMap V.cells)->(∀j v,f[j]? =some v->w.cell? (b.add j)=some v)->cap<l.length+xs.length->
   ∃B w' G',(Builtin.append_ #[t,t'] ty #[u,v]).run P w= .ok B w'/\Inv T Φ (σ.apps [.a k ⟨gen,F,(T.row t).elem,l++xs⟩]) a w' G'/\G'.av k gen=B/\B.oneCell'=true:=by
   rintro b cap f rfl ho ae ak;have hr:=app_grow (ty:=ty) S i1 i4 b l.length cap f (by rw[ho.len,sH Z,i2]) ae n3 ak au (ai cap ak);exact aa f _ ho (grownCap_ge w _ _ _) (aj cap) hr
  rcases R with⟨N,af⟩|⟨J,af⟩
  ·rcases N with⟨H|⟨a0,H⟩,I⟩|⟨b,cap,cur,H,I,h3,h4,h5,h6,h7,h8⟩
   ·exact C H I
   ·exact s a0 0 [] (by rw[H,I];rfl) (by rw[I];exact⟨rfl,(λ_ h=>by cases h),(λ_ _ _ h=>by simp at h)⟩) (λj v h=>HY) (by rw[I];simpa using an)
   ·have X:∀j v,(cur.toList.take (l.length*(T.row (T.row t).elem).size))[j]? =some v->w.cell? ((⟨b,0,none⟩:Addr).add j)=some v:=by
     intro j v hv;rw[rY,SX,cell_of_row w b j cur _ _ h3];grind
    by_cases D:l.length+xs.length<=cap
    ·
     subst H;have L:l.length*i.size+r.length<=cur.size:=by rw[n1,h6,i2,<-Nat.add_mul];exact UX _ D
     have hr:=app_room (ty:=ty) S i1 b l.length cap cur h3 n3 n2.one D L;rw[i2]at hr L;let E:=(cur.toList.take (l.length*(T.row (T.row t).elem).size)++r++cur.toList.drop (l.length*(T.row (T.row t).elem).size+r.length)).toArray;let w':=w.setRow b E;let av':Nat->Nat->Value:=λA g=>if A=k/\g=gen then .slice (some ⟨b,0,none⟩) (l.length+xs.length) cap else G.av A g
     have U:av' k gen= .slice (some ⟨b,0,none⟩) (l.length+xs.length) cap:=IE;have M:Keep w w' G {G with av:=av',O:=G.O}:=⟨λ_ h=>h,λb' W=>TA w b b' _ (λe=>by subst e;rw[I]at W;cases W)⟩;have a4:(cur.toList.take (l.length*(T.row (T.row t).elem).size)).length=l.length*(T.row (T.row t).elem).size:=by rw[h8.len,sH Z]
     have a1:gJ T w' {G with av:=av',O:=G.O} k (av' k gen) (T.row t).elem (l++xs):=by
      refine .inr ⟨b,cap,E,by rw[U];simp,I,TN w b cur E _ _ h3,by simpa using D,h5,?_,ao,?_⟩;grind
      have e1:E.toList.take ((l++xs).length*(T.row (T.row t).elem).size)=cur.toList.take (l.length*(T.row (T.row t).elem).size)++r:=by
       grind [QY,Nat.add_mul,List.take_left]
      rw[e1,Ub];refine(h8.append n2).keep M (p:=λ_=>False) (q:=λ_ _=>False) ?_ (λ_ h=>h.elim) (λ_ _ h=>h.elim);rw[<-Ub];refine aH.2 λy hy=>?_;let⟨j,hj⟩:=RF hy;exact dF ah hj
     refine⟨_,w',{G with av:=av',O:=G.O},hr,?_,U,rfl⟩
     refine inv.zU (w':=w') (k:=k) (en:=⟨gen,F,(T.row t).elem,l++xs⟩) (av':=av') (O':=G.O) (λg hg=>Uf (ag g hg)) (λA g hg=>?_) ah ?_ (λ_ _ _=>rfl) (λ_=> .inl rfl)
      (λb' _ W=>TA w b b' _ (λe=>by subst e;exact W I)) Hg rfl rfl rfl
     ·grind
     ·grind [gW]
    ·exact s ⟨b,0,none⟩ cap _ H h8 X Aa
  ·rcases J.vP with⟨H,I⟩|⟨ar,sz,cc,H,I,h3,h4,h5,h6⟩
   ·exact C H I
   ·refine s ar l.length ((List.range (l.flatMap V.cells).length).map cc) H ⟨Ad,?_,?_⟩ ?_ Aa
    ·intro u R
     obtain⟨j,hj,rfl⟩:=Rn.1 R;rw[Tf]at hj;exact(h5 j _ (QX hj)).2
    ·grind
    ·intro j u R
     rw[RN]at R;by_cases hj:j< (l.flatMap V.cells).length
     ·rw[List.getElem?_range hj]at R
      simp at R;subst R;exact(h5 j _ (QX hj)).1
     ·simp_all
def contsK_sound(i:bP T P)(inv:Inv T Φ σ a w G)(e:c<T.n c) x{K}(h:contsK (T.row c).kd σ (σ.ev x) K):∃xs,K xs/\bM xs/\∀z,(∀x∈xs,x.cells.length=z)->ASrc P w G c (a.eval x) z xs:=by
 unfold contsK at h;split at h;rename_i b;let⟨xs,f,j,k⟩:=aV9 inv x h;exact⟨xs,f,j,λz g=>k.app (jW (i c e) b) g⟩;rename_i s b l;have f:=(inv.ev x).1;rw[l]at f;refine⟨_,h,?_,λz g=>?_⟩;grind [aH,dL,strV];rw[f.bH];exact str_app (aF2 (i c e) b) s g;exact h.elim
def dV0(h:dG6 k=true):k= .slice:=by cases k<;>first|rfl|cases h
def cB7(hT:bP T P)(inv:Inv T Φ σ a w G) t I s x(ho:o.op= .call ⟨.builtin .append,⟨[s,x]⟩,⟨[t,I]⟩⟩)(ht:t<T.n t)(Y:I<T.n I)(h:kT T (T.row t) (T.row I).kd σ d (σ.ev s) (σ.ev x) K):Out T Φ σ a K ((execOp a.eval o).run P w):=by
 let⟨H,s2⟩:=inv.ev s
 have ab:(T.row t).kd= .slice->∀ J  w' ,(Builtin.append_ #[t,I] o.type #[a.eval s,a.eval x]).run P w= .ok J w'->(execOp a.eval o).run P w= .ok (.value J) w':=by
  intro f J w' X;simp[execOp,ho,resolve,invoke,builtin,SH,Tq,RG,List.map_toArray,Rt,SY,X]
 have q:∀ k gen  Q  l xs ,(∀g,σ.hasA k g->g<gen)->bM l->bM xs->(T.row t).kd= .slice->(T.row t).elem<T.n (T.row t).elem->ASrc P w G I (a.eval x) (T.row (T.row t).elem).size xs->(∀x∈l,x.cells.length=(T.row (T.row t).elem).size)->(∀x∈xs,x.cells.length=(T.row (T.row t).elem).size)->
  (l.length+xs.length)*(T.row (T.row t).elem).bytes<=140737488355328->l.length+xs.length<=140737488355328->((gJ T w G k (a.eval s) (T.row t).elem l/\(Q= .own\/Q= .ap))\/(Rv w G (a.eval s) (.cap l)/\Q= .ap))->
  K (.arr k gen) [.a k ⟨gen,Q,(T.row t).elem,l++xs⟩]->Out T Φ σ a K ((execOp a.eval o).run P w):=by
  intro k gen Q l xs z W j f E N aa hz hb U hu hk;let⟨J,w',G',X,O,S,h1⟩:=cV9 hT inv ht f E o.type z W j N aa hz hb U hu;refine⟨J,w',_,_,G', .inl (ab f J w' X),hk,O,?_,?_⟩
  ·subst S;exact .arr k gen h1
  ·exact JU
 unfold kT at h;split at h
 ·rename_i f
  let⟨hc,h2⟩:=aT h;simp only[Ru]at hc;have E:=blt hc.1;let⟨xs,r,j,e⟩:=contsK_sound hT inv Y x h2;split at r;rename_i M;rw[M]at H;split at r;rename_i R;let⟨⟨B,C,m⟩,D⟩:=dX r;exact q d 0 .own [] xs (zK R 0) Cc j f E (e _ m) (λx hx=>H8) m (by simpa using B) (by simpa using C) (.inl ⟨.inl ⟨.inl H.bH,rfl⟩, .inl rfl⟩) (by simpa using D);exact r.elim
  ·rename_i l M
   rw[M]at H s2;split at r
   ·rename_i R
    let⟨⟨B,C,m⟩,D⟩:=dX r;simp[V.ok]at s2;cases l with
    |nil=>
     have hn:Nil0 (a.eval s):=by
      rcases H.vP with⟨h,_⟩|⟨ad,sz,cc,h,_⟩;exact .inl h;exact .inr ⟨ad,h⟩
     exact q d 0 .own [] xs (zK R 0) Cc j f E (e _ λx hx=>m x BI) (λx hx=>H8) (λx hx=>m x BI) B C (.inl ⟨.inl ⟨hn,rfl⟩, .inl rfl⟩) D
    |cons y l=>
    exact q d 0 .ap (y::l) xs (zK R 0) s2 j f E (e _ λx hx=>m x (Rh.2 (.inr hx))) (λx hx=>m x (Rh.2 (.inl hx))) (λx hx=>m x (Rh.2 (.inr hx))) B C (.inr ⟨H,rfl⟩) D
   exact r.elim
  rename_i k g M;rw[M]at H;split at r;rename_i en v;let⟨⟨hg,i,Z,B,C,m⟩,D⟩:=dX r;subst hg;have c:=inv.arr k en v;have z:∀g,σ.hasA k g->g<en.gen+1:=λg ⟨ac,q1,q2⟩=>by rw[v]at q1;cases q1;omega
  have F:=H.oQ;unfold gW at c;rw[Z]at c
  have A:∀{u},gJ T w G k u (T.row t).elem en.l->∀x∈en.l,x.cells.length=(T.row (T.row t).elem).size:=by
   intro u L x hx;rcases L with⟨_,h⟩|⟨b,cap,cur,_,_,_,_,_,_,h7,_⟩;rw[h]at hx;cases hx;exact h7 x hx
  rcases i with i|i;rw[i]at c;exact q k (en.gen+1) en.kind en.l xs z (inv.wfA k en v) j f E (e _ m) (A c.2) m B C (.inl ⟨by rw[F];exact c.2, .inl i⟩) D;rw[i]at c;rcases c.2 with c|c;exact q k (en.gen+1) en.kind en.l xs z (inv.wfA k en v) j f E (e _ m) (A c) m B C (.inl ⟨by rw[F];exact c, .inr i⟩) D;exact q k (en.gen+1) en.kind en.l xs z (inv.wfA k en v) j f E (e _ m) c.2 m B C (.inr ⟨by rw[F];exact c.1,i⟩) D;exact r.elim;exact r.elim
 exact h.elim
end
section
variable{T:Tab}{P:Program}{Φ:Fr}{σ:St}{a:Act}{w:World}{G:Gh}{K:VK}{o:Oper}{d:Nat}
def cL9{xs:List V}(g:∀x∈xs,x.cells.length=sz) j(k:(((xs.take h).drop l).flatMap V.cells)[j]? =some y):(xs.flatMap V.cells)[l*sz+j]? =some y:=by
 have c:xs.take h=(xs.take h).take l++(xs.take h).drop l:=(SG l _).symm;have e:=(SG h xs).symm;by_cases i:l<=(xs.take h).length
 have b:(((xs.take h).take l).flatMap V.cells).length=l*sz:=by
  rw[sH (sz:=sz) (λx f=>g x (RP (RP f))),Rk];congr 1;omega
 rw[e,Ub,c,Ub,Tn,U1 Aa,b,Nat.add_sub_cancel_left];grind;grind
theorem qC(inv:Inv T Φ σ a w G) x b{K}(h:bound (x.map σ.ev) b K):(x=none/\K b)\/∃y k n,x=some y/\a.eval y= .int k n/\K n:=by
 unfold bound at h;split at h;simp_all;rename_i k n c;cases x with
 |none=>simp at c
 |some y=>
  simp at c;have:=(inv.ev y).1;rw[c]at this;exact .inr ⟨y,k,n,rfl,this.bH,h⟩
 exact h.elim
def fV k(n:Int)(y:Nat) c(b:0<=n)(e:n<=y):(Instr.sliceBound (.int k n) y c).run P w= .ok n.toNat w:=by
 simp[Instr.sliceBound,asIntOf,b,e]
def aW3 isS(c cap:Nat) lo hi(l b:Int)(j:(lo=none/\l=0)\/∃k,lo=some (.int k l))(e:(hi=none/\b=c)\/∃k,hi=some (.int k b))(g:0<=l)(m:l<=b)(i:b<=cap):
 (Instr.sliceBounds isS c cap lo hi none).run P w= .ok (l.toNat,b.toNat,cap) w:=by
 rcases j with⟨rfl,rfl⟩|⟨k,rfl⟩
 ·rcases e with⟨rfl,rfl⟩|⟨f,rfl⟩
  ·simp[Instr.sliceBounds]
  ·simp[Instr.sliceBounds,fV f b cap _ Aa i]
 ·rcases e with⟨rfl,rfl⟩|⟨f,rfl⟩
  ·simp[Instr.sliceBounds,fV k l c _ g Aa]
  ·simp[Instr.sliceBounds,fV f b cap _ Aa i,fV k l b.toNat _ g Aa]
def cP5 isS(f cap:Nat) lo(l b:Int) c e(j:(lo=none/\l=0)\/∃k,lo=some (.int k l))(i:0<=l)(m:l<=b)(g:b<=cap):
 (Instr.sliceBounds isS f cap lo (some (.int c b)) (some (.int e b))).run P w= .ok (l.toNat,b.toNat,b.toNat) w:=by
 rcases j with⟨rfl,rfl⟩|⟨k,rfl⟩
 ·simp[Instr.sliceBounds,fV e b cap _ Aa g,fV c b b.toNat _ Aa Aa]
 ·simp[Instr.sliceBounds,fV e b cap _ Aa g,fV c b b.toNat _ Aa Aa,fV k l b.toNat _ i Aa]
def cH8(hT:bP T P)(inv:Inv T Φ σ a w G) t x lo hi M(ho:o.op= .slice t x lo hi M)(ht:t<T.n t)
 (h:sZ T (T.row t) σ (σ.ev x) (lo.map σ.ev) (hi.map σ.ev) (M.map σ.ev) K):Out T Φ σ a K ((execOp a.eval o).run P w):=by
 let⟨E,Z⟩:=inv.ev x
 have D:∀ z  n I ,((z=none/\n=I)\/∃y k,z=some y/\a.eval y= .int k n)->((z.map a.eval=none/\n=I)\/∃k,z.map a.eval=some (.int k n)):=by
  grind
 unfold sZ at h;split at h
 ·rename_i s Q C
  rw[C]at E;have hu:=aF2 (hT t ht) Q;split at h
  ·rename_i hm
   have an:M=none:=by cases M<;>simp_all
   subst an
   have v:∀(l e:Int),((lo=none/\l=0)\/∃y k,lo=some y/\a.eval y= .int k l)->((hi=none/\e=s.size)\/∃y k,hi=some y/\a.eval y= .int k e)->need (0<=l/\l<=e/\e<=s.size) (K (.lit (.string (s.extract l.toNat e.toNat))) [])->Out T Φ σ a K ((execOp a.eval o).run P w):=by
    intro l e hl H hn;let⟨⟨X,Y,q3⟩,hk⟩:=dX hn;have hb:=aW3 (P:=P) (w:=w) false s.size s.size _ _ l e (D lo l 0 hl) (D hi e s.size H) X Y q3;refine .plain inv (v':= .string (s.extract l.toNat e.toNat)) ?_ hk (.lit _ rfl) dL;simp[execOp,ho,E.bH,Instr.sliceAt,SH,dI hu,RG,Instr.slice,Option.map_none,Option.isSome_none,Bool.false_eq_true,Uu,Tq,hb]
   rcases qC inv lo 0 h with⟨q,h⟩|⟨y,k,n,q,u,h⟩
   ·rcases qC inv hi _ h with⟨F,h⟩|⟨y',W,n',F,f2,h⟩
    ·simp_all
    ·simp_all
   ·grind [qC]
  ·exact h.elim
 ·rename_i Q
  have hu:=jW (hT t ht) Q;let⟨hc,h⟩:=aT h;have he:=blt hc
  obtain⟨xs,h,ao,ak⟩:∃xs,(bound (lo.map σ.ev) 0 λl=>bound (hi.map σ.ev) xs.length λh=>match M.map σ.ev with
   |none=>need (0<=l/\l<=h/\h<=xs.length/\(l=0\/∀x∈xs,x.cells.length=(T.row (T.row t).elem).size)) (K (.sl ((xs.take h.toNat).drop l.toNat)) [])
   |some m=>match hi.map σ.ev with
    |none=>False
    |some _=>bound (some m) 0 λm=>need (0<=l/\l<=h/\h<=xs.length/\m=h/\(l=0\/∀x∈xs,x.cells.length=(T.row (T.row t).elem).size)) (K (.cap ((xs.take h.toNat).drop l.toNat)) []))/\bM xs/\Rv w G (a.eval x) (.sl xs):=by
   unfold lV at h;split at h
   ·rename_i l C
    rw[C]at E Z;simp[V.ok]at Z;exact⟨l,h,Z,E⟩
   ·rename_i l C
    rw[C]at E Z;simp[V.ok]at Z;exact⟨l,h,Z,E.wK⟩
   ·rename_i C
    rw[C]at E;exact⟨[],h,Cc,by rw[E.bH];exact .slN⟩
   ·rename_i k g C
    split at h
    ·rename_i en ab
     let⟨⟨hg,hk⟩,h⟩:=dX h;rw[C]at E;have R:=inv.arr k en ab;unfold gW at R;rw[hk]at R;exact⟨en.l,h,inv.wfA k en ab,by rw[E.oQ,<-hg];exact R⟩
    ·exact h.elim
   ·exact h.elim
  have hsub:∀l e:Nat,bM ((xs.take e).drop l):=λl e=>aH.2 λy S=>aH.1 ao y (RP (RQ S))
  obtain⟨b,f,cap,hv,L,A⟩:∃b f cap,a.eval x= .slice b f cap/\f=xs.length/\((b=none/\f=0/\cap=0)\/∃r sz cc,b=some r/\f<=cap/\cap<=maxLen/\(0<f->G.O r.block= .fz)/\(∀x∈xs,x.cells.length=sz)/\At w r cc (xs.flatMap V.cells)/\∀ j  y,(xs.flatMap V.cells)[j]? =some y->Rv w G (cc j) y):=by
   rcases ak.bK8 with⟨q,u⟩|⟨r,c,sz,cc,q,u,e3,e4,U,e6,e7⟩;exact⟨none,0,0,q,by rw[u];rfl, .inl ⟨rfl,rfl,rfl⟩⟩;exact⟨some r,_,c,q,rfl, .inr ⟨r,sz,cc,rfl,u,e3,e4,U,e6,e7⟩⟩
  have au:f<=cap:=by rcases A with⟨_,h1,h2⟩|⟨_,_,_,_,h,_⟩<;>omega
  have N:∀ l e m ,l<=e->e<=f->e<=m->m<=cap->(l=0\/∀x∈xs,x.cells.length=(T.row (T.row t).elem).size)->
   Rv w G (.slice (if m=l then b else b.map (·.add (l*(T.row (T.row t).elem).size))) (e-l) (m-l)) (.sl ((xs.take e).drop l))/\
   (m=e->Rv w G (.slice (if m=l then b else b.map (·.add (l*(T.row (T.row t).elem).size))) (e-l) (m-l)) (.cap ((xs.take e).drop l))):=by
   intro l e m X Y q3 q4 q5;have ac:((xs.take e).drop l).length=e-l:=by rw[Sr,Rk];omega
   rcases A with⟨rfl,u,e3⟩|⟨r,sz,cc,rfl,u,e3,e4,U,e6,e7⟩
   ·have al:m=l:=by omega
    have h0:e-l=0:=Aa;have h1:m-l=0:=Aa;have ag:(xs.take e).drop l=[] :=TQ Aa;rw[QU al,h0,h1,ag];exact⟨.slN,λ_=> .capN⟩
   ·
    obtain⟨i,aj,aa,ai⟩:∃i,(if m=l then some r else(some r).map (·.add (l*(T.row (T.row t).elem).size)))=some i/\i.block=r.block/\(l<e->i=r.add (l*sz)):=by
     by_cases af:m=l;rw[QU af];exact⟨r,rfl,rfl,λh=>Aa⟩;rw[Q9 af];refine⟨_,rfl,add_block _ _,λae=>?_⟩;rcases q5 with rfl|q5;simp;have aq:xs≠ [] :=by rintro rfl;simp at L;omega
     obtain⟨y,ys,rfl⟩:=List.exists_cons_of_ne_nil aq;rw[<-q5 y Ad,U y Ad]
    rw[aj]
    have B:At w i (λj=>cc (l*sz+j)) (((xs.take e).drop l).flatMap V.cells):=by
     intro j y S
     have ae:l<e:=by
      rcases Sj l e with h|h;exact h;rw[TQ (by omega:((xs.take e).drop l).length=0)]at S;simp at S
     rw[ai ae,add_add'];exact e6 _ y (cL9 U j S)
    have hrel:∀(j:Nat) y,(((xs.take e).drop l).flatMap V.cells)[j]? =some y->Rv w G (cc (l*sz+j)) y:=λj y S=>e7 _ y (cL9 U j S);have J:0< ((xs.take e).drop l).length->G.O i.block= .fz:=λh=>by rw[aa];exact e4 (by omega)
    have ah:∀x∈(xs.take e).drop l,x.cells.length=sz:=λx C=>U x (RP (RQ C));constructor
    ·have:=Rv.slS (w:=w) (G:=G) i (m-l) ((xs.take e).drop l) sz _ Aa Aa J ah B hrel
     rwa [ac]at this
    ·intro am
     have:=Rv.capS (w:=w) (G:=G) i ((xs.take e).drop l) sz _ Aa J ah B hrel;rw[ac]at this;rw[am];exact this
  have run:∀ l e m ,(Instr.sliceBounds true f cap (lo.map a.eval) (hi.map a.eval) (M.map a.eval)).run P w= .ok (l,e,m) w->
   (execOp a.eval o).run P w= .ok (.value (.slice (if m=l then b else b.map (·.add (l*(T.row (T.row t).elem).size))) (e-l) (m-l))) w:=by
   intro l e m hb;simp[execOp,ho,hv,Instr.sliceAt,SH,dI hu,RG,Instr.slice,hb,iV hT he,Tq]
  have v:∀(l e:Int),((lo=none/\l=0)\/∃y k,lo=some y/\a.eval y= .int k l)->((hi=none/\e=xs.length)\/∃y k,hi=some y/\a.eval y= .int k e)->
   (match M.map σ.ev with
   |none=>need (0<=l/\l<=e/\e<=xs.length/\(l=0\/∀x∈xs,x.cells.length=(T.row (T.row t).elem).size)) (K (.sl ((xs.take e.toNat).drop l.toNat)) [])
   |some m=>match hi.map σ.ev with
    |none=>False
    |some _=>bound (some m) 0 λm=>need (0<=l/\l<=e/\e<=xs.length/\m=e/\(l=0\/∀x∈xs,x.cells.length=(T.row (T.row t).elem).size)) (K (.cap ((xs.take e.toNat).drop l.toNat)) []))->Out T Φ σ a K ((execOp a.eval o).run P w):=by
   intro l e hl H hn;cases M with
   |none=>
    simp[Option.map_none]at hn;let⟨⟨X,Y,q3,q4⟩,hk⟩:=dX hn;have hb:=aW3 (P:=P) (w:=w) true f cap _ _ l e (D lo l 0 hl) (D hi e f (by rw[L];exact H)) X Y Aa;have hnv:=(N l.toNat e.toNat cap Aa Aa Aa (Rf _) (q4.imp (λh=>by rw[h];rfl) id)).1;exact Qe
   |some my=>
    rcases H with⟨rfl,_⟩|⟨yh,kh,rfl,ar⟩;exact hn.elim;simp[Tj]at hn;rcases qC inv (some my) 0 Ig with⟨q,_⟩|⟨y',W,m,q,u,hn⟩;cases q;cases q;let⟨⟨X,Y,q3,q5,q4⟩,hk⟩:=dX hn;subst q5;have hb:=cP5 (P:=P) (w:=w) true f cap (lo.map a.eval) l m kh W (D lo l 0 hl) X Y Aa;rw[<-ar,<-u]at hb;have hnv:=(N l.toNat m.toNat m.toNat Aa Aa (Rf _) Aa (q4.imp (λh=>by rw[h];rfl) id)).2 rfl;exact Qe
  rcases qC inv lo 0 h with⟨q,h⟩|⟨y,k,n,q,u,h⟩
  ·rcases qC inv hi _ h with⟨F,h⟩|⟨y',W,n',F,f2,h⟩
   ·exact v 0 xs.length (.inl ⟨q,rfl⟩) (.inl ⟨F,rfl⟩) h
   ·exact v 0 n' (.inl ⟨q,rfl⟩) (.inr ⟨y',W,F,f2⟩) h
  ·rcases qC inv hi _ h with⟨F,h⟩|⟨y',W,n',F,f2,h⟩
   ·exact v n xs.length (.inr ⟨y,k,q,u⟩) (.inl ⟨F,rfl⟩) h
   ·exact v n n' (.inr ⟨y,k,q,u⟩) (.inr ⟨y',W,F,f2⟩) h
 ·exact h.elim
end
section
variable{T:Tab}{P:Program}{Φ:Fr}{σ:St}{a:Act}{w:World}{G:Gh}{K:VK}{o:Oper}{d:Nat}
def dT4{d}(g:e.key=k)(j:MapKept.IsKey d k)(m:MapKept.IsKey d s):∀ l  i,(∀e∈l,MapKept.IsKey d e.key)->Instr.findNow d k l i=some none->
 Instr.findNow d s (l++[e]) i= @ite _ (k=s) (Classical.propDecidable _) (some (some (i+l.length,e.val))) (Instr.findNow d s l i):=by
 intro l;induction l with
 |nil=>
  let⟨r,u,B⟩:=Uh m j;simp[Uj,Instr.findNow,g,u];grind
 |cons x r y=>
  intro i n v;have f:=n x Ad;have C:=y (i+1) (λe g=>n e (by simp[g]));let⟨b,q,z⟩:=Uh j f;let⟨c,t,A⟩:=Uh m f;simp[Ur,Instr.findNow,q,t]at v⊢;grind
def cN7{d}(z:MapKept.IsKey d k)(A:MapKept.IsKey d s):∀ l  i j  u,(∀e∈l,MapKept.IsKey d e.key)->Instr.findNow d k l i=some (some (j,u))->
 ∃q,j=i+q/\(∃e,l[q]? =some e/\e.key=k)/\Instr.findNow d s (l.modify q λe=> {e with key:=k,val:=v}) i= @ite _ (k=s) (Classical.propDecidable _) (some (some (j,v))) (Instr.findNow d s l i):=by
 intro l;induction l with
 |nil=>intro i j u _ h;simp[Instr.findNow]at h
 |cons x r H=>
  intro i j u B f;have g:=B x Ad;let⟨b,C,D⟩:=Uh z g;let⟨c,y,L⟩:=Uh A g;let⟨J,E,M⟩:=Uh A z;simp[Instr.findNow,C]at f;cases b with
  |true=>
   simp[SI,Prod.mk.injEq]at f;let⟨rfl,rfl⟩:=f;have t:=D.1 rfl;simp[List.modify_zero_cons,Instr.findNow,y,E];grind
  |false=>
   obtain⟨I,rfl,⟨e,m,n⟩,N⟩:=H (i+1) j u (λe F=>B e (by simp[F])) f;refine⟨I+1,Aa,⟨e,by simpa using m,n⟩,?_⟩;simp[List.modify_succ_cons,Instr.findNow,y];grind
def eO1(h:c=kdOf (some b))(e:dY9 c=true):keyD c=b:=by
 cases b<;>simp_all [kdOf,dY9,keyD]
def dF2(h:cD3 b s=true):MapKept.IsKey (keyD b) s:=by
 unfold cD3 at h;split at h;split at h;exact trivial;cases h;split at h;have:=QV h;subst this;exact rfl;cases h;cases h
def lit_key(h:cD3 b s=true):litD s=keyD b:=by
 unfold cD3 at h;split at h;split at h;rfl;cases h;split at h;have:=QV h;subst this;rfl;cases h;cases h
def aW5(c:bP T P){t:TypeId}(q:t<T.n t)(h:bD5 T (T.row t)=true):∃e b,P.underlying t=some (.map e b)/\P.underlying e=some (keyD (T.row (T.row t).alen).kd)/\b=(T.row t).elem/\b<T.n b/\(T.row b).agg=false:=by
 unfold bD5 at h;simp only[Ru,UM]at h;obtain⟨⟨⟨⟨i,j⟩,k⟩,l⟩,m⟩:=h
 have p:(T.row t).kd= .map:=by
  revert i;cases(T.row t).kd<;>simp
 obtain⟨r,f,g,_⟩:=(c _ (blt k)).und;refine⟨_,_,eT8 (c t q) p,?_,rfl,blt l,m⟩;rw[eO1 g j];exact f
def bM3(v:bP T P)(inv:Inv T Φ σ a w G) t(u:o.op= .makeMap t none)(x:t<T.n t)(h:oN T t σ d K):Out T Φ σ a K ((execOp a.eval o).run P w):=by
 unfold oN at h;split at h;rename_i q;let⟨_,r⟩:=aT h;let av':Nat->Nat->Value:=λj g=>if j=d/\g=0 then .map (some w.heap.size)else G.av j g
 have c:av' d 0= .map (some w.heap.size):=IE;have f:∀b,b<w.heap.size->(w.alloc (.map #[] 0)).heap[b]? =w.heap[b]? :=λb e=>Uw w _ e
 have i:Inv T Φ (σ.apps [.a d ⟨0, .dead,t,[.bot]⟩]) a (w.alloc (.map #[] 0)) {G with av:=av',O:=upd G.O w.heap.size (.ar d)}:=by
  refine inv.zU (w':=w.alloc (.map #[] 0)) (k:=d) (en:=⟨0, .dead,t,[.bot]⟩) (av':=av') (O':=upd G.O w.heap.size (.ar d)) (λg l=>Uf (zK q 0 g l)) (λj g l=>?_) ?_ ?_ ?_ ?_ (λb e _=>f b e) Ad rfl rfl rfl;have:¬(j=d/\g=0):=by rintro⟨rfl,rfl⟩;exact absurd (zK q 0 0 l) Aa
  simp[av',this];simp[bM,V.okL,V.ok,and_self];exact⟨w.heap.size, #[],0,c,upd_same _ _ _,U6 w _,Ad,λs _=>rfl⟩;intro b e _;exact upd_ne _ _ (by have:=inv.tag b e;omega);intro b;by_cases m:b=w.heap.size;subst m;exact .inr (.inr (.inl ⟨upd_same _ _ _,aN0 inv,Ad⟩));exact .inl (upd_ne _ _ m)
 refine⟨.map (some w.heap.size),w.alloc (.map #[] 0),_,_,_, .inl ?_,r,i,aQ0 (by rw[<-c]) rfl,?_⟩;simp[execOp,u,Instr.makeMap,Result.andThen];exact JU;exact h.elim
def eF3(c:bP T P)(f:t<T.n t)(e:(T.row t).agg=false)(b:(zeroValue t).run P w= .ok z w):(T.row t).zero=[z] :=by
 let⟨i,g,k,l,z',h,m,p,q,r,j⟩:=(c _ f).info
 have:(zeroValue t).run P w= .ok z' w:=by
  simp[zeroValue,cO9 g,h,Result.andThen]
 rw[this]at b;cases b;exact j e
def bZ4(B:bP T P)(inv:Inv T Φ σ a w G) t x y(ho:o.op= .lookup t x y false)(ht:t<T.n t)(h:rG T t σ (σ.ev x) (σ.ev y) K):Out T Φ σ a K ((execOp a.eval o).run P w):=by
 let⟨J,Z⟩:=inv.ev x;let⟨L,y2⟩:=inv.ev y;unfold rG at h;split at h;rename_i k g s R S;rw[R]at J;rw[S]at L;split at h;rename_i en M;split at h;rename_i es N hl;let⟨hg,h2⟩:=dX h;let⟨m,D⟩:=aT h2;simp only[Ru]at m;obtain⟨W,et,u1,u2,rfl,H,X⟩:=aW5 B ht m.1.1;have c:=dF2 m.1.2;have Q:=Td m.2;have u:=inv.arr k en M;unfold gW at u;rw[N,hl]at u;let⟨b,C,r,q1,q2,q3,I,F⟩:=(u:bL6 _ w G k _ es);rw[Q]at I F;have ex:a.eval x= .map (some b):=by rw[J.oQ,<-hg,q1]
 have ey:=L.bH;let⟨z,E,U,A,_⟩:=aC3 (w:=w) B H;have f:=eF3 B H X E;rw[f]at D;have j:=D.out;have hc:∀e,(Instr.checkKey e 10000 W s).run P w= .ok () w:=λe=>MapKept.run_checkKey u2 c e 9999;have q:=F s c;cases l:jG s es with
 |none=>
  rw[l]at q j;refine .plain inv (v':=z) ?_ j (.lit z (A z (by rw[f];simp))) (by simp[Option.getD,V.ok]);simp[execOp,ho,ex,ey,Instr.lookup,dI u1,Ua q3,hc,UB u2 q,E,Result.andThen]
 |some Y=>
  rw[l]at q j;let⟨i,v,r1,r2,r3,r4⟩:=q;refine .plain inv (v':=v) ?_ j r3 (r4.ok _ _);exact Pm
 exact h.elim;exact h.elim;rename_i g cs s R S;rw[R]at J Z;rw[S]at L;split at h;rename_i kz es;let⟨m,D⟩:=aT h;simp[Ru]at m;obtain⟨W,et,u1,u2,rfl,H,X⟩:=aW5 B ht m.1.1;have c:=dF2 m.1.2;have O:=lit_key m.2;let⟨b,C,r,val,ex,q3,I,F,q6⟩:=J.mp_inv;rw[O]at I F q6;have ey:=L.bH;let⟨z,E,U,A,_⟩:=aC3 (w:=w) B H;have f:=eF3 B H X E;rw[f]at D;have j:=D.out;have hc:∀e,(Instr.checkKey e 10000 W s).run P w= .ok () w:=λe=>MapKept.run_checkKey u2 c e 9999;cases l:jG s es with
 |none=>
  rw[l]at j;refine .plain inv (v':=z) ?_ j (.lit z (A z (by rw[f];simp))) (by simp[Option.getD,V.ok]);simp[execOp,ho,ex,ey,Instr.lookup,dI u1,Ua q3,hc,UB u2 (I s c l),E,Result.andThen]
 |some Y=>
  rw[l]at j;let⟨⟨i,r1⟩,r2⟩:=F s Y c l;have hp:bM es:=by simp only[V.ok,V.okL]at Z;exact Z.2.2.1
  refine .plain inv (v':=val s) ?_ j (q6 s Y c l) ((assoc_pure hp l).ok _ _);exact Pm
 exact h.elim;exact h.elim
def cQ6{x:V}(h:x.atom=true)(hok:x.ok p q):x.pure:=JQ
def Rv.dV8(h:Rv w G v x)(b:x.atom=true):v.oneCell'=true:=by
 cases h with
 |lit u c=>exact c
 |slN=>rfl
 |slS=>rfl
 |capN=>rfl
 |capS=>rfl
 |fn=>rfl
 |fb=>rfl
 |mp=>rfl
 |_=>simp[V.atom]at b
def aA0(hT:bP T P)(inv:Inv T Φ σ a w G) t x y z(W:o.op= .mapUpdate t x y z\/o.op= .insert t x y z)(ht:t<T.n t)(h:iE T t σ (σ.ev x) (σ.ev y) (σ.ev z) K):Out T Φ σ a K ((execOp a.eval o).run P w):=by
 let⟨x1,x2⟩:=inv.ev x;let⟨y1,y2⟩:=inv.ev y;let⟨z1,z2⟩:=inv.ev z;unfold iE at h;split at h;rename_i k g s hx hy;rw[hx]at x1;rw[hy]at y1;split at h;rename_i en Q;split at h;rename_i es ac hl;let⟨hg,h2⟩:=dX h;let⟨H,h3⟩:=aT h2;simp only[Ru]at H;obtain⟨kt,et,u1,u2,rfl,u4,u5⟩:=aW5 hT ht H.1.1.1;have u:=dF2 H.1.1.2;have F:=Td H.1.2;have E:=inv.arr k en Q;unfold gW at E;rw[ac,hl]at E;let⟨b,l,r,q1,X,I,q4,q5⟩:=(E:bL6 _ w G k _ es);rw[F]at q4 q5;generalize M:keyD (T.row (T.row t).alen).kd=J at*;have ex:a.eval x= .map (some b):=by rw[x1.oQ,<-hg,q1]
 have ey:=y1.bH;have hc:∀e,(Instr.checkKey e 10000 kt s).run P w= .ok () w:=λe=>MapKept.run_checkKey u2 u e 9999;have zp:=cQ6 H.2 z2;have zo:=z1.dV8 H.2
 have key:∃f c,(Instr.mapUpdate t (.map (some b)) s (a.eval z)).run P w= .ok () {w with heap:=w.heap.setIfInBounds b (.map f c)}/\(∀e∈f.toList,MapKept.IsKey J e.key)/\
  ∀s',MapKept.IsKey J s'->∃j,Instr.findNow J s' f.toList 0= @ite _ (s=s') (Classical.propDecidable _) (some (some (j,a.eval z))) (Instr.findNow J s' l.toList 0):=by
  have S:=q5 s u;cases L:jG s es with
  |none=>
   rw[L]at S;refine⟨l.push {key:=s,val:=a.eval z,born:=r},r+1,?_,?_,λs' m=>?_⟩;simp[Instr.mapUpdate,dI u1,Ua I,hc,UB u2 S,MapKept.run_setObj_map _ I,Result.andThen];grind;refine⟨0+l.toList.length,?_⟩;rw[Array.toList_push];exact dT4 rfl u m _ 0 q4 S
  |some vv=>
   rw[L]at S;let⟨i,v,Y,_,_,_⟩:=S;have hm:=λs' m=>cN7 (d:=J) (k:=s) (s:=s') (v:=a.eval z) u m l.toList 0 i v q4 Y;let⟨q,hi,⟨e,Z,aa⟩,_⟩:=hm s u;have ab:i=q:=Aa;subst ab;have D:l[i]? =some e:=by simpa using Z
   refine⟨l.modify i λe=> {e with key:=s,val:=a.eval z},r,?_,?_,λs' m=>?_⟩;simp[Instr.mapUpdate,dI u1,Ua I,hc,UB u2 Y,D,aa,MapKept.run_keyThatStays u,MapKept.run_setObj_map _ I,Result.andThen];intro e' N;rw[Array.toList_modify]at N;let⟨j,af⟩:=RF N;grind;grind
 let⟨f,c,k1,k2,k3⟩:=key;have ad:=inv.tag b (by rw[X];simp);have C:∀B,B≠b->({w with heap:=w.heap.setIfInBounds b (.map f c)}:World).heap[B]? =w.heap[B]? :=λB A=>(MapKept.heap_set I).2 B A;have R:Keep w {w with heap:=w.heap.setIfInBounds b (.map f c)} G {G with av:=G.av,O:=G.O}:=⟨λ_ h=>h,λB A=>C B (by rintro rfl;rw[X]at A;cases A)⟩
 have U:Inv T Φ (σ.apps [.a k ⟨en.gen, .dead,en.ty, .bot:: .tup [.lit s,σ.ev z] ::es⟩]) a {w with heap:=w.heap.setIfInBounds b (.map f c)} {G with av:=G.av,O:=G.O}:=by
  refine inv.zU (w':={w with heap:=w.heap.setIfInBounds b (.map f c)}) (k:=k) (en:=⟨en.gen, .dead,en.ty, .bot:: .tup [.lit s,σ.ev z] ::es⟩) (av':=G.av) (O':=G.O) ?_ (λ_ _ _=>rfl) ?_ ?_ (λ_ _ _=>rfl) (λ_=> .inl rfl) (λB A hn=>C B (by rintro rfl;exact hn X)) Ad rfl rfl rfl;rintro g' ⟨ae,e1,e2⟩;simp_all;have:=inv.wfA k en Q;rw[hl]at this;simp_all [true_and,UJ,bM,V.okL,V.ok];refine⟨b,f,c,q1,X,(MapKept.heap_set I).1,by rw[F,M];exact k2,λs' m=>?_⟩;rw[F,M]at m⊢;let⟨j,D⟩:=k3 s' m;by_cases hs:s=s';subst hs;rw[QU rfl]at D;simp[jG,Uy];exact⟨j,_,D,zo,z1.aW R zp,zp⟩;rw[Q9 hs]at D;simp[jG,hs,Uu];have:=q5 s' m;cases L:jG s' es with
  |none=>rw[L]at this;rw[D];exact this
  |some vv=>
   rw[L]at this;let⟨i,v,Y,r2,r3,r4⟩:=this;exact⟨i,v,D.trans Y,r2,r3.aW R r4,r4⟩
 refine⟨undef,_,_,_,_, .inr ⟨?_,rfl⟩,h3,U, .bot _,BN⟩;rcases W with W|W<;>simp[execOp,W,ex,ey,k1,Result.andThen];exact h.elim;exact h.elim;exact h.elim
end
section
variable{T:Tab}{P:Program}{Φ:Fr}{σ:St}{a:Act}{w:World}{G:Gh}{K:VK}{o:Oper}{d:Nat}
def Inv.newFrz(inv:Inv T Φ σ a w G)(E:σ.ar k=none){cap sz}(r:l.length<=cap)(F:cap<=maxLen)(L:∀x∈l,x.cells.length=sz)(I:bM l)
 (A:At w' ⟨w.heap.size,0,none⟩ cc (l.flatMap V.cells))(J:∀G':Gh,∀(j:Nat) y,(l.flatMap V.cells)[j]? =some y->Rv w' G' (cc j) y)
 (H:∀b,b<w.heap.size->w'.heap[b]? =w.heap[b]?)(D:w.heap.size<w'.heap.size)(C:w'.os=w.os)(m:w'.tape=w.tape)(t:w'.output=w.output):
 ∃G',Inv T Φ (σ.apps [.a k ⟨0, .frz,ty,l⟩]) a w' G'/\G'.av k 0= .slice (some ⟨w.heap.size,0,none⟩) l.length cap:=by
 have s:∀g,¬σ.hasA k g:=λg ⟨en,h,_⟩=>by rw[E]at h;cases h
 let av':Nat->Nat->Value:=λv g=>if v=k/\g=0 then .slice (some ⟨w.heap.size,0,none⟩) l.length cap else G.av v g
 have u:=inv.zU (w':=w') (k:=k) (en:=⟨0, .dead,ty,[]⟩) (av':=av') (O':=upd G.O w.heap.size (.ar k)) (λg f=>(s g f).elim) (λv g f=>by
  have:¬(v=k/\g=0):=by rintro⟨rfl,rfl⟩;exact s _ f
  simp[av',this]) Cc (trivial)
  (λb z _=>upd_ne _ _ (by have:=inv.tag b z;omega)) (λb=>by
   by_cases e:b=w.heap.size;subst e;exact .inr (.inr (.inl ⟨upd_same _ _ _,aN0 inv,D⟩))
   exact .inl (upd_ne _ _ e)) (λb z _=>H b z) (Uf D) C m t
 let O':Nat->Tag:=upd G.O w.heap.size .fz;have q:av' k 0= .slice (some ⟨w.heap.size,0,none⟩) l.length cap:=IE;have n:∀b,b≠w.heap.size->O' b=upd G.O w.heap.size (.ar k) b:=λb e=>by show upd _ _ _ b=upd _ _ _ b;rw[upd_ne _ _ e,upd_ne _ _ e]
 have c:upd G.O w.heap.size (.ar k) w.heap.size= .ar k:=upd_same _ _ _
 have i:=u.zU (w':=w') (k:=k) (en:=⟨0, .frz,ty,l⟩) (av':=av') (O':=O') (λg f=>by
  let⟨en,h,f⟩:=f;have h:upd σ.ar k _ k=some en:=h
  rw[upd_same]at h;cases h;exact f) (λv g f=>rfl) I (by
   show Rv w' _ (av' k 0) (.sl l);rw[q];exact .slS _ _ _ _ cc r F (λ_=>upd_same _ _ _) L A (J _))
  (λb z B=>by
   refine n b λe=>?_;subst e
   exact B c) (λb=>by
   by_cases e:b=w.heap.size;subst e;exact .inr (.inr (.inr ⟨upd_same _ _ _,c⟩))
   exact .inl (n b e)) (λb _ _=>rfl) (Rf _) rfl rfl rfl
 refine⟨{G with av:=av',O:=O'},?_,q⟩
 have e:(σ.apps [.a k ⟨0, .dead,ty,[]⟩]).apps [.a k ⟨0, .frz,ty,l⟩] =σ.apps [.a k ⟨0, .frz,ty,l⟩] :=by
  show({σ with ar:=upd (upd σ.ar k _) k _}:St)={σ with ar:=upd σ.ar k _};congr 1;grind [upd_same,upd_ne]
 rw[e]at i;exact i
theorem convB_sound(m:bP T P)(inv:Inv T Φ σ a w G) s t x(F:o.op= .convert s t x)(q:(T.row s).kd= .str)(h:convB T σ d s t (σ.ev x) K):Out T Φ σ a K ((execOp a.eval o).run P w):=by
 unfold convB at h;split at h;rename_i b E H;let⟨v,h⟩:=aT h;simp only[Ru]at v;let⟨⟨⟨⟨z,A⟩,B⟩,Q⟩,C⟩:=v;let⟨R,D⟩:=dX h;have J:=dV0 B
 have L:(T.row (T.row t).elem).kd= .int .u8:=by
  grind [isU8]
 have M:=aF2 (m s (blt z)) q;have N:=jW (m t (blt A)) J;have O:=bY7 (m _ (blt C)) L;have u:=(inv.ev x).1;rw[H]at u;have r:(strV b).length=b.size:=Ea
 have i:(strV b).flatMap V.cells=strV b:=by
  unfold strV;induction b.data.toList with
  |nil=>rfl
  |cons c l I=>rw[Rt,Tm,I];rfl
 have e:∀(j:Nat) y,(strV b)[j]? =some y->j<b.size/\y= .lit (.int .u8 (b.data.toList.getD j 0).toNat):=λj y f=>by
  have g:j<b.size:=by rw[<-r];exact(QW.1 f).1
  unfold strV at f;simp_all
 let⟨G',k,n⟩:=inv.newFrz E (w':=Go.Lib.bytesWorld w (T.row t).elem b) (ty:=(T.row t).elem) (l:=strV b) (cc:=λj=> .int .u8 (b.data.toList.getD j 0).toNat) (cap:=grownCap w b.size 0 (T.row t).elem) (sz:=1)
  (by rw[r];exact grownCap_ge w b.size 0 _) (grownCap_le_maxLen w _ _ _ Cj) (λy f=>by
   let⟨j,g⟩:=RF f
   rw[(e j y g).2];rfl) (aH.2 λy f=>by
   let⟨j,g⟩:=RF f;rw[(e j y g).2];exact dL)
  (by
   rw[i];intro j y f;refine⟨?_,rfl⟩;rw[rY,SX];exact Go.Lib.bytesWorld_cell w _ b j (e j y f).1)
  (by
   rw[i];intro G' j y f;rw[(e j y f).2];exact .lit _ rfl)
  (λj g=>Go.Lib.bytesWorld_at_old w _ b j g) (by rw[Go.Lib.bytesWorld_size];omega) rfl rfl rfl
 refine⟨.slice (some ⟨w.heap.size,0,none⟩) b.size (grownCap w b.size 0 (T.row t).elem),Go.Lib.bytesWorld w (T.row t).elem b,_,_,G', .inl ?_,D,k,aQ0 (by rw[n,r]) rfl,?_⟩;simp[execOp,F,u.bH,SH,Go.Lib.run_convert_string_bytes w s t _ b M N O,RG,Tq];exact JU;exact h.elim
def cD9(g:bP T P)(inv:Inv T Φ σ a w G) s t x(B:o.op= .convert s t x)(h:aF1 T σ d s t (σ.ev x) K):Out T Φ σ a K ((execOp a.eval o).run P w):=by
 unfold aF1 at h;split at h;grind [convB_sound];rename_i q;let⟨y,h⟩:=aT h;simp only[Ru]at y;let⟨⟨⟨⟨H,I⟩,U⟩,W⟩,J⟩:=y
 have R:(T.row t).kd= .str:=by
  grind [isStr]
 have S:(T.row (T.row s).elem).kd= .int .u8:=by
  grind [isU8]
 have D:=jW (g s (blt H)) q;have E:=aF2 (g t (blt I)) R;have F:=bY7 (g _ (blt J)) S;let⟨xs,O,X,f⟩:=aV9 inv x h;let⟨ns,r,p⟩:=cC4 O;subst r
 have b:∀l:List Int,(l.map (λn=>V.lit (.int .u8 n))).flatMap V.cells=l.map (λn=>V.lit (.int .u8 n)):=by
  intro l;induction l with
  |nil=>rfl
  |cons n l Q=>rw[Rt,Tm,Q];rfl
 have u:(convert s t (a.eval x)).run P w= .ok (.string (strOf ns)) w:=by
  rcases f with⟨k,L⟩|⟨i,c,sz,k,_,_,_,z⟩;have e:ns=[] :=by simpa using L
  subst e;rw[k,run_convert_bytes_string w s t _ none 0 0 D F E];rfl;rw[k,run_convert_bytes_string w s t _ (some i) _ c D F E];rw[b]at z;let⟨cc,m,hrel⟩:=z.out;refine run_bytesToString w i _ c ns ?_;have A:=run_loadCells_list (P:=P) (w:=w) i (ns.map (Value.int .u8)) (λj v hv=>?_);rw[Rw]at A⊢;exact A;rw[RN]at hv;cases e:ns[j]? with
  |none=>rw[e]at hv;cases hv
  |some n=>
   rw[e]at hv;cases hv;have C:(ns.map (λn=>V.lit (.int .u8 n)))[j]? =some (.lit (.int .u8 n)):=by rw[RN,e];rfl
   have M:=(m j _ C).1;have N:=(hrel j _ C).bH;rw[M,N]
 exact .plain inv (v':= .string (strOf ns)) (by simp[execOp,B,SH,u,RG,Tq]) p (.lit _ rfl) dL;exact cY0 g inv s t x B h
def eF4(h:kdOf u= .int k):u=some (.int k):=by
 cases u with
 |none=>simp[kdOf]at h
 |some b=>cases b<;>simp[kdOf]at h;subst h;rfl
def dX0(h:kdOf u= .str):u=some .string:=MI
def dS0(h:kdOf u= .bool):u=some .bool:=MI
def qF(c:P.underlying t=some b)(e:aggB (some b)=false) xs off(hv:xs[off]? =some v):(part t xs off).run P w= .ok v w:=by
 have:(isAgg t).run P w= .ok false w:=by cases b<;>simp_all [isAgg,dI c,aggB]
 simp[part,this,hv]
def aS4{cs:Array Value}(b:cs.size=xs.length)(e:∀(i:Nat) c x,cs[i]? =some c->xs[i]? =some x->Rv w G c x)(h:nth xs i=some (.lit u)):cs[i]? =some u:=by
 rw[uN]at h;have hi:i<cs.size:=by rw[b];exact(QW.1 h).1
 have:=e i cs[i] _ (by simp[hi]) h;rw[<-this.bH];simp[hi]
def bY8(dp:Nat)(xs ys:Array Value)(f:Field):Sem (ForInStep (Option Bool×Unit)):=
 if f.name= "_" then pure (ForInStep.yield (none,()))
 else do
  let u<-part f.type xs f.offset;let v<-part f.type ys f.offset;let b<-Op.equalIn dp f.type u v
  if b=false then pure (ForInStep.done (some false,()))else pure (ForInStep.yield (none,()))
def cN3(b:bP T P)(c:t<T.n t)(e:(T.row t).agg=true) cs off:(part t cs off).run P w= .ok (.agg (cs.extract off (off+(T.row t).size))) w:=by
 simp[part,yG b c,e,iV b c]
def dC5{cs:Array Value}(b:cs.size=xs.length)(e:∀(i:Nat) c x,cs[i]? =some c->xs[i]? =some x->Rv w G c x) off z:
 (cs.extract off (off+z)).size=(rO (jX xs off) z).length/\∀(i:Nat) c x,(cs.extract off (off+z))[i]? =some c->(rO (jX xs off) z)[i]? =some x->Rv w G c x:=by
 rw[aD3,lQ];grind
def aX8(L:bP T P)(E:∀(t:TypeId) (cs ds:Array Value) (xs ys:List V) (b:Bool),t<T.n t->cs.size=xs.length->(∀(i:Nat) c x,cs[i]? =some c->xs[i]? =some x->Rv w G c x)->ds.size=ys.length->(∀(i:Nat) c x,ds[i]? =some c->ys[i]? =some x->Rv w G c x)->e t xs ys=some b->(Op.equalIn (D+1) t (.agg cs) (.agg ds)).run P w= .ok b w)
 (H:cs.size=xs.length)(I:∀(i:Nat) c x,cs[i]? =some c->xs[i]? =some x->Rv w G c x)(l:ds.size=ys.length)(q:∀(i:Nat) c x,ds[i]? =some c->ys[i]? =some x->Rv w G c x)
 (W:t<T.n t->z=(T.row t).size)(h:kX T e ((off,z,kdOf (P.underlying t),t)::r) xs ys=some b):
 ∃u v f g,(part t cs off).run P w= .ok u w/\(part t ds off).run P w= .ok v w/\(Op.equalIn (D+1) t u v).run P w= .ok f w/\kX T e r xs ys=some g/\b=(f&&g):=by
 have j:∀ u v  f ,(part t cs off).run P w= .ok u w->(part t ds off).run P w= .ok v w->(Op.equalIn (D+1) t u v).run P w= .ok f w->(kX T e r xs ys).map (andB f)=some b->
  ∃u v f g,(part t cs off).run P w= .ok u w/\(part t ds off).run P w= .ok v w/\(Op.equalIn (D+1) t u v).run P w= .ok f w/\kX T e r xs ys=some g/\b=(f&&g):=by
  intro u v f O Q R F;cases C:kX T e r xs ys with
  |none=>rw[C]at F;cases F
  |some g=>
   rw[C]at F;exact⟨u,v,f,g,O,Q,R,rfl,by simpa [andB]using F.symm⟩
 have nested:(T.row t).agg=true->(match Nat.blt t (T.n t),e t (rO (jX xs off) z) (rO (jX ys off) z)with
  |true,some f=>(kX T e r xs ys).map (andB f)
  |_,_=>none)=some b->∃u v f g,(part t cs off).run P w= .ok u w/\(part t ds off).run P w= .ok v w/\(Op.equalIn (D+1) t u v).run P w= .ok f w/\kX T e r xs ys=some g/\b=(f&&g):=by
  intro ha M;split at M
  ·rename_i f S U
   have ht:=blt S;have N:=W ht;subst N;let⟨X,Y⟩:=dC5 H I off (T.row t).size;let⟨Z,q4⟩:=dC5 l q off (T.row t).size;exact j _ _ f (cN3 L ht ha cs off) (cN3 L ht ha ds off) (E t _ _ _ _ f ht X Y Z q4 U) M
  ·cases M
 have h':(match kdOf (P.underlying t)with
  | .struct=>match Nat.blt t (T.n t),e t (rO (jX xs off) z) (rO (jX ys off) z)with
    |true,some f=>(kX T e r xs ys).map (andB f)
    |_,_=>none
  | .array=>match Nat.blt t (T.n t),e t (rO (jX xs off) z) (rO (jX ys off) z)with
    |true,some f=>(kX T e r xs ys).map (andB f)
    |_,_=>none
  |kd=>match nth xs off,nth ys off,kd with
   |some (.lit (.int k a)),some (.lit (.int J b)), .int _=>cond (decide (k=J)) ((kX T e r xs ys).map (andB (eqB a b))) none
   |some (.lit (.string a)),some (.lit (.string b)), .str=>(kX T e r xs ys).map (andB (eqSB a b))
   |some (.lit (.bool a)),some (.lit (.bool b)), .bool=>(kX T e r xs ys).map (andB (eqBB a b))
   |_,_,_=>none)=some b:=h
 have aggOf:∀dd,P.underlying t=some dd->aggB (some dd)=true->t<T.n t->(T.row t).agg=true:=by
  intro dd hu ha ht;let⟨d2,s,_,y,_⟩:=(L t ht).und;rw[hu]at s;cases s;rw[y];exact ha
 split at h'
 ·exact Jl
 ·exact Jl
 ·split at h'
  ·rename_i k m J n kk s B y
   cases A:decide (k=J)with
   |false=>rw[A]at h';cases h'
   |true=>
    have:k=J:=by simpa using A
    subst this;rw[A]at h';have hu:=eF4 y;exact j _ _ (eqB m n) (qF hu rfl cs _ (aS4 H I s)) (qF hu rfl ds _ (aS4 l q B)) (by simp[Op.equalIn,dI hu,eqB];exact TT.2 (by simp)) h'
  ·rename_i m n s B y
   have hu:=dX0 y;exact j _ _ (eqSB m n) (qF hu rfl cs _ (aS4 H I s)) (qF hu rfl ds _ (aS4 l q B)) (by simp[Op.equalIn,dI hu,eqSB]) h'
  ·rename_i m n s B y
   have hu:=dS0 y;exact j _ _ (eqBB m n) (qF hu rfl cs _ (aS4 H I s)) (qF hu rfl ds _ (aS4 l q B)) (by simp[Op.equalIn,dI hu,eqBB]) h'
  ·cases h'
def bN5(B:bP T P)(g:∀(t:TypeId) (cs ds:Array Value) (xs ys:List V) (b:Bool),t<T.n t->cs.size=xs.length->(∀(i:Nat) c x,cs[i]? =some c->xs[i]? =some x->Rv w G c x)->ds.size=ys.length->(∀(i:Nat) c x,ds[i]? =some c->ys[i]? =some x->Rv w G c x)->j t xs ys=some b->(Op.equalIn (D+1) t (.agg cs) (.agg ds)).run P w= .ok b w)
 (C:cs.size=xs.length)(E:∀(i:Nat) c x,cs[i]? =some c->xs[i]? =some x->Rv w G c x)(m:ds.size=ys.length)(q:∀(i:Nat) c x,ds[i]? =some c->ys[i]? =some x->Rv w G c x):
 ∀(l:List Field)  b,(∀f∈l,f.name≠ "_")->(∀f∈l,f.type<T.n f.type->vI P f.type=(T.row f.type).size)->kX T j (l.map (λf=>(f.offset,vI P f.type,kdOf (P.underlying f.type),f.type))) xs ys=some b->
  (forIn l ((none,()):Option Bool×Unit) λf _=>bY8 (D+1) cs ds f).run P w= .ok (if b then(none,())else(some false,())) w:=by
 intro l;induction l with
 |nil=>
  intro b _ _ h;exact PV
 |cons f r F=>
  intro b s y h;have e:=s f Ad;obtain⟨u,v,z,A,H,I,J,L,rfl⟩:=aX8 B g C E m q (y f Ad) h;have ih':=F A (λf k=>s f (by simp[k])) (λf k=>y f (by simp[k])) L;simp only[List.forIn_cons,bY8,e,Uu,SH,H,I,RG,J];cases z with
  |false=>simp
  |true=>exact Mc
def cT9(dp:Nat)(e:TypeId)(n:Nat)(xs ys:Array Value)(i:Nat):Sem (ForInStep (Option Bool×Unit)):=do
 let u<-part e xs (i*n);let v<-part e ys (i*n);let b<-Op.equalIn dp e u v
 if b=false then pure (ForInStep.done (some false,()))else pure (ForInStep.yield (none,()))
theorem dA7 z b e n:aZ5 z b e n=(List.range n).map λi=>(i*z,z,b,e):=by
 induction n with
 |zero=>rfl
 |succ n c=>
  show appR (aZ5 z b e n) [(n*z,z,b,e)] =_;rw[bT,c,UF,RH];rfl
def bX8(y:bP T P)(g:∀(t:TypeId) (cs ds:Array Value) (xs ys:List V) (b:Bool),t<T.n t->cs.size=xs.length->(∀(i:Nat) c x,cs[i]? =some c->xs[i]? =some x->Rv w G c x)->ds.size=ys.length->(∀(i:Nat) c x,ds[i]? =some c->ys[i]? =some x->Rv w G c x)->j t xs ys=some b->(Op.equalIn (D+1) t (.agg cs) (.agg ds)).run P w= .ok b w)
 (z:cs.size=xs.length)(A:∀(i:Nat) c x,cs[i]? =some c->xs[i]? =some x->Rv w G c x)(k:ds.size=ys.length)(m:∀(i:Nat) c x,ds[i]? =some c->ys[i]? =some x->Rv w G c x)(_:e<T.n e):
 ∀(l:List Nat)  b,kX T j (l.map (λi=>(i*(T.row e).size,(T.row e).size,kdOf (P.underlying e),e))) xs ys=some b->
  (forIn l ((none,()):Option Bool×Unit) λi _=>cT9 (D+1) e (T.row e).size cs ds i).run P w= .ok (if b then(none,())else(some false,())) w:=by
 intro l;induction l with
 |nil=>
  intro b h;exact PV
 |cons f r B=>
  intro b h;obtain⟨u,v,q,s,C,E,F,H,rfl⟩:=aX8 y g z A k m (λ_=>rfl) h;have ih':=B s H;simp only[List.forIn_cons,cT9,SH,C,E,RG,F];cases q with
  |false=>simp
  |true=>exact Mc
def eM4(g:bP T P):∀ n D  t  cs ds  xs ys  b,t<T.n t->cs.size=xs.length->(∀(i:Nat) c x,cs[i]? =some c->xs[i]? =some x->Rv w G c x)->ds.size=ys.length->(∀(i:Nat) c x,ds[i]? =some c->ys[i]? =some x->Rv w G c x)->
 eqT T n t xs ys=some b->(Op.equalIn (D+1+n) t (.agg cs) (.agg ds)).run P w= .ok b w:=by
 intro n;induction n with
 |zero=>intro D t cs ds xs ys b _ _ _ _ _ h;cases(h:none=some b)
 |succ n ih=>
  intro D t cs ds xs ys b F L M u v h
  have e:cond (T.row t).eq (match(T.row t).kd with
   | .struct=>kX T (eqT T n) (T.row t).flds xs ys
   | .array=>cond (Nat.blt (T.row t).elem (T.n (T.row t).elem)) (kX T (eqT T n) (aZ5 (T.row (T.row t).elem).size (T.row (T.row t).elem).kd (T.row t).elem (T.row t).alen) xs ys) none
   |_=>none) none=some b:=h
  cases q:(T.row t).eq with
  |false=>rw[q]at e;cases e
  |true=>
   rw[q,TD]at e;let⟨S,q2,U⟩:=(g t F).eqs q
   have k:∀(t:TypeId) (cs ds:Array Value) (xs ys:List V) (b:Bool),t<T.n t->cs.size=xs.length->(∀(i:Nat) c x,cs[i]? =some c->xs[i]? =some x->Rv w G c x)->ds.size=ys.length->(∀(i:Nat) c x,ds[i]? =some c->ys[i]? =some x->Rv w G c x)->eqT T n t xs ys=some b->(Op.equalIn (D+n+1) t (.agg cs) (.agg ds)).run P w= .ok b w:=λt cs ds xs ys b h1 h2 h3 h4 h5 h6=>by
    grind
   rw[show D+1+(n+1)=(D+n+1)+1 from Aa];split at e;rename_i r;let⟨J,z,H,W⟩:=yJ (g t F) r;rw[H]at e
   have:=bN5 g k L M u v J.toList b (λf C=>U J z f (by simpa using C)) (λf C E=>by
    let⟨i,O,Q⟩:=W f (by simpa using C)
    let⟨j,N,R,_⟩:=(g _ E).info;rw[O]at N;cases N;rw[<-Q,R]) e
   generalize D+n+1=m at*;simp[Op.equalIn,SH,dI z,RG];simp only[bY8]at this;rw[Array.forIn_toList]at this;simp[S];rw[this];cases b<;>simp
   rename_i r;cases l:Nat.blt (T.row t).elem (T.n (T.row t).elem)with
   |false=>rw[l]at e;cases e
   |true=>
    rw[l,TD,dA7]at e;have B:=blt l
    obtain⟨m,z,H⟩:∃m,P.underlying t=some (.array m (T.row t).elem)/\(T.row t).alen=m:=by
     let⟨A,I,y,Y,Z,X,f3,f4⟩:=(g t F).und;rw[r]at y;cases A<;>simp[kdOf]at y;grind
    have s:(T.row (T.row t).elem).kd=kdOf (P.underlying (T.row t).elem):=by
     let⟨A,I,y,_⟩:=(g _ B).und;rw[I];exact y
    rw[s,H]at e;have:=bX8 g k L M u v B (List.range m) b e;generalize D+n+1=A at*;simp only[Op.equalIn,SH,dI z,RG,iV g B];simp[cT9]at this;rw[Std.Legacy.Range.forIn_eq_forIn_range'];simp[List.range_eq_range']at this⊢;rw[this];cases b<;>simp
   cases e
def dN7(l:bP T P)(inv:Inv T Φ σ a w G) x y g t i(p:o.op= .binOp g t x y i)(q:t<T.n t) xs ys(B:σ.ev x= .agg xs)(C:σ.ev y= .agg ys)(h:aL1 T g t xs ys K):Out T Φ σ a K ((execOp a.eval o).run P w):=by
 have r:=(inv.ev x).1;have s:=(inv.ev y).1;rw[B]at r;rw[C]at s;let⟨cs,j,u,E,v⟩:=r.zV;let⟨ds,k,z,F,A⟩:=s.zV
 have m:(T.row t).eq=true->(eqGuard g t x y (.agg cs) (.agg ds)).run P w= .ok () w:=by
  intro c;let⟨_,D,_⟩:=(l t q).eqs c;cases g<;>simp[eqGuard,D]
 have f:∀b,eqT T 4 t xs ys=some b->(Op.equal t (.agg cs) (.agg ds)).run P w= .ok b w:=λb e=>eM4 l 4 9995 t cs ds xs ys b q u v z A e;unfold aL1 at h;split at h;let⟨c,h⟩:=dX h;split at h;rename_i b e;exact .plain inv (yY x y _ t i p _ _ (.bool b) j k (m c) (by simp[binOp,f b e])) h (B_ok _ _ _) dL;exact h.elim;let⟨c,h⟩:=dX h;split at h;rename_i b e;exact .plain inv (yY x y _ t i p _ _ (.bool !b) j k (m c) (by simp[binOp,f b e])) h (B_ok _ _ _) dL;exact h.elim;exact h.elim
def kd_ptr(h:aH9 P t r)(f:r.kd= .ptr):∃e,P.underlying t=some (.pointer e):=by
 let⟨d,c,b,_⟩:=h.und;rw[f]at b;cases d<;>first|exact⟨_,c⟩|(simp[kdOf]at b)
def equal_ptr(f:P.underlying t=some (.pointer e)) b:(Op.equal t (.pointer (some b)) (.pointer none)).run P w= .ok false w:=by
 have h:∀c,(Op.equalIn (c+1) t (.pointer (some b)) (.pointer none)).run P w= .ok false w:=λc=>by simp[Op.equalIn,dI f]
 exact h 9999
def dQ5(A:bP T P)(inv:Inv T Φ σ a w G) x y b t q(s:o.op= .binOp b t x y q)(h:bD7 T b t (σ.ev x) (σ.ev y) K):Out T Φ σ a K ((execOp a.eval o).run P w):=by
 have c:=(inv.ev x).1;have j:=(inv.ev y).1;unfold bD7 at h;split at h;rename_i k m D n f g;rw[f]at c;rw[g]at j;by_cases l:k=D;subst l;simp[decide_true,TD]at h;exact dM7 inv x y b t q s k m n c.bH j.bH h;simp[l,decide_false,Tt]at h;exact sh_sound inv x y b t q s k D m n c.bH j.bH h;rename_i m n f g;rw[f]at c;rw[g]at j;exact dM9 inv x y b t q s m n c.bH j.bH h;rename_i m n f g;rw[f]at c;rw[g]at j;let⟨v,h⟩:=aT h;exact cV0 A inv x y b t q s m n c.bH j.bH (blt v) h;rename_i xs ys f g;let⟨v,h⟩:=aT h;exact dN7 A inv x y b t q s (blt v) xs ys f g h;rename_i i off f g;rw[f]at c;rw[g]at j;let⟨v,z⟩:=aT h;have C:a.eval x= .pointer (some ⟨G.β i,off,none⟩):=by generalize a.eval x=u at c;cases c;rfl
 have E:=j.bH;have H:(eqGuard b t x y (a.eval x) (a.eval y)).run P w= .ok () w:=by rw[C];exact qZ _ _ _ _ _ _ (by simp) (by simp)
 have p:∀r:Value,r.oneCell'=true->(binOp b t (a.eval x) (a.eval y)).run P w= .ok r w->K (.lit r) []->Out T Φ σ a K ((execOp a.eval o).run P w):=λr F I l=>
  .plain inv (yY x y b t q s _ _ r rfl rfl H I) l (.lit r F) dL
 rw[C,E]at p;unfold ptrVC at z;split at z;rename_i l;let⟨e,B⟩:=kd_ptr (A t (blt v)) l;exact p (.bool false) rfl (by simp[binOp,equal_ptr B]) z;rename_i l;let⟨e,B⟩:=kd_ptr (A t (blt v)) l;exact p (.bool true) rfl (by simp[binOp,equal_ptr B]) z;exact z.elim;exact h.elim
def xQ(f:bP T P)(inv:Inv T Φ σ a w G) o(h:opVC T σ d o.op K):Out T Φ σ a K ((execOp a.eval o).run P w):=by
 generalize e:o.op=q at h;unfold opVC at h;split at h;exact cZ8 inv _ e h;exact cB9 inv _ e h;exact dA3 inv _ _ _ e h;exact dZ4 inv _ _ _ e h;exact dQ5 f inv _ _ _ _ _ e h;exact dM8 inv _ _ e h;let⟨b,h⟩:=aT h;exact cJ8 f inv _ e (blt b) h;let⟨b,h⟩:=aT h;exact aY3 f inv _ _ _ e (blt b) h;let⟨b,h⟩:=aT h;exact cL3 f inv _ _ _ e (blt b) h;let⟨b,h⟩:=aT h;exact cZ0 f inv _ _ e (blt b) h;let⟨b,h⟩:=aT h;exact cJ7 f inv _ _ _ e (blt b) h;let⟨b,h⟩:=aT h;exact aY7 f inv _ _ _ e (blt b) h;let⟨b,h⟩:=aT h;exact cK7 f inv _ _ _ e (blt b) h;exact bN4 inv _ _ e h;exact .plain inv (by simp[execOp,e,Instr.makeFunc]) h (.fn _ #[] [] rfl (λi c x hc=>I5)) Et;rename_i g x xs;rw[bC,dU]at h;refine .plain inv (v':= .func (.func g) ((x::xs).map a.eval).toArray #[]) (by simp[execOp,e,Instr.makeFunc]) h (.fb _ _ _ Ad λi c y hc l=>?_) ?_;have hi:i< (x::xs).length:=by have:=(QW.1 l).1;simpa using this
 rw[RN,QX hi]at l;simp[Tj,SI]at l;have j:((x::xs).map a.eval)[i]? =some c:=D8;rw[RN,QX hi]at j;simp[Tj,SI]at j;subst l;subst j;exact(inv.ev _).1;simp[V.ok];show V.okL _ _ (.own 0 [] ::(x::xs).map σ.ev);simp only[V.okL,V.ok];refine⟨trivial,aH.2 λy l=>?_⟩;obtain⟨z,_,rfl⟩:=Rn.1 l;exact(inv.ev z).2;let⟨b,h⟩:=aT h;exact cM3 f inv _ _ e (blt b) h;let⟨b,h⟩:=aT h;exact aQ7 f inv _ _ _ e (blt b) h;let⟨b,h⟩:=aT h;exact aY6 f inv _ _ _ e (blt b) h;let⟨b,h⟩:=aT h;exact cH8 f inv _ _ _ _ _ e (blt b) h;exact cD9 f inv _ _ _ e h;let⟨b,h⟩:=aT h;split at h;rename_i k;exact dM3 f inv _ _ e (blt b) k h;rename_i k;exact cR9 f inv _ _ e (blt b) k h;exact h.elim;let⟨b,n⟩:=aT h;simp only[Ru]at b;let⟨b,m⟩:=b;exact cB7 f inv _ _ _ _ e (blt b) (blt m) n;grind [aK6];grind [aK6];let⟨b,h⟩:=aT h;exact bM3 f inv _ e (blt b) h;let⟨b,h⟩:=aT h;exact bZ4 f inv _ _ _ e (blt b) h;let⟨b,h⟩:=aT h;exact aA0 f inv _ _ _ _ (.inl e) (blt b) h;let⟨b,h⟩:=aT h;exact aA0 f inv _ _ _ _ (.inr e) (blt b) h;exact bL7 inv _ e h;exact h.elim
end
section
variable{T:Tab}{P:Program}{Φ:Fr}{σ:St}{a:Act}{w w':World}{G G':Gh}{K:VK}{o:Oper}{d:Nat}
theorem pM:memR k l=true↔k∈l:=by
 induction l<;>simp_all [Nat.beq,TJ,memR]
theorem Inv.freeze(inv:Inv T Φ σ a w G)(f:σ.ar k=some en)(n:en.kind= .own\/en.kind= .ap):
 ∃O',Inv T Φ (σ.apps [.a k ⟨en.gen, .frz,en.ty,en.l⟩]) a w {G with O:=O'}/\(∀b,O' b= .fz↔(G.O b= .fz\/G.O b= .ar k))/\(∀b,G.O b≠ .ar k->O' b=G.O b):=by
 let O':Nat->Tag:=λb=>match G.O b with| .ar j=>if j=k then .fz else .ar j|t=>t
 have e:∀b,G.O b≠ .ar k->O' b=G.O b:=by
  grind
 have r:∀b,G.O b= .ar k->O' b= .fz:=by
  grind
 have i:Keep w w G {G with O:=O'}:=⟨λb hb=>(e b AV).trans hb,λ_ _=>rfl⟩;have hp:=inv.wfA k en f;refine⟨O',?_,?_,e⟩
 ·refine inv.zU (w':=w) (k:=k) (en:=⟨en.gen, .frz,en.ty,en.l⟩) (av':=G.av) (O':=O') (λg ⟨E,q,s⟩=>by rw[f]at q;cases q;exact s) (λ_ _ _=>rfl) hp ?_ (λb _ hb=>e b hb) ?_ (λ_ _ _=>rfl) (Rf _) rfl rfl rfl
  ·have c:=inv.arr k en f
   show Rv w {G with O:=O'} (G.av k en.gen) (.sl en.l)
   have own:∀ {ty},gJ T w G k (G.av k en.gen) ty en.l->Rv w {G with O:=O'} (G.av k en.gen) (.sl en.l):=by
    intro ty m;rcases m with⟨u,v⟩|⟨b,cap,cur,u,v,z,A,B,F,C,D⟩;grind [bA2];let⟨cc,q,s⟩:=(D.here z).out;rw[u];refine .slS _ cap en.l _ cc A B (λ_=>r b v) C q (λj y x=>(s j y x).aW i (dF hp x))
   unfold gW at c;rcases n with n|n
   ·grind
   ·rw[n]at c
    rcases c.2 with c|c
    ·exact own c
    ·exact c.1.wK.aW i AP
  ·grind
 ·grind
theorem bA7(inv:Inv T Φ σ a w G)(e:Keep w w G G')(h:yH σ.ar x y)(hv:Rv w G v x)(hok:x.ok σ.hasB σ.hasA)(f:∀k∈akey x,∀b,G.O b= .ar k->G'.O b= .fz):Rv w G' v y/\y.pure:=by
 have sl:∀ {u:Value} {l:List V},bM l->Rv w G u (.sl l)->Rv w G' u (.sl l)/\(V.sl l).pure:=λhp h=>⟨h.aW e AP,AP⟩;unfold yH at h;split at h;rename_i l;split at h;grind [V.ok];subst h;exact sl hok hv.wK;subst h;rw[hv.bH];exact⟨.slN,by simp[V.pure,V.ok,V.okL]⟩;rename_i k g;split at h;rename_i en i;let⟨D,L,rfl⟩:=h;subst D;have hp:=inv.wfA k en i;have c:=inv.arr k en i;rw[hv.oQ];have E:=f k (by simp[akey])
 have own:∀ {ty},gJ T w G k (G.av k en.gen) ty en.l->Rv w G' (G.av k en.gen) (.sl en.l):=by
  intro ty m;rcases m with⟨n,r⟩|⟨b,cap,cur,n,r,t,z,A,J,B,C⟩;grind [bA2];let⟨cc,H,I⟩:=(C.here t).out;rw[n];exact .slS _ cap en.l _ cc z A (λ_=>E b r) B H (λj y s=>(I j y s).aW e (dF hp s))
 refine⟨?_,AP⟩;unfold gW at c;split at c;simp_all;exact(sl hp c).1;exact own c.2;rcases c.2 with q|q;exact own q;exact(sl hp q.1.wK).1;exact h.elim;exact h.elim;rename_i l;split at h;subst h;exact⟨hv.aW e BO,BO⟩;subst h;rw[hv.bH];exact⟨.capN,by simp[V.pure,V.ok,V.okL]⟩;exact h.elim;split at h;subst h;rw[hv.bH];exact⟨.lit _ hv.aZ3,by simp[V.pure,V.ok]⟩;exact h.elim;split at h;subst h;exact⟨hv.aW e BO,BO⟩;exact h.elim;split at h;let⟨rfl,rfl,F⟩:=h;have hp:=fn_atom_pure F hok;exact⟨hv.aW e AP,AP⟩;exact h.elim;exact h.elim
def cW4:∀ {ys xs},cN9 ar ys xs->xs.length=ys.length/\∀(i:Nat) x y,xs[i]? =some x->ys[i]? =some y->yH ar x y:=by
 intro ys;induction ys with
 |nil=>
  intro xs h;exact Ou
 |cons y r e=>
  intro xs h;cases xs with
  |nil=>exact(h:False).elim
  |cons x xr=>
   obtain⟨b,c⟩:yH ar x y/\cN9 ar r xr:=h;grind
def qM:∀ {ys xs},iQ T ar ys xs->xs.length=ys.length/\∀(i:Nat) x y,xs[i]? =some x->ys[i]? =some y->wU T ar x y:=by
 intro ys;induction ys with
 |nil=>
  intro xs h;exact Ou
 |cons y r e=>
  intro xs h;cases xs with
  |nil=>exact(h:False).elim
  |cons x xr=>
   obtain⟨b,c⟩:wU T ar x y/\iQ T ar r xr:=h;grind
theorem dK9 cs:jQ (.agg cs)=cs.flatMap akey:=by
 induction cs with
 |nil=>rfl
 |cons x r b=>
  have:jQ (.agg (x::r))=appR (akey x) (jQ (.agg r)):=rfl;rw[this,bT,b,Tm]
theorem oZ:∀ {ys xs} {k},k∈bD ys xs↔∃(i:Nat) (x y:V),xs[i]? =some x/\ys[i]? =some y/\linear y=true/\k∈jQ x:=by
 intro ys;induction ys with
 |nil=>
  intro xs k;have:bD [] xs=[] :=rfl;rw[this];simp
 |cons y r j=>
  intro xs k;cases xs with
  |nil=>
   have:bD (y::r) [] =[] :=rfl;rw[this];simp
  |cons x xr=>
   have:bD (y::r) (x::xr)=appR (cond (linear y) (jQ x) []) (bD r xr):=rfl;rw[this,bT,Rh,j];constructor;rintro(h|⟨i,x',l,c,e,f,g⟩);cases b:linear y with
   |true=>rw[b]at h;exact⟨0,x,y,rfl,rfl,b,h⟩
   |false=>rw[b]at h;cases h
   exact⟨i+1,x',l,c,e,f,g⟩;grind
def nP:∀ {ys xs} {k},k∈bK ys xs↔∃(i:Nat) (x y:V),xs[i]? =some x/\ys[i]? =some y/\linear y=false/\k∈jQ x:=by
 intro ys;induction ys with
 |nil=>
  intro xs k;have:bK [] xs=[] :=rfl;rw[this];simp
 |cons y r j=>
  intro xs k;cases xs with
  |nil=>
   have:bK (y::r) [] =[] :=rfl;rw[this];simp
  |cons x xr=>
   have:bK (y::r) (x::xr)=appR (cond (linear y) [] (jQ x)) (bK r xr):=rfl;rw[this,bT,Rh,j];constructor;rintro(h|⟨i,x',l,c,e,f,g⟩);cases b:linear y with
   |true=>rw[b]at h;cases h
   |false=>rw[b]at h;exact⟨0,x,y,rfl,rfl,b,h⟩
   exact⟨i+1,x',l,c,e,f,g⟩;grind
def aJ2(inv:Inv T Φ σ a w G)(s:Keep w w G G')(h:wU T σ.ar x y)(hv:Rv w G v x)(hok:x.ok σ.hasB σ.hasA)
 (z:linear y=false->∀k∈jQ x,∀b,G.O b= .ar k->G'.O b= .fz)(m:linear y=true->∀k∈jQ x,∀b,G.O b= .ar k->G'.O b= .ar j):Rb T w G' j v y:=by
 have own:∀ {k ty l},bM l->gJ T w G k v ty l->(∀b,G.O b= .ar k->G'.O b= .ar j)->gJ T w G' j v ty l:=by
  intro k ty l hp C B;rcases C with h|⟨b,cap,cur,E,e2,F,H,N,Q,R,S⟩;exact .inl h;refine .inr ⟨b,cap,cur,E,B b e2,F,H,N,Q,R,S.keep s (p:=λ_=>False) (q:=λ_ _=>False) ?_ (λ_ h=>h.elim) (λ_ _ h=>h.elim)⟩;refine aH.2 λu X=>?_;let⟨i,hi⟩:=RF X;exact dF hp hi
 unfold wU at h;split at h
 ·rename_i e l
  split at h
  ·obtain⟨A,rfl⟩:=h
   exact⟨A,Cc, .inl ⟨.inl hv.bH,rfl⟩⟩
  ·rename_i k g
   split at h
   ·rename_i en n
    let⟨B,r,rfl,rfl⟩:=h;subst B;have f:=inv.arr k en n;unfold gW at f;rw[r]at f;have hp:=inv.wfA k en n;rw[<-hv.oQ]at f;exact⟨f.1,hp,own hp f.2 (m rfl k (by simp[jQ]))⟩
   ·exact h.elim
  ·exact h.elim
 ·rename_i e l
  split at h
  ·obtain⟨A,rfl⟩:=h
   exact⟨A,Cc, .inl (.inl ⟨.inl hv.bH,rfl⟩)⟩
  ·let⟨A,Y,rfl⟩:=h
   exact⟨A,hok, .inr ⟨hv.aW s BO,Y⟩⟩
  ·rename_i k g
   split at h
   ·rename_i en n
    let⟨B,r,rfl,rfl⟩:=h;subst B;have f:=inv.arr k en n;have hp:=inv.wfA k en n;have J:=m rfl k (by simp[jQ]);unfold gW at f;rw[<-hv.oQ]at f;rcases r with r|r
    ·rw[r]at f
     exact⟨f.1,hp, .inl (own hp f.2 J)⟩
    ·rw[r]at f
     refine⟨f.1,hp,?_⟩;rcases f.2 with q|q
     ·grind
     ·exact .inr ⟨q.1.aW s AP,q.2⟩
   ·exact h.elim
  ·exact h.elim
 ·rename_i ys
  split at h
  ·rename_i xs
   let⟨hl,U⟩:=cW4 h;let⟨cs,E,e2,F,H⟩:=hv.zV;simp[V.ok]at hok
   have t:∀(i:Nat) c y,cs[i]? =some c->ys[i]? =some y->Rv w G' c y/\y.pure:=by
    intro i c y I hy;have hi:i<xs.length:=Fe;have D:=QX hi;exact bA7 inv s (U i _ y D hy) (H i c _ I D) (aH.1 hok _ (QZ D)) (λk r=>z rfl k (by rw[dK9];exact UR.2 ⟨_,QZ D,r⟩))
   refine⟨?_,?_⟩
   ·simp[V.pure,V.ok]
    refine aH.2 λy hy=>?_;let⟨i,hi⟩:=RF hy;have L:i<cs.size:=EN;exact(t i cs[i] y (by simp[L]) hi).2
   ·rw[E]
    exact .agg cs ys (by rw[e2,hl]) F (λi c y I hy=>(t i c y I hy).1)
  ·exact h.elim
 ·rename_i Z h2 h3
  have M:linear y=false:=by
   grind [linear]
  have W:∀k∈akey x,k∈jQ x:=by
   cases x<;>simp_all [akey,jQ]
  grind [bA7,Rb]
end
section
variable{T:Tab}{P:Program}{Φ:Fr}{σ:St}{a:Act}{w w':World}{G G':Gh}{K:VK}{o:Oper}{d:Nat}
theorem dO(σ:St) b ns:σ.apps (b++ns)=(σ.apps b).apps ns:=by simp[St.apps,TR]
theorem vM(σ:St) b:(σ.apps b).env=σ.env:=by
 induction b generalizing σ with
 |nil=>rfl
 |cons m r c=>
  have:σ.apps (m::r)=(m.app σ).apps r:=rfl;rw[this,c];cases m<;>rfl
def Inv.eV5(inv:Inv T Φ σ a w G)(C:∀g,σ.hasA k g->g<gen)(U:z= .own\/z= .ap)(S:e<T.n e)(hp:bM l)
 (r:gJ T w Gx j u e l\/(z= .ap/\Rv w Gx u (.cap l)/\∀x∈l,x.cells.length=(T.row e).size))(W:Keep w w Gx G)(E:∀b,Gx.O b= .ar j->G.O b= .ext/\Φ.mine b/\b<w.heap.size):
 ∃G',Inv T Φ (σ.apps [.a k ⟨gen,z,e,l⟩]) a w G'/\G'.av k gen=u/\u.oneCell'=true/\(∀b,Gx.O b≠ .ar j->G'.O b=G.O b)/\G'.β=G.β/\(∀c g,σ.hasA c g->G'.av c g=G.av c g):=by
 let av':Nat->Nat->Value:=λc g=>if c=k/\g=gen then u else G.av c g
 have s:av' k gen=u:=IE
 have m:∀c g,σ.hasA c g->av' c g=G.av c g:=λc g F=>by
  grind
 let O':Nat->Tag:=λb=>match Gx.O b with| .ar i=>if i=j then .ar k else G.O b|_=>G.O b
 have t:∀b,Gx.O b≠ .ar j->O' b=G.O b:=by
  grind
 have B:∀b,Gx.O b= .ar j->O' b= .ar k:=by
  grind
 let f:Gh:={G with av:=av',O:=O'};have v:Keep w w Gx f:=⟨λb hb=>(t b AV).trans (W.fz b hb),λ_ _=>rfl⟩;refine⟨f,?_,s,?_,t,rfl,m⟩
 ·refine inv.zU (w':=w) (k:=k) (en:=⟨gen,z,e,l⟩) (av':=av') (O':=O') (λg F=>Uf (C g F)) m hp ?_ ?_ ?_ (λ_ _ _=>rfl) (Rf _) rfl rfl rfl
  ·have D:gJ T w Gx j u e l->gJ T w f k (f.av k gen) e l:=by
    intro h;have A:f.av k gen=u:=s;rw[A];rcases h with h|⟨b,cap,cur,H,I,J,L,M,N,Q,R⟩
    ·exact .inl h
    ·refine .inr ⟨b,cap,cur,H,B b I,J,L,M,N,Q,R.keep v (p:=λ_=>False) (q:=λ_ _=>False) ?_ (λ_ h=>h.elim) (λ_ _ h=>h.elim)⟩
     refine aH.2 λy X=>?_;let⟨i,hi⟩:=RF X;exact dF hp hi
   unfold gW;rcases r with h|⟨rfl,h,Y⟩
   ·grind
   ·refine⟨S, .inr ⟨?_,Y⟩⟩
    have A:f.av k gen=u:=s;rw[A];exact h.aW v AP
  ·grind
  ·grind
 ·rcases r with h|⟨_,h,_⟩
  ·rcases h with⟨h,_⟩|⟨b,cap,cur,h,_⟩
   ·exact aP2 h
   ·rw[h];rfl
  ·rcases h.vP with⟨h,_⟩|⟨Z,sz,cc,h,_⟩<;>(rw[h];rfl)
def aR5(σ:St) b(h:∀m∈b,∃k en,m= .a k en):(σ.apps b).bx=σ.bx:=by
 induction b generalizing σ with
 |nil=>rfl
 |cons m r e=>
  have:σ.apps (m::r)=(m.app σ).apps r:=rfl;rw[this,e _ (λm c=>h m (by simp[c]))];obtain⟨k,en,rfl⟩:=h m Ad;rfl
def frzE(en:AE):AE:=match en.kind with| .own=>⟨en.gen, .frz,en.ty,en.l⟩| .ap=>⟨en.gen, .frz,en.ty,en.l⟩| .frz=>en| .dead=>⟨en.gen, .dead,en.ty,[]⟩
def cH2(σ σ':St) g:(∀k,σ'.ar k=σ.ar k\/σ'.ar k=(σ.ar k).map frzE)->∀k,(σ'.apps (aV σ g)).ar k=if k∈g then(σ.ar k).map frzE else σ'.ar k:=by
 induction g generalizing σ' with
 |nil=>intro _ k;simp[aV,St.apps]
 |cons x r m=>
  intro hrel k
  have e:aV σ (x::r)=(match σ.ar x with
   |some en=>match en.kind with
    | .own=>Mod.a x ⟨en.gen, .frz,en.ty,en.l⟩::aV σ r
    | .ap=>Mod.a x ⟨en.gen, .frz,en.ty,en.l⟩::aV σ r
    | .frz=>aV σ r
    | .dead=>match en.l with| [] =>aV σ r|_::_=>Mod.a x ⟨en.gen, .dead,en.ty,[]⟩::aV σ r
   |none=>aV σ r):=rfl
  have skip:(σ.ar x).map frzE=σ.ar x->(σ'.apps (aV σ r)).ar k=if k∈x::r then(σ.ar k).map frzE else σ'.ar k:=by
   grind
  have c:∀b,(σ.ar x).map frzE=some b->(σ'.apps (Mod.a x b::aV σ r)).ar k=if k∈x::r then(σ.ar k).map frzE else σ'.ar k:=by
   intro b hx;have j:σ'.apps (Mod.a x b::aV σ r)=((Mod.a x b).app σ').apps (aV σ r):=rfl;rw[j,m _ (λf=>?_) k];by_cases h1:k∈r;simp[h1];by_cases h2:k=x;subst h2;simp[h1,Uu,Rl,true_or,Uy];show upd σ'.ar k _ k=_;rw[upd_same,hx];exact LH;show upd σ'.ar x _ f=_\/upd σ'.ar x _ f=_;by_cases h2:f=x;subst h2;right;rw[upd_same,hx];rw[upd_ne _ _ h2];exact hrel f
  rw[e];cases hx:σ.ar x with
  |none=>simp only;exact skip (by rw[hx];rfl)
  |some en=>
   simp only;cases hk:en.kind with
   |own=>simp only;exact c _ Gs
   |ap=>simp only;exact c _ Gs
   |frz=>simp only;exact skip Gs
   |dead=>
    simp only;cases i:en.l with
    |nil=>exact skip (by rw[hx];let⟨n,q,t,s⟩:=en;subst hk i;rfl)
    |cons y ys=>exact c _ Gs
def bF7 σ e:∀m∈aV σ e,∃k en,m= .a k en:=by
 induction e with
 |nil=>intro m c;cases c
 |cons x r f=>
  intro m c
  have b:aV σ (x::r)=(match σ.ar x with
   |some en=>match en.kind with
    | .own=>Mod.a x ⟨en.gen, .frz,en.ty,en.l⟩::aV σ r
    | .ap=>Mod.a x ⟨en.gen, .frz,en.ty,en.l⟩::aV σ r
    | .frz=>aV σ r
    | .dead=>match en.l with| [] =>aV σ r|_::_=>Mod.a x ⟨en.gen, .dead,en.ty,[]⟩::aV σ r
   |none=>aV σ r):=rfl
  grind
theorem qL σ0 d y r j c K:uF σ0 d (y::r) j c K=(match y with
        | .own e l=>match c with
          |some (k,g)=>uF σ0 d r (j+1) none λvs b=>K (.arr k g::vs) (.a k ⟨g, .own,e,l⟩::b)
          |none=>match σ0.ar (d+1000*j)with
           |none=>uF σ0 d r (j+1) none λvs b=>K (.arr (d+1000*j) 0::vs) (.a (d+1000*j) ⟨0, .own,e,l⟩::b)
           |some _=>False
        | .ap e l=>match c with
          |some (k,g)=>uF σ0 d r (j+1) none λvs b=>K (.arr k g::vs) (.a k ⟨g, .ap,e,l⟩::b)
          |none=>match σ0.ar (d+1000*j)with
           |none=>uF σ0 d r (j+1) none λvs b=>K (.arr (d+1000*j) 0::vs) (.a (d+1000*j) ⟨0, .ap,e,l⟩::b)
           |some _=>False
        |y=>force y λy=>uF σ0 d r (j+1) c λvs b=>K (y::vs) b):=rfl
theorem oW(b:∀e l,y= .own e l->False)(c:∀e l,y= .ap e l->False):linear y=false:=by
 cases y with
 |own e l=>exact(b e l rfl).elim
 |ap e l=>exact(c e l rfl).elim
 |_=>rfl
def cO6:∀ rs  j  U  σ  G (N:List Value)  K,
 Inv T Φ σ a w G->(∀c,j<=c->σ0.ar (d+1000*c)=none->σ.ar (d+1000*c)=none)->(∀k g,U=some (k,g)->(∀g',σ.hasA k g'->g'<g)/\∀c,σ0.ar (d+1000*c)=none->k≠d+1000*c)->N.length=rs.length->
 (∀ i u y,N[i]? =some u->rs[i]? =some y->linear y=true->Rb T w Gx (j+i) u y)->(∀(i:Nat) u y,N[i]? =some u->rs[i]? =some y->linear y=false->Rv w G u y/\y.pure)->((∃y∈rs,linear y=true)->Keep w w Gx G)->
 (∀c b,j<=c->Gx.O b= .ar c->G.O b= .ext/\Φ.mine b/\b<w.heap.size)->uF σ0 d rs j U K->
 ∃vs f G',K vs f/\Inv T Φ (σ.apps f) a w G'/\vs.length=rs.length/\(∀(i:Nat) u v,N[i]? =some u->vs[i]? =some v->Rv w G' u v/\v.ok (σ.apps f).hasB (σ.apps f).hasA)/\G'.β=G.β/\(∀k g,σ.hasA k g->G'.av k g=G.av k g)/\(∀b,G.O b≠ .ext->G'.O b=G.O b)/\(∀k g,σ.hasA k g->(σ.apps f).hasA k g)/\(σ.apps f).bx=σ.bx:=by
 intro rs;induction rs with
 |nil=>
  intro j U σ G N K inv _ _ hl _ _ _ _ h;have:N=[] :=TQ BG;subst this;exact⟨[],[],G,h,inv,rfl,λi u v hu=>by simp at hu,rfl,λ_ _ _=>rfl,λ_ _=>rfl,λ_ _ h=>h,rfl⟩
 |cons y r ih=>
  intro j U σ G N K inv m E hl L R Y s h;cases N with
  |nil=>simp at hl
  |cons u W=>
   have Q:=BG
   have D:∀(i:Nat) u y,W[i]? =some u->r[i]? =some y->linear y=true->Rb T w Gx (j+1+i) u y:=λi u y hu hy z=>by
    have:=L (i+1) u y Bv Dj z;grind
   have B:∀ k g  M  e  l ,(M= .own\/M= .ap)->linear y=true->(∀g',σ.hasA k g'->g'<g)->(∀c,j+1<=c->σ0.ar (d+1000*c)=none->k≠d+1000*c)->e<T.n e->bM l->
    (gJ T w Gx j u e l\/(M= .ap/\Rv w Gx u (.cap l)/\∀x∈l,x.cells.length=(T.row e).size))->
    (uF σ0 d r (j+1) none λvs f=>K (.arr k g::vs) (.a k ⟨g,M,e,l⟩::f))->
    ∃vs f G',K vs f/\Inv T Φ (σ.apps f) a w G'/\vs.length=(y::r).length/\(∀(i:Nat) I v,(u::W)[i]? =some I->vs[i]? =some v->Rv w G' I v/\v.ok (σ.apps f).hasB (σ.apps f).hasA)/\G'.β=G.β/\(∀k g,σ.hasA k g->G'.av k g=G.av k g)/\(∀b,G.O b≠ .ext->G'.O b=G.O b)/\(∀k g,σ.hasA k g->(σ.apps f).hasA k g)/\(σ.apps f).bx=σ.bx:=by
    intro k g M e l af z hno ah he hp Z A;have hx:=Y ⟨y,Ad,z⟩;let⟨G1,ab,a1,a2,a3,a4,a5⟩:=inv.eV5 (k:=k) (gen:=g) hno af he hp Z hx (λb hb=>s j b (Rf _) hb);have X:∀k' g',σ.hasA k' g'->(σ.apps [.a k ⟨g,M,e,l⟩]).hasA k' g':=λk' g' hh=>KI;have ad:∀b,G.O b≠ .ext->G1.O b=G.O b:=λb hb=>a3 b (λae=>hb (s j b (Rf _) ae).1);have J:Keep w w G G1:=⟨λb hb=>(ad b AV).trans hb,λ_ _=>rfl⟩
    let⟨vs,f,G',b1,b2,b3,b4,b5,b6,b7,b8,b9⟩:=ih (j+1) none (σ.apps [.a k ⟨g,M,e,l⟩]) G1 W _ ab
     (λc t C=>by show upd σ.ar k _ _=_;rw[upd_ne _ _ (Ne.symm (ah c t C))];exact m c (by omega) C)
     (λ_ _ h=>Ah) Q D
     (λi u y hu hy z=>by
      let⟨H,F⟩:=R (i+1) u y Bv Dj z;exact⟨H.aW J F,F⟩)
     (λ⟨y',aa,Q⟩=>⟨λb hb=>(J.fz b (hx.fz b hb)),λ_ _=>rfl⟩)
     (λc b t hb=>by
      have:=s c b Aa hb;refine⟨?_,this.2⟩;rw[a3 b (by rw[hb];intro e;cases e;omega)]
      exact this.1) A
    refine⟨_,_,G',b1,b2,by simp[b3],?_,b5.trans a4,λk' g' hh=>(b6 k' g' (X k' g' hh)).trans (a5 k' g' hh),λb hb=>?_,λk' g' hh=>b8 k' g' (X k' g' hh),b9⟩
    ·intro i I v hu hv
     cases i with
     |zero=>
      simp at hu hv;subst hu;subst hv;have hA:(σ.apps [.a k ⟨g,M,e,l⟩]).hasA k g:=⟨_,upd_same _ _ _,Rf _⟩;have e1:=(b6 k g hA).trans a1;refine⟨?_,by simp[V.ok];exact b8 k g hA⟩;rw[<-e1];exact .arr k g (by rw[e1];exact a2)
     |succ i=>exact b4 i I v Bv BH
    ·grind
   have q:∀c,j+1<=c->d+1000*j≠d+1000*c:=λc h=>Aa
   have ai:linear y=false->(uF σ0 d r (j+1) U λvs f=>K (y::vs) f)->
    ∃vs f G',K vs f/\Inv T Φ (σ.apps f) a w G'/\vs.length=(y::r).length/\(∀(i:Nat) I v,(u::W)[i]? =some I->vs[i]? =some v->Rv w G' I v/\v.ok (σ.apps f).hasB (σ.apps f).hasA)/\G'.β=G.β/\(∀k g,σ.hasA k g->G'.av k g=G.av k g)/\(∀b,G.O b≠ .ext->G'.O b=G.O b)/\(∀k g,σ.hasA k g->(σ.apps f).hasA k g)/\(σ.apps f).bx=σ.bx:=by
    intro z A;let⟨vs,f,G',b1,b2,b3,b4,b5,b6,b7,b8,b9⟩:=ih (j+1) U σ G W _ inv (λc t C=>m c Aa C) E Q D (λi u y hu hy=>R (i+1) u y Bv Dj) (λ⟨y',aa,hq⟩=>Y ⟨y',by simp[aa],hq⟩) (λc b t hb=>s c b Aa hb) A;refine⟨_,_,G',b1,b2,by simp[b3],?_,b5,b6,b7,b8,b9⟩;intro i I v hu hv;cases i with
    |zero=>
     simp at hu hv;subst hu;subst hv;let⟨H,F⟩:=R 0 u y rfl rfl z;have ag:Keep w w G G':=⟨λb hb=>(b7 b AV).trans hb,λ_ _=>rfl⟩;exact⟨H.aW ag F,V.pure.ok F _ _⟩
    |succ i=>exact b4 i I v Bv BH
   have S:=L 0 u y rfl rfl;rw[TW]at S;rw[qL]at h;split at h;rename_i e l;let⟨H,F,q3⟩:=S rfl;split at h;rename_i k g;exact B k g .own e l (.inl rfl) rfl (E k g rfl).1 (λc _ C=>(E k g rfl).2 c C) H F (.inl q3) h;split at h;rename_i C;exact B _ 0 .own e l (.inl rfl) rfl (zK (m j (Rf _) C) 0) (λc t _=>q c t) H F (.inl q3) h;exact h.elim;rename_i e l;let⟨H,F,q3⟩:=S rfl;have ac:gJ T w Gx j u e l\/(AK.ap= .ap/\Rv w Gx u (.cap l)/\∀x∈l,x.cells.length=(T.row e).size):=q3.imp id (λh=>⟨rfl,h⟩);split at h;rename_i k g;exact B k g .ap e l (.inr rfl) rfl (E k g rfl).1 (λc _ C=>(E k g rfl).2 c C) H F ac h;split at h;rename_i C;exact B _ 0 .ap e l (.inr rfl) rfl (zK (m j (Rf _) C) 0) (λc t _=>q c t) H F ac h;exact h.elim;grind [force_eq,oW]
end
section
variable{T:Tab}{P:Program}{Φ:Fr}{σ:St}{a:Act}{w w':World}{G G':Gh}{K:VK}{o:Oper}{d:Nat}
def uU:aE7 l=true↔l.Nodup:=by
 induction l<;>grind [Va,pM,aE7]
def zW(xs ys:List V)(j k:Nat):Prop:=∃x y,xs[j]? =some x/\ys[j]? =some y/\linear y=true/\k∈jQ x
theorem aK3:∀ {ys xs},(bD ys xs).Nodup->∀ {j b k},zW xs ys j k->zW xs ys b k->j=b:=by
 intro ys;induction ys with
 |nil=>rintro xs _ j b k ⟨x,y,_,h,_⟩;simp at h
 |cons y r q=>
  intro xs p j b k h n;cases xs with
  |nil=>let⟨x,y,h,_⟩:=h;simp at h
  |cons x xr=>
   have c:bD (y::r) (x::xr)=appR (cond (linear y) (jQ x) []) (bD r xr):=rfl;rw[c,bT,List.nodup_append]at p;let⟨_,s,B⟩:=p
   have e:∀ {j},zW (x::xr) (y::r) (j+1) k->zW (x::xr) (y::r) 0 k->False:=by
    rintro j ⟨l,m,f,g,i,t⟩ ⟨C,D,u,v,z,A⟩;grind [oZ]
   cases j with
   |zero=>
    cases b<;>simp_all
   |succ j=>
    cases b with
    |zero=>exact(e h n).elim
    |succ b=>
     have:j=b:=q s (by let⟨l,m,f,g,i⟩:=h;exact⟨l,m,by simpa using f,by simpa using g,i⟩) (by let⟨l,m,f,g,i⟩:=n;exact⟨l,m,by simpa using f,by simpa using g,i⟩);rw[this]
def bJ2(en:AE):AE:=⟨en.gen, .dead,en.ty,[]⟩
def bP7(σ σ':St) e:(∀k∈e,σ.ar k=none->σ'.ar k=none)->∀k,(σ'.apps (aX σ e)).ar k=if k∈e then(σ.ar k).map bJ2 else σ'.ar k:=by
 induction e generalizing σ' with
 |nil=>intro _ k;simp[aX,St.apps]
 |cons x r l=>
  intro m k;have b:aX σ (x::r)=(match σ.ar x with|some en=>Mod.a x ⟨en.gen, .dead,en.ty,[]⟩::aX σ r|none=>aX σ r):=rfl;rw[b];cases f:σ.ar x with
  |none=>
   grind
  |some en=>
   have i:σ'.apps (Mod.a x ⟨en.gen, .dead,en.ty,[]⟩::aX σ r)=((Mod.a x ⟨en.gen, .dead,en.ty,[]⟩).app σ').apps (aX σ r):=rfl;rw[i,l _ (λg j c=>?_) k];by_cases h1:k∈r;simp[h1];by_cases h2:k=x;subst h2;simp[h1,Uu,Rl,true_or,Uy];show upd σ'.ar k _ k=_;rw[upd_same,f];rfl;exact LH;show upd σ'.ar x _ g=_;have:g≠x:=by rintro rfl;rw[f]at c;cases c
   grind [upd_ne]
def aS3 σ e:∀m∈aX σ e,∃k en,m= .a k en:=by
 induction e with
 |nil=>intro m c;cases c
 |cons x r f=>
  have b:aX σ (x::r)=(match σ.ar x with|some en=>Mod.a x ⟨en.gen, .dead,en.ty,[]⟩::aX σ r|none=>aX σ r):=rfl;grind
def bG6(e:sS y=true)(h:Rv w G v y):Rv w G' v y:=by
 cases y with
 |lit u=>rw[h.bH];exact .lit u h.aZ3
 |agg cs=>
  have b:allR bR6 cs=true:=e;rw[dY]at b;let⟨vs,g,j,k,l⟩:=h.zV;rw[g];refine .agg vs cs j k λi c x m f=>?_;have:=b x (QZ f);cases x with
  |lit u=>have:=l i c _ m f;rw[this.bH];exact .lit u this.aZ3
  |_=>simp[bR6]at this
 |_=>simp[sS]at e
def cZ3(h:reuse σ b=some (k,g)):∃en,σ.ar k=some en/\g=en.gen+1:=by
 unfold reuse at h;grind
def cA5(h:sS y=true):linear y=false:=by cases y<;>first|rfl|(simp[sS]at h)
def aW9(h:aH7 y=true)(b:∀rs,y= .tup rs->False):sS y=true:=by
 cases y with
 |tup rs=>exact(b rs rfl).elim
 |lit u=>rfl
 |agg cs=>exact h
 |_=>simp[aH7]at h
end
end Go.Ab
