/- Lemmas. -/
import Derived.Test.YtcmgfjaiegpddaaGreatA2
set_option linter.all false
noncomputable section
namespace Go.Ab
section
variable{T:Tab}{P:Program}{Φ:Fr}{σ:St}{a:Act}{w:World}{G:Gh}{K:VK}{o:Oper}{d:Nat}
theorem RvL.append{vs e:List Value}{xs ys:List V}(h:RvL w G vs xs)(c:RvL w G e ys):RvL w G (vs++e) (xs++ys):=by
 refine⟨by simp[h.len,c.len],?_,?_⟩;intro v hv;rcases Pv.1 hv with hv|hv;exact h.one v hv;exact c.one v hv;intro i v x hv b;have f:=h.len;rw[Sz]at hv b;by_cases hi:i<vs.length;rw[Pm hi]at hv;rw[Pm Aa]at b;exact h.rel i v x hv b;rw[Ph hi]at hv;rw[Ph Aa,<-f]at b;exact c.rel _ v x hv b
def RvL.take{vs:List Value}{xs:List V}(h:RvL w G vs xs)(n:Nat):RvL w G (vs.take n) (xs.take n):=by
 refine⟨by simp[h.len],λv hv=>h.one v (PO hv),λi v x hv b=>?_⟩;rw[RU]at hv b;split at hv;rename_i hi;rw[Pm hi]at b;exact h.rel i v x hv b;cases hv
def RvL.drop{vs:List Value}{xs:List V}(h:RvL w G vs xs)(n:Nat):RvL w G (vs.drop n) (xs.drop n):=by
 refine⟨by simp[h.len],λv hv=>h.one v (PU hv),λi v x hv b=>?_⟩;rw[Qe]at hv b;exact h.rel _ v x hv b
theorem RvL.splice{vs b:List Value}{xs ys:List V}(h:RvL w G vs xs)(c:RvL w G b ys)(off:Nat):RvL w G (vs.take off++b++vs.drop (off+b.length)) (Ab.splice xs off ys):=by
 rw[mO,Pq,c.len];exact(h.take off).append (c.append (h.drop _))
def yV{p:Nat->Prop}{q:Nat->Nat->Prop}{xs ys:List V}(h:V.okL p q xs)(b:V.okL p q ys)(off:Nat):V.okL p q (splice xs off ys):=by
 grind [mO,aH,PO,PU]
theorem aM4{vs:List Value}(h:∀v∈vs,v.oneCell'=true):RvL w G vs (vs.map .lit):=by
 refine⟨Af,h,λi v x hv b=>?_⟩;rw[PK,hv]at b;simp at b;subst b;exact .lit v (h v (Pn hv))
def bC6{p:Nat->Prop}{q:Nat->Nat->Prop}{vs:List Value}:V.okL p q (vs.map .lit):=by
 grind [aH,dL]
def aK8(inv:Inv T Φ σ a w G){c:Array Value}{t:TypeId}{cs:List V}(e:(∀y∈cs,y.one=true)->RvL w G c.toList cs)(f:V.okL σ.hasB σ.hasA cs)(h:lM σ d cs K){b:Result Next}
 (j:b= .ok (.value (.pointer (some ⟨w.heap.size,0,none⟩))) (w.alloc (.cells c t))):Out T Φ σ a K b:=by
 unfold lM at h;split at h
 ·rename_i i
  rw[bC]at h;obtain⟨g,h⟩:=aT h;have e:=e (dY.1 g);refine⟨_,_,_,_,_, .inl j,h,inv.lM i (t:=t) e f,?_,?_⟩
  ·have:=Rv.box (w:=w.alloc (.cells c t)) (G:={G with β:=upd G.β d w.heap.size,O:=upd G.O w.heap.size (.bx d)}) d 0
   simp only[upd_same]at this;exact this
  ·simp only[V.ok]
   exact⟨cs,upd_same _ _ _⟩
 ·exact h.elim
def dM8(inv:Inv T Φ σ a w G)(t:TypeId)(x:Operand)(g:o.op= .box t x)(h:lM σ d (σ.ev x).cells K):Out T Φ σ a K ((execOp a.eval o).run P w):=by
 obtain⟨b,e⟩:=inv.ev x;exact aK8 inv (t:=t) (c:=(a.eval x).cells) (λf=>b.cells f) (sF e) h (by simp[execOp,g,Instr.box,newVar,newRow,newObj,Sem.run])
def aC3(j:bP T P){t:TypeId}(k:t<T.n t):∃z,(zeroValue t).run P w= .ok z w/\z.cells.toList=(T.row t).zero/\(∀c∈(T.row t).zero,c.oneCell'=true)/\(T.row t).zero.length=(T.row t).size:=by
 obtain⟨i,b,l,m,z,e,f,g,h,_⟩:=(j t k).info;exact⟨z,by simp[zeroValue,typeInfo,b,e],f,g,h⟩
def cJ8(f:bP T P)(inv:Inv T Φ σ a w G)(t:TypeId)(g:o.op= .alloc t)(i:t<T.n t)(h:lM σ d (mapR .lit (T.row t).zero) K):Out T Φ σ a K ((execOp a.eval o).run P w):=by
 obtain⟨z,j,b,e,_⟩:=aC3 (w:=w) f i;rw[dU,<-b]at h;exact aK8 inv (t:=t) (c:=z.cells) (λ_=>aM4 (by rw[b];exact e)) bC6 h (by simp[execOp,g,Instr.alloc,j,newVar,newRow,newObj,Sem.run])
def yJ{t:TypeId}{r:Row}(h:aH9 P t r)(g:r.kd= .struct):∃b,P.underlying t=some (.struct b)/\r.flds=b.toList.map (λf=>(f.offset,vI P f.type,kdOf (P.underlying f.type),f.type))/\(∀f∈b,∃i,P.info? f.type=some i/\i.size=vI P f.type):=by
 obtain⟨e,j,c,_,_,_,_,k⟩:=h.und;rw[g]at c;cases e<;>simp[kdOf]at c<;>simp_all
def jW{t:TypeId}{r:Row}(h:aH9 P t r)(e:r.kd= .slice):P.underlying t=some (.slice r.elem):=by
 obtain⟨c,f,b,_,g,_,_⟩:=h.und;rw[e]at b;cases c<;>simp[kdOf]at b<;>simp_all
def aR9{t:TypeId}{r:Row}(h:aH9 P t r)(e:r.kd= .array):P.underlying t=some (.array r.alen r.elem):=by
 obtain⟨c,f,b,_,_,g,_⟩:=h.und;rw[e]at b;cases c<;>simp[kdOf]at b<;>simp_all
def eT8{t:TypeId}{r:Row}(h:aH9 P t r)(e:r.kd= .map):P.underlying t=some (.map r.alen r.elem):=by
 obtain⟨c,f,b,_,_,_,g,_⟩:=h.und;rw[e]at b;cases c<;>simp[kdOf]at b<;>simp_all
def aF2{t:TypeId}{r:Row}(h:aH9 P t r)(hk:r.kd= .str):P.underlying t=some .string:=KO
def bY7{t:TypeId}{r:Row}(h:aH9 P t r){k:IntKind}(f:r.kd= .int k):P.underlying t=some (.int k):=by
 obtain⟨c,e,b,_⟩:=h.und;rw[f]at b;cases c<;>simp[kdOf]at b;subst b;exact e
def iV(e:bP T P){t:TypeId}(f:t<T.n t)(w:World):(sizeOf t).run P w= .ok (T.row t).size w:=by
 obtain⟨i,b,c,_⟩:=(e t f).info;rw[bG2 b,c]
def yG(f:bP T P){t:TypeId}(g:t<T.n t)(w:World):(isAgg t).run P w= .ok (T.row t).agg w:=by
 obtain⟨b,c,_,e,_⟩:=(f t g).und;rw[e];cases b<;>simp[isAgg,dI c,aggB]
def bN6(v:bP T P){s:TypeId}(x:s<T.n s){f:Nat}{off z:Nat}{A:Kd×TypeId}(c:(T.row s).flds[f]? =some (off,z,A))(y:z≠0)(g:(T.row s).kd= .struct)(k:Addr):
 (Instr.fieldAt s (.pointer (some k)) f).run P w= .ok (.pointer (some (k.add off))) w:=by
 obtain⟨m,r,t,u⟩:=yJ (v s x) g;rw[t,PK]at c;cases b:m.toList[f]? with
 |none=>rw[b]at c;cases c
 |some l=>
  rw[b]at c;simp only[Qg,Ql,QY]at c;obtain⟨p,q,_⟩:=c;have e:m[f]? =some l:=by simpa using b
  obtain⟨i,hi,j⟩:=u l (by have:=Pn b;simpa using this);have h:i.size≠0:=by rw[j,q];exact y
  simp[Instr.fieldAt,dI r,e,Instr.sureAddr,fieldPlace,bG2 hi,h,p]
def aY3(C:bP T P)(inv:Inv T Φ σ a w G)(s:TypeId)(x:Operand)(f:Nat)(H:o.op= .fieldAddr s x f)(J:s<T.n s)(h:jB (T.row s) (σ.ev x) f K):Out T Φ σ a K ((execOp a.eval o).run P w):=by
 obtain⟨l,h2⟩:=inv.ev x;unfold jB at h;split at h;rename_i off z L u B;rw[uN]at B;cases v:Nat.beq z 0 with
 |true=>rw[v]at h;exact h.elim
 |false=>
  rw[v]at h;have A:z≠0:=by rintro rfl;simp at v
  have b:∀e,a.eval x= .pointer (some e)->(execOp a.eval o).run P w= .ok (.value (.pointer (some (e.add off)))) w:=λe m=>by
   simp[execOp,H,m,bN6 C J B A u e]
  simp only[Qu]at h;split at h;rename_i i of q;rw[q]at l h2;refine .plain inv (b _ l.bI6) h ?_ Eu;rw[rY];exact .box i (of+off);rename_i cs q;rw[q]at l h2;obtain⟨e,cc,m,E,D,I⟩:=l.cW5;rw[bC,lQ]at h;refine .plain inv (b e m) h ?_ ?_;refine .fp _ _ (λj=>cc (off+j)) (λF=>?_) (λj y r=>?_) (λj y r=>?_);grind [add_block];rw[Qe]at r;rw[add_add'];exact D _ y r;rw[Qe]at r;exact I _ y r;grind [aH,PU,V.ok];rename_i k g sz i of q;rw[q]at l h2;obtain⟨e,n,c,m,t⟩:=l.dA8;refine .plain inv (b _ m) h ?_ Eu;rw[add_add',Nat.add_assoc];exact .ae k g sz i (of+off) e n c t;exact h.elim
 exact h.elim
structure Here(w:World)(G:Gh)(ad:Addr)(xs:List V):Prop where
 out:∃cc:Nat->Value,At w ad cc xs/\∀(j:Nat) y,xs[j]? =some y->Rv w G (cc j) y
theorem dU3(k:bP T P){t:TypeId}(s:t<T.n t){i:Addr}{xs:List V}(z:Here w G i xs)(q:V.okL σ.hasB σ.hasA xs)(h:wB (T.row t) xs K):
 ∃v' v,(loadVar t i).run P w= .ok v' w/\K v []/\Rv w G v' v/\v.ok σ.hasB σ.hasA:=by
 obtain⟨cc,l,B⟩:=z.out;unfold wB at h;split at h
 ·rename_i b
  rw[bC,aD3,iL]at h;obtain⟨y,h⟩:=aT h;have g:(xs.take (T.row t).size).length=(T.row t).size:=by simpa [QJ]using y
  have m:(T.row t).size<=xs.length:=by rw[PG]at g;omega
  have e:=run_loadCells (P:=P) w i (T.row t).size cc (λj A=>(l j _ (Pj Aa)).1);refine⟨.agg ((List.range (T.row t).size).map cc).toArray,_,?_,h, .agg _ _ ?_ ?_ ?_,?_⟩
  ·simp[loadVar,yG k s,b,iV k s,e]
  ·simp[m]
  ·intro c f
   simp only[List.mem_toArray,PI,Qh]at f;obtain⟨j,A,rfl⟩:=f;exact(l j _ (Pj Aa)).2
  ·grind
  ·grind [aH,PO,V.ok]
 ·rename_i b
  split at h
  ·rename_i x r
   rw[force_eq]at h;have u:=l 0 x Af;rw[add_zero']at u;exact⟨cc 0,x,by simp[loadVar,yG k s,b,run_load,u.1],h,B 0 x Af,aH.1 q x Af⟩
  ·exact h.elim
def flat_get{l:List V}{sz:Nat}(b:∀x∈l,x.cells.length=sz){i:Nat}{x:V}(hi:l[i]? =some x)(j:Nat)(c:j<sz):(l.flatMap V.cells)[i*sz+j]? =x.cells[j]? :=by
 induction l generalizing i with
 |nil=>simp at hi
 |cons y r f=>
  have e:y.cells.length=sz:=b y Af;cases i<;>grind
theorem sH{l:List V}{sz:Nat}(b:∀x∈l,x.cells.length=sz):(l.flatMap V.cells).length=l.length*sz:=by
 induction l<;>grind
def Here.elem{l:List V}{sz:Nat}(k:∀x∈l,x.cells.length=sz){e:Addr}(g:Here w G e (l.flatMap V.cells)){i:Nat}{x:V}(hi:l[i]? =some x)(off:Nat):Here w G (e.add (i*sz+off)) (x.cells.drop off):=by
 obtain⟨cc,f,h⟩:=g.out
 have key:∀(j:Nat) (y:V),(x.cells.drop off)[j]? =some y->(l.flatMap V.cells)[i*sz+off+j]? =some y:=by
  intro j y b;rw[Qe]at b
  have c:off+j<sz:=by
   grind
  rw[Nat.add_assoc,flat_get k hi _ c];exact b
 refine⟨λj=>cc (i*sz+off+j),λj y b=>?_,λj y b=>h _ y (key j y b)⟩;rw[add_add'];exact f _ y (key j y b)
def RvL.here{g:Nat}{cur:Array Value}{t:TypeId}{i:Nat×Nat}(k:w.heap[g]? =some (.cells cur t i)){n:Nat}{xs:List V}(h:RvL w G (cur.toList.take n) xs):Here w G ⟨g,0,none⟩ xs:=by
 refine⟨λj=>cur.toList.getD j undef,λj y c=>?_,λj y c=>?_⟩;have b:j< (cur.toList.take n).length:=by rw[h.len];exact(Pg.1 c).1
 have hj':j<cur.toList.length:=by rw[PG]at b;omega
 have f:(cur.toList.take n)[j] =cur.toList[j] :=List.getElem_take;rw[rY,QD,cell_of_row w g j cur t i k];have e:cur.toList.getD j undef=cur.toList[j] :=EK;show cur[j]? =some (cur.toList.getD j undef)/\(cur.toList.getD j undef).oneCell'=true;rw[e];refine⟨Af,?_⟩;rw[<-f];exact h.one _ (Rl b);have b:j< (cur.toList.take n).length:=by rw[h.len];exact(Pg.1 c).1
 have hj':j<cur.toList.length:=by rw[PG]at b;omega
 have f:(cur.toList.take n)[j] =cur.toList[j] :=List.getElem_take;have e:cur.toList.getD j undef=cur.toList[j] :=EK;show Rv w G (cur.toList.getD j undef) y;rw[e,<-f];exact h.rel j _ y (Pj b) c
def gW.reads{k:Nat}{en:AE}(h:gW T w G k en)(i:en.kind≠ .dead):(G.av k en.gen= .slice none 0 0/\en.l=[])\/
 ∃ad c sz,G.av k en.gen= .slice (some ad) en.l.length c/\en.l.length<=c/\c<=maxLen/\(∀x∈en.l,x.cells.length=sz)/\Here w G ad (en.l.flatMap V.cells):=by
 have own:∀ {u ty l},gJ T w G k u ty l->(u= .slice none 0 0/\l=[])\/∃ad c sz,u= .slice (some ad) l.length c/\l.length<=c/\c<=maxLen/\(∀x∈l,x.cells.length=sz)/\Here w G ad (l.flatMap V.cells):=by
  intro u ty l h;rcases h with⟨h|⟨a,h⟩,f⟩|⟨b,cap,cur,h1,h2,h3,h4,h5,h6,h7,g⟩;exact .inl ⟨h,f⟩;subst f;exact .inr ⟨a,0,0,h,Po _,P8 _,(λx n=>by cases n),⟨λ_=>undef,(λj y e=>by simp at e),(λj y e=>by simp at e)⟩⟩;exact .inr ⟨⟨b,0,none⟩,cap,_,h1,h4,h5,h7,g.here h3⟩
 have sl:∀ {u l},Rv w G u (.sl l)->(u= .slice none 0 0/\l=[])\/∃ad c sz,u= .slice (some ad) l.length c/\l.length<=c/\c<=maxLen/\(∀x∈l,x.cells.length=sz)/\Here w G ad (l.flatMap V.cells):=by
  intro u l h;exact Nv
 unfold gW at h;split at h
 ·rename_i m;exact absurd m i
 ·exact sl h
 ·exact own h.2
 ·rcases h.2 with h|h
  ·exact own h
  ·exact sl h.1.wK
def cG1(hT:bP T P)(inv:Inv T Φ σ a w G)(t:TypeId)(x:Operand)(ht:t<T.n t)(h:pW (T.row t) σ (σ.ev x) K):∃b v' v,a.eval x= .pointer (some b)/\(loadVar t b).run P w= .ok v' w/\K v []/\Rv w G v' v/\v.ok σ.hasB σ.hasA:=by
 obtain⟨l,s⟩:=inv.ev x
 have f:∀(b:Addr) (xs:List V),a.eval x= .pointer (some b)->Here w G b xs->V.okL σ.hasB σ.hasA xs->wB (T.row t) xs K->∃b v' v,a.eval x= .pointer (some b)/\(loadVar t b).run P w= .ok v' w/\K v []/\Rv w G v' v/\v.ok σ.hasB σ.hasA:=by
  grind [dU3]
 unfold pW at h;split at h;rename_i i off q;rw[q]at l;split at h;rename_i cs m;obtain⟨c,tt,N,O,g3⟩:=inv.box i cs m;rw[lQ]at h;have U:Here w G ⟨G.β i,0,none⟩ cs:=RvL.here N (n:=c.toList.length) (by rw[Rn];exact O);refine f _ _ l.bI6 ?_ ?_ h;obtain⟨cc,Z,q2⟩:=U.out;refine⟨λj=>cc (off+j),λj y e=>?_,λj y e=>?_⟩;rw[Qe]at e;have:=Z _ y e;simp_all [rY,QD];rw[Qe]at e;exact q2 _ y e;have:=inv.wfB i cs m;rw[aH]at this⊢;grind;exact h.elim;rename_i cs q;rw[q]at l s;obtain⟨b,cc,A,_,Q,X⟩:=l.cW5;refine f b cs A ⟨cc,Q,X⟩ ?_ h;simp only[V.ok]at s;exact V.okL.imp (λ_ h=>h.elim) (λ_ _ h=>h.elim) _ s;rename_i k g sz i off q;rw[q]at l;split at h;rename_i en p;obtain⟨⟨S,R⟩,F⟩:=dX h;obtain⟨y,e,H⟩:=cO3 F;obtain⟨J,I⟩:=aT H;clear h F H;rw[iL]at J;have B:y.cells.length=sz:=by simpa [QJ]using J
 obtain⟨b,n,c,A,u⟩:=l.dA8;subst S;rcases(inv.arr k en p).reads R with⟨r,D⟩|⟨L,c',C,r,D,e3,E,M⟩;rw[D]at e;simp at e;rw[u]at r;cases r;have:C=sz:=by rw[<-E y (Pn e)];exact B
 subst this;rw[lQ]at I;refine f _ _ A (M.elem E e off) ?_ I;have W:=aH.1 (inv.wfA k en p) y (Pn e);have:=sF W;rw[aH]at this⊢;exact λz Y=>V.pure.ok (this z (PU Y)) _ _;exact h.elim;exact h.elim
def cZ0(e:bP T P)(inv:Inv T Φ σ a w G)(t:TypeId)(x:Operand)(i:o.op= .load t x)(j:t<T.n t)(h:pW (T.row t) σ (σ.ev x) K):Out T Φ σ a K ((execOp a.eval o).run P w):=by
 obtain⟨k,v',v,f,b,g,hv,c⟩:=cG1 e inv t x j h;exact .plain inv (by simp[execOp,i,f,Instr.loadAt,Instr.sureAddr,b]) g hv c
end
section
variable{T:Tab}{P:Program}{Φ:Fr}{σ:St}{a:Act}{w:World}{G:Gh}{K:VK}{o:Oper}{d:Nat}
theorem size_setRow(g:Nat)(cs:Array Value):(w.setRow g cs).heap.size=w.heap.size:=by simp[World.setRow]
def aN1(f:bP T P){t:TypeId}(j:t<T.n t){g off:Nat}{cur:Array Value}{b:TypeId}(k:w.heap[g]? =some (.cells cur b (0,0))){v:Value}(i:v.cells.size=(T.row t).size)(hl:off+v.cells.size<=cur.size)(e:∀c∈v.cells.toList,c.oneCell'=true):
 (storeVar t ⟨g,off,none⟩ v).run P w= .ok () (w.setRow g (cur.toList.take off++v.cells.toList++cur.toList.drop (off+v.cells.toList.length)).toArray):=by
 have:=run_storeCells_at (P:=P) g off b v.cells.toList 0 cur w k AQ e;simp only[Rq]at this;simp[storeVar,iV f j,i,this]
theorem aF8{p:Nat->Prop}{q:Nat->Nat->Prop}{y:V}(h:y.atom=true)(b:y.ok p q):y.pure:=by
 cases y with
 |lit u=>simp only[V.pure,V.ok]
 |sl l=>simp only[V.pure,V.ok]at b⊢;exact b
 |cap l=>simp only[V.pure,V.ok]at b⊢;exact b
 |fn g l=>exact fn_atom_pure h b
 |_=>simp[V.atom]at h
def eC3{y:V}(h:y.atom=true):y.one=true:=by cases y<;>simp_all [V.atom,V.one]
theorem bE1{y:V}(h:y.atom=true):y.cells=[y] :=by cases y<;>simp_all [V.atom,V.cells]
def eA3{l:List V}{sz:Nat}(c:∀x∈l,x.cells.length=sz){i:Nat}{x x':V}(hi:l[i]? =some x){off:Nat}{ys:List V}(b:x'.cells=splice x.cells off ys)(f:off+ys.length<=sz):
 (l.set i x').flatMap V.cells=splice (l.flatMap V.cells) (i*sz+off) ys:=by
 induction l generalizing i with
 |nil=>simp at hi
 |cons y r j=>
  have g:y.cells.length=sz:=c y Af;rw[mO]at b⊢;cases i with
  |zero=>
   grind
  |succ i=>
   simp only[Qi]at hi;have:=j (λx hx=>c x BO) hi;rw[mO]at this;have e:(i+1)*sz+off=y.cells.length+(i*sz+off):=by rw[g,QL];omega
   simp only[List.set_cons_succ,Qk,this,e,S9,List.drop_append];have k:List.take (y.cells.length+(i*sz+off)) y.cells=y.cells:=Q8 Aa;have m:List.drop (y.cells.length+(i*sz+off)+ys.length) y.cells=[] :=List.drop_of_length_le Aa;have n:y.cells.length+(i*sz+off)+ys.length-y.cells.length=i*sz+off+ys.length:=Aa;rw[k,m,Nat.add_sub_cancel_left,n];simp
def cJ7(hT:bP T P)(inv:Inv T Φ σ a w G)(t:TypeId)(x y:Operand)(ho:o.op= .store t x y)(ht:t<T.n t)(h:qU (T.row t) σ (σ.ev x) (σ.ev y) K):Out T Φ σ a K ((execOp a.eval o).run P w):=by
 obtain⟨h1,h2⟩:=inv.ev x;obtain⟨y1,y2⟩:=inv.ev y;unfold qU at h;split at h;rename_i i off hx;rw[hx]at h1;split at h;rename_i cs D;obtain⟨hc,Y⟩:=aT h;clear h;simp only[Px,iL]at hc;obtain⟨⟨c1,c2⟩,c3⟩:=hc;have af:(σ.ev y).cells.length=(T.row t).size:=Fh;have L:off+(T.row t).size<=cs.length:=by simpa using c2
 rw[bC]at Y;have U:=y1.cells (dY.1 c3);obtain⟨c,tt,g1,g2,g3⟩:=inv.box i cs D;have m:(a.eval y).cells.size=(T.row t).size:=by have:=U.len;simp at this;omega
 have aq:c.size=cs.length:=by have:=g2.len;simpa using this
 have s:=aN1 (P:=P) hT ht g1 (v:=a.eval y) (off:=off) m Aa U.one;refine⟨undef,w.setRow (G.β i) (c.toList.take off++(a.eval y).cells.toList++c.toList.drop (off+(a.eval y).cells.toList.length)).toArray,_,_,G, .inr ⟨by simp[execOp,ho,h1.bI6,Instr.storeAt,Instr.sureAddr,s],rfl⟩,Y,?_, .bot _,Bq⟩;refine inv.eJ4 D (c:=(c.toList.take off++(a.eval y).cells.toList++c.toList.drop (off+(a.eval y).cells.toList.length)).toArray) (t:=tt) ?_ (yV (inv.wfB i cs D) (sF y2) off) (QH w _ c _ tt _ g1) (λb hb=>Q9 w _ b _ hb) (size_setRow _ _) rfl rfl rfl;simpa using g2.splice U off;exact h.elim;rename_i k g sz i off hx;rw[hx]at h1;split at h;rename_i en E;obtain⟨⟨hg,aa⟩,Y⟩:=dX h;obtain⟨z,W,h4⟩:=cO3 Y;obtain⟨hc,h5⟩:=aT h4;clear h Y h4;simp only[Px,iL]at hc;obtain⟨⟨⟨c1,c2⟩,c4⟩,c3⟩:=hc;have af:(σ.ev y).cells.length=(T.row t).size:=Fh;have L:off+(T.row t).size<=z.cells.length:=by simpa using c2
 have ag:z.cells.length=sz:=by simpa [QJ]using c4
 rw[bC]at h5;have M:=dY.1 c3;have U:=y1.cells (λu I=>eC3 (M u I));obtain⟨ad,n,c,he,Z⟩:=h1.dA8;subst hg;have F:=inv.arr k en E;have an:=F;unfold gW at F;rw[aa]at F;obtain⟨ai,ac⟩:=F;rcases ac with⟨e1,X⟩|⟨b,cap,cur,e1,X,e3,e4,e5,e6,e7,e8⟩;rw[X]at W;simp at W;rw[Z]at e1;cases e1;have J:sz=(T.row en.ty).size:=by rw[<-ag];exact e7 z (Pn W)
 have m:(a.eval y).cells.size=(T.row t).size:=by have:=U.len;simp at this;omega
 have hi:i<en.l.length:=(Pg.1 W).1;have al:i*sz+sz<=en.l.length*sz:=by rw[<-QL];exact SA _ hi
 have ah:en.l.length*sz<=c*sz:=SA _ e4;have D:cur.size=c*sz:=by rw[J];exact e6
 have s:=aN1 (P:=P) hT ht e3 (v:=a.eval y) (off:=i*sz+off) m Aa U.one
 have C:(aC4 z (splice z.cells off (σ.ev y).cells)).cells=splice z.cells off (σ.ev y).cells:=by
  have f:(splice z.cells off (σ.ev y).cells).length=z.cells.length:=by
   rw[mO];simp;omega
  unfold aC4;split;rfl;rename_i am;have A:z.cells=[z] :=by cases z<;>simp_all [V.cells]
  rw[A]at f;match H:splice z.cells off (σ.ev y).cells with
  | [] =>rw[A]at H;rw[H]at f;simp at f
  |u::r=>
   have hr:r=[] :=by
    simp_all
   subst hr;rw[A]at L;simp only[PL]at L;by_cases h0:(T.row t).size=0;have hn:(σ.ev y).cells=[] :=PZ Aa;rw[hn,A,mO]at H;simp_all;have ab:off=0:=by omega
   subst ab;grind [mO,bE1]
 have N:=eA3 e7 W (x':=aC4 z (splice z.cells off (σ.ev y).cells)) (off:=off) (ys:=(σ.ev y).cells) C Aa
 have R:bM (en.l.set i (aC4 z (splice z.cells off (σ.ev y).cells))):=by
  have ae:=aH.1 (inv.wfA k en E);refine aH.2 ?_;intro u I;rcases List.mem_or_eq_of_mem_set I with I|I;exact ae u I;subst I;have ak:=sF (ae z (Pn W))
  have aj:bM (σ.ev y).cells:=by
   refine aH.2 ?_;exact λq S=>aF8 (M q S) (aH.1 (sF y2) q S)
  have hs:=yV ak aj off;unfold aC4;split;simp only[V.ok];exact hs;split;rename_i q r S;rw[S]at hs;exact hs.1;simp only[V.ok]
 refine⟨undef,w.setRow b (cur.toList.take (i*sz+off)++(a.eval y).cells.toList++cur.toList.drop (i*sz+off+(a.eval y).cells.toList.length)).toArray,_,_,G, .inr ⟨?_,rfl⟩,h5,?_, .bot _,Bq⟩;rw[rY,QD]at he;simp[execOp,ho,he,Instr.storeAt,Instr.sureAddr,s]
 have Q:Keep w (w.setRow b (cur.toList.take (i*sz+off)++(a.eval y).cells.toList++cur.toList.drop (i*sz+off+(a.eval y).cells.toList.length)).toArray) G G:=
  ⟨λ_ h=>h,λb' B=>Q9 w _ b' _ (λe=>by subst e;rw[X]at B;cases B)⟩
 refine inv.zU (k:=k) (en:={en with l:=en.l.set i (aC4 z (splice z.cells off (σ.ev y).cells))}) (av':=G.av) (O':=G.O) (λg ⟨ao,q1,q2⟩=>by rw[E]at q1;cases q1;exact q2) (λ_ _ _=>rfl) R ?_ (λ_ _ _=>rfl) (λ_=> .inl rfl)
  (λb' _ B=>Q9 w _ b' _ (λe=>by subst e;exact B X)) FD rfl rfl rfl
 unfold gW;simp only[aa];refine⟨ai, .inr ⟨b,c,_,?_,X,QH w b cur _ _ _ e3,by simpa using e4,e5,?_,?_,?_⟩⟩;simpa using Z;grind;grind [List.mem_or_eq_of_mem_set,mO];rw[N];have H:=(e8.splice U (i*sz+off)).keep Q (p:=λ_=>False) (q:=λ_ _=>False) ?_ (λ_ h=>h.elim) (λ_ _ h=>h.elim);have ar:(a.eval y).cells.toList.length=(T.row t).size:=by simpa using m
 have e9:List.take ((en.l.set i (aC4 z (splice z.cells off (σ.ev y).cells))).length*(T.row en.ty).size) (cur.toList.take (i*sz+off)++(a.eval y).cells.toList++cur.toList.drop (i*sz+off+(a.eval y).cells.toList.length))=
  List.take (i*sz+off) (List.take (en.l.length*(T.row en.ty).size) cur.toList)++(a.eval y).cells.toList++List.drop (i*sz+off+(a.eval y).cells.toList.length) (List.take (en.l.length*(T.row en.ty).size) cur.toList):=by
  rw[RV,<-J];rw[S9,S9,SH,SH,Rz];have q1:min (en.l.length*sz) (i*sz+off)=i*sz+off:=Aa;have q2:min (i*sz+off) (en.l.length*sz)=i*sz+off:=Aa;rw[q1,q2];have q3:(List.take (i*sz+off) cur.toList).length=i*sz+off:=by rw[PG];simp;omega
  rw[OY,q3,Q8 (l:=(a.eval y).cells.toList) Aa]
 simp_all;refine yV ?_ ?_ _;rw[aH];intro u I;obtain⟨j,hj⟩:=P7 I;exact dF (inv.wfA k en E) hj;rw[aH];exact λq S=>aF8 (M q S) (aH.1 (sF y2) q S);exact h.elim;exact h.elim
end
section
variable{T:Tab}{P:Program}{Φ:Fr}{σ:St}{a:Act}{w:World}{G:Gh}{K:VK}{o:Oper}{d:Nat}
def vU(e:bP T P){t:TypeId}(j:t<T.n t)(i:(T.row t).kd= .slice)(h:(T.row t).elem<T.n (T.row t).elem)(c:Addr)(b cap:Nat)(k:IntKind)(n:Int)(f:0<=n)(g:n<b):
 (Instr.indexAt t (.slice (some c) b cap) (.int k n)).run P w= .ok (.pointer (some (c.add (n.toNat*(T.row (T.row t).elem).size)))) w:=by
 simp[Instr.indexAt,asIntOf,dI (jW (e t j) i),f,g,iV e h]
def vZ(c:bP T P){t:TypeId}(h:t<T.n t)(g:(T.row t).kd= .array)(f:(T.row t).elem<T.n (T.row t).elem)(b:Addr)(k:IntKind)(n:Nat)(e:n< (T.row t).alen):
 (Instr.indexAt t (.pointer (some b)) (.int k n)).run P w= .ok (.pointer (some (b.add (n*(T.row (T.row t).elem).size)))) w:=by
 simp[Instr.indexAt,asIntOf,dI (aR9 (c t h) g),e,iV c f,Instr.sureAddr]
def aY7(J:bP T P)(inv:Inv T Φ σ a w G)(t:TypeId)(x y:Operand)(L:o.op= .indexAddr t x y)(M:t<T.n t)(h:gI T (T.row t) σ (σ.ev x) (σ.ev y) K):Out T Φ σ a K ((execOp a.eval o).run P w):=by
 obtain⟨v,h2⟩:=inv.ev x;obtain⟨N,y2⟩:=inv.ev y
 have r:∀(l:List V) (m:IntKind) (n:Int),(T.row t).kd= .slice->a.eval y= .int m n->Rv w G (a.eval x) (.sl l)->bM l->
  need (0<=n/\n<l.length) (idx l n.toNat λx=>bJ x.cells λcs=>cond (Nat.beq (lenR cs) (T.row (T.row t).elem).size&&Nat.blt (T.row t).elem (T.n (T.row t).elem)) (K (.fp cs) []) False)->Out T Φ σ a K ((execOp a.eval o).run P w):=by
  intro l m n b e s ac hh;obtain⟨⟨n0,H⟩,A⟩:=dX hh;obtain⟨z,F,I⟩:=cO3 A;rw[bC]at I;obtain⟨f,h5⟩:=aT I;simp only[Px,iL]at f;have R:z.cells.length=(T.row (T.row t).elem).size:=by simpa [QJ]using f.1
  have D:=blt f.2;rcases s.bK8 with⟨B,C⟩|⟨q,c,sz,cc,B,C,e3,Y,Q,e6,e7⟩
  ·rw[C]at F;simp at F
  ·have W:sz=(T.row (T.row t).elem).size:=by rw[<-Q z (Pn F)];exact R
   have E:0<l.length:=by have:=(Pg.1 F).1;omega
   refine .plain inv (v':= .pointer (some (q.add (n.toNat*(T.row (T.row t).elem).size)))) (by simp[execOp,L,e,B,vU J M b D q l.length c m n n0 H]) h5 ?_ ?_
   ·have hH:=Here.elem Q (w:=w) (G:=G) ⟨cc,e6,e7⟩ F 0
    obtain⟨O,Z,q2⟩:=hH.out;rw[SI,Rq,W]at Z;rw[SI]at q2;exact .fp _ _ O (λ_=>by rw[add_block];exact Y E) Z q2
   ·grind [sF,aH,Pn,V.ok]
 unfold gI at h;split at h;rename_i m n b u;rw[u]at N;have e:=N.bH;split at h;grind [V.ok];rename_i l s;rw[s]at v h2;simp only[V.ok]at h2;exact r l m n b e v.wK h2 h;rename_i k g s;rw[s]at v h2;split at h;rename_i en U;obtain⟨⟨hg,hd,n0,H⟩,A⟩:=dX h;obtain⟨f,I⟩:=aT A;simp only[Px]at f;have D:=blt f.2;subst hg;rcases(inv.arr k en U).reads hd with⟨B,C⟩|⟨q,c,sz,B,C,e3,Y,Q⟩;rw[C]at H;simp at H;omega;have X:a.eval x= .slice (some q) en.l.length c:=v.oQ.trans B;refine .plain inv (v':= .pointer (some (q.add (n.toNat*(T.row (T.row t).elem).size)))) (by simp[execOp,L,e,X,vU J M b D q en.l.length c m n n0 H]) I ?_ Eu;have:=Rv.ae (w:=w) (G:=G) k en.gen (T.row (T.row t).elem).size n.toNat 0 q en.l.length c B;simpa using this;exact h.elim;exact h.elim;rename_i m n b u;rw[u]at N;have e:a.eval y= .int m ((n:Nat):Int):=N.bH;split at h;rename_i i off s;rw[s]at v h2;obtain⟨f,A⟩:=aT h;simp only[Px]at f;refine .plain inv (v':= .pointer (some ((⟨G.β i,off,none⟩:Addr).add (n*(T.row (T.row t).elem).size)))) (by simp[execOp,L,e,v.bI6,vZ J M b (blt f.2) _ m n (blt f.1)]) A ?_ Eu;rw[rY];exact .box _ _;rename_i cs s;rw[s]at v h2;obtain⟨f,A⟩:=aT h;simp only[Px]at f;obtain⟨q,cc,D,aa,S,hr⟩:=v.cW5;rw[bC,lQ]at A;refine .plain inv (v':= .pointer (some (q.add (n*(T.row (T.row t).elem).size)))) (by simp[execOp,L,e,D,vZ J M b (blt f.2) _ m n (blt f.1)]) A ?_ ?_;refine .fp _ _ (λj=>cc (n*(T.row (T.row t).elem).size+j)) (λab=>?_) (λj y u=>?_) (λj y u=>?_);grind [add_block];rw[Qe]at u;rw[add_add'];exact S _ y u;rw[Qe]at u;exact hr _ y u;grind [aH,PU,V.ok];exact h.elim;exact h.elim
def dM3(z:bP T P)(inv:Inv T Φ σ a w G)(x:Operand)(t:TypeId)(C:o.op= .call ⟨.builtin .len,⟨[x]⟩,⟨[t]⟩⟩)(E:t<T.n t)
 (e:(T.row t).kd= .slice)(h:aE9 σ (σ.ev x) K):Out T Φ σ a K ((execOp a.eval o).run P w):=by
 obtain⟨i,F⟩:=inv.ev x
 have v:∀(u:Value) (m:Nat),a.eval x=u->(Builtin.len_ #[t] o.type #[u]).run P w= .ok (goInt m) w->(execOp a.eval o).run P w= .ok (.value (.int .i64 m)) w:=by
  intro u m s D;simp only[execOp,C,resolve,invoke,builtin,Qd,Qz,P9,List.map_toArray,PW,QC,s,D];rfl
 have sl:∀(b:Option Addr) (m c:Nat),(T.row t).kd= .slice->a.eval x= .slice b m c->(execOp a.eval o).run P w= .ok (.value (.int .i64 m)) w:=λb m c e s=>
  v _ m s (by simp[Builtin.len_,dI (jW (z t E) e)])
 unfold aE9 at h;split at h
 ·rename_i j
  rw[j]at i;exact .plain inv (sl none 0 0 e i.bH) h (I_ok _ _ _ _) dL
 ·rename_i l j
  rw[j]at i;rcases i.bK8 with⟨f,p⟩|⟨y,c,sz,cc,f,_⟩
  ·subst p;exact .plain inv (sl none 0 0 e f) h (I_ok _ _ _ _) dL
  ·exact .plain inv (sl _ _ c e f) h (I_ok _ _ _ _) dL
 ·rename_i l j
  rw[j]at i;rcases i.vP with⟨f,p⟩|⟨y,sz,cc,f,_⟩
  ·subst p;exact .plain inv (sl none 0 0 e f) h (I_ok _ _ _ _) dL
  ·exact .plain inv (sl _ _ _ e f) h (I_ok _ _ _ _) dL
 ·rename_i k g j
  rw[j]at i;split at h
  ·rename_i en r
   obtain⟨⟨B,A⟩,q⟩:=dX h;subst B;rcases(inv.arr k en r).reads A with⟨f,p⟩|⟨y,c,sz,f,_⟩
   ·rw[p]at q;exact .plain inv (sl none 0 0 e (i.oQ.trans f)) q (I_ok _ _ _ _) dL
   ·exact .plain inv (sl _ _ c e (i.oQ.trans f)) q (I_ok _ _ _ _) dL
  ·exact h.elim
 ·exact h.elim
def cR9(e:bP T P)(inv:Inv T Φ σ a w G)(x:Operand)(t:TypeId)(f:o.op= .call ⟨.builtin .len,⟨[x]⟩,⟨[t]⟩⟩)(i:t<T.n t)(b:(T.row t).kd= .str)(h:aI4 (σ.ev x) K):Out T Φ σ a K ((execOp a.eval o).run P w):=by
 obtain⟨c,k⟩:=inv.ev x;unfold aI4 at h;split at h;rename_i s j;rw[j]at c;have g:(Builtin.len_ #[t] o.type #[.string s]).run P w= .ok (goInt s.size) w:=by simp[Builtin.len_,dI (aF2 (e t i) b)]
 refine .plain inv (v':= .int .i64 s.size) ?_ h (I_ok _ _ _ _) dL;simp only[execOp,f,resolve,invoke,builtin,Qd,Qz,P9,List.map_toArray,PW,QC,c.bH,g];rfl;exact h.elim
def cE0(g:bP T P){t:TypeId}(k:t<T.n t){cs:Array Value}{xs:List V}(u:cs.size=xs.length)(A:∀c∈cs,c.oneCell'=true)(z:∀(i:Nat) c x,cs[i]? =some c->xs[i]? =some x->Rv w G c x)(f:V.okL σ.hasB σ.hasA xs){off:Nat}
 (h:wB (T.row t) (jX xs off) K):∃v' v,(part t cs off).run P w= .ok v' w/\K v []/\Rv w G v' v/\v.ok σ.hasB σ.hasA:=by
 rw[lQ]at h;unfold wB at h;split at h
 ·rename_i b
  rw[bC,aD3,iL]at h;obtain⟨s,q⟩:=aT h;have e:((xs.drop off).take (T.row t).size).length=(T.row t).size:=by simpa [QJ]using s
  have y:off+(T.row t).size<=xs.length\/(T.row t).size=0:=by rw[PG,Qm]at e;omega
  refine⟨.agg (cs.extract off (off+(T.row t).size)),_,by simp[part,yG g k,b,iV g k],q, .agg _ _ ?_ ?_ ?_,?_⟩
  ·rw[e,Array.size_extract];omega
  ·intro c j
   rw[Array.mem_iff_getElem?]at j;grind
  ·grind
  ·simp only[V.ok]
   rw[aH]at f⊢;grind
 ·rename_i b
  split at h
  ·rename_i x r m
   rw[force_eq]at h
   have l:xs[off]? =some x:=by
    have:(xs.drop off)[0]? =some x:=by rw[m];rfl
    rwa [Qe,Rq]at this
   have hlt:off<cs.size:=by rw[u];exact(Pg.1 l).1
   refine⟨cs[off],x,by simp[part,yG g k,b,hlt],h,z off _ x Ht l,aH.1 f x (Pn l)⟩
  ·exact h.elim
def cL3(m:bP T P)(inv:Inv T Φ σ a w G)(s:TypeId)(x:Operand)(f:Nat)(C:o.op= .field s x f)(E:s<T.n s)(h:aM2 T (T.row s) (σ.ev x) f K):Out T Φ σ a K ((execOp a.eval o).run P w):=by
 obtain⟨l,e⟩:=inv.ev x;unfold aM2 at h;split at h;rename_i off z J ty cs i b F;rw[uN]at b;rw[F]at l e;obtain⟨A,y⟩:=aT h;obtain⟨vs,p,q,r,t⟩:=l.zV;obtain⟨k,H,I,L⟩:=yJ (m s E) i;rw[I,PK]at b;cases c:k.toList[f]? with
 |none=>rw[c]at b;cases b
 |some u=>
  rw[c]at b;simp only[Qg,Ql,QY]at b;have g:k[f]? =some u:=by simpa using c
  simp only[V.ok]at e;obtain⟨v',v,D,B,hv,j⟩:=cE0 m (blt A) q r t e (P:=P) y;refine .plain inv (v':=v') ?_ B hv j;simp[execOp,C,p,Instr.field,dI H,g,asAgg,b.1,b.2.2.2,D]
 exact h.elim
def cK7(e:bP T P)(inv:Inv T Φ σ a w G)(t:TypeId)(x y:Operand)(u:o.op= .index t x y)(z:t<T.n t)(h:aM6 T (T.row t) (σ.ev x) (σ.ev y) K):Out T Φ σ a K ((execOp a.eval o).run P w):=by
 obtain⟨c,i⟩:=inv.ev x;obtain⟨g,J⟩:=inv.ev y;unfold aM6 at h;split at h;rename_i s A n b m q;rw[m]at c;rw[q]at g;obtain⟨⟨n0,I⟩,j⟩:=dX h;have k:n.toNat<s.size:=Aa;refine .plain inv ?_ j (I_ok _ _ _ _) dL;simp[execOp,u,c.bH,g.bH,Instr.index,asIntOf,dI (aF2 (e t z) b),n0,k,byteAt];rename_i cs A n b m q;rw[m]at c i;rw[q]at g;obtain⟨f,j⟩:=aT h;simp only[Px]at f;obtain⟨vs,B,C,D,E⟩:=c.zV;simp only[V.ok]at i;obtain⟨v',v,H,F,hv,l⟩:=cE0 e (blt f.2) C D E i (P:=P) j;have r:a.eval y= .int A ((n:Nat):Int):=g.bH;refine .plain inv (v':=v') ?_ F hv l;simp[execOp,u,B,r,Instr.index,asIntOf,dI (aR9 (e t z) b),blt f.1,iV e (blt f.2),H];exact h.elim
def bO9(off:Nat):∀(l:List Value) (k:Nat) (b:Array Value),off+k+l.length<=b.size->
 ((l.zipIdx k).foldl (λcs p=>cs.setIfInBounds (off+p.2) p.1) b).toList=b.toList.take (off+k)++l++b.toList.drop (off+k+l.length)
 | [],k,b,h=>Af
 |v::r,k,b,h=>by
  simp only[List.zipIdx_cons,QO];rw[bO9 off r (k+1) _ (by simp at h⊢;omega)];simp only[Array.toList_setIfInBounds,PE]at h⊢;apply List.ext_getElem?;intro i;simp only[Sz,RU,Qe,PG,OY,List.getElem?_set,RV,PX,PE];grind
def cV2(off:Nat)(vs b:Array Value)(h:off+vs.size<=b.size):(vs.zipIdx.foldl (λcs (c,j)=>cs.setIfInBounds (off+j) c) b).toList=b.toList.take off++vs.toList++b.toList.drop (off+vs.toList.length):=by
 have:=bO9 off vs.toList 0 b FY;simp only[Rq]at this;grind [Array.toList_zipIdx]
def bL4(inv:Inv T Φ σ a w G){f place':Nat->Option (Nat×Nat)}(t:List (Nat×Operand)):∀(b:Array Value) (xs:List V) {K:List V->Prop},(∀i,i∈t.map (·.1)->∀q,f i=some q->place' i=some q)->RvL w G b.toList xs->V.okL σ.hasB σ.hasA xs->oI f σ t xs K->
 ∃e g,Instr.fill place' b (t.map λp=>(p.1,a.eval p.2))=some e/\RvL w G e.toList g/\V.okL σ.hasB σ.hasA g/\g.length=xs.length/\K g:=by
 induction t with
 |nil=>
  intro b xs K _ s l h;have m:bJ xs K:=h;rw[bC]at m;exact⟨b,xs,rfl,s,l,rfl,m⟩
 |cons p r L=>
  intro b xs K n s l h
  have m:(match f p.1 with
   |some (o,z)=>cond (Nat.beq (lenR (σ.ev p.2).cells) z&&Nat.ble (o+z) (lenR xs)&&allR V.one (σ.ev p.2).cells) (oI f σ r (splice xs o (σ.ev p.2).cells) K) False
   |none=>False):=h
  split at m;rename_i off z J;obtain⟨y,H⟩:=aT m;simp only[Px,iL]at y;obtain⟨⟨c1,B⟩,D⟩:=y;have A:(σ.ev p.2).cells.length=z:=Fh;have C:off+z<=xs.length:=by simpa using B
  obtain⟨E,F⟩:=inv.ev p.2;have hv:=E.cells (dY.1 D);have x:(a.eval p.2).cells.size=z:=by have:=hv.len;simp at this;omega
  have I:b.size=xs.length:=by have:=s.len;simpa using this
  have k:=cV2 off (a.eval p.2).cells b Aa
  have v:RvL w G ((a.eval p.2).cells.zipIdx.foldl (λcs (c,j)=>cs.setIfInBounds (off+j) c) b).toList (splice xs off (σ.ev p.2).cells):=by
   rw[k];exact s.splice hv off
  obtain⟨e,g,M,N,O,Q,R⟩:=L _ _ (λi hi=>n i (by simp[hi])) v (yV l (sF F) off) H;refine⟨e,g,?_,N,O,?_,R⟩;have u:=n p.1 Af _ J;simp only[PW,Instr.fill,u];rw[Ph (by simp[x];omega)];exact M;rw[Q,mO];simp;omega;exact m.elim
def cM3(B:bP T P)(inv:Inv T Φ σ a w G)(t:TypeId)(r:Array (Nat×Operand))(N:o.op= .build t r)(E:t<T.n t)(h:vO T (T.row t) σ r.toList K):Out T Φ σ a K ((execOp a.eval o).run P w):=by
 obtain⟨z,O,A,F,U⟩:=aC3 (w:=w) B E;have j:(r.map λ(p:Nat×Operand)=>(p.1,a.eval p.2)).toList=r.toList.map λp=>(p.1,a.eval p.2):=Af;have M:RvL w G z.cells.toList (mapR V.lit (T.row t).zero):=by rw[dU,<-A];exact aM4 (by rw[A];exact F)
 have u:V.okL σ.hasB σ.hasA (mapR V.lit (T.row t).zero):=by rw[dU];exact bC6
 have s:∀(b:Array Value) (g:List V),RvL w G b.toList g->Rv w G (.agg b) (.agg g):=λb g D=>
  .agg _ _ (by have:=D.len;simpa using this) (by have:=D.one;simpa using this) (λi c x hc S=>D.rel i c x CQ S)
 unfold vO at h;split at h;rename_i k;obtain⟨m,X,Y,Z⟩:=yJ (B t E) k
 have e:∀(l:List Field),(∀f∈l,∃i,P.info? f.type=some i/\i.size=vI P f.type)->(l.mapM (λf=>(do pure (f.offset,<-sizeOf f.type):Sem (Nat×Nat)))).run P w= .ok (l.map λf=>(f.offset,vI P f.type)) w:=by
  intro l;induction l<;>simp_all [List.mapM_cons,bG2,P9,PW]
 have v:(m.mapM (λf=>(do pure (f.offset,<-sizeOf f.type):Sem (Nat×Nat)))).run P w= .ok (m.map λf=>(f.offset,vI P f.type)) w:=by
  have:=e m.toList (by simpa using Z);rw[Array.mapM_eq_mapM_toList];simp only[Sem.run_map,this,P9];rw[<-Array.toList_map,Array.toArray_toList]
 obtain⟨b,g,H,I,J,W,L⟩:=bL4 inv (place':=λi=>(m.map λf=>(f.offset,vI P f.type))[i]?) r.toList z.cells _ (by
  intro i _ q y;rw[uN,Y,PK]at y;simp only[Array.getElem?_map];cases C:m.toList[i]? with
  |none=>rw[C]at y;cases y
  |some f=>
   rw[C]at y;have:m[i]? =some f:=by simpa using C
   rw[this];simpa using y) M u h
 refine .plain inv (v':= .agg b) ?_ L (s _ _ I) (by simpa only[V.ok]using J);simp only[execOp,N,Instr.build,Qd,O,P9,dI X,v,j];rw[H];simp;rename_i k;obtain⟨hc,Q⟩:=aT h;have R:=blt hc;obtain⟨b,g,H,I,J,W,L⟩:=bL4 inv (place':=λi=>some (i*(T.row (T.row t).elem).size,(T.row (T.row t).elem).size)) r.toList z.cells _ (λ_ _ _ h=>h) M u Q;refine .plain inv (v':= .agg b) ?_ L (s _ _ I) (by simpa only[V.ok]using J);simp only[execOp,N,Instr.build,Qd,O,P9,dI (aR9 (B t E) k),iV B R,j];rw[H];simp;exact h.elim
def cY0(f:bP T P)(inv:Inv T Φ σ a w G)(s t:TypeId)(x:Operand)(p:o.op= .convert s t x)(h:bE4 T s t (σ.ev x) K):Out T Φ σ a K ((execOp a.eval o).run P w):=by
 obtain⟨e,q⟩:=inv.ev x;unfold bE4 at h;split at h;rename_i r k u n c g i j;simp only[Px]at c;rw[j]at e;have l:=bY7 (f s (blt c.1)) g;have m:=bY7 (f t (blt c.2)) i;exact .plain inv (by simp[execOp,p,e.bH,convert,dI l,dI m,Conv.intToInt]) (wI h) (I_ok _ _ _ _) dL;rename_i b c g i j;simp only[Px]at c;rw[j]at e;have l:=aF2 (f s (blt c.1)) g;have m:=aF2 (f t (blt c.2)) i;exact .plain inv (by simp[execOp,p,e.bH,convert,dI l,dI m]) h (.lit _ rfl) dL;exact h.elim
end
section
variable{T:Tab}{P:Program}{Φ:Fr}{σ:St}{a:Act}{w:World}{G:Gh}{K:VK}{o:Oper}{d:Nat}
theorem cH6{b:Type}(n:Nat)(l:List b):(repR n l).length=n*l.length:=by
 induction n with
 |zero=>show([] :List b).length=_;simp
 |succ n c=>
  have:repR (n+1) l=appR l (repR n l):=rfl;grind [bT,OY,QL]
theorem eI7{c:Type}(n:Nat)(l:List c):∀j,j<n*l.length->(repR n l)[j]? =l[j% l.length]? :=by
 induction n with
 |zero=>intro j b;simp at b
 |succ n e=>
  intro j b;have:repR (n+1) l=appR l (repR n l):=rfl;rw[this,bT,Sz];split<;>grind [Nat.mod_eq_of_lt,QL,Nat.mod_eq_sub_mod]
theorem cH9{b β:Type}(f:b->β)(n:Nat)(l:List b):repR n (l.map f)=(repR n l).map f:=by
 induction n with
 |zero=>rfl
 |succ n g=>
  have c:repR (n+1) l=appR l (repR n l):=rfl;have e:repR (n+1) (l.map f)=appR (l.map f) (repR n (l.map f)):=rfl;grind [bT]
theorem bA5{b:Type}(n:Nat)(l:List b){x:b}(h:x∈repR n l):x∈l:=by
 induction n with
 |zero=>cases h
 |succ n c=>
  have:repR (n+1) l=appR l (repR n l):=rfl;grind [bT]
theorem cG7(zero:Array Value)(n:Nat)(c:0<zero.size):((Array.range (n*zero.size)).map (zero[·% zero.size]!)).toList=repR n zero.toList:=by
 apply List.ext_getElem?;intro j;by_cases b:j<n*zero.size;grind [QE,eI7];rw[Qj Be,Qj (by rw[cH6];simp;omega)]
def Inv.dC7(inv:Inv T Φ σ a w G){k gen:Nat}(t:∀g,σ.hasA k g->g<gen){m:AK}(D:m= .own\/m= .ap){cur:Array Value}{e:TypeId}(J:e<T.n e){l:List V}{cap n0:Nat}(i:l.length<=cap)(E:cap<=maxLen)(r:cur.size=cap*(T.row e).size)
 (I:∀x∈l,x.cells.length=(T.row e).size)(B:bM l)(F:RvL w G (cur.toList.take (l.length*(T.row e).size)) (l.flatMap V.cells)):
 ∃G',Inv T Φ (σ.apps [.a k ⟨gen,m,e,l⟩]) a ({w with drawn:=n0}.alloc (.cells cur e)) G'/\G'.av k gen= .slice (some ⟨w.heap.size,0,none⟩) l.length cap:=by
 let av':Nat->Nat->Value:=λv g=>if v=k/\g=gen then .slice (some ⟨w.heap.size,0,none⟩) l.length cap else G.av v g
 let G':Gh:={G with av:=av',O:=upd G.O w.heap.size (.ar k)};let w':World:={w with drawn:=n0}.alloc (.cells cur e);have c:∀b,b<w.heap.size->w'.heap[b]? =w.heap[b]? :=λb hb=>Ry {w with drawn:=n0} _ hb
 have s:Keep w w' G G':=⟨λb hb=>by
  have L:=inv.tag b Aw;show upd G.O _ _ b=_;rw[upd_ne _ _ Aa];exact hb,λb hb=>c b (inv.tag b Aw)⟩
 have f:av' k gen= .slice (some ⟨w.heap.size,0,none⟩) l.length cap:=Hr
 have A:gJ T w' G' k (G'.av k gen) e l:=by
  refine .inr ⟨w.heap.size,cap,cur,f,upd_same _ _ _,heap_alloc_new {w with drawn:=n0} _,i,E,r,I,F.keep s (p:=λ_=>False) (q:=λ_ _=>False) ?_ (λ_ h=>h.elim) (λ_ _ h=>h.elim)⟩;rw[aH];intro u H;obtain⟨j,C⟩:=P7 H;exact dF B C
 refine⟨G',?_,f⟩;refine inv.zU (w':=w') (k:=k) (en:=⟨gen,m,e,l⟩) (av':=av') (O':=upd G.O w.heap.size (.ar k)) (λg z=>Ri (t g z)) (λv g z=>?_) B ?_ ?_ ?_ (λb hb _=>c b hb) (by simp[w']) rfl rfl rfl
 ·grind
 ·grind [gW]
 ·intro b hb _;exact upd_ne _ _ (by have:=inv.tag b hb;omega)
 ·intro b
  by_cases y:b=w.heap.size
  ·subst y;exact .inr (.inr (.inl ⟨upd_same _ _ _,aN0 inv,by simp[w']⟩))
  ·exact .inl (upd_ne _ _ y)
def zK{k:Nat}(b:σ.ar k=none)(gen:Nat):∀g,σ.hasA k g->g<gen:=λg ⟨en,h,_⟩=>by rw[b]at h;cases h
def Inv.eK2(inv:Inv T Φ σ a w G){k:Nat}(i:σ.ar k=none){g:AK}(f:g= .own\/g= .ap){cur:Array Value}{e:TypeId}(h:e<T.n e){l:List V}{cap n0:Nat}(b:l.length<=cap)(j:cap<=maxLen)(c:cur.size=cap*(T.row e).size)
 (q:∀x∈l,x.cells.length=(T.row e).size)(m:bM l)(p:RvL w G (cur.toList.take (l.length*(T.row e).size)) (l.flatMap V.cells)):
 ∃G',Inv T Φ (σ.apps [.a k ⟨0,g,e,l⟩]) a ({w with drawn:=n0}.alloc (.cells cur e)) G'/\G'.av k 0= .slice (some ⟨w.heap.size,0,none⟩) l.length cap:=
 inv.dC7 (zK i 0) f h b j c q m p
def chunk_ok(agg:Bool)(z:Nat):∀(n:Nat) (cs:List V),cs.length=n*z->(∀x∈cs,x.atom=true)->(agg=false->z=1)->
 (chunk agg z n cs).flatMap V.cells=cs/\(chunk agg z n cs).length=n/\(∀x∈chunk agg z n cs,x.cells.length=z)/\(∀(p:Nat->Prop) (q:Nat->Nat->Prop),V.okL p q cs->bM (chunk agg z n cs)):=by
 intro n;induction n with
 |zero=>
  intro cs h _ _;have:cs=[] :=PZ FY;subst this;exact⟨rfl,rfl,λx f=>(by cases f),λ_ _ _=>(by show V.okL _ _ [];simp only[V.okL])⟩
 |succ n v=>
  intro cs h c g;rw[QL]at h;have t:(cs.drop z).length=n*z:=CB;obtain⟨l,m,u,s⟩:=v (cs.drop z) t (λx f=>c x (PU f)) g;have i:chunk agg z (n+1) cs=cD6 agg z cs::chunk agg z n (jX cs z):=rfl;rw[i,lQ];cases agg with
  |true=>
   have e:cD6 true z cs= .agg (cs.take z):=by rw[<-aD3];rfl
   rw[e];refine⟨?_,by simp[m],?_,?_⟩;rw[Qk,l];exact Qq z cs;grind [V.cells];intro p q b;refine aH.2 λx f=>?_;rcases P5.1 f with rfl|f;grind [aH,aF8,PO,V.ok];exact aH.1 (s p q (aH.2 λy hy=>aH.1 b y (PU hy))) x f
  |false=>
   have k:=g rfl;subst k;match cs,h with
   |x::r,h=>
    simp only[List.drop_succ_cons,SI]at l m u s⊢;have e:cD6 false 1 (x::r)=x:=rfl;rw[e];have j:=bE1 (c x Af);refine⟨?_,by simp[m],?_,?_⟩;rw[Qk,l,j];rfl;simp_all;intro p q b;refine aH.2 λy hy=>?_;rcases P5.1 hy with rfl|hy;exact aF8 (c y Af) (aH.1 b y Af);exact aH.1 (s p q (aH.2 λy hy=>aH.1 b y GL)) y hy
def dO5(b:bP T P){t:TypeId}(c:t<T.n t)(h:(T.row t).agg=false):(T.row t).size=1:=by
 obtain⟨i,e,f,g,z,j,k,l,m,p,q⟩:=(b t c).info;simp_all
def aQ0{k:Nat}{u:Value}(b:G.av k 0=u)(c:u.oneCell'=true):Rv w G u (.arr k 0):=by
 subst b;exact .arr k 0 c
def bG7(l:bP T P){t:TypeId}(s:t<T.n t)(j:(T.row t).kd= .slice)(r:(T.row t).elem<T.n (T.row t).elem){n:Nat}(g:¬(n*(T.row (T.row t).elem).size>2^24)){z:Value}(v:(zeroValue (T.row t).elem).run P w= .ok z w)(c:Array (Nat×Value)){b:Array Value}
 (k:Instr.fill (λi=>some (i*(T.row (T.row t).elem).size,(T.row (T.row t).elem).size)) ((Array.range (n*(T.row (T.row t).elem).size)).map (z.cells[·% z.cells.size]!)) c.toList=some b):
 (Instr.buildSlice t n c).run P w= .ok (.slice (some ⟨w.heap.size,0,none⟩) n n) (w.alloc (.cells b (T.row t).elem)):=by
 have u:=jW (l t s) j;unfold Instr.buildSlice;simp only[Qd,dI u,P9,iV l r];rw[Ph g];by_cases e:n*(T.row (T.row t).elem).size=0
 ·have m:∀f:Nat->Value,(Array.range (n*(T.row (T.row t).elem).size)).map f= #[] :=by rw[e];intro f;exact Array.size_eq_zero_iff.1 Af
  rw[m]at k;have q:∀f:Nat->Value,(Array.range 0).map f= #[] :=λf=>Array.size_eq_zero_iff.1 Af;simp only[e,QM,Qd,Qz,P9,q,k];simp[newRow,newObj,Sem.run]
 ·simp only[e,Rx,Qd,v,Qz,P9]
  rw[k];simp[newRow,newObj,Sem.run]
def aQ7(u:bP T P)(inv:Inv T Φ σ a w G)(t:TypeId)(n:Nat)(s:Array (Nat×Operand))(W:o.op= .buildSlice t n s)(E:t<T.n t)(h:iZ T (T.row t) σ d n s.toList K):Out T Φ σ a K ((execOp a.eval o).run P w):=by
 have k:(s.map λ(p:Nat×Operand)=>(p.1,a.eval p.2)).toList=s.toList.map λp=>(p.1,a.eval p.2):=Af;unfold iZ at h;split at h;rename_i g R;have hu:=jW (u t E) g;obtain⟨C,O⟩:=aT h;simp only[Px]at C;obtain⟨⟨L,M⟩,N⟩:=C;have c:=blt L;have q:=blt N;have U:n*(T.row (T.row t).elem).size<=1000:=by simpa using M
 obtain⟨z,Y,aa,Z,B⟩:=aC3 (w:=w) u c
 have ab:z.cells.size=(T.row (T.row t).elem).size:=by
  grind
 have m:V.okL σ.hasB σ.hasA (repR n (mapR V.lit (T.row (T.row t).elem).zero)):=by
  refine aH.2 λx X=>?_;have:=bA5 _ _ X;grind [dU,dL]
 have A:RvL w G ((Array.range (n*(T.row (T.row t).elem).size)).map (z.cells[·% z.cells.size]!)).toList (repR n (mapR V.lit (T.row (T.row t).elem).zero)):=by
  grind [cG7,dU,cH9,aM4,bA5]
 obtain⟨b,e,H,I,q3,q4,q5⟩:=bL4 inv (place':=λi=>some (i*(T.row (T.row t).elem).size,(T.row (T.row t).elem).size)) s.toList _ _ (λ_ _ _ h=>h) A m O;obtain⟨J,Q⟩:=aT q5;have j:e.length=n*(T.row (T.row t).elem).size:=by rw[q4,cH6,dU,P6,B]
 obtain⟨k1,F,k3,k4⟩:=chunk_ok (T.row (T.row t).elem).agg (T.row (T.row t).elem).size n e j (dY.1 J) (λS=>dO5 u c S);have f:b.size=n*(T.row (T.row t).elem).size:=by have:=I.len;simp at this;omega
 have D:n<=1000:=PD (Nat.le_mul_of_pos_right n q) U
 obtain⟨G',r,v⟩:=inv.eK2 R (.inl rfl) c (cur:=b) (l:=chunk (T.row (T.row t).elem).agg (T.row (T.row t).elem).size n e) (cap:=n) (n0:=w.drawn) Aa Dl f k3 (k4 _ _ q3)
  (by rw[k1,F,<-f,Q8 (by simp)];exact I)
 refine⟨.slice (some ⟨w.heap.size,0,none⟩) n n,w.alloc (.cells b (T.row t).elem),_,_,G', .inl ?_,Q,r,aQ0 (by rw[v,F]) rfl,?_⟩;have y:¬(n*(T.row (T.row t).elem).size>2^24):=by omega
 rw[<-k]at H;simp only[execOp,W,Qd,bG7 u E g c y Y _ H,P9,Qz];exact Jp;exact h.elim
theorem bL2(n:Nat)(x:V):(List.replicate n x).flatMap V.cells=repR n x.cells:=by
 induction n with
 |zero=>rfl
 |succ n b=>
  have:repR (n+1) x.cells=appR x.cells (repR n x.cells):=rfl;rw[this,bT,List.replicate_succ,Qk,b]
def cX4(c:bP T P){e:TypeId}(f:e<T.n e):(rU (T.row e) (mapR V.lit (T.row e).zero)).cells=(T.row e).zero.map V.lit/\(rU (T.row e) (mapR V.lit (T.row e).zero)).pure:=by
 obtain⟨i,h,j,k,z,l,m,p,q,r,b⟩:=(c e f).info;rw[dU];unfold rU;split;exact⟨rfl,by simp only[V.pure,V.ok];exact bC6⟩;rename_i g;rw[b g];exact⟨rfl,by simp only[PW,QC,V.pure,V.ok]⟩
def bM9(g:bP T P){t:TypeId}(v:t<T.n t)(j:(T.row t).kd= .slice)(l:(T.row t).elem<T.n (T.row t).elem){n:Nat}(C:n*(T.row (T.row t).elem).bytes<=140737488355328)(u:n<=140737488355328){z:Value}(y:(zeroValue (T.row t).elem).run P w= .ok z w):
 ∃b:Array Value,b=((Array.range (n*(T.row (T.row t).elem).size)).map (z.cells[·% z.cells.size]!))/\
 (Instr.makeSlice t (.int .i64 n) (.int .i64 n)).run P w= .ok (.slice (some ⟨w.heap.size,0,none⟩) n n) (w.alloc (.cells b (T.row t).elem)):=by
 have x:=jW (g t v) j;obtain⟨i,s,A,k,_⟩:=(g _ l).info;refine⟨_,rfl,?_⟩;have c:IntKind.i64.wrap (n:Int)=n:=IntWalk.i64_in _ Aa;have B:((i.bytes:Int)*(n:Int))<=140737488355328:=by rw[k,Int.mul_comm];omega
 unfold Instr.makeSlice;simp only[Qd,dI x,P9,asInt,asIntOf,Qz,cO9 s,c]
 have m:(decide ((n:Int)<0)||decide ((i.bytes:Int)*(n:Int)>2^48)||decide ((n:Int)<0)||decide ((n:Int)>(n:Int)))=false:=by
  grind
 rw[Ph (by rw[m];simp)];have q:¬(n*i.bytes>roomBytes):=by rw[k];simp only[roomBytes];omega
 simp only[Qc,askRoom,Ph q,Qz,P9,iV g l,Qd];by_cases e:n*(T.row (T.row t).elem).size=0
 ·have r:∀f:Nat->Value,(Array.range 0).map f= #[] :=λf=>Array.size_eq_zero_iff.1 Af
  simp only[e,QM,r];simp[newRow,newObj,Sem.run]
 ·simp only[e,Rx,Qd,y,Qz,P9]
  simp[newRow,newObj,Sem.run]
def aY6(j:bP T P)(inv:Inv T Φ σ a w G)(t:TypeId)(x y:Operand)(J:o.op= .makeSlice t x y)(M:t<T.n t)(h:jY T (T.row t) σ d (σ.ev x) (σ.ev y) K):Out T Φ σ a K ((execOp a.eval o).run P w):=by
 obtain⟨E,x2⟩:=inv.ev x;obtain⟨F,y2⟩:=inv.ev y;unfold jY at h;split at h;rename_i n c s I N O;rw[N]at E;rw[O]at F;obtain⟨⟨n0,W,Y,Z⟩,H⟩:=dX h;obtain⟨q,C⟩:=aT H;simp only[Px]at q;have i:=blt q.1;have L:=blt q.2;subst W;obtain⟨m,rfl⟩:=Int.eq_ofNat_of_zero_le n0;rw[Qc]at C;obtain⟨z,Q,S,R,B⟩:=aC3 (w:=w) j i
 have U:z.cells.size=(T.row (T.row t).elem).size:=by
  grind
 obtain⟨b,r,f⟩:=bM9 (w:=w) j M s i (n:=m) Aa Aa Q;obtain⟨D,X⟩:=cX4 j i;have e:b.size=m*(T.row (T.row t).elem).size:=by rw[r];simp
 have v:RvL w G b.toList (repR m ((T.row (T.row t).elem).zero.map V.lit)):=by
  grind [cG7,cH9,aM4,bA5]
 obtain⟨G',g,k⟩:=inv.eK2 I (.inl rfl) i (cur:=b) (l:=List.replicate m (rU (T.row (T.row t).elem) (mapR V.lit (T.row (T.row t).elem).zero))) (cap:=m) (n0:=w.drawn) Af Dl e
  (by intro u A;obtain⟨_,rfl⟩:=List.mem_replicate.1 A;rw[D];simpa using B)
  (aH.2 λu A=>by obtain⟨_,rfl⟩:=List.mem_replicate.1 A;exact X)
  (by rw[bL2,D,List.length_replicate,<-e,Q8 (by simp)];exact v)
 refine⟨.slice (some ⟨w.heap.size,0,none⟩) m m,w.alloc (.cells b (T.row t).elem),_,_,G', .inl ?_,C,g,aQ0 (by rw[k,List.length_replicate]) rfl,?_⟩;simp only[execOp,J,E.bH,F.bH,Qd,f,P9,Qz];exact Jp;exact h.elim
end
end Go.Ab
