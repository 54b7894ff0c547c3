/-
  From a law's entry (what the row's reading finds) to the contract of its function, and back.
-/
import Derived.Test.YtdjgbagnajikeaaGreatDoorA6
import Derived.Deep.Slices
import Derived.ChangeSame
import Derived.Carry
import Derived.OpenShut
import Derived.ProofKit
set_option linter.unusedVariables false
set_option linter.unusedSimpArgs false
noncomputable section
namespace Go.Ab
open Go.ChangeShapes Go.WideShapes Go.ChangeAt Go.RowKit
def Dec(P:Program)(w:World)(G:Gh)(t:TypeId)(Q:List V->Prop):Prop:=
 ∀(H:Type) (enc:TypeId×Value->H) (fuel:Nat) (cs:List Value) (x:DataW H×List MemPlace),DataW.trod enc P w 0 (λ_=>true) true fuel t cs=some x->
  ∃xs,Q xs/\RvL w G cs xs/\bM xs/\xs.length=P.cellsOf t/\∀y∈xs,y.atom=true
def QInt(k:IntKind)(lo hi:Int):List V->Prop:=λxs=>∃n:Int,xs=[.lit (.int k n)]/\lo<=n/\n<=hi
def zI(agg:Bool)(Q:List V->Prop):List V->Prop:=λxs=>∃l:List V,xs=[.sl l]/\l.length<=maxLen/\∀x∈l,Q x.cells/\(agg=true->∃ys,x= .agg ys)/\(agg=false->∀ys,x≠ .agg ys)
section
variable{P:Program}{w:World}{G:Gh}{t:TypeId}
theorem RvL.lit1{u:Value}(h:u.oneCell'=true):RvL w G [u] [.lit u] :=
 ⟨rfl,λv hv=>by cases QW.1 hv;exact h,λi v x hv a=>by
  cases i with
  |zero=>simp at hv a;subst hv a;exact .lit _ h
  |succ i=>simp at hv⟩
theorem dI6{k:IntKind}(d:P.underlying t=some (.int k))(b:P.cellsOf t=1){lo hi:Int}(c:∀n,(Lit.int k n).wf=true->lo<=n/\n<=hi):Dec P w G t (QInt k lo hi):=by
 intro H enc a cs x h;obtain⟨n,rfl,_,e⟩:=DataW.trod_int d h;refine⟨_,⟨n,rfl,c n e⟩,RvL.lit1 rfl,?_,by rw[b];rfl,λy hy=>D6⟩
 simp only[bM,V.okL,V.ok,and_self]
def QStr:List V->Prop:=λxs=>∃s:ByteArray,xs=[.lit (.string s)]/\s.size<=maxLen
theorem eO8(d:P.underlying t=some .string)(b:P.cellsOf t=1):Dec P w G t QStr:=by
 intro H enc a cs x h;obtain⟨n,rfl,_,c⟩:=DataW.trod_string d h;refine⟨_,⟨n,rfl,c⟩,RvL.lit1 rfl,?_,by rw[b];rfl,λy hy=>D6⟩
 simp only[bM,V.okL,V.ok,and_self]
def QAll:List (List V->Prop)->List V->Prop
 | [],xs=>xs=[]
 |Q::r,xs=>∃a b,xs=a++b/\Q a/\QAll r b
def Parts(P:Program)(w:World)(G:Gh):Nat->List (Nat×TypeId)->List (List V->Prop)->Nat->Prop
 |off,[],[],e=>off=e
 |off,f::r,Q::s,e=>f.1=off/\Dec P w G f.2 Q/\Parts P w G (off+P.cellsOf f.2) r s e
 |_,_,_,_=>False
theorem mM{off e:Nat}(h:off=e):Parts P w G off [] [] e:=h
theorem aY{off e:Nat}{f:Nat×TypeId}{r:List (Nat×TypeId)}{Q:List V->Prop}{s:List (List V->Prop)}(a:f.1=off)(b:Dec P w G f.2 Q)(c:Parts P w G (off+P.cellsOf f.2) r s e):Parts P w G off (f::r) (Q::s) e:=⟨a,b,c⟩
theorem cS3{p:Nat->Prop}{q:Nat->Nat->Prop}{a b:List V}(c:V.okL p q a)(d:V.okL p q b):V.okL p q (a++b):=by
 rw[aH]at*;intro x e;rcases QX.1 e with h|h
 ·exact c x h
 ·exact d x h
theorem bV7{H:Type}{enc:TypeId×Value->H}{n:Nat}{cs:List Value}:∀(c:List (Nat×TypeId)) (a:List (List V->Prop)) (off e:Nat),Parts P w G off c a e->
 (∀f∈c,∃y,DataW.trod enc P w 0 (λ_=>true) true n f.2 ((cs.drop f.1).take (P.cellsOf f.2))=some y)->cs.length=e->
 ∃xs,QAll a xs/\RvL w G (cs.drop off) xs/\bM xs/\off+xs.length=e/\∀y∈xs,y.atom=true:=by
 intro c
 induction c with
 |nil=>
  intro a off e b _ j
  cases a with
  |nil=>
   have:off=e:=b;refine⟨[],rfl,?_,Gz,by simpa using this,Af⟩
   rw[UB Aa];exact⟨rfl,Af,Af⟩
  |cons=>exact b.elim
 |cons f r u=>
  intro a off e b i j
  cases a with
  |nil=>exact b.elim
  |cons Q s=>
   obtain⟨l,m,o⟩:=b;obtain⟨y,d⟩:=i f Af;obtain⟨xs,B,k,C,F,D⟩:=m H enc n _ y d;obtain⟨ys,v,x,z,E,A⟩:=u s _ e o (λg q=>i g (by simp[q])) j
   refine⟨xs++ys,⟨xs,ys,rfl,B,v⟩,?_,cS3 C z,AV,?_⟩
   ·have:cs.drop off=(cs.drop off).take (P.cellsOf f.2)++cs.drop (off+P.cellsOf f.2):=by
     rw[<-List.drop_drop,SI]
    rw[this];rw[l]at k;exact k.append x
   ·intro y d
    rcases QX.1 d with h|h
    ·exact D y h
    ·exact A y h
theorem lZ{a:Array Field}{c:List (List V->Prop)}(q:P.underlying t=some (.struct a))(o:Parts P w G 0 (a.toList.map λf=>(f.offset,f.type)) c (P.cellsOf t)):Dec P w G t (QAll c):=by
 intro H enc d cs x h;obtain⟨xs,n,_,_,m,e,j⟩:=DataW.trod_struct q h
 obtain⟨ys,k1,k2,k3,k4,k5⟩:=bV7 (enc:=enc) (n:=n) _ _ 0 _ o (λf b=>by
  obtain⟨g,k,rfl⟩:=Ru.1 b;obtain⟨i,hi⟩:=Rx k
  have l:i<a.size:=by
   have:=(QR.1 hi).1;simpa using this
  have:=j i g H9;rw[QS Aa]at this;exact⟨_,this⟩) m
 exact Q8
theorem dN6{m:Nat}{e:TypeId}{b:List (List V->Prop)}(o:P.underlying t=some (.array m e))(l:Parts P w G 0 ((List.range m).map λi=>(i*P.cellsOf e,e)) b (P.cellsOf t)):Dec P w G t (QAll b):=by
 intro H enc c cs x h;obtain⟨xs,n,_,_,k,d,g⟩:=DataW.trod_array o h
 obtain⟨ys,k1,k2,k3,k4,k5⟩:=bV7 (enc:=enc) (n:=n) _ _ 0 _ l (λf a=>by
  obtain⟨i,j,rfl⟩:=Ru.1 a;have hi:i<m:=SH.1 j;have:=g i hi
  rw[QS Aa]at this;exact⟨_,this⟩) k
 exact Q8
theorem pV{e:TypeId}{Q:List V->Prop}(agg:Bool)(ht:P.underlying t=some (.slice e))(hc:P.cellsOf t=1)(he:Dec P w G e Q)(hz:0<P.cellsOf e)(A:agg=false->P.cellsOf e=1)(hG:∀b,b<w.heap.size->G.O b= .fz):Dec P w G t (zI agg Q):=by
 intro H enc aa cs x h;rcases Deep.open_slice ht h with⟨rfl,rfl⟩|⟨a,f,cap,m,n,D,Pl,rfl,hb,hl,hm,S,rfl,r⟩
 ·refine⟨_,⟨[],rfl,Af,Af⟩,⟨rfl,λv hv=>by cases QW.1 hv;rfl,λi v x hv r=>?_⟩,by simp only[bM,V.okL,V.ok,and_self],by rw[hc];rfl,λy hy=>D6⟩
  cases i with
  |zero=>simp at hv r;subst hv r;exact .slN
  |succ i=>simp at hv
 ·simp only[TY]at S
  subst S
  have z:∀i,i<f->∃u xs,w.cells? 0 (a.add (i*P.cellsOf e)) (P.cellsOf e)=some u/\Q xs/\RvL w G u xs/\bM xs/\xs.length=P.cellsOf e/\∀y∈xs,y.atom=true:=by
   intro i hi;obtain⟨u,F,U⟩:=r i Aa;obtain⟨xs,q⟩:=he H enc n u _ U;exact⟨u,xs,F,q⟩
  let X:Nat->List V:=λi=>if h:i<f then(z i h).choose_spec.choose else []
  let C:Nat->List Value:=λi=>if h:i<f then(z i h).choose else []
  have J:∀i,i<f->w.cells? 0 (a.add (i*P.cellsOf e)) (P.cellsOf e)=some (C i)/\Q (X i)/\RvL w G (C i) (X i)/\bM (X i)/\(X i).length=P.cellsOf e/\∀y∈X i,y.atom=true:=by
   intro i hi;simp only[X,C,dif_pos hi];exact(z i hi).choose_spec.choose_spec
  let B:Nat->V:=λi=>cond agg (.agg (X i)) ((X i).headD .bot)
  have K:∀i,i<f->(B i).cells=X i:=by
   intro i hi;obtain⟨_,_,_,_,I,h6⟩:=J i hi
   cases d:agg with
   |true=>simp only[B,d,Td,V.cells]
   |false=>
    have F:=A d;rw[F]at I
    match g:X i,I with
    | [y],_=>
      simp only[B,d,SX,g,UO];have:=h6 y (by rw[g];simp)
      cases y<;>first|rfl|(simp[V.atom]at this)
  let l:List V:=(List.range f).map B
  have hll:l.length=f:=by simp[l]
  have E:∀x∈l,x.cells.length=P.cellsOf e:=by
   intro x r;obtain⟨i,hi,rfl⟩:=Ru.1 r;rw[K i (SH.1 hi)];exact(J i (SH.1 hi)).2.2.2.2.1
  have N:∀i,i<f->l[i]? =some (B i):=λi hi=>by simp[l,hi]
  have L:bM l:=by
   refine aH.2 ?_;intro x r;obtain⟨i,hi,rfl⟩:=Ru.1 r;have o:=SH.1 hi;have Z:=(J i o).2.2.2.1
   cases d:agg with
   |true=>simp only[B,d,Td,V.ok];exact Z
   |false=>
    have I:=(J i o).2.2.2.2.1;rw[A d]at I
    match g:X i,I with
    | [y],_=>
      simp only[B,d,SX,g,UO];rw[g]at Z;exact aH.1 Z y Af
  have s:∀(j:Nat) y,(l.flatMap V.cells)[j]? =some y->∃c,w.cell? (a.add j)=some c/\c.oneCell'=true/\Rv w G c y:=by
   intro j y hy
   have R:j<f*P.cellsOf e:=by
    have:=(QR.1 hy).1;rw[sH E,hll]at this;exact this
   have hi:j/P.cellsOf e<f:=Nat.div_lt_of_lt_mul (by rw[Nat.mul_comm];exact R)
   have hr:j% P.cellsOf e<P.cellsOf e:=SA _ hz;have hj:j/P.cellsOf e*P.cellsOf e+j% P.cellsOf e=j:=by rw[Nat.mul_comm];exact Nat.div_add_mod j _
   have M:=flat_get E (N _ hi) (j% P.cellsOf e) hr;rw[hj,hy,K _ hi]at M;obtain⟨g1,g2,g3,g4,g5,g6⟩:=J _ hi;obtain⟨_,c1,c2⟩:=World.cells?_some g1;have k:=c2 _ hr
   rw[Deep.add_add,hj]at k;have hlt:j% P.cellsOf e< (C (j/P.cellsOf e)).length:=by rw[c1];exact hr
   rw[QS hlt]at k;refine⟨_,k,g3.one _ (TA hlt),g3.rel (j% P.cellsOf e) _ y I7 M.symm⟩
  let cc:Nat->Value:=λj=>(w.cell? (a.add j)).getD undef
  have k:∀(j:Nat) y,(l.flatMap V.cells)[j]? =some y->w.cell? (a.add j)=some (cc j)/\(cc j).oneCell'=true/\Rv w G (cc j) y:=by
   intro j y hy;obtain⟨c,F,U,h3⟩:=s j y hy;have:cc j=c:=by simp[cc,F]
   rw[this];exact⟨F,U,h3⟩
  have Y:0<l.length->G.O a.block= .fz:=by
   intro h0;rw[hll]at h0;have ab:0< (l.flatMap V.cells).length:=by rw[sH E,hll];exact Nat.mul_pos h0 hz
   have F:=(k 0 (l.flatMap V.cells)[0] Af).1;refine hG _ ?_;have W:(a.add 0).block=a.block:=FZ
   rcases RX a.block w.heap.size with h|h
   ·exact h
   ·exfalso
    have:w.heap[(a.add 0).block]? =none:=by rw[W];exact Array.getElem?_eq_none h
    simp[World.cell?,this]at F
  refine⟨[.sl l],⟨l,rfl,Io,?_⟩,⟨rfl,λv hv=>by cases QW.1 hv;rfl,λi v x hv r=>?_⟩,?_,by rw[hc];rfl,λy hy=>D6⟩
  ·intro x r
   obtain⟨i,hi,rfl⟩:=Ru.1 r;have o:=SH.1 hi;rw[K i o];refine⟨(J i o).2.1,λT=>⟨X i,?_⟩,λT ys=>?_⟩
   ·simp only[B,T,Td]
   ·have I:=(J i o).2.2.2.2.1
    rw[A T]at I
    match g:X i,I with
    | [y],_=>
      simp only[B,T,SX,g,UO];have:=(J i o).2.2.2.2.2 y (by rw[g];simp)
      intro e;rw[e]at this;simp[V.atom]at this
  ·cases i with
   |zero=>
    simp at hv r;subst hv r;have:=Rv.slS (w:=w) (G:=G) a m l (P.cellsOf e) cc (by rw[hll];exact hl) hm Y E (λj y hy=>⟨(k j y hy).1,(k j y hy).2.1⟩) (λj y hy=>(k j y hy).2.2)
    rwa [hll]at this
   |succ i=>simp at hv
  ·simp only[bM,V.okL,V.ok,U4]
   exact L
def wE(P:Program)(T:Tab)(w:World)(G:Gh)(R:List V->Prop)(ts:List TypeId):Prop:=
 ∀(H:Type) (enc:TypeId×Value->H) (vs:List Value) (ds:List (DataW H)) (ps:List MemPlace),DataW.TrodAll enc P w 0 (λ_=>true) true ts vs ds ps->
  (∀(j:Nat) t v,ts[j]? =some t->vs[j]? =some v->(aggB (P.underlying t)=true->∃cs,v= .agg cs)/\(aggB (P.underlying t)=false->∀cs,v≠ .agg cs))->
  ∃ys,R ys/\ys.length=vs.length/\∀(j j':Nat) v y,vs[j]? =some v->ys[j]? =some y->Rb T w G j' v y
theorem dF6{T:Tab}{j:Nat}{v:Value}{y:V}(b:y.pure)(a:linear y=false)(h:Rv w G v y):Rb T w G j v y:=by
 cases y<;>first|exact⟨b,h⟩|(simp[linear]at a)
def aI0(agg:Bool)(xs:List V):V:=cond agg (.agg xs) (xs.headD .bot)
theorem vW{T:Tab}:wE P T w G (λys=>ys=[]) [] :=by
 intro H enc vs ds a h _;obtain⟨rfl,_,_⟩:=trodAll_nil h;exact⟨[],rfl,rfl,Af⟩
theorem oV{T:Tab}{E:List TypeId}{Q:List V->Prop}{R:List V->Prop}(o:Dec P w G t Q)(m:aggB (P.underlying t)=false->P.cellsOf t=1)(J:wE P T w G R E):
 wE P T w G (λys=>∃xs r,ys=aI0 (aggB (P.underlying t)) xs::r/\Q xs/\R r) (t::E):=by
 intro H enc vs ds U h a;obtain⟨v,A,d,k,p,q,rfl,rfl,rfl,l,F⟩:=trodAll_cons h;obtain⟨e,l⟩:=l;obtain⟨xs,L,z,C,D,M⟩:=o H enc e _ _ l;obtain⟨r,N,O,S⟩:=J H enc A k q F (λj t v o hv=>a (j+1) t v (by simpa using o) Bl)
 refine⟨_,⟨xs,r,rfl,L,N⟩,by simp[O],?_⟩
 intro j K u y f g
 cases j with
 |succ j=>simp at f g;exact S j K u y f g
 |zero=>
  simp at f g;subst f g
  cases n:aggB (P.underlying t)with
  |true=>
   obtain⟨cs,rfl⟩:=(a 0 t v Af Af).1 n;have b:RvL w G cs.toList xs:=z;refine dF6 (by simp only[aI0,Td,V.ok];exact C) rfl ?_
   exact .agg cs xs (by have:=b.len;simpa using this) (λc hc=>b.one c DL) (λi c x hc s=>b.rel i c x DL s)
  |false=>
   rw[m n]at D
   match xs,D with
   | [x],_=>
     have s:=M x Af;have B:=z.len
     have I:x.pure:=aH.1 C x Af
     have hv:Rv w G v x:=by
      cases v with
      |agg cs=>
       exact absurd rfl ((a 0 t _ Af Af).2 n cs)
      |_=>exact z.rel 0 _ x (by simp[Value.cells]) rfl
     refine dF6 (by simp only[aI0,SX,UO];exact I) ?_ (by simpa [aI0]using hv)
     simp only[aI0,SX,UO];cases x<;>first|rfl|(simp[V.atom]at s)
theorem cF6{r:Reach}{b:Nat}{v:Value}(h:Value.okWide P w r b t v):(aggB (P.underlying t)=true->∃cs,v= .agg cs)/\(aggB (P.underlying t)=false->∀cs,v≠ .agg cs):=by
 unfold Value.okWide at h;split at h
 ·rename_i d hu
  exact PU
 ·rename_i n e hu
  exact PU
 ·rename_i f g
  refine⟨λc=>?_,λ_ cs hv=>?_⟩
  ·unfold aggB at c
   split at c
   ·rename_i d hu;exact(f d hu).elim
   ·rename_i n e hu;exact(g n e hu).elim
   ·cases c
  ·subst hv
   unfold Cell.okWide at h;split at h<;>first|(rename_i a;cases a;done)|(rename_i a _;cases a;done)|skip
   unfold Cell.ok at h;split at h<;>first|(rename_i a;cases a;done)|(rename_i a _;cases a;done)|exact h
theorem bO3{H:Type}{enc:TypeId×Value->H}{f:Func}{s:ChangeSpec}{c n d m:Bool}{W q:World}{args:Array Value}{v:Value}{ds u:List (DataW H)}{a pa pv:List MemPlace}
 (y:DataW.Whole enc P f.params.toList s.vars c W args.toList ds u a)
 (l:∀(b:Nat) (o:Nat->Bool) (D:Bool),DataW.TrodAll enc P q b o D f.resultTypes.toList (v.resultList f.resultTypes.size) (s.fn H (ds++u)).results [])
 (e:∀o:Nat->Bool,(∀p∈a,o p.block=true)->DataW.TrodAll enc P q 0 o true f.params.toList args.toList (s.fn H (ds++u)).args pa)
 (h:∀o:Nat->Bool,(∀p∈a,o p.block=true)->DataW.TrodVars enc P q o s.vars (s.fn H (ds++u)).vars pv)
 (i:a=pa++pv)(B:Below W.heap.size W q)
 (A:∀(j:Nat) (t:TypeId) (r:Value),f.resultTypes[j]? =some t->(v.resultList f.resultTypes.size)[j]? =some r->Value.okWide P q .any 0 t r):
 s.post enc P f c n d m W args v q:=by
 have k:∀p∈a,(λb=>decide (b<W.heap.size)) p.block=true:=λp g=>by simpa using y.lt p g
 have z:∀p∈a,p.block<W.heap.size:=λp g=>y.lt p g;refine⟨ds,u,a,[],pa,pv,y,l _ _ _,e _ k,h _ k,World.keptBut_mono (λp g=>⟨g,?_⟩) (B.frame (·∈a)),λ_=>?_⟩
 ·rw[i,QX]at g
  exact Or.inr g
 ·obtain⟨_,_,_,_,_,F,E⟩:=y
  refine⟨A,_,_,([] ++pa)++pv,⟨[] ++pa,pv,trodAll_append (e _ (λ_ _=>rfl)) (l _ _ _),h _ (λ_ _=>rfl),rfl,?_,?_⟩,?_⟩
  ·intro b off g
   have x:MemPlace.cell b off∈a:=by rw[i];simpa using g
   rw[B.frozen (p:=⟨b,off,none⟩) (z _ x)];exact F b off x
  ·intro C
   have:=E C;rw[i]at this;simpa using this
  ·intro p g _
   rw[i];simpa using g
theorem bN8{H:Type}{enc:TypeId×Value->H}{W j:World}(o:laidOutB P=true)(n:Below W.heap.size W j){k:Nat->Bool}:∀(b:List TypeId) (vs:List Value) (ds:List (DataW H)) (a:List MemPlace),
 (∀t∈b,P.readableRec t=true/\t<P.types.size)->DataW.TrodAll enc P W 0 (λ_=>true) true b vs ds a->(∀p∈a,p.block<W.heap.size/\k p.block=true)->DataW.TrodAll enc P j 0 k true b vs ds a:=by
 intro b
 induction b with
 |nil=>
  intro vs ds a _ h _;obtain⟨rfl,rfl,rfl⟩:=trodAll_nil h;exact trodAll_mk0
 |cons t r s=>
  intro vs ds a f h e;obtain⟨v,i,d,c,p,q,rfl,rfl,rfl,l,m⟩:=trodAll_cons h;refine trodAll_cons_mk ?_ (s i c q (λt g=>f t (by simp[g])) m (λx hx=>e x BI))
  exact WideElems.Trod_stays o (f t Af).1 (f t Af).2 l (λx hx=>n.same (e x BI).1) (λx hx=>(e x BI).2)
def bQ(W:World):Gh:=⟨λ_=>0,λ_ _=>undef,λb=>if b<W.heap.size then .fz else .ext⟩
theorem jZ(W:World):∀b,b<W.heap.size->(bQ W).O b= .fz:=λb a=>by simp[bQ,a]
theorem tJ{T:Tab}{f:FuncId}{o:Func}{s:ChangeSpec}{tb:TypeId}{R:List V->Prop}(hl:laidOutB P=true)(l:s.vars=[])(ae:∀(H:Type) (ds:List (DataW H)),ds.length=o.params.size->s.fn H ds={results:=[.lit (.bool true)],args:=ds})
 (u:o.resultTypes= #[tb])(N:P.underlying tb=some .bool)(aj:∀t∈o.params.toList,P.readableRec t=true/\t<P.types.size)
 (J:∀W:World,wE P T W (bQ W) R o.params.toList)(D:∀ys,R ys->Spec T P f ys (.lit (.bool true)))
 {H:Type}{enc:TypeId×Value->H}{a A c z:Bool}(W:World)(F:Nat)(args:Array Value)(ds gs:List (DataW H))(n:List MemPlace)
 (Q:∀(j:Nat) t v,o.params[j]? =some t->args[j]? =some v->Value.okWide P W .any F t v)
 (hW:DataW.Whole enc P o.params.toList s.vars a W args.toList ds gs n)(K:T.lay W (λb=>b<W.heap.size)):
 Calls P f args W λe U=>∃v,e= .returned v/\s.post enc P o a A c z W args v U:=by
 have I:=hW;obtain⟨p,q,Y,hV,rfl,al,am⟩:=hW;rw[l]at hV;obtain⟨rfl,rfl⟩:=trodVars_none hV;obtain⟨ys,hR,L,ah⟩:=J W H enc args.toList ds p Y (λj t v ht hv=>cF6 (Q j t v (by simpa using ht) Bl))
 obtain⟨ac,hs⟩:=D ys hR
 have ab:∀b,(bQ W).O b≠ .ext->b<W.heap.size:=λb m=>by
  by_cases h:b<W.heap.size
  ·exact h
  ·simp[bQ,h]at m
 have aa:∀b i,(bQ W).O b≠ .bx i:=λb i m=>by
  by_cases h:b<W.heap.size<;>simp[bQ,h]at m
 have Z:∀b j,(bQ W).O b≠ .ar j:=λb i m=>by
  by_cases h:b<W.heap.size<;>simp[bQ,h]at m
 refine(hs W (bQ W) args (by rw[L];simp) ab aa (λj v y hv hy=>ah j j v y Bl hy) (T.lay_mono (λb m=>⟨jZ W b m,rfl⟩) K)).mono ?_
 rintro e U ⟨v,G',rfl,hr,_,_,_,_,B,C,ag,E,M⟩;refine⟨v,rfl,?_⟩;have hv:v= .bool true:=hr.2.bH;subst hv;have m:Below W.heap.size W U:=⟨ag,E,M,C,λk hk=>B k hk (Z k)⟩
 have af:∀x∈p,x.block<W.heap.size:=λx hx=>I.lt x BI
 have ad:ds.length=o.params.size:=by
  have gen:∀(S:List TypeId) (vs:List Value) (ds:List (DataW H)) (ps:List MemPlace),DataW.TrodAll enc P W 0 (λ_=>true) true S vs ds ps->ds.length=S.length:=by
   intro S
   induction S with
   |nil=>intro vs ds ps h;obtain⟨_,rfl,_⟩:=trodAll_nil h;rfl
   |cons t r ih=>
    intro vs ds ps h;obtain⟨v,ak,d,X,p,q,rfl,rfl,rfl,h1,h2⟩:=trodAll_cons h;simp[ih ak X q h2]
  have:=gen _ _ _ _ Y;simpa using this
 have g:=ae H ds ad;refine bO3 (pa:=p) (pv:=[]) I ?_ ?_ ?_ rfl m ?_
 ·intro b sp hd
  rw[Rn,g,u];exact trodAll_cons_mk (shut_bool N true) trodAll_mk0
 ·intro sp ai
  rw[Rn,g];exact bN8 hl m _ _ _ _ aj Y (λx hx=>⟨af x hx,ai x BI⟩)
 ·intro sp _
  rw[Rn,g,l];rfl
 ·exact ok_one u rfl (okWide_bool_mk N true)
end
end Go.Ab
