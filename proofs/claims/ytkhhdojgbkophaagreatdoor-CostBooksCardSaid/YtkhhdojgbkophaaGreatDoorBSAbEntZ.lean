/-
  (With the form's own reach: what is read is at most reachBytes large.) From a law's entry (what the row's reading finds)
-/
import Derived.Test.YtkhhdojgbkophaaGreatDoorBA13
import Derived.Deep.Slices
import Derived.ChangeSame
import Derived.Carry
import Derived.OpenShut
import Derived.ProofKit
import Derived.SizedLaws
set_option linter.unusedVariables false
set_option linter.unusedSimpArgs false
noncomputable section
namespace Go.Ab
open Go.ChangeShapes Go.WideShapes Go.ChangeAt Go.RowKit
def Dec(P:Program)(w:World)(G:Gh)(t:TypeId)(Q:List V->Prop):Prop:=
 ∀(H:Type) (enc:TypeId×Value->H) (fuel:Nat) (cs:List Value) (x:DataW H×List MemPlace),DataW.trod enc P w 0 (fun _=>true) true fuel t cs=some x->(∀n∈x.1.weights P t,n<=reachBytes)->
  ∃xs,Q xs/\RvL w G cs xs/\bM xs/\xs.length=P.cellsOf t/\∀y∈xs,y.atom=true
def QInt(k:IntKind)(lo hi:Int):List V->Prop:=fun xs=>∃n:Int,xs=[.lit (.int k n)]/\lo<=n/\n<=hi
def QBool:List V->Prop:=fun xs=>∃b:Bool,xs=[.lit (.bool b)]
def QTwo(Q R:List V->Prop):List V->Prop:=fun xs=>∃a b,xs=a++b/\Q a/\R b
def zI(agg:Bool)(Q:List V->Prop):List V->Prop:=fun xs=>∃l:List V,xs=[.sl l]/\l.length<=maxLen/\∀x∈l,Q x.cells/\(agg=true->∃ys,x= .agg ys)/\(agg=false->∀ys,x≠ .agg ys)
section
variable{P:Program}{w:World}{G:Gh}{t:TypeId}
theorem RvL.lit1{u:Value}(h:u.oneCell'=true):RvL w G [u] [.lit u] :=
 ⟨rfl,fun v hv=>by cases List.mem_singleton.1 hv;exact h,fun i v x hv hx=>by
  cases i with
  |zero=>simp at hv hx;subst hv hx;exact .lit _ h
  |succ i=>simp at hv⟩
theorem dI6{k:IntKind}(ht:P.underlying t=some (.int k))(hc:P.cellsOf t=1){lo hi:Int}(hk:∀n,(Lit.int k n).wf=true->lo<=n/\n<=hi):Dec P w G t (QInt k lo hi):=by
 intro H enc fuel cs x h _;obtain⟨n,rfl,_,hw⟩:=DataW.trod_int ht h;refine⟨_,⟨n,rfl,hk n hw⟩,RvL.lit1 rfl,?_,by rw[hc];rfl,fun y hy=>CG⟩
 simp only[bM,V.okL,V.ok,and_self]
def QStr:List V->Prop:=fun xs=>∃s:ByteArray,xs=[.lit (.string s)]/\s.size<=reachBytes
theorem eO8(ht:P.underlying t=some .string)(hc:P.cellsOf t=1):Dec P w G t QStr:=by
 intro H enc fuel cs x h hz;obtain⟨n,rfl,rfl,_⟩:=DataW.trod_string ht h
 have hs:n.size<=reachBytes:=by
  have:=hz n.data.toList.length (by simp[DataW.weights])
  simpa using this
 refine⟨_,⟨n,rfl,hs⟩,RvL.lit1 rfl,?_,by rw[hc];rfl,fun y hy=>CG⟩
 simp only[bM,V.okL,V.ok,and_self]
def QAll:List (List V->Prop)->List V->Prop
 | [],xs=>xs=[]
 |Q::r,xs=>∃a b,xs=a++b/\Q a/\QAll r b
def Parts(P:Program)(w:World)(G:Gh):Nat->List (Nat×TypeId)->List (List V->Prop)->Nat->Prop
 |off,[],[],e=>off=e
 |off,f::r,Q::s,e=>f.1=off/\Dec P w G f.2 Q/\Parts P w G (off+P.cellsOf f.2) r s e
 |_,_,_,_=>False
theorem mM{off e:Nat}(h:off=e):Parts P w G off [] [] e:=h
theorem aY{off e:Nat}{f:Nat×TypeId}{r:List (Nat×TypeId)}{Q:List V->Prop}{s:List (List V->Prop)}(h1:f.1=off)(h2:Dec P w G f.2 Q)(h3:Parts P w G (off+P.cellsOf f.2) r s e):Parts P w G off (f::r) (Q::s) e:=⟨h1,h2,h3⟩
theorem cS3{p:Nat->Prop}{q:Nat->Nat->Prop}{a b:List V}(h1:V.okL p q a)(h2:V.okL p q b):V.okL p q (a++b):=by
 rw[aH]at*;intro x hx;rcases List.mem_append.1 hx with h|h
 ·exact h1 x h
 ·exact h2 x h
theorem bV7{H:Type}{enc:TypeId×Value->H}{n:Nat}{cs:List Value}:∀(fs:List (Nat×TypeId)) (Qs:List (List V->Prop)) (off e:Nat),Parts P w G off fs Qs e->
 (∀f∈fs,∃y,DataW.trod enc P w 0 (fun _=>true) true n f.2 ((cs.drop f.1).take (P.cellsOf f.2))=some y/\∀k∈y.1.weights P f.2,k<=reachBytes)->cs.length=e->
 ∃xs,QAll Qs xs/\RvL w G (cs.drop off) xs/\bM xs/\off+xs.length=e/\∀y∈xs,y.atom=true:=by
 intro fs
 induction fs with
 |nil=>
  intro Qs off e hp _ hl
  cases Qs with
  |nil=>
   have:off=e:=hp;refine⟨[],rfl,?_,GX,by simpa using this,Ae⟩
   rw[List.drop_eq_nil_of_le Aa];exact⟨rfl,Ae,Ae⟩
  |cons=>exact hp.elim
 |cons f r ih=>
  intro Qs off e hp hf hl
  cases Qs with
  |nil=>exact hp.elim
  |cons Q s=>
   obtain⟨h1,h2,h3⟩:=hp;obtain⟨y,hy,hyz⟩:=hf f Ae;obtain⟨xs,q1,q2,q3,q4,q5⟩:=h2 H enc n _ y hy hyz;obtain⟨ys,k1,k2,k3,k4,k5⟩:=ih s _ e h3 (fun g hg=>hf g (by simp[hg])) hl
   refine⟨xs++ys,⟨xs,ys,rfl,q1,k1⟩,?_,cS3 q3 k3,Ai,?_⟩
   ·have:cs.drop off=(cs.drop off).take (P.cellsOf f.2)++cs.drop (off+P.cellsOf f.2):=by
     rw[<-List.drop_drop,List.take_append_drop]
    rw[this];rw[h1]at q2;exact q2.append k2
   ·intro y hy
    rcases List.mem_append.1 hy with h|h
    ·exact q5 y h
    ·exact k5 y h
theorem lZ{fs:Array Field}{Qs:List (List V->Prop)}(ht:P.underlying t=some (.struct fs))(hp:Parts P w G 0 (fs.toList.map fun f=>(f.offset,f.type)) Qs (P.cellsOf t)):Dec P w G t (QAll Qs):=by
 intro H enc fuel cs x h hz;obtain⟨xs,n,_,rfl,hl,hlen,hf⟩:=DataW.trod_struct ht h;have hz':∀k∈DataW.weightsEach P (fs.toList.map (·.type)) (xs.map (·.1)),k<=reachBytes:=fun k hk=>hz k FP
 obtain⟨ys,k1,k2,k3,k4,k5⟩:=bV7 (enc:=enc) (n:=n) _ _ 0 _ hp (fun f hf'=>by
  obtain⟨g,hg,rfl⟩:=List.mem_map.1 hf';obtain⟨i,hi⟩:=List.getElem?_of_mem hg
  have hi':i<fs.size:=by
   have:=(List.getElem?_eq_some_iff.1 hi).1;simpa using this
  have:=hf i g CW;rw[List.getElem?_eq_getElem Aa]at this;exact⟨_,this,fun k hk=>hz' k (DataW.weights_mem_each (j:=i) (t:=g.type) (by rw[List.getElem?_map,hi];rfl) (by rw[List.getElem?_map,List.getElem?_eq_getElem (by omega)];rfl) k hk)⟩) hl
 exact Pq
theorem weightsAll_mem{H:Type}{P:Program}{e:TypeId}{d:DataW H}{k:Nat}:∀ {l:List (DataW H)},d∈l->k∈d.weights P e->k∈DataW.weightsAll P e l
 |x::l,h,hk=>by
  simp only[DataW.weightsAll,List.mem_append];rcases List.mem_cons.1 h with rfl|h
  ·exact .inl hk
  ·exact .inr (weightsAll_mem h hk)
theorem weightsEach_app{H:Type}{P:Program}{us:List TypeId}{es:List (DataW H)}{k:Nat}:∀ {ts:List TypeId} {ds:List (DataW H)},k∈DataW.weightsEach P ts ds->k∈DataW.weightsEach P (ts++us) (ds++es)
 |t::ts,d::ds,h=>by
  simp only[DataW.weightsEach,List.mem_append,List.cons_append]at h⊢;exact h.imp id weightsEach_app
 | [],_,h=>by simp[DataW.weightsEach]at h
 |_::_,[],h=>by simp[DataW.weightsEach]at h
theorem dN6{m:Nat}{e:TypeId}{Qs:List (List V->Prop)}(ht:P.underlying t=some (.array m e))(hp:Parts P w G 0 ((List.range m).map fun i=>(i*P.cellsOf e,e)) Qs (P.cellsOf t)):Dec P w G t (QAll Qs):=by
 intro H enc fuel cs x h hz;obtain⟨xs,n,_,rfl,hl,hlen,hf⟩:=DataW.trod_array ht h;have hz':∀k∈DataW.weightsAll P e (xs.map (·.1)),k<=reachBytes:=fun k hk=>hz k FP
 obtain⟨ys,k1,k2,k3,k4,k5⟩:=bV7 (enc:=enc) (n:=n) _ _ 0 _ hp (fun f hf'=>by
  obtain⟨i,hg,rfl⟩:=List.mem_map.1 hf';have hi:i<m:=List.mem_range.1 hg;have:=hf i hi
  rw[List.getElem?_eq_getElem Aa]at this;exact⟨_,this,fun k hk=>hz' k (weightsAll_mem (List.mem_map.2 ⟨_,List.getElem_mem Aa,rfl⟩) hk)⟩) hl
 exact Pq
theorem pV{e:TypeId}{Q:List V->Prop}(agg:Bool)(ht:P.underlying t=some (.slice e))(hc:P.cellsOf t=1)(he:Dec P w G e Q)(hz:0<P.cellsOf e)(hagg:agg=false->P.cellsOf e=1)(hG:∀b,b<w.heap.size->G.O b= .fz):Dec P w G t (zI agg Q):=by
 intro H enc fuel cs x h hzz;rcases Deep.open_slice ht h with⟨rfl,rfl⟩|⟨a,len,cap,m,n,D,Pl,rfl,hb,hl,hm,hmm,rfl,hx⟩
 ·refine⟨_,⟨[],rfl,Ae,Ae⟩,⟨rfl,fun v hv=>by cases List.mem_singleton.1 hv;rfl,fun i v x hv hx=>?_⟩,by simp only[bM,V.okL,V.ok,and_self],by rw[hc];rfl,fun y hy=>CG⟩
  cases i with
  |zero=>simp at hv hx;subst hv hx;exact .slN
  |succ i=>simp at hv
 ·simp only[if_true]at hmm
  subst hmm
  have each:∀i,i<len->∃cs' xs,w.cells? 0 (a.add (i*P.cellsOf e)) (P.cellsOf e)=some cs'/\Q xs/\RvL w G cs' xs/\bM xs/\xs.length=P.cellsOf e/\∀y∈xs,y.atom=true:=by
   intro i hi;obtain⟨cs',h1,h2⟩:=hx i Aa
   obtain⟨xs,q⟩:=he H enc n cs' _ h2 (fun k hk=>hzz k (by
    simp only[DataW.weights,ht,List.mem_cons,List.mem_append];exact .inr (.inl (weightsAll_mem (List.mem_map.2 ⟨i,List.mem_range.2 hi,rfl⟩) hk))))
   exact⟨cs',xs,h1,q⟩
  let X:Nat->List V:=fun i=>if h:i<len then(each i h).choose_spec.choose else []
  let C:Nat->List Value:=fun i=>if h:i<len then(each i h).choose else []
  have hX:∀i,i<len->w.cells? 0 (a.add (i*P.cellsOf e)) (P.cellsOf e)=some (C i)/\Q (X i)/\RvL w G (C i) (X i)/\bM (X i)/\(X i).length=P.cellsOf e/\∀y∈X i,y.atom=true:=by
   intro i hi;simp only[X,C,dif_pos hi];exact(each i hi).choose_spec.choose_spec
  let El:Nat->V:=fun i=>cond agg (.agg (X i)) ((X i).headD .bot)
  have hEl:∀i,i<len->(El i).cells=X i:=by
   intro i hi;obtain⟨_,_,_,_,h5,h6⟩:=hX i hi
   cases hagg':agg with
   |true=>simp only[El,hagg',cond_true,V.cells]
   |false=>
    have h1:=hagg hagg';rw[h1]at h5
    match hXi:X i,h5 with
    | [y],_=>
      simp only[El,hagg',cond_false,hXi,List.headD_cons];have:=h6 y (by rw[hXi];simp)
      cases y<;>first|rfl|(simp[V.atom]at this)
  let l:List V:=(List.range len).map El
  have hll:l.length=len:=by simp[l]
  have hcl:∀x∈l,x.cells.length=P.cellsOf e:=by
   intro x hx;obtain⟨i,hi,rfl⟩:=List.mem_map.1 hx;rw[hEl i (List.mem_range.1 hi)];exact(hX i (List.mem_range.1 hi)).2.2.2.2.1
  have hget:∀i,i<len->l[i]? =some (El i):=fun i hi=>by simp[l,hi]
  have hpure:bM l:=by
   refine aH.2 ?_;intro x hx;obtain⟨i,hi,rfl⟩:=List.mem_map.1 hx;have hi':=List.mem_range.1 hi;have hp:=(hX i hi').2.2.2.1
   cases hagg':agg with
   |true=>simp only[El,hagg',cond_true,V.ok];exact hp
   |false=>
    have h5:=(hX i hi').2.2.2.2.1;rw[hagg hagg']at h5
    match hXi:X i,h5 with
    | [y],_=>
      simp only[El,hagg',cond_false,hXi,List.headD_cons];rw[hXi]at hp;exact aH.1 hp y Ae
  have cellsAt:∀(j:Nat) y,(l.flatMap V.cells)[j]? =some y->∃c,w.cell? (a.add j)=some c/\c.oneCell'=true/\Rv w G c y:=by
   intro j y hy
   have hlen:j<len*P.cellsOf e:=by
    have:=(List.getElem?_eq_some_iff.1 hy).1;rw[sH hcl,hll]at this;exact this
   have hi:j/P.cellsOf e<len:=Nat.div_lt_of_lt_mul (by rw[Nat.mul_comm];exact hlen)
   have hr:j% P.cellsOf e<P.cellsOf e:=Nat.mod_lt _ hz;have hj:j/P.cellsOf e*P.cellsOf e+j% P.cellsOf e=j:=by rw[Nat.mul_comm];exact Nat.div_add_mod j _
   have hfl:=flat_get hcl (hget _ hi) (j% P.cellsOf e) hr;rw[hj,hy,hEl _ hi]at hfl;obtain⟨g1,g2,g3,g4,g5,g6⟩:=hX _ hi;obtain⟨_,c1,c2⟩:=World.cells?_some g1;have hcc:=c2 _ hr
   rw[Deep.add_add,hj]at hcc;have hlt:j% P.cellsOf e< (C (j/P.cellsOf e)).length:=by rw[c1];exact hr
   rw[List.getElem?_eq_getElem hlt]at hcc;refine⟨_,hcc,g3.one _ (List.getElem_mem hlt),g3.rel (j% P.cellsOf e) _ y Ij hfl.symm⟩
  let cc:Nat->Value:=fun j=>(w.cell? (a.add j)).getD undef
  have hcc:∀(j:Nat) y,(l.flatMap V.cells)[j]? =some y->w.cell? (a.add j)=some (cc j)/\(cc j).oneCell'=true/\Rv w G (cc j) y:=by
   intro j y hy;obtain⟨c,h1,h2,h3⟩:=cellsAt j y hy;have:cc j=c:=by simp[cc,h1]
   rw[this];exact⟨h1,h2,h3⟩
  have hfz:0<l.length->G.O a.block= .fz:=by
   intro h0;rw[hll]at h0;have hne:0< (l.flatMap V.cells).length:=by rw[sH hcl,hll];exact Nat.mul_pos h0 hz
   have h1:=(hcc 0 (l.flatMap V.cells)[0] Ae).1;refine hG _ ?_;have hb':(a.add 0).block=a.block:=Fh
   rcases Nat.lt_or_ge a.block w.heap.size with h|h
   ·exact h
   ·exfalso
    have:w.heap[(a.add 0).block]? =none:=by rw[hb'];exact Array.getElem?_eq_none h
    simp[World.cell?,this]at h1
  refine⟨[.sl l],⟨l,rfl,by rw[hll];omega,?_⟩,⟨rfl,fun v hv=>by cases List.mem_singleton.1 hv;rfl,fun i v x hv hx=>?_⟩,?_,by rw[hc];rfl,fun y hy=>CG⟩
  ·intro x hx
   obtain⟨i,hi,rfl⟩:=List.mem_map.1 hx;have hi':=List.mem_range.1 hi;rw[hEl i hi'];refine⟨(hX i hi').2.1,fun ha=>⟨X i,?_⟩,fun ha ys=>?_⟩
   ·simp only[El,ha,cond_true]
   ·have h5:=(hX i hi').2.2.2.2.1
    rw[hagg ha]at h5
    match hXi:X i,h5 with
    | [y],_=>
      simp only[El,ha,cond_false,hXi,List.headD_cons];have:=(hX i hi').2.2.2.2.2 y (by rw[hXi];simp)
      intro e;rw[e]at this;simp[V.atom]at this
  ·cases i with
   |zero=>
    simp at hv hx;subst hv hx;have:=Rv.slS (w:=w) (G:=G) a m l (P.cellsOf e) cc (by rw[hll];exact hl) hm hfz hcl (fun j y hy=>⟨(hcc j y hy).1,(hcc j y hy).2.1⟩) (fun j y hy=>(hcc j y hy).2.2)
    rwa [hll]at this
   |succ i=>simp at hv
  ·simp only[bM,V.okL,V.ok,and_true]
   exact hpure
def wE(P:Program)(T:Tab)(w:World)(G:Gh)(R:List V->Prop)(ts:List TypeId):Prop:=
 ∀(H:Type) (enc:TypeId×Value->H) (vs:List Value) (ds:List (DataW H)) (ps:List MemPlace),DataW.TrodAll enc P w 0 (fun _=>true) true ts vs ds ps->(∀n∈DataW.weightsEach P ts ds,n<=reachBytes)->
  (∀(j:Nat) t v,ts[j]? =some t->vs[j]? =some v->(aggB (P.underlying t)=true->∃cs,v= .agg cs)/\(aggB (P.underlying t)=false->∀cs,v≠ .agg cs))->
  ∃ys,R ys/\ys.length=vs.length/\∀(j j':Nat) v y,vs[j]? =some v->ys[j]? =some y->Rb T w G j' v y
theorem dF6{T:Tab}{j:Nat}{v:Value}{y:V}(hp:y.pure)(hl:linear y=false)(h:Rv w G v y):Rb T w G j v y:=by
 cases y<;>first|exact⟨hp,h⟩|(simp[linear]at hl)
def aI0(agg:Bool)(xs:List V):V:=cond agg (.agg xs) (xs.headD .bot)
theorem vW{T:Tab}:wE P T w G (fun ys=>ys=[]) [] :=by
 intro H enc vs ds ps h _ _;obtain⟨rfl,_,_⟩:=trodAll_nil h;exact⟨[],rfl,rfl,Ae⟩
theorem oV{T:Tab}{ts:List TypeId}{Q:List V->Prop}{R:List V->Prop}(ht:Dec P w G t Q)(hag:aggB (P.underlying t)=false->P.cellsOf t=1)(hr:wE P T w G R ts):
 wE P T w G (fun ys=>∃xs r,ys=aI0 (aggB (P.underlying t)) xs::r/\Q xs/\R r) (t::ts):=by
 intro H enc vs ds ps h hz hagg;obtain⟨v,vs',d,ds',p,q,rfl,rfl,rfl,h1,h2⟩:=trodAll_cons h;have hz1:∀n∈d.weights P t,n<=reachBytes:=fun n hn=>hz n (by simp only[DataW.weightsEach,List.mem_append];exact .inl hn)
 have hz2:∀n∈DataW.weightsEach P ts ds',n<=reachBytes:=fun n hn=>hz n (by simp only[DataW.weightsEach,List.mem_append];exact .inr hn)
 obtain⟨fuel,h1⟩:=h1;obtain⟨xs,k1,k2,k3,k4,k5⟩:=ht H enc fuel _ _ h1 hz1;obtain⟨r,q1,q2,q3⟩:=hr H enc vs' ds' q h2 hz2 (fun j t v ht hv=>hagg (j+1) t v (by simpa using ht) Ba)
 refine⟨_,⟨xs,r,rfl,k1,q1⟩,by simp[q2],?_⟩
 intro j j' u y hu hy
 cases j with
 |succ j=>simp at hu hy;exact q3 j j' u y hu hy
 |zero=>
  simp at hu hy;subst hu hy
  cases hb:aggB (P.underlying t)with
  |true=>
   obtain⟨cs,rfl⟩:=(hagg 0 t v Ae Ae).1 hb;have k2':RvL w G cs.toList xs:=k2;refine dF6 (by simp only[aI0,cond_true,V.ok];exact k3) rfl ?_
   exact .agg cs xs (by have:=k2'.len;simpa using this) (fun c hc=>k2'.one c CX) (fun i c x hc hx=>k2'.rel i c x CX hx)
  |false=>
   rw[hag hb]at k4
   match xs,k4 with
   | [x],_=>
     have hx:=k5 x Ae;have hlen:=k2.len
     have hp:x.pure:=aH.1 k3 x Ae
     have hv:Rv w G v x:=by
      cases v with
      |agg cs=>
       exact absurd rfl ((hagg 0 t _ Ae Ae).2 hb cs)
      |_=>exact k2.rel 0 _ x (by simp[Value.cells]) rfl
     refine dF6 (by simp only[aI0,cond_false,List.headD_cons];exact hp) ?_ (by simpa [aI0]using hv)
     simp only[aI0,cond_false,List.headD_cons];cases x<;>first|rfl|(simp[V.atom]at hx)
theorem cF6{r:Reach}{base:Nat}{v:Value}(h:Value.okWide P w r base t v):(aggB (P.underlying t)=true->∃cs,v= .agg cs)/\(aggB (P.underlying t)=false->∀cs,v≠ .agg cs):=by
 unfold Value.okWide at h;split at h
 ·rename_i fs hu
  exact O6
 ·rename_i n e hu
  exact O6
 ·rename_i h1 h2
  refine⟨fun ha=>?_,fun _ cs hv=>?_⟩
  ·unfold aggB at ha
   split at ha
   ·rename_i fs hu;exact(h1 fs hu).elim
   ·rename_i n e hu;exact(h2 n e hu).elim
   ·cases ha
  ·subst hv
   unfold Cell.okWide at h;split at h<;>first|(rename_i he;cases he;done)|(rename_i he _;cases he;done)|skip
   unfold Cell.ok at h;split at h<;>first|(rename_i he;cases he;done)|(rename_i he _;cases he;done)|exact h
theorem bO3{H:Type}{enc:TypeId×Value->H}{f:Func}{s:ChangeSpec}{apart fresh handsOn again:Bool}{W W':World}{args:Array Value}{v:Value}{ds gs:List (DataW H)}{before pa pv:List MemPlace}
 (hW:DataW.Whole enc P f.params.toList s.vars apart W args.toList ds gs before)
 (hres:∀(b:Nat) (sp:Nat->Bool) (hd:Bool),DataW.TrodAll enc P W' b sp hd f.resultTypes.toList (v.resultList f.resultTypes.size) (s.fn H (ds++gs)).results [])
 (hargs:∀sp:Nat->Bool,(∀p∈before,sp p.block=true)->DataW.TrodAll enc P W' 0 sp true f.params.toList args.toList (s.fn H (ds++gs)).args pa)
 (hvars:∀sp:Nat->Bool,(∀p∈before,sp p.block=true)->DataW.TrodVars enc P W' sp s.vars (s.fn H (ds++gs)).vars pv)
 (hps:before=pa++pv)(hb:Below W.heap.size W W')
 (hok:∀(j:Nat) (t:TypeId) (r:Value),f.resultTypes[j]? =some t->(v.resultList f.resultTypes.size)[j]? =some r->Value.okWide P W' .any 0 t r):
 s.post enc P f apart fresh handsOn again W args v W':=by
 have hold:∀p∈before,(fun b=>decide (b<W.heap.size)) p.block=true:=fun p hp=>by simpa using hW.lt p hp
 have hlt:∀p∈before,p.block<W.heap.size:=fun p hp=>hW.lt p hp;refine⟨ds,gs,before,[],pa,pv,hW,hres _ _ _,hargs _ hold,hvars _ hold,World.keptBut_mono (fun p hp=>⟨hp,?_⟩) (hb.frame (·∈before)),fun _=>?_⟩
 ·rw[hps,List.mem_append]at hp
  exact Or.inr hp
 ·obtain⟨_,_,_,_,_,hz,hn⟩:=hW
  refine⟨hok,_,_,([] ++pa)++pv,⟨[] ++pa,pv,trodAll_append (hargs _ (fun _ _=>rfl)) (hres _ _ _),hvars _ (fun _ _=>rfl),rfl,?_,?_⟩,?_⟩
  ·intro b off hp
   have hp':MemPlace.cell b off∈before:=by rw[hps];simpa using hp
   rw[hb.frozen (p:=⟨b,off,none⟩) (hlt _ hp')];exact hz b off hp'
  ·intro ha
   have:=hn ha;rw[hps]at this;simpa using this
  ·intro p hp _
   rw[hps];simpa using hp
theorem bN8{H:Type}{enc:TypeId×Value->H}{W W':World}(hl:laidOutB P=true)(hb:Below W.heap.size W W'){sp:Nat->Bool}:∀(ts:List TypeId) (vs:List Value) (ds:List (DataW H)) (ps:List MemPlace),
 (∀t∈ts,P.readableRec t=true/\t<P.types.size)->DataW.TrodAll enc P W 0 (fun _=>true) true ts vs ds ps->(∀p∈ps,p.block<W.heap.size/\sp p.block=true)->DataW.TrodAll enc P W' 0 sp true ts vs ds ps:=by
 intro ts
 induction ts with
 |nil=>
  intro vs ds ps _ h _;obtain⟨rfl,rfl,rfl⟩:=trodAll_nil h;exact trodAll_mk0
 |cons t r ih=>
  intro vs ds ps ht h hp;obtain⟨v,vs',d,ds',p,q,rfl,rfl,rfl,h1,h2⟩:=trodAll_cons h;refine trodAll_cons_mk ?_ (ih vs' ds' q (fun t ht'=>ht t (by simp[ht'])) h2 (fun x hx=>hp x BO))
  exact WideElems.Trod_stays hl (ht t Ae).1 (ht t Ae).2 h1 (fun x hx=>hb.same (hp x BO).1) (fun x hx=>(hp x BO).2)
def bQ(W:World):Gh:=⟨fun _=>0,fun _ _=>undef,fun b=>if b<W.heap.size then .fz else .ext⟩
theorem jZ(W:World):∀b,b<W.heap.size->(bQ W).O b= .fz:=fun b hb=>by simp[bQ,hb]
theorem tJ{T:Tab}{f:FuncId}{fn:Func}{s:ChangeSpec}{tb:TypeId}{R:List V->Prop}(hl:laidOutB P=true)(hvars:s.vars=[])(hfn:∀(H:Type) (ds:List (DataW H)),ds.length=fn.params.size->s.fn H ds={results:=[.lit (.bool true)],args:=ds})
 (hres:fn.resultTypes= #[tb])(htb:P.underlying tb=some .bool)(hts:∀t∈fn.params.toList,P.readableRec t=true/\t<P.types.size)
 (hdec:∀W:World,wE P T W (bQ W) R fn.params.toList)(hspec:∀ys,R ys->Spec T P f ys (.lit (.bool true)))
 {H:Type}{enc:TypeId×Value->H}{apart fresh handsOn again:Bool}(W:World)(base:Nat)(args:Array Value)(ds gs:List (DataW H))(before:List MemPlace)
 (hval:∀(j:Nat) t v,fn.params[j]? =some t->args[j]? =some v->Value.okWide P W .any base t v)
 (hW:DataW.Whole enc P fn.params.toList s.vars apart W args.toList ds gs before)(hsz:(DataW.weightsEach P (fn.params.toList++s.plain.varTypes P) (ds++gs)).all (·<=reachBytes)=true)(hlay:T.lay W (fun b=>b<W.heap.size)):
 Calls P f args W fun e W'=>∃v,e= .returned v/\s.post enc P fn apart fresh handsOn again W args v W':=by
 have hW':=hW;obtain⟨p,q,hA,hV,rfl,hfz,hnd⟩:=hW;rw[hvars]at hV;obtain⟨rfl,rfl⟩:=trodVars_none hV;obtain⟨ys,hR,hlen,hrb⟩:=hdec W H enc args.toList ds p hA (fun n hn=>by simpa using List.all_eq_true.1 hsz n (weightsEach_app hn)) (fun j t v ht hv=>cF6 (hval j t v (by simpa using ht) Ba))
 obtain⟨hcall,hs⟩:=hspec ys hR
 have hGt:∀b,(bQ W).O b≠ .ext->b<W.heap.size:=fun b hb=>by
  by_cases h:b<W.heap.size
  ·exact h
  ·simp[bQ,h]at hb
 have hGb:∀b i,(bQ W).O b≠ .bx i:=fun b i hb=>by
  by_cases h:b<W.heap.size<;>simp[bQ,h]at hb
 have hGa:∀b j,(bQ W).O b≠ .ar j:=fun b i hb=>by
  by_cases h:b<W.heap.size<;>simp[bQ,h]at hb
 refine(hs W (bQ W) args (by rw[hlen];simp) hGt hGb (fun j v y hv hy=>hrb j j v y Ba hy) (T.lay_mono (fun b hb=>⟨jZ W b hb,rfl⟩) hlay)).mono ?_
 rintro e W' ⟨v,G',rfl,hr,_,_,_,_,hheap,hsize,hos,htape,hout⟩;refine⟨v,rfl,?_⟩;have hv:v= .bool true:=hr.2.bH;subst hv;have hb:Below W.heap.size W W':=⟨hos,htape,hout,hsize,fun k hk=>hheap k hk (hGa k)⟩
 have hlt:∀x∈p,x.block<W.heap.size:=fun x hx=>hW'.lt x BO
 have hdl:ds.length=fn.params.size:=by
  have gen:∀(ts:List TypeId) (vs:List Value) (ds:List (DataW H)) (ps:List MemPlace),DataW.TrodAll enc P W 0 (fun _=>true) true ts vs ds ps->ds.length=ts.length:=by
   intro ts
   induction ts with
   |nil=>intro vs ds ps h;obtain⟨_,rfl,_⟩:=trodAll_nil h;rfl
   |cons t r ih=>
    intro vs ds ps h;obtain⟨v,vs',d,ds',p,q,rfl,rfl,rfl,h1,h2⟩:=trodAll_cons h;simp[ih vs' ds' q h2]
  have:=gen _ _ _ _ hA;simpa using this
 have hfn':=hfn H ds hdl;refine bO3 (pa:=p) (pv:=[]) hW' ?_ ?_ ?_ rfl hb ?_
 ·intro b sp hd
  rw[List.append_nil,hfn',hres];exact trodAll_cons_mk (shut_bool htb true) trodAll_mk0
 ·intro sp hsp
  rw[List.append_nil,hfn'];exact bN8 hl hb _ _ _ _ hts hA (fun x hx=>⟨hlt x hx,hsp x BO⟩)
 ·intro sp _
  rw[List.append_nil,hfn',hvars];rfl
 ·exact ok_one hres rfl (okWide_bool_mk htb true)
end
end Go.Ab
