/-
  The reference's genealogy: what makes a forest right, in plain words.
-/
import Derived.Test.YtdjgbagnajikeaaGreatDoorB18
set_option linter.unusedVariables false
set_option linter.unusedSimpArgs false
set_option maxRecDepth 100000
set_option maxHeartbeats 8000000
noncomputable section
namespace Go.Proofs.Led
open Go Go.Proofs Go.Ab
theorem firstN_got{f:List Node}{n:Int}{y:Node}(h:getN f n=some y):∃i:Nat,firstN f n=i/\f[i]? =some y/\i<f.length:=by
 unfold getN at h;unfold firstN
 cases hi:f.findIdx? (fun x=>decide (x.id=n))with
 |none=>
  have h1:=List.find?_some h;have h2:=List.mem_of_find?_eq_some h
  have:=List.findIdx?_eq_none_iff.1 hi y h2;rw[this]at h1;cases h1
 |some i=>
  obtain⟨hl,h1,h2⟩:=List.findIdx?_eq_some_iff_getElem.1 hi;refine⟨i,rfl,?_,hl⟩;rw[List.find?_eq_some_iff_getElem]at h;obtain⟨h3,j,hj,h4,h5⟩:=h
  have:i=j:=by
   rcases Nat.lt_trichotomy i j with h|h|h
   ·have:=h5 i h
    simp at this h1;exact absurd h1 this
   ·exact h
   ·have:=h2 j h
    rw[h4]at this;simp at this h3;exact absurd h3 this
  subst this;rw[List.getElem?_eq_getElem hl,h4]
theorem firstN_no{f:List Node}{n:Int}(h:getN f n=none):firstN f n= -1:=firstN_none (getN_none.1 h)
def fstOk(f D:List Node)(x:Node):Prop:=1<=x.id/\(∀y,D.getLast?=some y->y.id<x.id)/\ownR x/\(x.parent≠0->∃p,getN f x.parent=some p/\childP x p)
def lfN(x:Node)(l:List Node):Int:=l.foldl (fun a c=>if c.parent=x.id then(if 0<=a then a-c.size else a)else a) (x.size-x.scrap)
def hasN(x:Node)(l:List Node):Bool:=l.any fun c=>decide (c.parent=x.id)
def sndOk(f:List Node)(x:Node):Prop:=climbR f f.length x=true/\(x.gone=true->lfN x f=0)/\(x.gone=false->hasN x f=false)
theorem lf_snoc(x:Node)(D:List Node)(c:Node):lfN x (D++[c])=if c.parent=x.id then(if 0<=lfN x D then lfN x D-c.size else lfN x D)else lfN x D:=by
 unfold lfN;rw[List.foldl_append];rfl
theorem has_snoc(x:Node)(D:List Node)(c:Node):hasN x (D++[c])=(hasN x D||decide (c.parent=x.id)):=by
 unfold hasN;simp
theorem lf_sum(x:Node):∀(l:List Node) (a:Int),(∀c∈l,1<=c.size)->((0<=a->(l.foldl (fun a c=>if c.parent=x.id then(if 0<=a then a-c.size else a)else a) a=0↔ksum l x.id=a))/\(a<0->l.foldl (fun a c=>if c.parent=x.id then(if 0<=a then a-c.size else a)else a) a<0))/\0<=ksum l x.id
 | [],a,_=>by
   refine⟨⟨fun h=>?_,fun h=>h⟩,Int.le_refl _⟩;show a=0↔(0:Int)=a;exact eq_comm
 |c::l,a,h=>by
  have hc:=h c (.head _);have hl:=fun a=>lf_sum x l a (fun d hd=>h d (.tail _ hd))
  have hk:ksum (c::l) x.id=(if c.parent=x.id then c.size else 0)+ksum l x.id:=by
   unfold ksum;rw[List.map_cons,List.sum_cons]
  have hk0:=(hl 0).2;rw[hk,List.foldl_cons];by_cases hp:c.parent=x.id
  ·rw[if_pos hp,if_pos hp]
   refine⟨⟨fun ha=>?_,fun ha=>?_⟩,Aa⟩
   ·rw[if_pos ha]
    rcases Int.lt_or_le (a-c.size) 0 with hn|hn
    ·have:=(hl (a-c.size)).1.2 hn
     constructor
     ·intro e;omega
     ·intro e;omega
    ·have:=(hl (a-c.size)).1.1 hn
     rw[this];constructor<;>intro e<;>omega
   ·rw[if_neg Aa]
    exact(hl a).1.2 ha
  ·rw[if_neg hp,if_neg hp,Int.zero_add]
   exact hl a
theorem right_iff{f:List Node}:RightF f↔(∀D x R,f=D++x::R->fstOk f D x)/\∀x∈f,sndOk f x:=by
 constructor
 ·intro h
  refine⟨fun D x R e=>?_,fun x hx=>⟨h.up x hx,fun hg=>?_,fun hg=>?_⟩⟩
  ·have hx:x∈f:=by rw[e];simp
   have ho:=h.own x hx;have hso:=h.so
   refine⟨ho.1,fun y hy=>?_,?_,fun h0=>?_⟩
   ·obtain⟨D',rfl⟩:∃D',D=D'++[y] :=by
     rcases List.eq_nil_or_concat D with h|⟨D',z,h⟩
     ·rw[h]at hy;cases hy
     ·rw[h]at hy;simp at hy;exact⟨D',by rw[h,hy];simp⟩
    unfold SortN at hso;rw[e,List.map_append]at hso;exact(List.pairwise_append.1 hso).2.2 _ (List.mem_map_of_mem Ae) _ Ae
   ·obtain⟨q1,q2,q3,q4,q5,q6,q7,q8,q9⟩:=ho
    refine⟨q2,q3,q4,q5,q6,?_,fun k=>⟨(q8 k).1,(q8 k).2.1,(q8 k).2.2,q7 (q8 k).2.2⟩,fun k=>⟨q9 k,?_⟩⟩
    ·rcases Int.lt_trichotomy x.parent 0 with hn|hn|hn
     ·obtain⟨p,hp,_⟩:=h.par x hx Aa
      obtain⟨p1,p2⟩:=getN_mem hp;have:=(h.own p p1).1;omega
     ·omega
     ·omega
    ·cases hg:x.gone with
     |true=>exact .inl rfl
     |false=>exact .inr (q7 hg)
   ·obtain⟨p,hp,hl⟩:=h.par x hx h0
    obtain⟨p1,_⟩:=getN_mem hp;obtain⟨l1,l2,l3,l4⟩:=hl;have hop:=h.own p p1;exact⟨p,hp,l1,(fun k=>by have:=(hop.2.2.2.2.2.2.2.1 k).2.2;rw[l1]at this;exact absurd this Ae),l4,l2.symm,l3.symm⟩
  ·have ho:=h.own x hx
   have hs:=fun c hc=>(h.own c hc).2.2.2.1;exact((lf_sum x f (x.size-x.scrap) hs).1.1 (by have:=ho.2.2.2.2.2.1;omega)).2 (h.sum x hx hg)
  ·unfold hasN
   rw[List.any_eq_false];intro c hc e;have e':c.parent=x.id:=by simpa using e
   obtain⟨p,hp,hl⟩:=h.par c hc (by have:=(h.own x hx).1;omega)
   obtain⟨p1,p2⟩:=getN_mem hp;have:=bB9 h.so p1 hx Aa;rw[this]at hl;have hl1:=hl.1
   rw[hg]at hl1;exact absurd hl1 Ae
 ·rintro⟨h1,h2⟩
  have hof:∀x∈f,∃D R,f=D++x::R:=fun x hx=>by
   exact O1
  have hown:∀x∈f,ownP x:=fun x hx=>by
   obtain⟨D,R,e⟩:=hof x hx;obtain⟨a1,_,⟨q2,q3,q4,q5,q6,q7,q8,q9⟩,_⟩:=h1 D x R e;refine⟨a1,q2,q3,q4,q5,q6,fun hg=>?_,fun k=>⟨(q8 k).1,(q8 k).2.1,(q8 k).2.2.1⟩,fun k=>(q9 k).1⟩;by_cases hk:x.kind=3
   ·exact(q8 hk).2.2.2
   ·rcases(q9 hk).2 with e|e
    ·rw[hg]at e;cases e
    ·exact e
  refine⟨hown,?_,fun x hx h0=>?_,fun x hx=>(h2 x hx).1,fun x hx hg=>?_⟩
  ·exact GZ
  ·obtain⟨D,R,e⟩:=hof x hx
   obtain⟨p,hp,c1,c2,c3,c4,c5⟩:=(h1 D x R e).2.2.2 h0;exact⟨p,hp,c1,c4.symm,c5.symm,c3⟩
  ·have ho:=hown x hx
   have hs:=fun c hc=>(hown c hc).2.2.2.1;exact((lf_sum x f (x.size-x.scrap) hs).1.1 (by have:=ho.2.2.2.2.2.1;omega)).1 ((h2 x hx).2.1 hg)
theorem fst_facts{f:List Node}(h1:∀D x R,f=D++x::R->fstOk f D x):SortN f/\ParE f/\∀x∈f,ownR x:=by
 have hof:∀x∈f,∃D R,f=D++x::R:=fun x hx=>by
  obtain⟨D,R,e⟩:=List.append_of_mem hx
  exact⟨D,R,e⟩
 refine⟨?_,fun x hx h0=>?_,fun x hx=>?_⟩
 ·have key:∀(R D:List Node),f=D++R->(D.map Node.id).Pairwise (·<·)->(f.map Node.id).Pairwise (·<·):=fun R=>by
   induction R with
   |nil=>intro D e hD;rw[e,List.append_nil];exact hD
   |cons x R ih=>
    intro D e hD
    refine ih (D++[x]) (by rw[e];simp) ?_
    rw[List.map_append,List.pairwise_append]
    refine⟨hD,by simp,fun a ha b hb=>?_⟩
    obtain⟨y,hy,rfl⟩:=List.mem_map.1 ha
    simp only[List.map_cons,List.map_nil,List.mem_singleton]at hb
    subst hb
    have hl:=(h1 D x R e).2.1
    rcases List.eq_nil_or_concat D with hn|⟨D',z,hn⟩
    ·rw[hn]at hy;cases hy
    ·have hz:=hl z (by rw[hn];simp)
     rw[hn,List.concat_eq_append]at hy hD
     rcases List.mem_append.1 hy with hy|hy
     ·rw[List.map_append,List.pairwise_append]at hD
      have:=hD.2.2 y.id (List.mem_map_of_mem hy) z.id (by simp)
      omega
     ·rw[List.mem_singleton.1 hy]
      exact hz
  exact key f [] rfl (by simp)
 ·obtain⟨D,R,e⟩:=hof x hx
  obtain⟨p,hp,_⟩:=(h1 D x R e).2.2.2 h0
  exact⟨p,hp⟩
 ·obtain⟨D,R,e⟩:=hof x hx
  exact(h1 D x R e).2.2.1
theorem lf_range(x:Node):∀(l:List Node) (a:Int),(∀c∈l,1<=c.size/\c.size<=9223372036854775807)->-9223372036854775807<=a->-9223372036854775807<=l.foldl (fun a c=>if c.parent=x.id then(if 0<=a then a-c.size else a)else a) a/\l.foldl (fun a c=>if c.parent=x.id then(if 0<=a then a-c.size else a)else a) a<=a
 | [],a,_,h=>⟨h,Int.le_refl _⟩
 |c::l,a,hc,h=>by
  have h1:=hc c (.head _)
  rw[List.foldl_cons]
  have:=lf_range x l (if c.parent=x.id then(if 0<=a then a-c.size else a)else a) (fun d hd=>hc d (.tail _ hd)) (by split;split<;>omega;exact h)
  refine⟨this.1,Int.le_trans this.2 ?_⟩
  split
  ·split<;>omega
  ·exact Int.le_refl _
theorem getLast_snoc{D:List Node}{x:Node}:(D++[x]).getLast?=some x:=by simp
theorem rrightF_vc(f:List Node)(hl:f.length<=1000000)(hz:SzN f):fnVC T Tryz.prog Tryz.f31 [.sl (f.map nodeV)] (DB (RightF f)):=by
 have hml:(f.map nodeV).length=f.length:=by simp
 have hri:=right_iff (f:=f)
 generalize hP:RightF f=P at*
 repeat' ((conv=>whnf);first
  |(exfalso;omega)
  |refine eY7 ?_
  |refine eZ1 (by kernel_rfl) ?_
  |refine eH4 (by omega) ?_
  |refine bW7 ?_
  |refine fU (p:=(T.row _).eq=true) (by kernel_rfl) ?_
  |refine fU (by omega) ?_
  |refine fU rfl ?_
  |refine eZ2 ?_
  |refine eZ0 (fun hd=>?_) (fun hd=>?_)
  |refine br_lt (fun hlt=>?_) (fun hlt=>?_)
  |refine br_le (fun hle=>?_) (fun hle=>?_)
  |refine eV7 (fun heq=>?_) (fun heq=>?_)
  |refine eQ9 (by omega) (fun x hx=>?_)
  |refine eY0 rfl (fun h=>by cases h) ?_
  |refine jU (fun hbb=>?_) (fun hbb=>?_)
  |refine ret_i ?_
  |refine fA7 ?_)
 refine aU (A:=List Node) (B:=List Node) (fun D R=>mkSt [(0, .sl (f.map nodeV)),(3,I D.length)] [] []) (fun D R=>f=D++R/\∀D1 x R1,f=D1++x::R1->D1.length<D.length->fstOk f D1 x) (fun D R=>R.length) [] f ?_ ⟨rfl,fun _ _ _ _ h=>by cases h⟩ (fun D R hp=>?_)
 ·refine dV ?_ ?_ ?_ ?_
  all_goals repeat' (first|exact trivial|refine And.intro ?_ ?_|with_reducible rfl|exact(fun h=>by cases h)|exact Nat.le_refl _|omega|exact rfl)
 obtain⟨hp,hD⟩:=hp
 cases R with
 |cons x R=>
  have hlen:=aO hp
  have hx:x∈f:=by rw[hp];simp
  have ho:=rownN_spec x
  have hfi:=rfind_spec f x.parent hl
  have hno:P->fstOk f D x:=fun h=>(hri.1 h).1 D x R hp
  have hyes:fstOk f D x->∀D1 z R1,f=D1++z::R1->D1.length< (D++[x]).length->fstOk f D1 z:=fun hk D1 z R1 e hlt=>by
   rcases Nat.lt_or_ge D1.length D.length with h|h
   ·exact hD D1 z R1 e h
   ·have hlen:D1.length=D.length:=by simp at hlt;omega
    rw[hp]at e
    obtain⟨rfl,e2⟩:=List.append_inj e hlen.symm
    cases e2
    exact hk
  clear hD hri
  have hfo:fstOk f D x↔1<=x.id/\(∀y,D.getLast?=some y->y.id<x.id)/\ownR x/\(x.parent≠0->∃p,getN f x.parent=some p/\childP x p):=Iff.rfl
  generalize fstOk f D x=F at*
  rcases List.eq_nil_or_concat D with hDn|⟨D',y,hDn⟩
  ·have hD0:D.length=0:=by rw[hDn];rfl
   have hL:(∀y,D.getLast?=some y->y.id<x.id)↔True:=by rw[hDn];simp
   rw[hL]at hfo
   clear hL
   by_cases h0:x.parent=0
   ·rw[show(x.parent≠0->∃p,getN f x.parent=some p/\childP x p)↔True from⟨fun _=>trivial,fun _ h=>absurd h0 h⟩]at hfo
    generalize ownR x=ow at*
    repeat' ((conv=>whnf);first
     |(exfalso;contradiction)
     |(exfalso;omega)
     |refine aB (l:=f) (by omega) ?_
     |refine aF (l:=f) (A:=D) (x:=x) (B:=R) hp (by omega) ?_
     |refine bW8 [] [(40,[88888])] trivial (by decide+kernel) ?_
     |refine bW8 [] [(58,[88888])] trivial (by decide+kernel) ?_
     |(refine aS5 (ho) false ?_ rfl ?_;focus ((repeat' (first|exact trivial|refine And.intro ?_ ?_|with_reducible rfl|exact(fun h=>by cases h)|exact rfl));done))
     |refine eY7 ?_
     |refine eZ1 (by kernel_rfl) ?_
     |refine eH4 (by omega) ?_
     |refine bW7 ?_
     |refine fU (p:=(T.row _).eq=true) (by kernel_rfl) ?_
     |refine fU (by omega) ?_
     |refine fU rfl ?_
     |refine eZ2 ?_
     |refine eZ0 (fun hd=>?_) (fun hd=>?_)
     |refine br_lt (fun hlt=>?_) (fun hlt=>?_)
     |refine br_le (fun hle=>?_) (fun hle=>?_)
     |refine eV7 (fun heq=>?_) (fun heq=>?_)
     |refine eQ9 (by omega) (fun x hx=>?_)
     |refine eY0 rfl (fun h=>by cases h) ?_
     |refine jU (fun hbb=>?_) (fun hbb=>?_)
     |refine ret_i ?_
     |refine fA7 ?_)
    all_goals conv=>whnf
    all_goals first
     |(refine aA (aC fun hh=>?_);have hq:=hfo.1 (hno hh);first|omega|exact absurd hq.2.2.1 (by assumption)|exact hq.2.2.2|exact absurd hq.2.2.2 (by assumption))
     |(refine⟨(D++[x],R),?_,⟨by rw[hp];simp,hyes (hfo.2 ⟨by omega,trivial,by assumption,trivial⟩)⟩,by simp⟩
       simp only[List.length_append,List.length_singleton]
       show Le T _ (mkSt [(0, .sl (f.map nodeV)),(3,I ((D.length:Int)+1))] [] [])
       refine dV ?_ ?_ ?_ ?_
       all_goals repeat' (first|exact trivial|refine And.intro ?_ ?_|with_reducible rfl|exact(fun h=>by cases h)|exact Nat.le_refl _|omega|exact rfl)
       done)
   ·cases hgp:getN f x.parent with
    |none=>
     rw[show(x.parent≠0->∃p,getN f x.parent=some p/\childP x p)↔False from⟨fun h=>(by obtain⟨p,hp,_⟩:=h h0;rw[hgp]at hp;cases hp),fun h=>h.elim⟩]at hfo
     rw[firstN_no hgp]at hfi
     generalize ownR x=ow at*
     repeat' ((conv=>whnf);first
      |(exfalso;contradiction)
      |(exfalso;omega)
      |refine aB (l:=f) (by omega) ?_
      |refine aF (l:=f) (A:=D) (x:=x) (B:=R) hp (by omega) ?_
      |refine bW8 [] [(40,[88888])] trivial (by decide+kernel) ?_
      |refine bW8 [] [(58,[88888])] trivial (by decide+kernel) ?_
      |(refine aS5 (ho) false ?_ rfl ?_;focus ((repeat' (first|exact trivial|refine And.intro ?_ ?_|with_reducible rfl|exact(fun h=>by cases h)|exact rfl));done))
      |(refine aS5 (hfi) false ?_ rfl ?_;focus ((repeat' (first|exact trivial|refine And.intro ?_ ?_|with_reducible rfl|exact(fun h=>by cases h)|exact rfl));done))
      |refine eY7 ?_
      |refine eZ1 (by kernel_rfl) ?_
      |refine eH4 (by omega) ?_
      |refine bW7 ?_
      |refine fU (p:=(T.row _).eq=true) (by kernel_rfl) ?_
      |refine fU (by omega) ?_
      |refine fU rfl ?_
      |refine eZ2 ?_
      |refine eZ0 (fun hd=>?_) (fun hd=>?_)
      |refine br_lt (fun hlt=>?_) (fun hlt=>?_)
      |refine br_le (fun hle=>?_) (fun hle=>?_)
      |refine eV7 (fun heq=>?_) (fun heq=>?_)
      |refine eQ9 (by omega) (fun x hx=>?_)
      |refine eY0 rfl (fun h=>by cases h) ?_
      |refine jU (fun hbb=>?_) (fun hbb=>?_)
      |refine ret_i ?_
      |refine fA7 ?_)
     all_goals conv=>whnf
     all_goals first
      |(refine aA (aC fun hh=>?_);have hq:=hfo.1 (hno hh);first|omega|exact absurd hq.2.2.1 (by assumption)|exact hq.2.2.2|exact absurd hq.2.2.2 (by assumption))
      |(refine⟨(D++[x],R),?_,⟨by rw[hp];simp,hyes (hfo.2 ⟨by omega,trivial,by assumption,by assumption⟩)⟩,by simp⟩
        simp only[List.length_append,List.length_singleton]
        show Le T _ (mkSt [(0, .sl (f.map nodeV)),(3,I ((D.length:Int)+1))] [] [])
        refine dV ?_ ?_ ?_ ?_
        all_goals repeat' (first|exact trivial|refine And.intro ?_ ?_|with_reducible rfl|exact(fun h=>by cases h)|exact Nat.le_refl _|omega|exact rfl)
        done)
    |some p=>
     rw[show(x.parent≠0->∃p,getN f x.parent=some p/\childP x p)↔childP x p from⟨fun h=>by obtain⟨p',hp,hc⟩:=h h0;rw[hgp]at hp;cases hp;exact hc,fun h _=>⟨p,hgp,h⟩⟩]at hfo
     obtain⟨j,hj,hg,hjl⟩:=firstN_got hgp
     rw[hj]at hfi
     have hch:=rchild_spec x p
     generalize childP x p=cp at*
     generalize ownR x=ow at*
     repeat' ((conv=>whnf);first
      |(exfalso;contradiction)
      |(exfalso;omega)
      |refine aB (l:=f) (by omega) ?_
      |refine aF (l:=f) (A:=D) (x:=x) (B:=R) hp (by omega) ?_
      |refine gK (l:=f) hg (by omega) ?_
      |refine bW8 [] [(40,[88888])] trivial (by decide+kernel) ?_
      |refine bW8 [] [(58,[88888])] trivial (by decide+kernel) ?_
      |(refine aS5 (ho) false ?_ rfl ?_;focus ((repeat' (first|exact trivial|refine And.intro ?_ ?_|with_reducible rfl|exact(fun h=>by cases h)|exact rfl));done))
      |(refine aS5 (hfi) false ?_ rfl ?_;focus ((repeat' (first|exact trivial|refine And.intro ?_ ?_|with_reducible rfl|exact(fun h=>by cases h)|exact rfl));done))
      |(refine aS5 (hch) false ?_ rfl ?_;focus ((repeat' (first|exact trivial|refine And.intro ?_ ?_|with_reducible rfl|exact(fun h=>by cases h)|exact rfl));done))
      |refine eY7 ?_
      |refine eZ1 (by kernel_rfl) ?_
      |refine eH4 (by omega) ?_
      |refine bW7 ?_
      |refine fU (p:=(T.row _).eq=true) (by kernel_rfl) ?_
      |refine fU (by omega) ?_
      |refine fU rfl ?_
      |refine eZ2 ?_
      |refine eZ0 (fun hd=>?_) (fun hd=>?_)
      |refine br_lt (fun hlt=>?_) (fun hlt=>?_)
      |refine br_le (fun hle=>?_) (fun hle=>?_)
      |refine eV7 (fun heq=>?_) (fun heq=>?_)
      |refine eQ9 (by omega) (fun x hx=>?_)
      |refine eY0 rfl (fun h=>by cases h) ?_
      |refine jU (fun hbb=>?_) (fun hbb=>?_)
      |refine ret_i ?_
      |refine fA7 ?_)
     all_goals conv=>whnf
     all_goals first
      |(refine aA (aC fun hh=>?_);have hq:=hfo.1 (hno hh);first|omega|exact absurd hq.2.2.1 (by assumption)|exact hq.2.2.2|exact absurd hq.2.2.2 (by assumption))
      |(refine⟨(D++[x],R),?_,⟨by rw[hp];simp,hyes (hfo.2 ⟨by omega,trivial,by assumption,by assumption⟩)⟩,by simp⟩
        simp only[List.length_append,List.length_singleton]
        show Le T _ (mkSt [(0, .sl (f.map nodeV)),(3,I ((D.length:Int)+1))] [] [])
        refine dV ?_ ?_ ?_ ?_
        all_goals repeat' (first|exact trivial|refine And.intro ?_ ?_|with_reducible rfl|exact(fun h=>by cases h)|exact Nat.le_refl _|omega|exact rfl)
        done)
  ·have hD0:D.length=D'.length+1:=by rw[hDn];simp
   have hL:(∀y,D.getLast?=some y->y.id<x.id)↔y.id<x.id:=by rw[hDn];simp
   rw[hL]at hfo
   clear hL
   by_cases h0:x.parent=0
   ·rw[show(x.parent≠0->∃p,getN f x.parent=some p/\childP x p)↔True from⟨fun _=>trivial,fun _ h=>absurd h0 h⟩]at hfo
    generalize ownR x=ow at*
    repeat' ((conv=>whnf);first
     |(exfalso;contradiction)
     |(exfalso;omega)
     |refine aB (l:=f) (by omega) ?_
     |refine aF (l:=f) (A:=D) (x:=x) (B:=R) hp (by omega) ?_
     |refine aF (l:=f) (A:=D') (x:=y) (B:=x::R) (by rw[hp,hDn];simp) (by omega) ?_
     |refine bW8 [] [(40,[88888])] trivial (by decide+kernel) ?_
     |refine bW8 [] [(58,[88888])] trivial (by decide+kernel) ?_
     |(refine aS5 (ho) false ?_ rfl ?_;focus ((repeat' (first|exact trivial|refine And.intro ?_ ?_|with_reducible rfl|exact(fun h=>by cases h)|exact rfl));done))
     |refine eY7 ?_
     |refine eZ1 (by kernel_rfl) ?_
     |refine eH4 (by omega) ?_
     |refine bW7 ?_
     |refine fU (p:=(T.row _).eq=true) (by kernel_rfl) ?_
     |refine fU (by omega) ?_
     |refine fU rfl ?_
     |refine eZ2 ?_
     |refine eZ0 (fun hd=>?_) (fun hd=>?_)
     |refine br_lt (fun hlt=>?_) (fun hlt=>?_)
     |refine br_le (fun hle=>?_) (fun hle=>?_)
     |refine eV7 (fun heq=>?_) (fun heq=>?_)
     |refine eQ9 (by omega) (fun x hx=>?_)
     |refine eY0 rfl (fun h=>by cases h) ?_
     |refine jU (fun hbb=>?_) (fun hbb=>?_)
     |refine ret_i ?_
     |refine fA7 ?_)
    all_goals conv=>whnf
    all_goals first
     |(refine aA (aC fun hh=>?_);have hq:=hfo.1 (hno hh);first|omega|exact absurd hq.2.2.1 (by assumption)|exact hq.2.2.2|exact absurd hq.2.2.2 (by assumption))
     |(refine⟨(D++[x],R),?_,⟨by rw[hp];simp,hyes (hfo.2 ⟨by omega,by omega,by assumption,trivial⟩)⟩,by simp⟩
       simp only[List.length_append,List.length_singleton]
       show Le T _ (mkSt [(0, .sl (f.map nodeV)),(3,I ((D.length:Int)+1))] [] [])
       refine dV ?_ ?_ ?_ ?_
       all_goals repeat' (first|exact trivial|refine And.intro ?_ ?_|with_reducible rfl|exact(fun h=>by cases h)|exact Nat.le_refl _|omega|exact rfl)
       done)
   ·cases hgp:getN f x.parent with
    |none=>
     rw[show(x.parent≠0->∃p,getN f x.parent=some p/\childP x p)↔False from⟨fun h=>(by obtain⟨p,hp,_⟩:=h h0;rw[hgp]at hp;cases hp),fun h=>h.elim⟩]at hfo
     rw[firstN_no hgp]at hfi
     generalize ownR x=ow at*
     repeat' ((conv=>whnf);first
      |(exfalso;contradiction)
      |(exfalso;omega)
      |refine aB (l:=f) (by omega) ?_
      |refine aF (l:=f) (A:=D) (x:=x) (B:=R) hp (by omega) ?_
      |refine aF (l:=f) (A:=D') (x:=y) (B:=x::R) (by rw[hp,hDn];simp) (by omega) ?_
      |refine bW8 [] [(40,[88888])] trivial (by decide+kernel) ?_
      |refine bW8 [] [(58,[88888])] trivial (by decide+kernel) ?_
      |(refine aS5 (ho) false ?_ rfl ?_;focus ((repeat' (first|exact trivial|refine And.intro ?_ ?_|with_reducible rfl|exact(fun h=>by cases h)|exact rfl));done))
      |(refine aS5 (hfi) false ?_ rfl ?_;focus ((repeat' (first|exact trivial|refine And.intro ?_ ?_|with_reducible rfl|exact(fun h=>by cases h)|exact rfl));done))
      |refine eY7 ?_
      |refine eZ1 (by kernel_rfl) ?_
      |refine eH4 (by omega) ?_
      |refine bW7 ?_
      |refine fU (p:=(T.row _).eq=true) (by kernel_rfl) ?_
      |refine fU (by omega) ?_
      |refine fU rfl ?_
      |refine eZ2 ?_
      |refine eZ0 (fun hd=>?_) (fun hd=>?_)
      |refine br_lt (fun hlt=>?_) (fun hlt=>?_)
      |refine br_le (fun hle=>?_) (fun hle=>?_)
      |refine eV7 (fun heq=>?_) (fun heq=>?_)
      |refine eQ9 (by omega) (fun x hx=>?_)
      |refine eY0 rfl (fun h=>by cases h) ?_
      |refine jU (fun hbb=>?_) (fun hbb=>?_)
      |refine ret_i ?_
      |refine fA7 ?_)
     all_goals conv=>whnf
     all_goals first
      |(refine aA (aC fun hh=>?_);have hq:=hfo.1 (hno hh);first|omega|exact absurd hq.2.2.1 (by assumption)|exact hq.2.2.2|exact absurd hq.2.2.2 (by assumption))
      |(refine⟨(D++[x],R),?_,⟨by rw[hp];simp,hyes (hfo.2 ⟨by omega,by omega,by assumption,by assumption⟩)⟩,by simp⟩
        simp only[List.length_append,List.length_singleton]
        show Le T _ (mkSt [(0, .sl (f.map nodeV)),(3,I ((D.length:Int)+1))] [] [])
        refine dV ?_ ?_ ?_ ?_
        all_goals repeat' (first|exact trivial|refine And.intro ?_ ?_|with_reducible rfl|exact(fun h=>by cases h)|exact Nat.le_refl _|omega|exact rfl)
        done)
    |some p=>
     rw[show(x.parent≠0->∃p,getN f x.parent=some p/\childP x p)↔childP x p from⟨fun h=>by obtain⟨p',hp,hc⟩:=h h0;rw[hgp]at hp;cases hp;exact hc,fun h _=>⟨p,hgp,h⟩⟩]at hfo
     obtain⟨j,hj,hg,hjl⟩:=firstN_got hgp
     rw[hj]at hfi
     have hch:=rchild_spec x p
     generalize childP x p=cp at*
     generalize ownR x=ow at*
     repeat' ((conv=>whnf);first
      |(exfalso;contradiction)
      |(exfalso;omega)
      |refine aB (l:=f) (by omega) ?_
      |refine aF (l:=f) (A:=D) (x:=x) (B:=R) hp (by omega) ?_
      |refine aF (l:=f) (A:=D') (x:=y) (B:=x::R) (by rw[hp,hDn];simp) (by omega) ?_
      |refine gK (l:=f) hg (by omega) ?_
      |refine bW8 [] [(40,[88888])] trivial (by decide+kernel) ?_
      |refine bW8 [] [(58,[88888])] trivial (by decide+kernel) ?_
      |(refine aS5 (ho) false ?_ rfl ?_;focus ((repeat' (first|exact trivial|refine And.intro ?_ ?_|with_reducible rfl|exact(fun h=>by cases h)|exact rfl));done))
      |(refine aS5 (hfi) false ?_ rfl ?_;focus ((repeat' (first|exact trivial|refine And.intro ?_ ?_|with_reducible rfl|exact(fun h=>by cases h)|exact rfl));done))
      |(refine aS5 (hch) false ?_ rfl ?_;focus ((repeat' (first|exact trivial|refine And.intro ?_ ?_|with_reducible rfl|exact(fun h=>by cases h)|exact rfl));done))
      |refine eY7 ?_
      |refine eZ1 (by kernel_rfl) ?_
      |refine eH4 (by omega) ?_
      |refine bW7 ?_
      |refine fU (p:=(T.row _).eq=true) (by kernel_rfl) ?_
      |refine fU (by omega) ?_
      |refine fU rfl ?_
      |refine eZ2 ?_
      |refine eZ0 (fun hd=>?_) (fun hd=>?_)
      |refine br_lt (fun hlt=>?_) (fun hlt=>?_)
      |refine br_le (fun hle=>?_) (fun hle=>?_)
      |refine eV7 (fun heq=>?_) (fun heq=>?_)
      |refine eQ9 (by omega) (fun x hx=>?_)
      |refine eY0 rfl (fun h=>by cases h) ?_
      |refine jU (fun hbb=>?_) (fun hbb=>?_)
      |refine ret_i ?_
      |refine fA7 ?_)
     all_goals conv=>whnf
     all_goals first
      |(refine aA (aC fun hh=>?_);have hq:=hfo.1 (hno hh);first|omega|exact absurd hq.2.2.1 (by assumption)|exact hq.2.2.2|exact absurd hq.2.2.2 (by assumption))
      |(refine⟨(D++[x],R),?_,⟨by rw[hp];simp,hyes (hfo.2 ⟨by omega,by omega,by assumption,by assumption⟩)⟩,by simp⟩
        simp only[List.length_append,List.length_singleton]
        show Le T _ (mkSt [(0, .sl (f.map nodeV)),(3,I ((D.length:Int)+1))] [] [])
        refine dV ?_ ?_ ?_ ?_
        all_goals repeat' (first|exact trivial|refine And.intro ?_ ?_|with_reducible rfl|exact(fun h=>by cases h)|exact Nat.le_refl _|omega|exact rfl)
        done)
 |nil=>
  rw[List.append_nil]at hp
  subst hp
  have h1:∀D x R,f=D++x::R->fstOk f D x:=fun D x R e=>hD D x R e (by rw[e];simp)
  obtain⟨hso,hpar,hown⟩:=fst_facts h1
  have hP2:P↔∀x∈f,sndOk f x:=⟨fun h=>(hri.1 h).2,fun h=>hri.2 ⟨h1,h⟩⟩
  have hszs:∀c∈f,1<=c.size/\c.size<=9223372036854775807:=fun c hc=>⟨(hown c hc).2.2.1,hz c hc⟩
  clear hri h1 hD
  repeat' ((conv=>whnf);first
   |(exfalso;omega)
   |refine eY7 ?_
   |refine eZ1 (by kernel_rfl) ?_
   |refine eH4 (by omega) ?_
   |refine bW7 ?_
   |refine fU (p:=(T.row _).eq=true) (by kernel_rfl) ?_
   |refine fU (by omega) ?_
   |refine fU rfl ?_
   |refine eZ2 ?_
   |refine eZ0 (fun hd=>?_) (fun hd=>?_)
   |refine br_lt (fun hlt=>?_) (fun hlt=>?_)
   |refine br_le (fun hle=>?_) (fun hle=>?_)
   |refine eV7 (fun heq=>?_) (fun heq=>?_)
   |refine eQ9 (by omega) (fun x hx=>?_)
   |refine eY0 rfl (fun h=>by cases h) ?_
   |refine jU (fun hbb=>?_) (fun hbb=>?_)
   |refine ret_i ?_
   |refine fA7 ?_)
  refine aU (A:=List Node) (B:=List Node) (fun D R=>mkSt [(0, .sl (f.map nodeV)),(6,I D.length)] [] []) (fun D R=>f=D++R/\∀z∈D,sndOk f z) (fun D R=>R.length) [] f ?_ ⟨rfl,by simp⟩ (fun D R hp=>?_)
  ·refine dV ?_ ?_ ?_ ?_
   all_goals repeat' (first|exact trivial|refine And.intro ?_ ?_|with_reducible rfl|exact(fun h=>by cases h)|exact Nat.le_refl _|omega|exact rfl)
  obtain⟨hp,hD⟩:=hp
  cases R with
  |nil=>
   have hPt:P:=hP2.2 (fun x hx=>hD x (by rw[hp,List.append_nil]at hx;exact hx))
   have hlen:f.length=D.length:=by rw[hp];simp
   repeat' ((conv=>whnf);first
    |(exfalso;omega)
    |refine eY7 ?_
    |refine eZ1 (by kernel_rfl) ?_
    |refine eH4 (by omega) ?_
    |refine bW7 ?_
    |refine fU (p:=(T.row _).eq=true) (by kernel_rfl) ?_
    |refine fU (by omega) ?_
    |refine fU rfl ?_
    |refine eZ2 ?_
    |refine eZ0 (fun hd=>?_) (fun hd=>?_)
    |refine br_lt (fun hlt=>?_) (fun hlt=>?_)
    |refine br_le (fun hle=>?_) (fun hle=>?_)
    |refine eV7 (fun heq=>?_) (fun heq=>?_)
    |refine eQ9 (by omega) (fun x hx=>?_)
    |refine eY0 rfl (fun h=>by cases h) ?_
    |refine jU (fun hbb=>?_) (fun hbb=>?_)
    |refine ret_i ?_
    |refine fA7 ?_)
   all_goals conv=>whnf
   exact aA (fE hPt)
  |cons x R=>
   have hlen:=aO hp
   have hx:x∈f:=by rw[hp];simp
   have hpa:=rpath_spec f x hl hso hpar hx
   obtain⟨o1,o2,o3,o4,o5,o6,o7,o8⟩:=hown x hx
   have hxs:=hz x hx
   by_cases hcl:climbR f f.length x=true
   ·have hL:rpV f x= .sl ((((chN f x).map Node.id).reverse).map I):=by unfold rpV;rw[if_pos hcl]
    have hLl:1<=((((chN f x).map Node.id).reverse).map I).length:=by have:=ch_pos (f:=f) (x:=x);simpa using this
    rw[hL]at hpa
    generalize (((chN f x).map Node.id).reverse).map I=L at*
    repeat' ((conv=>whnf);first
     |(exfalso;contradiction)
     |(exfalso;omega)
     |refine aB (l:=f) (by omega) ?_
     |refine aF (l:=f) (A:=D) (x:=x) (B:=R) hp (by omega) ?_
     |(refine aS5 (hpa) false ?_ rfl ?_;focus ((repeat' (first|exact trivial|refine And.intro ?_ ?_|with_reducible rfl|exact(fun h=>by cases h)|exact rfl));done))
     |refine eY7 ?_
     |refine eZ1 (by kernel_rfl) ?_
     |refine eH4 (by omega) ?_
     |refine bW7 ?_
     |refine fU (p:=(T.row _).eq=true) (by kernel_rfl) ?_
     |refine fU (by omega) ?_
     |refine fU rfl ?_
     |refine eZ2 ?_
     |refine eZ0 (fun hd=>?_) (fun hd=>?_)
     |refine br_lt (fun hlt=>?_) (fun hlt=>?_)
     |refine br_le (fun hle=>?_) (fun hle=>?_)
     |refine eV7 (fun heq=>?_) (fun heq=>?_)
     |refine eQ9 (by omega) (fun x hx=>?_)
     |refine eY0 rfl (fun h=>by cases h) ?_
     |refine jU (fun hbb=>?_) (fun hbb=>?_)
     |refine ret_i ?_
     |refine fA7 ?_)
    refine aU (A:=List Node) (B:=List Node) (fun D2 R2=>mkSt [(0, .sl (f.map nodeV)),(6,I D.length),(7,I (lfN x D2)),(8, .lit (.bool (hasN x D2))),(9,I D2.length)] [] []) (fun D2 R2=>f=D2++R2) (fun D2 R2=>R2.length) [] f ?_ rfl (fun D2 R2 hp2=>?_)
    ·show Le T _ (mkSt [(0, .sl (f.map nodeV)),(6,I D.length),(7,I (x.size-x.scrap)),(8, .lit (.bool false)),(9,I 0)] [] [])
     refine dV ?_ ?_ ?_ ?_
     all_goals repeat' (first|exact trivial|refine And.intro ?_ ?_|with_reducible rfl|exact(fun h=>by cases h)|exact Nat.le_refl _|omega|exact rfl)
    cases R2 with
    |nil=>
     rw[List.append_nil]at hp2
     subst hp2
     have hs:sndOk f x↔climbR f f.length x=true/\(x.gone=true->lfN x f=0)/\(x.gone=false->hasN x f=false):=Iff.rfl
     have hnP:¬sndOk f x->¬P:=fun h hP=>h (hP2.1 hP x hx)
     have hDx:sndOk f x->∀z∈D++[x],sndOk f z:=fun h z hz=>by
      rcases List.mem_append.1 hz with hz|hz
      ·exact hD z hz
      ·rw[List.mem_singleton.1 hz];exact h
     simp only[hcl,true_and]at hs
     generalize lfN x f=a at*
     generalize hasN x f=b at*
     generalize hG:sndOk f x=q at*
     clear hD
     cases hgo:x.gone
     all_goals cases b
     all_goals simp only[hgo,reduceCtorEq,false_implies,true_implies,true_and,and_true,iff_true,iff_false]at hs
     all_goals repeat' ((conv=>whnf);first
      |(exfalso;contradiction)
      |(exfalso;omega)
      |refine aB (l:=f) (by omega) ?_
      |refine aF (l:=f) (A:=D) (x:=x) (B:=R) hp (by omega) ?_
      |refine eY7 ?_
      |refine eZ1 (by kernel_rfl) ?_
      |refine eH4 (by omega) ?_
      |refine bW7 ?_
      |refine fU (p:=(T.row _).eq=true) (by kernel_rfl) ?_
      |refine fU (by omega) ?_
      |refine fU rfl ?_
      |refine eZ2 ?_
      |refine eZ0 (fun hd=>?_) (fun hd=>?_)
      |refine br_lt (fun hlt=>?_) (fun hlt=>?_)
      |refine br_le (fun hle=>?_) (fun hle=>?_)
      |refine eV7 (fun heq=>?_) (fun heq=>?_)
      |refine eQ9 (by omega) (fun x hx=>?_)
      |refine eY0 rfl (fun h=>by cases h) ?_
      |refine jU (fun hbb=>?_) (fun hbb=>?_)
      |refine ret_i ?_
      |refine fA7 ?_)
     all_goals conv=>whnf
     all_goals first
      |exact absurd (hgo.symm.trans ‹x.gone=true›) (by decide)
      |exact absurd (hgo.symm.trans ‹x.gone=false›) (by decide)
      |exact aA (aC (hnP hs))
      |exact aA (aC (hnP fun hq=>absurd (hs.1 hq) (by assumption)))
      |(refine⟨(D++[x],R),?_,⟨by rw[hp];simp,hDx (by first|exact hs|exact hs.2 (by assumption))⟩,by simp⟩
        simp only[List.length_append,List.length_singleton]
        show Le T _ (mkSt [(0, .sl (f.map nodeV)),(6,I ((D.length:Int)+1))] [] [])
        refine dV ?_ ?_ ?_ ?_
        all_goals repeat' (first|exact trivial|refine And.intro ?_ ?_|with_reducible rfl|exact(fun h=>by cases h)|exact Nat.le_refl _|omega|exact rfl)
        done)
    |cons c R2=>
     have hlen2:=aO hp2
     have hc:c∈f:=by rw[hp2];simp
     have hcs:=hszs c hc
     have hlf:=lf_snoc x D2 c
     have hhs:=has_snoc x D2 c
     have hlr:=lf_range x D2 (x.size-x.scrap) (fun d hd=>hszs d (by rw[hp2];simp[hd])) (by omega)
     have hlr': -9223372036854775807<=lfN x D2/\lfN x D2<=x.size-x.scrap:=hlr
     clear hlr
     generalize lfN x D2=a at*
     generalize hasN x D2=b at*
     repeat' ((conv=>whnf);first
      |(exfalso;contradiction)
      |(exfalso;omega)
      |refine aB (l:=f) (by omega) ?_
      |refine aF (l:=f) (A:=D2) (x:=c) (B:=R2) hp2 (by omega) ?_
      |refine aF (l:=f) (A:=D) (x:=x) (B:=R) hp (by omega) ?_
      |refine eY7 ?_
      |refine eZ1 (by kernel_rfl) ?_
      |refine eH4 (by omega) ?_
      |refine bW7 ?_
      |refine fU (p:=(T.row _).eq=true) (by kernel_rfl) ?_
      |refine fU (by omega) ?_
      |refine fU rfl ?_
      |refine eZ2 ?_
      |refine eZ0 (fun hd=>?_) (fun hd=>?_)
      |refine br_lt (fun hlt=>?_) (fun hlt=>?_)
      |refine br_le (fun hle=>?_) (fun hle=>?_)
      |refine eV7 (fun heq=>?_) (fun heq=>?_)
      |refine eQ9 (by omega) (fun x hx=>?_)
      |refine eY0 rfl (fun h=>by cases h) ?_
      |refine jU (fun hbb=>?_) (fun hbb=>?_)
      |refine ret_i ?_
      |refine fA7 ?_)
     all_goals conv=>whnf
     all_goals (refine⟨(D2++[c],R2),?_,by rw[hp2];simp,by simp⟩)
     all_goals (show Le T _ (mkSt [(0, .sl (f.map nodeV)),(6,I D.length),(7,I (lfN x (D2++[c]))),(8, .lit (.bool (hasN x (D2++[c])))),(9,I ((D2++[c]).length:Nat))] [] []))
     all_goals (rw[hlf,hhs,List.length_append,List.length_singleton])
     all_goals first
      |rw[if_pos (by assumption),if_pos (by omega),show decide (c.parent=x.id)=true from decide_eq_true (by assumption),Bool.or_true]
      |rw[if_pos (by assumption),if_neg (by omega),show decide (c.parent=x.id)=true from decide_eq_true (by assumption),Bool.or_true]
      |rw[if_neg (by assumption),show decide (c.parent=x.id)=false from decide_eq_false (by assumption),Bool.or_false]
     all_goals (show Le T _ (mkSt [(0, .sl (f.map nodeV)),(6,I D.length),(7,_),(8,_),(9,I ((D2.length:Int)+1))] [] [])
                refine dV ?_ ?_ ?_ ?_
                all_goals repeat' (first|exact trivial|refine And.intro ?_ ?_|with_reducible rfl|exact(fun h=>by cases h)|exact Nat.le_refl _|omega|exact rfl)
                done)
   ·have hnP:¬P:=fun h=>hcl ((hP2.1 h) x hx).1
    have hL:rpV f x= .lit (.slice none 0 0):=by unfold rpV;rw[if_neg hcl]
    rw[hL]at hpa
    repeat' ((conv=>whnf);first
     |(exfalso;contradiction)
     |(exfalso;omega)
     |refine aB (l:=f) (by omega) ?_
     |refine aF (l:=f) (A:=D) (x:=x) (B:=R) hp (by omega) ?_
     |(refine aS5 (hpa) false ?_ rfl ?_;focus ((repeat' (first|exact trivial|refine And.intro ?_ ?_|with_reducible rfl|exact(fun h=>by cases h)|exact rfl));done))
     |refine eY7 ?_
     |refine eZ1 (by kernel_rfl) ?_
     |refine eH4 (by omega) ?_
     |refine bW7 ?_
     |refine fU (p:=(T.row _).eq=true) (by kernel_rfl) ?_
     |refine fU (by omega) ?_
     |refine fU rfl ?_
     |refine eZ2 ?_
     |refine eZ0 (fun hd=>?_) (fun hd=>?_)
     |refine br_lt (fun hlt=>?_) (fun hlt=>?_)
     |refine br_le (fun hle=>?_) (fun hle=>?_)
     |refine eV7 (fun heq=>?_) (fun heq=>?_)
     |refine eQ9 (by omega) (fun x hx=>?_)
     |refine eY0 rfl (fun h=>by cases h) ?_
     |refine jU (fun hbb=>?_) (fun hbb=>?_)
     |refine ret_i ?_
     |refine fA7 ?_)
    all_goals conv=>whnf
    exact aA (aC hnP)
theorem rrightF_spec(f:List Node)(hl:f.length<=1000000)(hz:SzN f):Sp 31 [.sl (f.map nodeV)] (DB (RightF f)):=zsp Tryz.func31 (rrightF_vc f hl hz)
theorem RightF.parE{f:List Node}(h:RightF f):ParE f:=fun x hx h0=>by
 obtain⟨p,hp,_⟩:=h.par x hx h0;exact⟨p,hp⟩
theorem rcheckN_spec(f:List Node)(n:Int)(hl:f.length<=1000000)(hz:SzN f)(h:¬RightF f):Sp 54 [.sl (f.map nodeV),I n] (I 1):=by
 refine zsp Tryz.func54 ?_;have h1:=rrightF_spec f hl hz;generalize RightF f=P at*;exact KO
theorem rcheckM_spec(f:List Node)(n:Int)(hl:f.length<=1000000)(hz:SzN f)(h:RightF f)(hn:getN f n=none):Sp 54 [.sl (f.map nodeV),I n] (I 8):=by
 refine zsp Tryz.func54 ?_;have h1:=rrightF_spec f hl hz;have h2:=rfind_spec f n hl
 rw[firstN_no hn]at h2;exact Me
theorem rcheckY_spec(f:List Node)(n:Int)(x:Node)(hl:f.length<=1000000)(hz:SzN f)(h:RightF f)(hn:getN f n=some x):Sp 54 [.sl (f.map nodeV),I n] (I 0):=by
 refine zsp Tryz.func54 ?_;have h1:=rrightF_spec f hl hz;have h2:=rfind_spec f n hl
 obtain⟨j,hj,hg,hjl⟩:=firstN_got hn;rw[hj]at h2;obtain⟨hx,hid⟩:=getN_mem hn;have hpos:=(h.own x hx).1;exact Me
theorem rpathN_spec(f:List Node)(n e:Int)(he:e≠0)(hc:Sp 54 [.sl (f.map nodeV),I n] (I e)):Sp 24 [.sl (f.map nodeV),I n] (.tup [.lit (.slice none 0 0),I e]):=by
 refine zsp Tryz.func24 ?_;exact KO
theorem rpathY_spec(f:List Node)(n:Int)(x:Node)(hl:f.length<=1000000)(hz:SzN f)(h:RightF f)(hn:getN f n=some x):Sp 24 [.sl (f.map nodeV),I n] (.tup [.sl ((pathL f x).map I),I 0]):=by
 refine zsp Tryz.func24 ?_;have hc:=rcheckY_spec f n x hl hz h hn;obtain⟨hx,hid⟩:=getN_mem hn;have hp:=rpath_spec f x hl h.so h.parE hx
 have hL:rpV f x= .sl ((pathL f x).map I):=Fb;rw[hL,hid]at hp;generalize pathL f x=L at*;exact KO
theorem rkidsN_spec(f:List Node)(n e:Int)(he:e≠0)(hc:Sp 54 [.sl (f.map nodeV),I n] (I e)):Sp 26 [.sl (f.map nodeV),I n] (.tup [.lit (.slice none 0 0),I e]):=by
 refine zsp Tryz.func26 ?_;exact KO
theorem rsumN_spec(f:List Node)(n e:Int)(he:e≠0)(hc:Sp 54 [.sl (f.map nodeV),I n] (I e)):Sp 27 [.sl (f.map nodeV),I n] (.tup [.agg [I 0,I 0,I 0],I e]):=by
 refine zsp Tryz.func27 ?_;exact KO
theorem rcertN_spec(f:List Node)(n e:Int)(he:e≠0)(hc:Sp 54 [.sl (f.map nodeV),I n] (I e)):Sp 29 [.sl (f.map nodeV),I n] (.tup [S aI,I e]):=by
 refine zsp Tryz.func29 ?_;exact KO
def gro(k:Nat)(l:List Int):V:=match l with| [] => .lit (.slice none 0 0)|_::r=> .arr k r.length
def groA(k:Nat)(l:List Int):List (Nat×AE):=match l with| [] => [] |x::r=> [(k,⟨r.length, .own,3,(x::r).map I⟩)]
def groR(l:List Int):V:=match l with| [] => .lit (.slice none 0 0)|x::r=> .own 3 ((x::r).map I)
theorem rkidsY_spec(f:List Node)(n:Int)(x:Node)(hl:f.length<=1000000)(hz:SzN f)(h:RightF f)(hn:getN f n=some x):Sp 26 [.sl (f.map nodeV),I n] (.tup [groR ((kidsN f n).map Node.id),I 0]):=by
 refine zsp Tryz.func26 ?_;have hc:=rcheckY_spec f n x hl hz h hn;have hml:(f.map nodeV).length=f.length:=Ae
 clear hn
 repeat' ((conv=>whnf);first|(exfalso;contradiction)|refine zS ?_|refine zm (fun x hx=>?_)|refine zT ?_ ?_<;>intro _|fail)
 refine aU (A:=List Node) (B:=List Node) (fun D R=>mkSt [(0, .sl (f.map nodeV)),(1,I n),(7,gro 35 ((kidsN D n).map Node.id)),(8,I D.length)] [] (groA 35 ((kidsN D n).map Node.id))) (fun D R=>f=D++R) (fun D R=>R.length) [] f ?_ rfl (fun D R hp=>?_)
 ·show Le T _ (mkSt [(0, .sl (f.map nodeV)),(1,I n),(7, .lit (.slice none 0 0)),(8,I 0)] [] [])
  exact zj
 cases R with
 |nil=>
  have hlen:f.length=D.length:=Af;have hD:D=f:=Af
  subst hD;generalize (kidsN D n).map Node.id=K at*
  cases K with
  |nil=>exact IY
  |cons a K=>exact IY
 |cons x R=>
  have hlen:=aO hp;have hK:(kidsN D n).length<=D.length:=List.length_filter_le _ _
  have hsn:(kidsN (D++[x]) n).map Node.id=(kidsN D n).map Node.id++if x.parent=n then [x.id]else [] :=by
   unfold kidsN;rw[List.filter_append,List.map_append];congr 1;rw[List.filter_cons];by_cases hp:x.parent=n<;>simp[hp]
  have hKl:((kidsN D n).map Node.id).length<=D.length:=by simpa using hK
  generalize (kidsN D n).map Node.id=K at*
  cases K with
  |nil=>
   unfold gro groA
   repeat' ((conv=>whnf);first|(exfalso;omega)|refine gX (of_decide_eq_true rfl) (dA rfl) (show 1<=1000000000 from Aa) ?_|refine zS ?_|refine zm (fun x hx=>?_)|refine zT ?_ ?_<;>intro _|fail)
   all_goals conv=>whnf
   all_goals (refine⟨(D++[x],R),?_,Af,Ae⟩)
   all_goals (show Le T _ (mkSt [(0, .sl (f.map nodeV)),(1,I n),(7,gro 35 ((kidsN (D++[x]) n).map Node.id)),(8,I ((D++[x]).length:Nat))] [] (groA 35 ((kidsN (D++[x]) n).map Node.id))))
   all_goals rw[hsn]
   all_goals first
    |(rw[if_pos Ad]
      show Le T _ (mkSt [(0, .sl (f.map nodeV)),(1,I n),(7, .arr 35 0),(8,I ((D++[x]).length:Nat))] [] [(35,⟨0, .own,3,[I x.id]⟩)]);rw[List.length_append];exact zj
      done)
    |(rw[if_neg Ad]
      show Le T _ (mkSt [(0, .sl (f.map nodeV)),(1,I n),(7, .lit (.slice none 0 0)),(8,I ((D++[x]).length:Nat))] [] []);rw[List.length_append];exact zj
      done)
  |cons a K=>
   have hX:((a::K).map I).length=K.length+1:=Ae;have hKl':K.length+1<=D.length:=hKl
   unfold gro groA
   repeat' ((conv=>whnf);first|(exfalso;omega)|refine iH rfl (.inl rfl) rfl (of_decide_eq_true rfl) (dA rfl) (show((a::K).map I).length+1<=1000000000 from Aa) ?_|refine zS ?_|refine zm (fun x hx=>?_)|refine zT ?_ ?_<;>intro _|fail)
   all_goals conv=>whnf
   all_goals (refine⟨(D++[x],R),?_,Af,Ae⟩)
   all_goals (show Le T _ (mkSt [(0, .sl (f.map nodeV)),(1,I n),(7,gro 35 ((kidsN (D++[x]) n).map Node.id)),(8,I ((D++[x]).length:Nat))] [] (groA 35 ((kidsN (D++[x]) n).map Node.id))))
   all_goals rw[hsn]
   all_goals first
    |(rw[if_pos Ad]
      show Le T _ (mkSt [(0, .sl (f.map nodeV)),(1,I n),(7, .arr 35 (K++[x.id]).length),(8,I ((D++[x]).length:Nat))] [] [(35,⟨(K++[x.id]).length, .own,3,(a::(K++[x.id])).map I⟩)]);rw[List.length_append,List.length_append,<-List.cons_append,List.map_append];exact zj
      done)
    |(rw[if_neg Ad,List.append_nil]
      show Le T _ (mkSt [(0, .sl (f.map nodeV)),(1,I n),(7, .arr 35 K.length),(8,I ((D++[x]).length:Nat))] [] [(35,⟨K.length, .own,3,(a::K).map I⟩)]);rw[List.length_append];exact zj
      done)
theorem rheatN_spec(f:List Node)(s:ByteArray)(hl:f.length<=1000000)(hz:SzN f)(h:¬RightF f):Sp 33 [.sl (f.map nodeV),S s] (.lit (.slice none 0 0)):=by
 refine zsp Tryz.func33 ?_;have h1:=rrightF_spec f hl hz;have hml:(f.map nodeV).length=f.length:=Ae
 generalize RightF f=P at*
 repeat' ((conv=>whnf);first|(exfalso;contradiction)|refine zS ?_|refine zm (fun x hx=>?_)|refine zT ?_ ?_<;>intro _|fail)
 refine aU (A:=List Node) (B:=List Node) (fun D R=>mkSt [(0, .sl (f.map nodeV)),(1,S s),(5, .lit (.slice none 0 0)),(6,I D.length)] [] []) (fun D R=>f=D++R) (fun D R=>R.length) [] f ?_ rfl (fun D R hp=>?_)
 ·exact zj
 exact KO
theorem rheatY_spec(f:List Node)(s:ByteArray)(hl:f.length<=1000000)(hz:SzN f)(h:RightF f):Sp 33 [.sl (f.map nodeV),S s] (groR (heatL s f)):=by
 refine zsp Tryz.func33 ?_;have h1:=rrightF_spec f hl hz;have hml:(f.map nodeV).length=f.length:=Ae
 generalize RightF f=P at*
 repeat' ((conv=>whnf);first|(exfalso;contradiction)|refine zS ?_|refine zm (fun x hx=>?_)|refine zT ?_ ?_<;>intro _|fail)
 refine aU (A:=List Node) (B:=List Node) (fun D R=>mkSt [(0, .sl (f.map nodeV)),(1,S s),(5,gro 39 (heatL s D)),(6,I D.length)] [] (groA 39 (heatL s D))) (fun D R=>f=D++R) (fun D R=>R.length) [] f ?_ rfl (fun D R hp=>?_)
 ·show Le T _ (mkSt [(0, .sl (f.map nodeV)),(1,S s),(5, .lit (.slice none 0 0)),(6,I 0)] [] [])
  exact zj
 cases R with
 |nil=>
  have hlen:f.length=D.length:=Af;have hD:D=f:=Af
  subst hD;generalize heatL s D=K at*
  cases K with
  |nil=>exact IG
  |cons a K=>exact IG
 |cons x R=>
  have hlen:=aO hp;have hKl:(heatL s D).length<=D.length:=C9
  have hsn:=heat_snoc s D x;have hr:heatP s x↔x.kind=3/\x.heat=s:=Iff.rfl
  generalize heatL s D=K at*
  cases K with
  |nil=>
   unfold gro groA
   repeat' ((conv=>whnf);first|(exfalso;omega)|(exfalso;contradiction)|refine jI (fun heq=>?_) (fun heq=>?_)|refine gX (of_decide_eq_true rfl) (dA rfl) (show 1<=1000000000 from Aa) ?_|refine zS ?_|refine zm (fun x hx=>?_)|refine zT ?_ ?_<;>intro _|fail)
   all_goals conv=>whnf
   all_goals (refine⟨(D++[x],R),?_,Af,Ae⟩)
   all_goals (show Le T _ (mkSt [(0, .sl (f.map nodeV)),(1,S s),(5,gro 39 (heatL s (D++[x]))),(6,I ((D++[x]).length:Nat))] [] (groA 39 (heatL s (D++[x])))))
   all_goals rw[hsn]
   all_goals first
    |(rw[if_pos (dH.2 (hr.2 ⟨Ad,Ad⟩))]
      show Le T _ (mkSt [(0, .sl (f.map nodeV)),(1,S s),(5, .arr 39 0),(6,I ((D++[x]).length:Nat))] [] [(39,⟨0, .own,3,[I x.id]⟩)]);rw[List.length_append];exact zj
      done)
    |(rw[if_neg (fun e=>absurd (hr.1 (dH.1 e)) (fun e2=>Bf))]
      show Le T _ (mkSt [(0, .sl (f.map nodeV)),(1,S s),(5, .lit (.slice none 0 0)),(6,I ((D++[x]).length:Nat))] [] []);rw[List.length_append];exact zj
      done)
  |cons a K=>
   have hX:((a::K).map I).length=K.length+1:=Ae;have hKl':K.length+1<=D.length:=hKl
   unfold gro groA
   repeat' ((conv=>whnf);first|(exfalso;omega)|(exfalso;contradiction)|refine jI (fun heq=>?_) (fun heq=>?_)|refine iH rfl (.inl rfl) rfl (of_decide_eq_true rfl) (dA rfl) (show((a::K).map I).length+1<=1000000000 from Aa) ?_|refine zS ?_|refine zm (fun x hx=>?_)|refine zT ?_ ?_<;>intro _|fail)
   all_goals conv=>whnf
   all_goals (refine⟨(D++[x],R),?_,Af,Ae⟩)
   all_goals (show Le T _ (mkSt [(0, .sl (f.map nodeV)),(1,S s),(5,gro 39 (heatL s (D++[x]))),(6,I ((D++[x]).length:Nat))] [] (groA 39 (heatL s (D++[x])))))
   all_goals rw[hsn]
   all_goals first
    |(rw[if_pos (dH.2 (hr.2 ⟨Ad,Ad⟩))]
      show Le T _ (mkSt [(0, .sl (f.map nodeV)),(1,S s),(5, .arr 39 (K++[x.id]).length),(6,I ((D++[x]).length:Nat))] [] [(39,⟨(K++[x.id]).length, .own,3,(a::(K++[x.id])).map I⟩)]);rw[List.length_append,List.length_append,<-List.cons_append,List.map_append];exact zj
      done)
    |(rw[if_neg (fun e=>absurd (hr.1 (dH.1 e)) (fun e2=>Bf)),List.append_nil]
      show Le T _ (mkSt [(0, .sl (f.map nodeV)),(1,S s),(5, .arr 39 K.length),(6,I ((D++[x]).length:Nat))] [] [(39,⟨K.length, .own,3,(a::K).map I⟩)]);rw[List.length_append];exact zj
      done)
theorem runder_spec(f:List Node)(j:Nat)(x:Node)(n:Int)(hl:f.length<=1000000)(h:RightF f)(hx:x∈f)(hg:f[j]? =some x):Sp 56 [.sl (f.map nodeV),I j,I n] (DB (underN f x n)):=by
 refine zsp Tryz.func56 ?_;have hml:(f.map nodeV).length=f.length:=Ae;have hjl:=(List.getElem?_eq_some_iff.1 hg).1
 have hp:=rpath_spec f x hl h.so h.parE hx;have hL:rpV f x= .sl ((pathL f x).map I):=Fb
 rw[hL]at hp
 have hu:underN f x n↔n∈pathL f x:=by
  unfold underN pathL;simp
 have hLl:(pathL f x).length<=f.length+1:=by
  unfold pathL;have:=ch_le (f:=f) (x:=x);simpa using this
 clear hL;generalize pathL f x=L at*;generalize underN f x n=P at*;have hmL:(L.map I).length=L.length:=Ae
 repeat' ((conv=>whnf);first|(exfalso;omega)|refine zS ?_|refine zm (fun x hx=>?_)|refine zT ?_ ?_<;>intro _|fail)
 refine aU (A:=List Int) (B:=List Int) (fun D R=>mkSt [(2,I n),(7, .sl (L.map I)),(8,I D.length)] [] []) (fun D R=>L=D++R/\n∉D) (fun D R=>R.length) [] L ?_ ⟨rfl,Ae⟩ (fun D R hq=>?_)
 ·exact zj
 obtain⟨hq,hn⟩:=hq
 cases R with
 |nil=>
  have hlen:L.length=D.length:=AO;have hnP:¬P:=fun hP=>hn (by have:=hu.1 hP;rw[hq,List.append_nil]at this;exact this)
  repeat' ((conv=>whnf);first|(exfalso;omega)|refine zS ?_|refine zm (fun x hx=>?_)|refine zT ?_ ?_<;>intro _|fail)
  all_goals conv=>whnf
  exact aA (aC hnP)
 |cons m R=>
  have hlen:=aO hq;have hin:m=n->P:=fun e=>hu.2 (by rw[hq,e];simp)
  have hni:m≠n->n∉D++[m] :=fun e hm=>by
   rcases List.mem_append.1 hm with hm|hm
   ·exact hn hm
   ·exact e (List.mem_singleton.1 hm).symm
  repeat' ((conv=>whnf);first|(exfalso;omega)|refine zS ?_|refine zm (fun x hx=>?_)|refine zT ?_ ?_<;>intro _|fail)
  all_goals conv=>whnf
  all_goals first
   |exact aA (fE (hin Ad))
   |(refine⟨(D++[m],R),?_,⟨AO,hni Ad⟩,Ae⟩
     simp only[List.length_append,List.length_singleton];show Le T _ (mkSt [(2,I n),(7, .sl (L.map I)),(8,I ((D.length:Int)+1))] [] []);exact zj
     done)
end Go.Proofs.Led
