/- Lemmas. -/
import Derived.Test.YtecbpikbjfihmaaGreatDoorB18
set_option linter.all false
set_option autoImplicit true
set_option relaxedAutoImplicit true
set_option maxRecDepth 100000
set_option maxHeartbeats 8000000
noncomputable section
namespace Go.Proofs.Led
open Go Go.Proofs Go.Ab
def aw_mem(h:x∈awF):x=awN1 true 5\/x=awN 2 40\/x=awN 3 30\/x=awN4:=by
 unfold awF at h;simpa using h
def aw_sz:SzN awF:=λx a=>by rcases aw_mem a with rfl|rfl|rfl|rfl<;>decide
def aw_wf:WfN awF:=λx a=>by rcases aw_mem a with rfl|rfl|rfl|rfl<;>exact⟨by decide,by decide⟩
def aw_nok:∀y∈awF,NOk y:=λx a=>by rcases aw_mem a with rfl|rfl|rfl|rfl<;>exact⟨by decide,by decide,by decide,by decide,by decide,by decide,by decide⟩
def aw_lit:awT=ByteArray.mk #[51,32,112,97,114,116,32,97,32,115,105,122,101,32,51,48,10,49,32,98,97,114,32,115,105,122,101,32,49,48,48,32,103,114,97,100,101,32,115,32,104,101,97,116,32,104,10] :=Ac
theorem eqOwn a b c d e f:eqT T 4 80 [I a,I b,I c] [I d,I e,I f] =some (andB (eqB a d) (andB (eqB b e) (andB (eqB c f) true))):=Ac
def eqOwn_i(g:a=d)(i:b=e)(j:c=f)(h:K true):aL1.match_1 (λ_=>Prop) (eqT T 4 80 [I a,I b,I c] [I d,I e,I f]) K (λ_=>False):=by
 subst g i j;rw[eqOwn];have e:∀n:Int,eqB n n=true:=λn=>aA1.2 rfl;rw[e,e,e];have:andB true (andB true (andB true true))=true:=by simp[andB]
 rw[this];exact h
def awake57_vc:fnVC T Tryz.prog Tryz.f4 [] (.lit (.bool true)):=by
 have l:=build_spec awL eA5 (by show 1+(1+(1+2+1))<=1000000;decide) (by show 3<=1000000;decide) aw_fit;rw[aw_build]at l;change Sp _ _ (.tup [.own 40 (awF.map nodeV),I 3,I 0])at l;have m:=pathY_spec awF 3 (awN 3 30) Ai aw_sz aw_right aw_get;rw[aw_path]at m;change Sp _ _ (.tup [.own 3 [I 1,I 3],I 0])at m;have o:=certY_spec awF 3 (awN 3 30) Ai aw_sz aw_right aw_get aw_nok;rw[aw_cert]at o;have j:=sumY_spec awF 1 (awN1 true 5) Ai aw_sz aw_wf aw_right aw_get1;rw[aw_acc]at j;obtain⟨a,G⟩:∃a:Int,a=25:=⟨_,rfl⟩;obtain⟨b,H⟩:∃a:Int,a=70:=⟨_,rfl⟩;obtain⟨c,J⟩:∃a:Int,a=5:=⟨_,rfl⟩;replace j:Sp 15 [.sl (awF.map nodeV),I 1] (.tup [.agg [I a,I b,I c],I 0]):=by rw[G,H,J];exact j
 have w:=sI_spec [1,3] Ai;change Sp _ [.sl [I 1,I 3], .sl [I 1,I 3]] _ at w;have M:(awF.map nodeV).length=4:=rfl;obtain⟨n,K⟩:∃a:Int,a=3:=⟨_,rfl⟩;obtain⟨s,y⟩:∃a:Int,a=0:=⟨_,rfl⟩;obtain⟨u,A⟩:∃a:Int,a=0:=⟨_,rfl⟩;obtain⟨v,B⟩:∃a:Int,a=0:=⟨_,rfl⟩;obtain⟨z,C⟩:∃a:Int,a=0:=⟨_,rfl⟩;replace l:Sp 7 [.sl (awL.map aS)] (.tup [.own 40 (awF.map nodeV),I n,I s]):=by rw[K,y];exact l
 replace m:Sp 13 [.sl (awF.map nodeV),I 3] (.tup [.own 3 [I 1,I 3],I u]):=by rw[A];exact m
 replace o:Sp 14 [.sl (awF.map nodeV),I 3] (.tup [S awT,I v]):=by rw[B];exact o
 replace j:Sp 15 [.sl (awF.map nodeV),I 1] (.tup [.agg [I a,I b,I c],I z]):=by rw[C];exact j
 generalize E:awT=Z at o;generalize awF.map nodeV=F at*;all_goals conv=>whnf
 refine eY7 ?_
 repeat' ((conv=>whnf);first
  |omega
  |refine eZ1 Ac ?_
  |refine eH4 Aa ?_
  |refine bW7 ?_
  |refine fU (p:=(T.row _).eq=true) Ac ?_
  |refine fU Aa ?_
  |refine fU rfl ?_
  |refine eZ2 ?_
  |refine eZ0 (λi=>?_) (λi=>?_)
  |refine br_lt (λf=>?_) (λf=>?_)
  |refine br_le (λe=>?_) (λe=>?_)
  |refine eV7 (λd=>?_) (λd=>?_)
  |refine eQ9 Aa (λx r=>?_)
  |refine eY0 rfl (λh=>Ah) ?_
  |refine jU (λg=>?_) (λg=>?_)
  |refine ret_i ?_
  |refine fA7 ?_)
 all_goals conv=>whnf
 refine dJ4 Unit (λ_=>mkSt [(1, .sl F),(2,I n),(3,I s)] [] []) (λ_=>True) ?_ ?_
 ·repeat' ((conv=>whnf);first
   |omega
   |refine bB4 (Le.trans (Le.trans (aZ8 16 rfl (.inl rfl)) (aZ8 18 rfl (.inl rfl))) (le_nil _)) ?_
   |(refine aS5 (l) false ?_ rfl ?_;focus ((repeat' (first|exact trivial|refine And.intro ?_ ?_|with_reducible rfl|exact(λh=>Ah)|exact rfl));done))
   |refine eZ1 Ac ?_
   |refine eH4 Aa ?_
   |refine bW7 ?_
   |refine fU (p:=(T.row _).eq=true) Ac ?_
   |refine fU Aa ?_
   |refine fU rfl ?_
   |refine eZ2 ?_
   |refine eZ0 (λi=>?_) (λi=>?_)
   |refine br_lt (λf=>?_) (λf=>?_)
   |refine br_le (λe=>?_) (λe=>?_)
   |refine eV7 (λd=>?_) (λd=>?_)
   |refine eQ9 Aa (λx r=>?_)
   |refine eY0 rfl (λh=>Ah) ?_
   |refine jU (λg=>?_) (λg=>?_)
   |refine ret_i ?_
   |refine fA7 ?_)
  all_goals conv=>whnf
  refine⟨(),Le.trans (fB (k:=21) rfl (.inl rfl)) ?_,trivial⟩;exact Nb
 intro _ _;all_goals conv=>whnf
 refine dJ4 Unit (λ_=>mkSt [(1, .sl F),(2,I n),(3,I s),(4, .sl [I 1,I 3]),(5,I u)] [] []) (λ_=>True) ?_ ?_
 ·repeat' ((conv=>whnf);first
   |omega
   |(refine aS5 (m) false ?_ rfl ?_;focus ((repeat' (first|exact trivial|refine And.intro ?_ ?_|with_reducible rfl|exact(λh=>Ah)|exact rfl));done))
   |refine eZ1 Ac ?_
   |refine eH4 Aa ?_
   |refine bW7 ?_
   |refine fU (p:=(T.row _).eq=true) Ac ?_
   |refine fU Aa ?_
   |refine fU rfl ?_
   |refine eZ2 ?_
   |refine eZ0 (λi=>?_) (λi=>?_)
   |refine br_lt (λf=>?_) (λf=>?_)
   |refine br_le (λe=>?_) (λe=>?_)
   |refine eV7 (λd=>?_) (λd=>?_)
   |refine eQ9 Aa (λx r=>?_)
   |refine eY0 rfl (λh=>Ah) ?_
   |refine jU (λg=>?_) (λg=>?_)
   |refine ret_i ?_
   |refine fA7 ?_)
  all_goals conv=>whnf
  refine⟨(),Le.trans (fB (k:=27) rfl (.inl rfl)) ?_,trivial⟩;exact Nb
 intro _ _;all_goals conv=>whnf
 refine dJ4 Unit (λ_=>mkSt [(1, .sl F),(2,I n),(3,I s),(4, .sl [I 1,I 3]),(5,I u),(6,S Z),(7,I v)] [] []) (λ_=>True) ?_ ?_
 ·repeat' ((conv=>whnf);first
   |omega
   |(refine aS5 (o) false ?_ rfl ?_;focus ((repeat' (first|exact trivial|refine And.intro ?_ ?_|with_reducible rfl|exact(λh=>Ah)|exact rfl));done))
   |refine eZ1 Ac ?_
   |refine eH4 Aa ?_
   |refine bW7 ?_
   |refine fU (p:=(T.row _).eq=true) Ac ?_
   |refine fU Aa ?_
   |refine fU rfl ?_
   |refine eZ2 ?_
   |refine eZ0 (λi=>?_) (λi=>?_)
   |refine br_lt (λf=>?_) (λf=>?_)
   |refine br_le (λe=>?_) (λe=>?_)
   |refine eV7 (λd=>?_) (λd=>?_)
   |refine eQ9 Aa (λx r=>?_)
   |refine eY0 rfl (λh=>Ah) ?_
   |refine jU (λg=>?_) (λg=>?_)
   |refine ret_i ?_
   |refine fA7 ?_)
  all_goals conv=>whnf
  refine⟨(),?_,trivial⟩;exact Nb
 intro _ _;all_goals conv=>whnf
 refine dJ4 Unit (λ_=>mkSt [(2,I n),(3,I s),(4, .sl [I 1,I 3]),(5,I u),(6,S Z),(7,I v),(8, .box 8 0),(9,I z)] [(8,[I a,I b,I c])] []) (λ_=>True) ?_ ?_
 ·repeat' ((conv=>whnf);first
   |omega
   |(refine aS5 (j) false ?_ rfl ?_;focus ((repeat' (first|exact trivial|refine And.intro ?_ ?_|with_reducible rfl|exact(λh=>Ah)|exact rfl));done))
   |refine eZ1 Ac ?_
   |refine eH4 Aa ?_
   |refine bW7 ?_
   |refine fU (p:=(T.row _).eq=true) Ac ?_
   |refine fU Aa ?_
   |refine fU rfl ?_
   |refine eZ2 ?_
   |refine eZ0 (λi=>?_) (λi=>?_)
   |refine br_lt (λf=>?_) (λf=>?_)
   |refine br_le (λe=>?_) (λe=>?_)
   |refine eV7 (λd=>?_) (λd=>?_)
   |refine eQ9 Aa (λx r=>?_)
   |refine eY0 rfl (λh=>Ah) ?_
   |refine jU (λg=>?_) (λg=>?_)
   |refine ret_i ?_
   |refine fA7 ?_)
  all_goals conv=>whnf
  refine⟨(),?_,trivial⟩;exact Nb
 intro _ _;all_goals conv=>whnf
 all_goals conv=>whnf
 refine eY7 ?_;all_goals conv=>whnf
 refine eV7 (λd=>?_) (λd=>absurd y d);generalize D:ByteArray.mk #[51,32,112,97,114,116,32,97,32,115,105,122,101,32,51,48,10,49,32,98,97,114,32,115,105,122,101,32,49,48,48,32,103,114,97,100,101,32,115,32,104,101,97,116,32,104,10] =L;have t:Z=L:=E.symm.trans (aw_lit.trans D);clear D E
 repeat' ((conv=>whnf);first
  |refine eV7 (λd=>?_) (λd=>absurd y d)
  |refine eV7 (λd=>?_) (λd=>absurd K d)
  |refine eV7 (λd=>?_) (λd=>absurd A d)
  |refine eV7 (λd=>?_) (λd=>absurd B d)
  |(refine aS5 (w) true ?_ rfl ?_;focus ((repeat' (first|exact trivial|refine And.intro ?_ ?_|with_reducible rfl|exact(λh=>Ah)|exact rfl));done))
  |refine eY7 ?_
  |refine eZ1 Ac ?_
  |refine eH4 Aa ?_
  |refine bW7 ?_
  |refine fU (p:=(T.row _).eq=true) Ac ?_
  |refine fU Aa ?_
  |refine fU rfl ?_
  |refine eZ2 ?_
  |refine eZ0 (λi=>?_) (λi=>?_)
  |refine br_lt (λf=>?_) (λf=>?_)
  |refine br_le (λe=>?_) (λe=>?_)
  |refine eV7 (λd=>?_) (λd=>?_)
  |refine eQ9 Aa (λx r=>?_)
  |refine eY0 rfl (λh=>Ah) ?_
  |refine ret_i ?_
  |refine fA7 ?_)
 clear w l m o j
 as_aux_lemma=>
  conv=>whnf
  refine jI (λ_=>?_) (λd=>absurd t d);generalize eqS Z L=q;clear t
  as_aux_lemma=>
   repeat' ((conv=>whnf);first
    |refine eV7 (λd=>?_) (λd=>absurd C d)
    |refine eqOwn_i G H J ?_
    |refine eY7 ?_
    |refine eZ1 Ac ?_
    |refine eH4 Aa ?_
    |refine bW7 ?_
    |refine fU (p:=(T.row _).eq=true) Ac ?_
    |refine fU Aa ?_
    |refine fU rfl ?_
    |refine eZ2 ?_
    |refine eZ0 (λi=>?_) (λi=>?_)
    |refine br_lt (λf=>?_) (λf=>?_)
    |refine br_le (λe=>?_) (λe=>?_)
    |refine eV7 (λd=>?_) (λd=>?_)
    |refine eQ9 Aa (λx r=>?_)
    |refine eY0 rfl (λh=>Ah) ?_
    |refine jU (λg=>?_) (λg=>?_)
    |refine ret_i ?_
    |refine fA7 ?_)
   all_goals conv=>whnf
   all_goals exact aK rfl
def awake57_spec:Sp 4 [] (.lit (.bool true)):=zsp Tryz.func4 (awake57_vc)
end Go.Proofs.Led
