/- Lemmas. -/
import Derived.Test.YtopbfdohgfhadaaGreatDoorB18
set_option linter.all false
set_option autoImplicit true
set_option relaxedAutoImplicit true
set_option maxRecDepth 100000
set_option maxHeartbeats 8000000
noncomputable section
namespace Go.Proofs.Led
open Go Go.Proofs Go.Ab
def aw_mem(h:x∈awF):x=awN1 true 5\/x=awN 2 40\/x=awN 3 30\/x=awN4:=by
 unfold awF at h;simpa using h
def aw_sz:SzN awF:=λx a=>by rcases aw_mem a with rfl|rfl|rfl|rfl<;>decide
def aw_wf:WfN awF:=λx a=>by rcases aw_mem a with rfl|rfl|rfl|rfl<;>exact⟨by decide,by decide⟩
def aw_nok:∀y∈awF,NOk y:=λx a=>by rcases aw_mem a with rfl|rfl|rfl|rfl<;>exact⟨by decide,by decide,by decide,by decide,by decide,by decide,by decide⟩
def aw_lit:awT=ByteArray.mk #[51,32,112,97,114,116,32,97,32,115,105,122,101,32,51,48,10,49,32,98,97,114,32,115,105,122,101,32,49,48,48,32,103,114,97,100,101,32,115,32,104,101,97,116,32,104,10] :=Ac
theorem eqOwn a b c d e f:eqT T 4 71 [I a,I b,I c] [I d,I e,I f] =some (andB (eqB a d) (andB (eqB b e) (andB (eqB c f) true))):=Ac
def eqOwn_i(g:a=d)(i:b=e)(j:c=f)(h:K true):aL1.match_1 (λ_=>Prop) (eqT T 4 71 [I a,I b,I c] [I d,I e,I f]) K (λ_=>False):=by
 subst g i j;rw[eqOwn];have e:∀n:Int,eqB n n=true:=λn=>aA1.2 rfl;rw[e,e,e];have:andB true (andB true (andB true true))=true:=by simp[andB]
 rw[this];exact h
def awake57_spec:Sp 4 [] (.lit (.bool true)):=by
 refine zsp Tryz.func4 ?_;have f:=build_spec awL eA5 (by show 1+(1+(1+2+1))<=1000000;decide) (by show 3<=1000000;decide) aw_fit
 rw[aw_build]at f;change Sp _ _ (.tup [.own 43 (awF.map nodeV),I 3,I 0])at f;have g:=pathY_spec awF 3 (awN 3 30) Ai aw_sz aw_right aw_get;rw[aw_path]at g;change Sp _ _ (.tup [.own 3 [I 1,I 3],I 0])at g;have i:=certY_spec awF 3 (awN 3 30) Ai aw_sz aw_right aw_get aw_nok
 rw[aw_cert]at i;have d:=sumY_spec awF 1 (awN1 true 5) Ai aw_sz aw_wf aw_right aw_get1;rw[aw_acc]at d;obtain⟨a,z⟩:∃a:Int,a=25:=⟨_,rfl⟩;obtain⟨b,A⟩:∃a:Int,a=70:=⟨_,rfl⟩;obtain⟨c,B⟩:∃a:Int,a=5:=⟨_,rfl⟩;replace d:Sp 12 [.sl (awF.map nodeV),I 1] (.tup [.agg [I a,I b,I c],I 0]):=by rw[z,A,B];exact d
 have o:=sI_spec [1,3] Ai;change Sp _ [.sl [I 1,I 3], .sl [I 1,I 3]] _ at o;have D:(awF.map nodeV).length=4:=rfl
 obtain⟨n,C⟩:∃a:Int,a=3:=⟨_,rfl⟩;obtain⟨e,r⟩:∃a:Int,a=0:=⟨_,rfl⟩;obtain⟨l,t⟩:∃a:Int,a=0:=⟨_,rfl⟩;obtain⟨m,u⟩:∃a:Int,a=0:=⟨_,rfl⟩;obtain⟨s,v⟩:∃a:Int,a=0:=⟨_,rfl⟩;replace f:Sp 7 [.sl (awL.map aS)] (.tup [.own 43 (awF.map nodeV),I n,I e]):=by rw[C,r];exact f
 replace g:Sp 10 [.sl (awF.map nodeV),I 3] (.tup [.own 3 [I 1,I 3],I l]):=by rw[t];exact g
 replace i:Sp 11 [.sl (awF.map nodeV),I 3] (.tup [S awT,I m]):=by rw[u];exact i
 replace d:Sp 12 [.sl (awF.map nodeV),I 1] (.tup [.agg [I a,I b,I c],I s]):=by rw[v];exact d
 generalize y:awT=Z at i;generalize awF.map nodeV=F at*;all_goals conv=>whnf
 refine eY7 ?_
 repeat' ((conv=>whnf);first|omega|refine zU ?_|refine zd (λhd=>?_) (λhd=>?_)|refine zl (λhlt=>?_) (λhlt=>?_)|refine zk (λhle=>?_) (λhle=>?_)|refine ze (λheq=>?_) (λheq=>?_)|refine zm (λx hx=>?_)|refine zb (λhbb=>?_) (λhbb=>?_))
 all_goals conv=>whnf
 refine dJ4 Unit (λ_=>mkSt [(1, .sl F),(2,I n),(3,I e)] [] []) (λ_=>True) ?_ ?_
 ·repeat' ((conv=>whnf);first|omega|refine bB4 (Le.trans (Le.trans (aZ8 16 rfl (.inl rfl)) (aZ8 18 rfl (.inl rfl))) (le_nil _)) ?_|refine zU ?_|refine zd (λhd=>?_) (λhd=>?_)|refine zl (λhlt=>?_) (λhlt=>?_)|refine zk (λhle=>?_) (λhle=>?_)|refine ze (λheq=>?_) (λheq=>?_)|refine zm (λx hx=>?_)|refine zb (λhbb=>?_) (λhbb=>?_))
  all_goals conv=>whnf
  refine⟨(),Le.trans (fB (k:=21) rfl (.inl rfl)) ?_,trivial⟩;exact zj
 ·intro _ _
  all_goals conv=>whnf
  refine dJ4 Unit (λ_=>mkSt [(1, .sl F),(2,I n),(3,I e),(4, .sl [I 1,I 3]),(5,I l)] [] []) (λ_=>True) ?_ ?_
  ·repeat' ((conv=>whnf);first|omega|refine zU ?_|refine zd (λhd=>?_) (λhd=>?_)|refine zl (λhlt=>?_) (λhlt=>?_)|refine zk (λhle=>?_) (λhle=>?_)|refine ze (λheq=>?_) (λheq=>?_)|refine zm (λx hx=>?_)|refine zb (λhbb=>?_) (λhbb=>?_))
   all_goals conv=>whnf
   refine⟨(),Le.trans (fB (k:=27) rfl (.inl rfl)) ?_,trivial⟩;exact zj
  ·intro _ _
   all_goals conv=>whnf
   refine dJ4 Unit (λ_=>mkSt [(1, .sl F),(2,I n),(3,I e),(4, .sl [I 1,I 3]),(5,I l),(6,S Z),(7,I m)] [] []) (λ_=>True) ?_ ?_
   ·exact Jq
   ·intro _ _
    all_goals conv=>whnf
    refine dJ4 Unit (λ_=>mkSt [(2,I n),(3,I e),(4, .sl [I 1,I 3]),(5,I l),(6,S Z),(7,I m),(8, .box 8 0),(9,I s)] [(8,[I a,I b,I c])] []) (λ_=>True) ?_ ?_
    ·exact Jq
    ·intro _ _
     all_goals conv=>whnf
     all_goals conv=>whnf
     refine eY7 ?_;all_goals conv=>whnf
     refine eV7 (λheq=>?_) (λheq=>absurd r heq);generalize w:ByteArray.mk #[51,32,112,97,114,116,32,97,32,115,105,122,101,32,51,48,10,49,32,98,97,114,32,115,105,122,101,32,49,48,48,32,103,114,97,100,101,32,115,32,104,101,97,116,32,104,10] =L;have j:=y.symm.trans (aw_lit.trans w)
     clear w y
     repeat' ((conv=>whnf);first|refine eV7 (λheq=>?_) (λheq=>absurd r heq)|refine eV7 (λheq=>?_) (λheq=>absurd C heq)|refine eV7 (λheq=>?_) (λheq=>absurd t heq)|refine eV7 (λheq=>?_) (λheq=>absurd u heq)|(refine aS5 (o) true ?_ rfl ?_;focus ((repeat' (first|exact trivial|refine And.intro ?_ ?_|with_reducible rfl|exact(λh=>Ah)|exact rfl));done))|refine zg ?_|refine zi ?_|refine za ?_|refine zw ?_|refine zy ?_|refine zo ?_|refine zn ?_|refine zd (λhd=>?_) (λhd=>?_)|refine zl (λhlt=>?_) (λhlt=>?_)|refine zk (λhle=>?_) (λhle=>?_)|refine ze (λheq=>?_) (λheq=>?_)|refine zm (λx hx=>?_)|refine zv ?_|refine zr ?_|refine zq ?_)
     clear o f g i d
     as_aux_lemma=>
      conv=>whnf
      refine jI (λ_=>?_) (λheq=>absurd j heq);generalize eqS Z L=q;clear j
      as_aux_lemma=>
       repeat' ((conv=>whnf);first|refine eV7 (λheq=>?_) (λheq=>absurd v heq)|refine eqOwn_i z A B ?_|refine zS ?_|refine zd (λhd=>?_) (λhd=>?_)|refine zl (λhlt=>?_) (λhlt=>?_)|refine zk (λhle=>?_) (λhle=>?_)|refine ze (λheq=>?_) (λheq=>?_)|refine zm (λx hx=>?_)|refine zb (λhbb=>?_) (λhbb=>?_))
       all_goals conv=>whnf
       all_goals exact aK rfl
end Go.Proofs.Led
