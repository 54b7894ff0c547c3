/-
  The genealogy's Right.
-/
import Derived.Test.YtdjgbagnajikeaaGreatDoorB15
set_option linter.unusedVariables false
set_option linter.unusedSimpArgs false
set_option maxRecDepth 100000
set_option maxHeartbeats 16000000
noncomputable section
namespace Go.Proofs.Led
open Go Go.Proofs Go.Ab
def rgt2(f D:List Node)(ps:List (Int×Int)):St:=mkSt [(0, .sl (f.map nodeV)),(5, .box 5 0),(39, .sl (f.map nodeV)),(40,I f.length),(41,I D.length)] [(5,[.arr 38 0])] [(38,⟨0, .dead,129, .bot::putsV ps⟩)]
def rgt3(f D:List Node)(ps:List (Int×Int)):St:=mkSt [(0, .sl (f.map nodeV)),(5, .box 5 0),(56, .sl (f.map nodeV)),(57,I f.length),(58,I D.length)] [(5,[.arr 38 0])] [(38,⟨0, .dead,129, .bot::putsV ps⟩)]
theorem rightG_vc(f:List Node)(hl:f.length<=1000000)(hz:∀x∈f,x.size<=9223372036854775807):fnVC T Tryz.prog Tryz.f19 [.sl (f.map nodeV)] (DB (RightF f)):=by
 have hll:(f.map nodeV).length=f.length:=by simp
 repeat' ((conv=>whnf);first
  |(exfalso;omega)
  |refine eY7 ?_
  |refine eZ1 (by kernel_rfl) ?_
  |refine eH4 (by omega) ?_
  |refine bW7 ?_
  |refine fU (p:=(T.row _).eq=true) (by kernel_rfl) ?_
  |refine fU (by omega) ?_
  |refine fU rfl ?_
  |refine eZ2 ?_
  |refine eZ0 (fun hd=>?_) (fun hd=>?_)
  |refine br_lt (fun hlt=>?_) (fun hlt=>?_)
  |refine br_le (fun hle=>?_) (fun hle=>?_)
  |refine eV7 (fun heq=>?_) (fun heq=>?_)
  |refine eQ9 (by omega) (fun x hx=>?_)
  |refine eY0 rfl (fun h=>by cases h) ?_
  |refine jU (fun hbb=>?_) (fun hbb=>?_)
  |refine ret_i ?_
  |refine fA7 ?_)
 refine aU (A:=List Node) (B:=List Node) (fun D R=>mkSt [(0, .sl (f.map nodeV)),(12, .sl (f.map nodeV)),(13,I f.length),(14,I D.length)] [] []) (fun D R=>f=D++R/\(∀x∈D,ownP x)/\SortN D) (fun D R=>R.length) [] f ?_ ⟨rfl,by simp,List.Pairwise.nil⟩ (fun D R hp=>?_)
 ·rw[<-hll]
  refine dV ?_ ?_ ?_ ?_
  all_goals repeat' (first|exact trivial|refine And.intro ?_ ?_|with_reducible rfl|exact(fun h=>by cases h)|exact Nat.le_refl _|omega|exact rfl)
 obtain⟨hp,hD,hS⟩:=hp
 cases R with
 |cons x R=>
  have hlen:=aO hp
  have hlD:((D++[x]).length:Int)=(D.length:Int)+1:=by simp
  have h1:=rightN_spec x
  have hxf:x∈f:=by rw[hp];simp
  have hno:¬ownP x->¬RightF f:=fun h q=>h (q.own x hxf)
  rcases List.eq_nil_or_concat D with hDn|⟨E,y,hE⟩
  ·have hD0:D.length=0:=by rw[hDn];rfl
   generalize hq:ownP x=q at*
   repeat' ((conv=>whnf);first
    |(exfalso;omega)
    |(exfalso;contradiction)
    |refine aB (l:=f) (by omega) ?_
    |refine aF (l:=f) (A:=D) (x:=x) (B:=R) hp (by omega) ?_
    |(refine aS5 (h1) false ?_ rfl ?_;focus ((repeat' (first|exact trivial|refine And.intro ?_ ?_|with_reducible rfl|exact(fun h=>by cases h)|exact rfl));done))
    |refine eY7 ?_
    |refine eZ1 (by kernel_rfl) ?_
    |refine eH4 (by omega) ?_
    |refine bW7 ?_
    |refine fU (p:=(T.row _).eq=true) (by kernel_rfl) ?_
    |refine fU (by omega) ?_
    |refine fU rfl ?_
    |refine eZ2 ?_
    |refine eZ0 (fun hd=>?_) (fun hd=>?_)
    |refine br_lt (fun hlt=>?_) (fun hlt=>?_)
    |refine br_le (fun hle=>?_) (fun hle=>?_)
    |refine eV7 (fun heq=>?_) (fun heq=>?_)
    |refine eQ9 (by omega) (fun x hx=>?_)
    |refine eY0 rfl (fun h=>by cases h) ?_
    |refine jU (fun hbb=>?_) (fun hbb=>?_)
    |refine ret_i ?_
    |refine fA7 ?_)
   all_goals conv=>whnf
   all_goals first
    |exact aA (aC (hno (by assumption)))
    |skip
   refine⟨(D++[x],R),?_,⟨by rw[hp];simp,fun z hz=>?_,?_⟩,by simp⟩
   ·simp only[List.length_append,List.length_singleton]
    refine dV ?_ ?_ ?_ ?_
    all_goals repeat' (first|exact trivial|refine And.intro ?_ ?_|with_reducible rfl|exact(fun h=>by cases h)|exact Nat.le_refl _|omega|exact rfl)
   ·rcases List.mem_append.1 hz with hz|hz
    ·exact hD z hz
    ·rw[List.mem_singleton.1 hz,hq];assumption
   ·rw[hDn];exact List.pairwise_singleton _ _
  ·rw[List.concat_eq_append]at hE
   have hyD:f[D.length-1]? =some y:=by rw[hp,hE];simp
   have hD1:1<=D.length:=by rw[hE];simp
   have hns:¬y.id<x.id->¬RightF f:=fun h q=>h (by
    have hs:=q.so
    rw[hp,hE]at hs
    have hs':((E++[y] ++x::R).map Node.id).Pairwise (·<·):=hs
    rw[List.map_append,List.pairwise_append]at hs'
    exact hs'.2.2 y.id (by simp) x.id (by simp))
   have hyl:=(List.getElem?_eq_some_iff.1 hyD).1
   generalize hq:ownP x=q at*
   repeat' ((conv=>whnf);first
    |(exfalso;omega)
    |(exfalso;contradiction)
    |refine aB (l:=f) (by omega) ?_
    |refine gK (l:=f) hyD (by omega) ?_
    |refine aF (l:=f) (A:=D) (x:=x) (B:=R) hp (by omega) ?_
    |(refine aS5 (h1) false ?_ rfl ?_;focus ((repeat' (first|exact trivial|refine And.intro ?_ ?_|with_reducible rfl|exact(fun h=>by cases h)|exact rfl));done))
    |refine eY7 ?_
    |refine eZ1 (by kernel_rfl) ?_
    |refine eH4 (by omega) ?_
    |refine bW7 ?_
    |refine fU (p:=(T.row _).eq=true) (by kernel_rfl) ?_
    |refine fU (by omega) ?_
    |refine fU rfl ?_
    |refine eZ2 ?_
    |refine eZ0 (fun hd=>?_) (fun hd=>?_)
    |refine br_lt (fun hlt=>?_) (fun hlt=>?_)
    |refine br_le (fun hle=>?_) (fun hle=>?_)
    |refine eV7 (fun heq=>?_) (fun heq=>?_)
    |refine eQ9 (by omega) (fun x hx=>?_)
    |refine eY0 rfl (fun h=>by cases h) ?_
    |refine jU (fun hbb=>?_) (fun hbb=>?_)
    |refine ret_i ?_
    |refine fA7 ?_)
   all_goals conv=>whnf
   all_goals first
    |exact aA (aC (hno (by assumption)))
    |exact aA (aC (hns (by omega)))
    |skip
   refine⟨(D++[x],R),?_,⟨by rw[hp];simp,fun z hz=>?_,?_⟩,by simp⟩
   ·simp only[List.length_append,List.length_singleton]
    refine dV ?_ ?_ ?_ ?_
    all_goals repeat' (first|exact trivial|refine And.intro ?_ ?_|with_reducible rfl|exact(fun h=>by cases h)|exact Nat.le_refl _|omega|exact rfl)
   ·rcases List.mem_append.1 hz with hz|hz
    ·exact hD z hz
    ·rw[List.mem_singleton.1 hz,hq];assumption
   ·exact sort_snoc hS hE (by omega)
 |nil=>
 have hlen:f.length=D.length:=by rw[hp];simp
 have eD:f=D:=by rw[hp];simp
 rw[<-eD]at hD hS
 rw[<-hlen]
 clear hp hlen eD D
 repeat' ((conv=>whnf);first
  |(exfalso;omega)
  |refine eY7 ?_
  |refine eZ1 (by kernel_rfl) ?_
  |refine eH4 (by omega) ?_
  |refine bW7 ?_
  |refine fU (p:=(T.row _).eq=true) (by kernel_rfl) ?_
  |refine fU (by omega) ?_
  |refine fU rfl ?_
  |refine eZ2 ?_
  |refine eZ0 (fun hd=>?_) (fun hd=>?_)
  |refine br_lt (fun hlt=>?_) (fun hlt=>?_)
  |refine br_le (fun hle=>?_) (fun hle=>?_)
  |refine eV7 (fun heq=>?_) (fun heq=>?_)
  |refine eQ9 (by omega) (fun x hx=>?_)
  |refine eY0 rfl (fun h=>by cases h) ?_
  |refine jU (fun hbb=>?_) (fun hbb=>?_)
  |refine ret_i ?_
  |refine fA7 ?_)
 refine oU (A:=List (Int×Int)) (B:=List Node) (C:=List Node) (fun ps D R=>rgt2 f D ps) (fun ps D R=>f=D++R/\∀n,look ps n=baseN D n) (fun ps D R=>R.length) [] [] f ?_ ⟨rfl,fun n=>rfl⟩ (fun ps D R hp=>?_)
 ·show Le T _ (mkSt [(0, .sl (f.map nodeV)),(5, .box 5 0),(39, .sl (f.map nodeV)),(40,I f.length),(41,I 0)] [(5,[.arr 38 0])] [(38,⟨0, .dead,129,[.bot]⟩)])
  rw[<-hll]
  refine dV ?_ ?_ ?_ ?_
  all_goals repeat' (first|exact trivial|refine And.intro ?_ ?_|with_reducible rfl|exact(fun h=>by cases h)|exact Nat.le_refl _|omega|exact rfl)
 obtain⟨hp,hps⟩:=hp
 cases R with
 |cons x R=>
  have hlen:=aO hp
  have hlD:((D++[x]).length:Int)=(D.length:Int)+1:=by simp
  have hxf:x∈f:=by rw[hp];simp
  have hox:=hD x hxf
  have hnx:∀y∈D,y.id≠x.id:=fun y hy e=>by
   have hs':((D++x::R).map Node.id).Pairwise (·<·):=by rw[<-hp];exact hS
   rw[List.map_append,List.pairwise_append]at hs'
   have:=hs'.2.2 y.id (List.mem_map_of_mem hy) x.id (by simp)
   omega
  have h1:=assoc_look x.id ps
  have hl0:look ps x.id=0:=by rw[hps];exact base_none hnx
  rw[hl0]at h1
  obtain⟨v,hv⟩:∃v,v=x.size-x.scrap:=⟨_,rfl⟩
  have hsz:W (0+W (x.size-x.scrap))=v:=by
   obtain⟨a1,a2,a3,a4,a5,a6,a7⟩:=hox
   have:=hz x hxf
   rw[<-hv,w_in (n:=v) (by omega),w_in (by omega)]
   omega
  repeat' ((conv=>whnf);first
   |(exfalso;omega)
   |refine aB (l:=f) (by omega) ?_
   |refine aF (l:=f) (A:=D) (x:=x) (B:=R) hp (by omega) ?_
   |refine eV6 h1 ?_
   |refine fU (p:=(0:Nat)=0) rfl ?_
   |refine eY7 ?_
   |refine eZ1 (by kernel_rfl) ?_
   |refine eH4 (by omega) ?_
   |refine bW7 ?_
   |refine fU (p:=(T.row _).eq=true) (by kernel_rfl) ?_
   |refine fU (by omega) ?_
   |refine fU rfl ?_
   |refine eZ2 ?_
   |refine eZ0 (fun hd=>?_) (fun hd=>?_)
   |refine br_lt (fun hlt=>?_) (fun hlt=>?_)
   |refine br_le (fun hle=>?_) (fun hle=>?_)
   |refine eV7 (fun heq=>?_) (fun heq=>?_)
   |refine eQ9 (by omega) (fun x hx=>?_)
   |refine eY0 rfl (fun h=>by cases h) ?_
   |refine jU (fun hbb=>?_) (fun hbb=>?_)
   |refine ret_i ?_
   |refine fA7 ?_)
  all_goals conv=>whnf
  refine⟨((x.id,v)::ps,D++[x],R),?_,⟨by rw[hp];simp,fun n=>?_⟩,by simp⟩
  ·show Le T _ (mkSt [(0, .sl (f.map nodeV)),(5, .box 5 0),(39, .sl (f.map nodeV)),(40,I f.length),(41,I ((D++[x]).length:Nat))] [(5,[.arr 38 0])] [(38,⟨0, .dead,129, .bot:: .tup [.lit (.int .i64 x.id),I v] ::putsV ps⟩)])
   rw[<-hsz,hlD]
   refine dV ?_ ?_ ?_ ?_
   all_goals repeat' (first|exact trivial|refine And.intro ?_ ?_|with_reducible rfl|exact(fun h=>by cases h)|exact Nat.le_refl _|omega|exact rfl)
  ·rw[base_snoc hnx]
   show(if x.id=n then v else look ps n)=_
   rw[hps n,hv]
 |nil=>
 have hlen:f.length=D.length:=by rw[hp];simp
 have eD:f=D:=by rw[hp];simp
 rw[<-eD]at hps
 repeat' ((conv=>whnf);first
  |(exfalso;omega)
  |refine eZ1 (by kernel_rfl) ?_
  |refine eH4 (by omega) ?_
  |refine bW7 ?_
  |refine fU (p:=(T.row _).eq=true) (by kernel_rfl) ?_
  |refine fU (by omega) ?_
  |refine fU rfl ?_
  |refine eZ2 ?_
  |refine eZ0 (fun hd=>?_) (fun hd=>?_)
  |refine br_lt (fun hlt=>?_) (fun hlt=>?_)
  |refine br_le (fun hle=>?_) (fun hle=>?_)
  |refine eV7 (fun heq=>?_) (fun heq=>?_)
  |refine eQ9 (by omega) (fun x hx=>?_)
  |refine eY0 rfl (fun h=>by cases h) ?_
  |refine jU (fun hbb=>?_) (fun hbb=>?_)
  |refine ret_i ?_
  |refine fA7 ?_)
 refine eY7 ?_
 repeat' ((conv=>whnf);first
  |(exfalso;omega)
  |refine eZ1 (by kernel_rfl) ?_
  |refine eH4 (by omega) ?_
  |refine bW7 ?_
  |refine fU (p:=(T.row _).eq=true) (by kernel_rfl) ?_
  |refine fU (by omega) ?_
  |refine fU rfl ?_
  |refine eZ2 ?_
  |refine eZ0 (fun hd=>?_) (fun hd=>?_)
  |refine br_lt (fun hlt=>?_) (fun hlt=>?_)
  |refine br_le (fun hle=>?_) (fun hle=>?_)
  |refine eV7 (fun heq=>?_) (fun heq=>?_)
  |refine eQ9 (by omega) (fun x hx=>?_)
  |refine eY0 rfl (fun h=>by cases h) ?_
  |refine jU (fun hbb=>?_) (fun hbb=>?_)
  |refine ret_i ?_
  |refine fA7 ?_)
 refine eY7 ?_
 repeat' ((conv=>whnf);first
  |(exfalso;omega)
  |refine eZ1 (by kernel_rfl) ?_
  |refine eH4 (by omega) ?_
  |refine bW7 ?_
  |refine fU (p:=(T.row _).eq=true) (by kernel_rfl) ?_
  |refine fU (by omega) ?_
  |refine fU rfl ?_
  |refine eZ2 ?_
  |refine eZ0 (fun hd=>?_) (fun hd=>?_)
  |refine br_lt (fun hlt=>?_) (fun hlt=>?_)
  |refine br_le (fun hle=>?_) (fun hle=>?_)
  |refine eV7 (fun heq=>?_) (fun heq=>?_)
  |refine eQ9 (by omega) (fun x hx=>?_)
  |refine eY0 rfl (fun h=>by cases h) ?_
  |refine jU (fun hbb=>?_) (fun hbb=>?_)
  |refine ret_i ?_
  |refine fA7 ?_)
 refine dJ4 (List (Int×Int)) (fun ps=>mkSt [(0, .sl (f.map nodeV)),(5, .box 5 0)] [(5,[V.mapV (.int .i64 0) (putsV ps)])] []) (fun ps=>(∀n,n≠0->look ps n=baseN f n-ksum f n)/\∀x∈f,parN f x/\climbR f f.length x=true) ?_ ?_
 ·repeat' ((conv=>whnf);first
   |(exfalso;omega)
   |refine eY7 ?_
   |refine eZ1 (by kernel_rfl) ?_
   |refine eH4 (by omega) ?_
   |refine bW7 ?_
   |refine fU (p:=(T.row _).eq=true) (by kernel_rfl) ?_
   |refine fU (by omega) ?_
   |refine fU rfl ?_
   |refine eZ2 ?_
   |refine eZ0 (fun hd=>?_) (fun hd=>?_)
   |refine br_lt (fun hlt=>?_) (fun hlt=>?_)
   |refine br_le (fun hle=>?_) (fun hle=>?_)
   |refine eV7 (fun heq=>?_) (fun heq=>?_)
   |refine eQ9 (by omega) (fun x hx=>?_)
   |refine eY0 rfl (fun h=>by cases h) ?_
   |refine jU (fun hbb=>?_) (fun hbb=>?_)
   |refine ret_i ?_
   |refine fA7 ?_)
  refine oU (A:=List (Int×Int)) (B:=List Node) (C:=List Node) (fun ps D R=>rgt3 f D ps) (fun ps D R=>f=D++R/\(∀n,n≠0->look ps n=baseN f n-ksum D n/\0<=look ps n)/\∀x∈D,parN f x/\climbR f f.length x=true) (fun ps D R=>R.length) ps [] f ?_ ⟨rfl,fun n _=>⟨by rw[hps n];show _=_-0;omega,?_⟩,by simp⟩ (fun ps D R hp=>?_)
  ·show Le T _ (mkSt [(0, .sl (f.map nodeV)),(5, .box 5 0),(56, .sl (f.map nodeV)),(57,I f.length),(58,I 0)] [(5,[.arr 38 0])] [(38,⟨0, .dead,129, .bot::putsV ps⟩)])
   rw[<-hll]
   refine dV ?_ ?_ ?_ ?_
   all_goals repeat' (first|exact trivial|refine And.intro ?_ ?_|with_reducible rfl|exact(fun h=>by cases h)|exact Nat.le_refl _|omega|exact rfl)
  ·rw[hps n]
   unfold baseN
   cases hg:getN f n with
   |none=>exact Int.le_refl 0
   |some y=>
    have:=hD y (getN_mem hg).1
    obtain⟨a1,a2,a3,a4,a5,a6,a7⟩:=this
    show 0<=y.size-y.scrap
    omega
  obtain⟨hp,hlk,hdn⟩:=hp
  cases R with
  |cons x R=>
   have hlen:=aO hp
   have hlD:((D++[x]).length:Int)=(D.length:Int)+1:=by simp
   have hxf:x∈f:=by rw[hp];simp
   obtain⟨a1,a2,a3,a4,a5,a6,a7⟩:=hD x hxf
   have hzx:=hz x hxf
   by_cases h0:x.parent=0
   ·repeat' ((conv=>whnf);first
     |(exfalso;omega)
     |refine aB (l:=f) (by omega) ?_
     |refine aF (l:=f) (A:=D) (x:=x) (B:=R) hp (by omega) ?_
     |refine eY7 ?_
     |refine eZ1 (by kernel_rfl) ?_
     |refine eH4 (by omega) ?_
     |refine bW7 ?_
     |refine fU (p:=(T.row _).eq=true) (by kernel_rfl) ?_
     |refine fU (by omega) ?_
     |refine fU rfl ?_
     |refine eZ2 ?_
     |refine eZ0 (fun hd=>?_) (fun hd=>?_)
     |refine br_lt (fun hlt=>?_) (fun hlt=>?_)
     |refine br_le (fun hle=>?_) (fun hle=>?_)
     |refine eV7 (fun heq=>?_) (fun heq=>?_)
     |refine eQ9 (by omega) (fun x hx=>?_)
     |refine eY0 rfl (fun h=>by cases h) ?_
     |refine jU (fun hbb=>?_) (fun hbb=>?_)
     |refine ret_i ?_
     |refine fA7 ?_)
    all_goals conv=>whnf
    refine⟨(ps,D++[x],R),?_,⟨by rw[hp];simp,fun n hn=>?_,fun z hz=>?_⟩,by simp⟩
    ·show Le T _ (rgt3 f (D++[x]) ps)
     unfold rgt3
     simp only[List.length_append,List.length_singleton]
     refine dV ?_ ?_ ?_ ?_
     all_goals repeat' (first|exact trivial|refine And.intro ?_ ?_|with_reducible rfl|exact(fun h=>by cases h)|exact Nat.le_refl _|omega|exact rfl)
    ·rw[ksum_snoc,if_neg (by omega),Int.add_zero]
     exact hlk n hn
    ·rcases List.mem_append.1 hz with hz|hz
     ·exact hdn z hz
     ·rw[List.mem_singleton.1 hz]
      refine⟨fun q=>absurd h0 q,?_⟩
      cases f.length with
      |zero=>unfold climbR;exact decide_eq_true h0
      |succ k=>unfold climbR;rw[if_pos h0]
   have g1:=findN_spec f x.parent hl hS
   by_cases hg:∃m∈f,m.id=x.parent
   rotate_left
   ·have hno:¬RightF f:=fun q=>by
     obtain⟨p,hp,_⟩:=q.par x hxf h0
     exact hg (getN_ex.2 ⟨p,hp⟩)
    generalize bs Node.id f x.parent=j at*
    generalize (∃m∈f,m.id=x.parent)=P at*
    repeat' ((conv=>whnf);first
     |(exfalso;omega)
     |(exfalso;contradiction)
     |refine aB (l:=f) (by omega) ?_
     |refine aF (l:=f) (A:=D) (x:=x) (B:=R) hp (by omega) ?_
     |(refine aS5 (g1) false ?_ rfl ?_;focus ((repeat' (first|exact trivial|refine And.intro ?_ ?_|with_reducible rfl|exact(fun h=>by cases h)|exact rfl));done))
     |refine eY7 ?_
     |refine eZ1 (by kernel_rfl) ?_
     |refine eH4 (by omega) ?_
     |refine bW7 ?_
     |refine fU (p:=(T.row _).eq=true) (by kernel_rfl) ?_
     |refine fU (by omega) ?_
     |refine fU rfl ?_
     |refine eZ2 ?_
     |refine eZ0 (fun hd=>?_) (fun hd=>?_)
     |refine br_lt (fun hlt=>?_) (fun hlt=>?_)
     |refine br_le (fun hle=>?_) (fun hle=>?_)
     |refine eV7 (fun heq=>?_) (fun heq=>?_)
     |refine eQ9 (by omega) (fun x hx=>?_)
     |refine eY0 rfl (fun h=>by cases h) ?_
     |refine jU (fun hbb=>?_) (fun hbb=>?_)
     |refine ret_i ?_
     |refine fA7 ?_)
    all_goals conv=>whnf
    all_goals exact aA (aC hno)
   obtain⟨y,hy⟩:=getN_ex.1 hg
   obtain⟨hyf,hyi⟩:=getN_mem hy
   have hb:=getN_bs hS hy
   have hbl:=(List.getElem?_eq_some_iff.1 hb).1
   have h1:=assoc_look x.parent ps
   obtain⟨c1,c2⟩:=hlk x.parent h0
   have hbase:=base_some hy
   obtain⟨b1,b2,b3,b4,b5,b6,b7⟩:=hD y hyf
   have hzy:=hz y hyf
   have hkp:0<=ksum D x.parent:=ksum_pos (fun z hz=>(hD z (by rw[hp];simp[hz])).2.2.2.1) _
   have hlm:look ps x.parent<=9223372036854775807:=by omega
   have g2:=rooted_spec f x hl hS
   have hlq:RightF f->y.gone=true/\y.grade=x.grade/\y.heat=x.heat/\(x.kind=3\/x.kind=y.kind):=fun q=>by
    obtain⟨p,hp,hl⟩:=q.par x hxf h0
    rw[hy]at hp
    cases hp
    exact hl
   have hsz:RightF f->x.size<=look ps x.parent:=fun q=>by
    have e1:=q.sum y hyf (hlq q).1
    rw[hyi,hp,ksum_app,show ksum (x::R) x.parent=(if x.parent=x.parent then x.size else 0)+ksum R x.parent from by unfold ksum;simp,if_pos rfl]at e1
    have e2:0<=ksum R x.parent:=ksum_pos (fun z hz=>(hD z (by rw[hp];simp[hz])).2.2.2.1) _
    omega
   have hup:RightF f->climbR f f.length x=true:=fun q=>q.up x hxf
   have hpz:∀v,v=look ps x.parent->x.size<=v->∀n,n≠0->look ((x.parent,v-x.size)::ps) n=baseN f n-ksum (D++[x]) n/\0<=look ((x.parent,v-x.size)::ps) n:=fun v hv hle n hn=>by
    obtain⟨d1,d2⟩:=hlk n hn
    rw[ksum_snoc]
    show(if x.parent=n then v-x.size else look ps n)=_/\0<=(if x.parent=n then v-x.size else look ps n)
    by_cases e:x.parent=n
    ·rw[if_pos e,if_pos e]
     subst e
     exact⟨by omega,by omega⟩
    ·rw[if_neg e,if_neg e]
     exact⟨by omega,d2⟩
   clear hlk hbase hkp c1
   generalize hlv:look ps x.parent=v at*
   generalize bs Node.id f x.parent=j at*
   generalize (∃m∈f,m.id=x.parent)=P at*
   generalize hcb:climbR f f.length x=cb at*
   repeat' ((conv=>whnf);first
    |(exfalso;omega)
    |(exfalso;contradiction)
    |refine jI (fun heq=>?_) (fun heq=>?_)
    |refine aB (l:=f) (by omega) ?_
    |refine aF (l:=f) (A:=D) (x:=x) (B:=R) hp (by omega) ?_
    |refine gK (l:=f) hb (by omega) ?_
    |refine eV6 h1 ?_
    |refine fU (p:=(0:Nat)=0) rfl ?_
    |(refine aS5 (g1) false ?_ rfl ?_;focus ((repeat' (first|exact trivial|refine And.intro ?_ ?_|with_reducible rfl|exact(fun h=>by cases h)|exact rfl));done))
    |(refine aS5 (g2) false ?_ rfl ?_;focus ((repeat' (first|exact trivial|refine And.intro ?_ ?_|with_reducible rfl|exact(fun h=>by cases h)|exact rfl));done))
    |refine eY7 ?_
    |refine eZ1 (by kernel_rfl) ?_
    |refine eH4 (by omega) ?_
    |refine bW7 ?_
    |refine fU (p:=(T.row _).eq=true) (by kernel_rfl) ?_
    |refine fU (by omega) ?_
    |refine fU rfl ?_
    |refine eZ2 ?_
    |refine eZ0 (fun hd=>?_) (fun hd=>?_)
    |refine br_lt (fun hlt=>?_) (fun hlt=>?_)
    |refine br_le (fun hle=>?_) (fun hle=>?_)
    |refine eV7 (fun heq=>?_) (fun heq=>?_)
    |refine eQ9 (by omega) (fun x hx=>?_)
    |refine eY0 rfl (fun h=>by cases h) ?_
    |refine jU (fun hbb=>?_) (fun hbb=>?_)
    |refine ret_i ?_
    |refine fA7 ?_)
   all_goals conv=>whnf
   all_goals first
    |exact aA (aC fun q=>by have e:=(hlq q).1;rw[‹y.gone=false›]at e;cases e)
    |exact aA (aC fun q=>absurd (hlq q).2.1 (by assumption))
    |exact aA (aC fun q=>absurd (hlq q).2.2.1 (by assumption))
    |exact aA (aC fun q=>by have:=(hlq q).2.2.2;omega)
    |exact aA (aC fun q=>by have:=hsz q;omega)
    |exact aA (aC fun q=>by have e:=hup q;rw[‹cb=false›]at e;cases e)
    |skip
   all_goals (refine⟨((x.parent,v-x.size)::ps,D++[x],R),?_,⟨by rw[hp];simp,hpz v rfl (by omega),fun z hz=>?_⟩,by simp⟩)
   all_goals first
    |(show Le T _ (mkSt [(0, .sl (f.map nodeV)),(5, .box 5 0),(56, .sl (f.map nodeV)),(57,I f.length),(58,I ((D++[x]).length:Nat))] [(5,[.arr 38 0])] [(38,⟨0, .dead,129, .bot:: .tup [.lit (.int .i64 x.parent),I (v-x.size)] ::putsV ps⟩)])
      rw[hlD]
      refine dV ?_ ?_ ?_ ?_
      all_goals repeat' (first|exact trivial|refine And.intro ?_ ?_|with_reducible rfl|exact(fun h=>by cases h)|exact Nat.le_refl _|omega|exact rfl))
    |(rcases List.mem_append.1 hz with hz|hz
      ·exact hdn z hz
      ·rw[List.mem_singleton.1 hz]
       exact⟨fun _=>⟨y,hy,by assumption,by assumption,by assumption,by omega⟩,hcb.trans (by assumption)⟩)
  |nil=>
   have hlen2:f.length=D.length:=by rw[hp];simp
   have eD:f=D:=by rw[hp];simp
   rw[<-eD]at hlk hdn
   repeat' ((conv=>whnf);first
    |(exfalso;omega)
    |refine eY7 ?_
    |refine eZ1 (by kernel_rfl) ?_
    |refine eH4 (by omega) ?_
    |refine bW7 ?_
    |refine fU (p:=(T.row _).eq=true) (by kernel_rfl) ?_
    |refine fU (by omega) ?_
    |refine fU rfl ?_
    |refine eZ2 ?_
    |refine eZ0 (fun hd=>?_) (fun hd=>?_)
    |refine br_lt (fun hlt=>?_) (fun hlt=>?_)
    |refine br_le (fun hle=>?_) (fun hle=>?_)
    |refine eV7 (fun heq=>?_) (fun heq=>?_)
    |refine eQ9 (by omega) (fun x hx=>?_)
    |refine eY0 rfl (fun h=>by cases h) ?_
    |refine jU (fun hbb=>?_) (fun hbb=>?_)
    |refine ret_i ?_
    |refine fA7 ?_)
   refine⟨ps,?_,fun n hn=>(hlk n hn).1,hdn⟩
   refine Le.trans (le_frzm 38 (.int .i64 0) rfl (by kernel_rfl)) ?_
   refine dV ?_ ?_ ?_ ?_
   all_goals repeat' (first|exact trivial|refine And.intro ?_ ?_|with_reducible rfl|exact(fun h=>by cases h)|exact Nat.le_refl _|omega|exact rfl)
 ·intro ps hq
  have h1:=ndC_spec (g:=51) (c:=[V.mapV (.int .i64 0) (putsV ps)]) (fun m=>rightF_spec ps m) f hl
  have hr:RightF f↔¬∃m∈f,goneLeft ps m:=by
   have hlk:∀m∈f,look ps m.id=m.size-m.scrap-ksum f m.id:=fun m hm=>by
    rw[hq.1 m.id (by have:=(hD m hm).1;omega),base_some (getN_some hS hm)]
   constructor
   ·rintro q ⟨m,hm,h2,h3⟩
    have:=q.sum m hm h2
    have:=hlk m hm
    omega
   ·intro h
    refine⟨hD,hS,fun x hx=>(hq.2 x hx).1,fun x hx=>(hq.2 x hx).2,fun g hg hgg=>?_⟩
    have:=hlk g hg
    by_cases c:look ps g.id=0
    ·omega
    ·exact absurd ⟨g,hg,hgg,c⟩ h
  generalize RightF f=P at*
  generalize (∃m∈f,goneLeft ps m)=Q at*
  repeat' ((conv=>whnf);first
   |(refine aS5 (h1) false ?_ rfl ?_;focus ((repeat' (first|exact trivial|refine And.intro ?_ ?_|with_reducible rfl|exact(fun h=>by cases h)|exact rfl));done))
   |refine eY7 ?_
   |refine eZ1 (by kernel_rfl) ?_
   |refine eH4 (by omega) ?_
   |refine bW7 ?_
   |refine fU (p:=(T.row _).eq=true) (by kernel_rfl) ?_
   |refine fU (by omega) ?_
   |refine fU rfl ?_
   |refine eZ2 ?_
   |refine eZ0 (fun hd=>?_) (fun hd=>?_)
   |refine br_lt (fun hlt=>?_) (fun hlt=>?_)
   |refine br_le (fun hle=>?_) (fun hle=>?_)
   |refine eV7 (fun heq=>?_) (fun heq=>?_)
   |refine eQ9 (by omega) (fun x hx=>?_)
   |refine eY0 rfl (fun h=>by cases h) ?_
   |refine jU (fun hbb=>?_) (fun hbb=>?_)
   |refine ret_i ?_
   |refine fA7 ?_)
  all_goals conv=>whnf
  exact aA (aF6 (dW.trans hr.symm))
theorem rightG_spec(f:List Node)(hl:f.length<=1000000)(hz:∀x∈f,x.size<=9223372036854775807):Sp 19 [.sl (f.map nodeV)] (DB (RightF f)):=zsp Tryz.func19 (rightG_vc f hl hz)
end Go.Proofs.Led
