/-
  The reference's genealogy: Certificate.
-/
import Derived.Test.YtdjgbagnajikeaaGreatDoorSGS6
set_option linter.unusedVariables false
set_option linter.unusedSimpArgs false
set_option maxRecDepth 100000
set_option maxHeartbeats 8000000
noncomputable section
namespace Go.Proofs.Led
open Go Go.Proofs Go.Ab
theorem ch_suffix{f:List Node}(h:RightF f):∀(D:List Node) {x y:Node} {R:List Node},x∈f->chN f x=D++y::R->y∈f/\chN f y=y::R
 | [],x,y,R,hx,e=>by
   have hy:y=x:=by
    by_cases h0:x.parent=0
    ·rw[ch_root h0]at e
     cases e;rfl
    ·obtain⟨z,q1,q2,q3,q4,q5⟩:=par_get h hx h0
     rw[q5]at e
     cases e;rfl
   subst hy
   exact⟨hx,e⟩
 |d::D,x,y,R,hx,e=>by
  by_cases h0:x.parent=0
  ·rw[ch_root h0]at e
   simp at e
  ·obtain⟨z,q1,q2,q3,q4,q5⟩:=par_get h hx h0
   rw[q5,List.cons_append]at e
   exact ch_suffix h D q2 (List.cons.inj e).2
theorem ch_last{f:List Node}(h:RightF f){D R:List Node}{x y:Node}(hx:x∈f)(e:chN f x=D++y::R):y∈f/\(y.parent=0↔R=[]):=by
 obtain⟨hy,hc⟩:=ch_suffix h D hx e
 refine⟨hy,?_⟩
 by_cases h0:y.parent=0
 ·rw[ch_root h0]at hc
  cases hc
  simp[h0]
 ·obtain⟨z,q1,q2,q3,q4,q5⟩:=par_get h hy h0
  rw[q5]at hc
  have hR:chN f z=R:=(List.cons.inj hc).2
  have:=ch_pos (f:=f) (x:=z)
  constructor
  ·intro e;exact absurd e h0
  ·intro e
   rw[hR,e]at this
   simp at this
theorem cert_snoc(D:List Node)(y:Node):certL (D++[y]).reverse=certL D.reverse++lineN y++restN y++bs_ [10] :=by
 rw[List.reverse_append]
 rfl
theorem lit_app(a b:List UInt8)(Z:ByteArray):bs_ a++(bs_ b++Z)=bs_ (a++b)++Z:=by
 rw[<-ByteArray.append_assoc]
 congr 1
def rcSt(f:List Node)(P:List Int)(D:List Node)(r:Int):St:=mkSt [(0, .sl (f.map nodeV)),(7, .sl (P.map I)),(8,S (certL D.reverse)),(9,I r)] [] []
theorem rcertY_spec(f:List Node)(n:Int)(x:Node)(hl:f.length<=900000)(hz:SzN f)(h:RightF f)(hn:getN f n=some x)(hk:∀y∈f,NOk y):Sp 29 [.sl (f.map nodeV),I n] (.tup [S (certL (chN f x).reverse),I 0]):=by
 refine zsp Tryz.func29 ?_
 have hl':f.length<=1000000:=by omega
 have hc:=rcheckY_spec f n x hl' hz h hn
 obtain⟨hx,hid⟩:=getN_mem hn
 have hp:=rpath_spec f x hl' h.so h.parE hx
 have hL:rpV f x= .sl ((((chN f x).map Node.id).reverse).map I):=by unfold rpV;rw[if_pos (h.up x hx)]
 rw[hL,hid]at hp
 have hml:(f.map nodeV).length=f.length:=by simp
 have hcl:=ch_le (f:=f) (x:=x)
 have hla:=fun {D R:List Node} {y:Node}=>ch_last (D:=D) (R:=R) (y:=y) h hx
 generalize chN f x=C at*
 clear hn hL
 have hPl:(((C.map Node.id).reverse).map I).length=C.length:=by simp
 have hPl2:((C.map Node.id).reverse).length=C.length:=by simp
 generalize hPP:(C.map Node.id).reverse=P at*
 repeat' ((conv=>whnf);first
  |(exfalso;contradiction)
  |(refine aS5 (hc) false ?_ rfl ?_;focus ((repeat' (first|exact trivial|refine And.intro ?_ ?_|with_reducible rfl|exact(fun h=>by cases h)|exact rfl));done))
  |(refine aS5 (hp) false ?_ rfl ?_;focus ((repeat' (first|exact trivial|refine And.intro ?_ ?_|with_reducible rfl|exact(fun h=>by cases h)|exact rfl));done))
  |refine eY7 ?_
  |refine eZ1 (by kernel_rfl) ?_
  |refine eH4 (by omega) ?_
  |refine bW7 ?_
  |refine fU (p:=(T.row _).eq=true) (by kernel_rfl) ?_
  |refine fU (by omega) ?_
  |refine fU rfl ?_
  |refine eZ2 ?_
  |refine eZ0 (fun hd=>?_) (fun hd=>?_)
  |refine br_lt (fun hlt=>?_) (fun hlt=>?_)
  |refine br_le (fun hle=>?_) (fun hle=>?_)
  |refine eV7 (fun heq=>?_) (fun heq=>?_)
  |refine eQ9 (by omega) (fun x hx=>?_)
  |refine eY0 rfl (fun h=>by cases h) ?_
  |refine jU (fun hbb=>?_) (fun hbb=>?_)
  |refine ret_i ?_
  |refine fA7 ?_)
 refine aU (A:=List Node) (B:=List Node) (fun D R=>rcSt f P D ((R.length:Int)-1)) (fun D R=>C=D++R) (fun D R=>R.length) [] C ?_ rfl (fun D R hq=>?_)
 ·show Le T _ (mkSt [(0, .sl (f.map nodeV)),(7, .sl (P.map I)),(8,S aI),(9,I ((C.length:Int)-1))] [] [])
  rw[<-hPl]
  refine dV ?_ ?_ ?_ ?_
  all_goals repeat' (first|exact trivial|refine And.intro ?_ ?_|with_reducible rfl|exact(fun h=>by cases h)|exact Nat.le_refl _|omega|exact rfl)
 cases R with
 |nil=>
  have hD:D=C:=by rw[hq];simp
  subst hD
  have h0:(([] :List Node).length:Int)-1= -1:=rfl
  unfold rcSt
  rw[h0]
  repeat' ((conv=>whnf);first
   |(exfalso;omega)
   |refine eY7 ?_
   |refine eZ1 (by kernel_rfl) ?_
   |refine eH4 (by omega) ?_
   |refine bW7 ?_
   |refine fU (p:=(T.row _).eq=true) (by kernel_rfl) ?_
   |refine fU (by omega) ?_
   |refine fU rfl ?_
   |refine eZ2 ?_
   |refine eZ0 (fun hd=>?_) (fun hd=>?_)
   |refine br_lt (fun hlt=>?_) (fun hlt=>?_)
   |refine br_le (fun hle=>?_) (fun hle=>?_)
   |refine eV7 (fun heq=>?_) (fun heq=>?_)
   |refine eQ9 (by omega) (fun x hx=>?_)
   |refine eY0 rfl (fun h=>by cases h) ?_
   |refine jU (fun hbb=>?_) (fun hbb=>?_)
   |refine ret_i ?_
   |refine fA7 ?_)
  all_goals conv=>whnf
  all_goals first
   |exact aG rfl
   |exact aK rfl
   |exact aP rfl
   |(refine⟨?_,rfl,fun rs h=>V.noConfusion h⟩;(repeat' (first|exact trivial|refine And.intro ?_ ?_|with_reducible rfl|exact(fun h=>by cases h)|exact rfl));done)
   |(refine⟨_,rfl,?_⟩;(repeat' (first|exact trivial|refine And.intro ?_ ?_|with_reducible rfl|exact(fun h=>by cases h)|exact rfl));done)
 |cons y R=>
  obtain⟨hy,hroot⟩:=hla hq
  obtain⟨k1,k2,k3,k4,k5,k6,k7⟩:=hk y hy
  have hi1:=ritoa_spec y.id k1 k2
  have hi2:=ritoa_spec y.size k3 k4
  have hq1:=itoaB_len k1 k2
  have hq2:=itoaB_len k3 k4
  have hfi:=rfind_spec f y.id hl'
  obtain⟨j,hj,hg,hjl⟩:=firstN_get h.so hy
  rw[hj]at hfi
  have hlen:C.length=D.length+R.length+1:=by rw[hq];simp;omega
  have hcs:=certL_size D.reverse D.length (by simp) (fun z hz=>by
   obtain⟨D1,D2,e⟩:=List.append_of_mem (List.mem_reverse.1 hz)
   exact hk z (hla (D:=D1) (R:=D2++y::R) (y:=z) (by rw[hq,e];simp)).1)
  have hmid:P=(R.map Node.id).reverse++y.id::(D.map Node.id).reverse:=by rw[<-hPP,hq];simp
  have hr0:((y::R).length:Int)-1=R.length:=by simp
  have hsn:=cert_snoc D y
  have hRl:(R.map Node.id).reverse.length=R.length:=by simp
  have hrr:(R.length=0)↔y.parent=0:=by rw[hroot];exact List.length_eq_zero_iff
  unfold rcSt
  rw[hr0]
  generalize certL D.reverse=A at*
  repeat' ((conv=>whnf);first
   |(exfalso;omega)
   |(exfalso;contradiction)
   |refine aB (l:=P) (by omega) ?_
   |refine aF (l:=P) (A:=(R.map Node.id).reverse) (x:=y.id) (B:=(D.map Node.id).reverse) hmid (by omega) ?_
   |refine aB (l:=f) (by omega) ?_
   |refine gK (l:=f) hg (by omega) ?_
   |(refine aS5 (hfi) false ?_ rfl ?_;focus ((repeat' (first|exact trivial|refine And.intro ?_ ?_|with_reducible rfl|exact(fun h=>by cases h)|exact rfl));done))
   |(refine aS5 (hi1) false ?_ rfl ?_;focus ((repeat' (first|exact trivial|refine And.intro ?_ ?_|with_reducible rfl|exact(fun h=>by cases h)|exact rfl));done))
   |(refine aS5 (hi2) false ?_ rfl ?_;focus ((repeat' (first|exact trivial|refine And.intro ?_ ?_|with_reducible rfl|exact(fun h=>by cases h)|exact rfl));done))
   |refine fU (p:=_+_<=9223372036854775807) (by simp only[ByteArray.size_append,mkB_size,List.size_toArray,List.length_cons,List.length_nil];omega) ?_
   |refine eY7 ?_
   |refine eZ1 (by kernel_rfl) ?_
   |refine eH4 (by omega) ?_
   |refine bW7 ?_
   |refine fU (p:=(T.row _).eq=true) (by kernel_rfl) ?_
   |refine fU (by omega) ?_
   |refine fU rfl ?_
   |refine eZ2 ?_
   |refine eZ0 (fun hd=>?_) (fun hd=>?_)
   |refine br_lt (fun hlt=>?_) (fun hlt=>?_)
   |refine br_le (fun hle=>?_) (fun hle=>?_)
   |refine eV7 (fun heq=>?_) (fun heq=>?_)
   |refine eQ9 (by omega) (fun x hx=>?_)
   |refine eY0 rfl (fun h=>by cases h) ?_
   |refine jU (fun hbb=>?_) (fun hbb=>?_)
   |refine ret_i ?_
   |refine fA7 ?_)
  all_goals conv=>whnf
  all_goals (refine⟨(D++[y],R),?_,by rw[hq];simp,by simp⟩)
  all_goals (show Le T _ (mkSt [(0, .sl (f.map nodeV)),(7, .sl (P.map I)),(8,S (certL (D++[y]).reverse)),(9,I ((R.length:Int)-1))] [] []))
  all_goals rw[hsn]
  all_goals unfold lineN
  all_goals first
   |rw[show restN y=aI from if_neg (fun e=>by have:=hrr.2 e;omega)]
   |rw[show restN y=bs_ [32,103,114,97,100,101,32] ++y.grade++bs_ [32,104,101,97,116,32] ++y.heat from if_pos (hrr.1 (by omega))]
  all_goals first
   |rw[show whatN y=bs_ [115,104,101,101,116]from if_pos (by assumption)]
   |rw[show whatN y=bs_ [98,97,114]from(if_neg (by assumption)).trans (if_pos (by assumption))]
   |rw[show whatN y=bs_ [112,97,114,116,32] ++y.part from(if_neg (by assumption)).trans (if_neg (by assumption))]
  all_goals (show Le T _ (mkSt [(0, .sl (f.map nodeV)),(7, .sl (P.map I)),(8,S _),(9,I ((R.length:Int)-1))] [] [])
             refine dV ?_ ?_ ?_ ?_
             all_goals repeat' (first|exact trivial|refine And.intro ?_ ?_|with_reducible rfl|exact(fun h=>by cases h)|exact Nat.le_refl _|omega|exact rfl)
             refine congrArg Value.string ?_
             simp only[ByteArray.append_assoc,app_emptyB,lit_app,List.cons_append,List.nil_append])
end Go.Proofs.Led
namespace Go.Proofs.Led
open Go Go.Proofs Go.Ab Go.RowKit
theorem certN_spec(f:List Node)(n:Int)(hl:f.length<=1000000)(hz:SzN f)(h:¬RightF f):Sp 28 [.sl (f.map nodeV),I n] (.tup [S aI,I 1]):=by
 refine zsp Tryz.func28 ?_;have h1:=nodeN_spec f n hl hz h;exact KO
theorem certM_spec(f:List Node)(n:Int)(hl:f.length<=1000000)(hz:SzN f)(h:RightF f)(hn:getN f n=none):Sp 28 [.sl (f.map nodeV),I n] (.tup [S aI,I 8]):=by
 refine zsp Tryz.func28 ?_;have h1:=nodeM_spec f n hl hz h hn;exact KO
theorem certY_spec(f:List Node)(n:Int)(x:Node)(hl:f.length<=900000)(hz:SzN f)(h:RightF f)(hn:getN f n=some x)(hk:∀y∈f,NOk y):Sp 28 [.sl (f.map nodeV),I n] (.tup [S (certL (chN f x).reverse),I 0]):=by
 have h1:=nodeY_spec f n x Aa hz h hn;obtain⟨hx,hid⟩:=getN_mem hn;have h2:=climbL_spec f x Aa h hx
 have hcl:=ch_le (f:=f) (x:=x);have hpos:=ch_pos (f:=f) (x:=x)
 have hla:∀y∈chN f x,y∈f:=fun y hy=>by
  obtain⟨D,R,e⟩:=List.append_of_mem hy;exact(ch_last h hx e).1
 have hne:chN f x≠ [] :=fun e=>by rw[e]at hpos;simp at hpos
 refine spec_of_calls Ac fun w G cs g1 g2 g4 g5=>?_;obtain⟨v0,v1,rfl⟩:=arr2 g1;have r0:=g4 0 v0 _ rfl rfl
 have r1:v1= .int .i64 n:=dZ9 (g4 1 v1 _ rfl rfl);subst r1;refine(cert_any f n x (chN f x) w G v0 g2 g5 r0.1 r0.2 h1 h2 hne Aa (fun y hy=>hk y (hla y hy))).mono ?_;rintro e w' ⟨rfl,hB⟩;refine⟨hB,_,rfl,⟨_,rfl,rfl,fun j u y hu hy=>?_⟩⟩
 match j,hu,hy with
 |0,hu,hy=>cases hu;cases hy;exact⟨by simp only[V.pure,S,V.ok], .lit _ rfl⟩
 |1,hu,hy=>cases hu;cases hy;exact⟨by simp only[V.pure,I,V.ok], .lit _ rfl⟩
end Go.Proofs.Led
namespace Go.Proofs.Led
open Go Go.Proofs Go.Ab
theorem dW8{a b:List Int}(ha:a.length<=1000000):fnVC T Tryz.prog Tryz.f30 [.sl (a.map I), .sl (b.map I)] (DB (a=b)):=by
 have hma:(a.map I).length=a.length:=by simp
 have hmb:(b.map I).length=b.length:=by simp
 generalize hP:(a=b)=P
 have hr:P↔a=b:=by rw[hP]
 clear hP
 repeat' ((conv=>whnf);first
  |(exfalso;omega)
  |refine eY7 ?_
  |refine eZ1 (by kernel_rfl) ?_
  |refine eH4 (by omega) ?_
  |refine bW7 ?_
  |refine fU (p:=(T.row _).eq=true) (by kernel_rfl) ?_
  |refine fU (by omega) ?_
  |refine fU rfl ?_
  |refine eZ2 ?_
  |refine eZ0 (fun hd=>?_) (fun hd=>?_)
  |refine br_lt (fun hlt=>?_) (fun hlt=>?_)
  |refine br_le (fun hle=>?_) (fun hle=>?_)
  |refine eV7 (fun heq=>?_) (fun heq=>?_)
  |refine eQ9 (by omega) (fun x hx=>?_)
  |refine eY0 rfl (fun h=>by cases h) ?_
  |refine jU (fun hbb=>?_) (fun hbb=>?_)
  |refine ret_i ?_
  |refine fA7 ?_)
 all_goals conv=>whnf
 all_goals first
  |exact aA (aC (fun h=>by have:=congrArg List.length (hr.1 h);omega))
  |skip
 refine oU (A:=List Int) (B:=List Int) (C:=List Int) (fun D R S=>mkSt [(0, .sl (a.map I)),(1, .sl (b.map I)),(5,I D.length)] [] []) (fun D R S=>a=D++R/\b=D++S) (fun D R S=>R.length) [] a b ?_ ⟨rfl,rfl⟩ (fun D R S hp=>?_)
 ·refine dV ?_ ?_ ?_ ?_
  all_goals repeat' (first|exact trivial|refine And.intro ?_ ?_|with_reducible rfl|exact(fun h=>by cases h)|exact Nat.le_refl _|omega|exact rfl)
 obtain⟨hp,hq⟩:=hp
 cases R with
 |nil=>
  have hlen:a.length=D.length:=by rw[hp];simp
  have hS:S=[] :=by
   have h1:b.length=D.length+S.length:=by rw[hq];simp
   exact List.length_eq_zero_iff.1 (by omega)
  subst hS
  have hab:P:=hr.2 (by rw[hp,hq])
  clear hp hq hr
  repeat' ((conv=>whnf);first
   |(exfalso;omega)
   |refine eY7 ?_
   |refine eZ1 (by kernel_rfl) ?_
   |refine eH4 (by omega) ?_
   |refine bW7 ?_
   |refine fU (p:=(T.row _).eq=true) (by kernel_rfl) ?_
   |refine fU (by omega) ?_
   |refine fU rfl ?_
   |refine eZ2 ?_
   |refine eZ0 (fun hd=>?_) (fun hd=>?_)
   |refine br_lt (fun hlt=>?_) (fun hlt=>?_)
   |refine br_le (fun hle=>?_) (fun hle=>?_)
   |refine eV7 (fun heq=>?_) (fun heq=>?_)
   |refine eQ9 (by omega) (fun x hx=>?_)
   |refine eY0 rfl (fun h=>by cases h) ?_
   |refine jU (fun hbb=>?_) (fun hbb=>?_)
   |refine ret_i ?_
   |refine fA7 ?_)
  all_goals conv=>whnf
  exact aA (fE hab)
 |cons x R=>
  cases S with
  |nil=>
   have h1:b.length=D.length:=by rw[hq];simp
   have h2:=aO hp
   exfalso;omega
  |cons y S=>
   have hlen:=aO hp
   have hlen2:=aO hq
   have hne:x≠y->¬P:=fun h hP=>by
    have h1:=hr.1 hP
    rw[hp,hq]at h1
    exact h (List.cons.inj (List.append_cancel_left h1)).1
   have hxa:x∈a:=by rw[hp];simp
   have hyb:y∈b:=by rw[hq];simp
   skip
   repeat' ((conv=>whnf);first
    |(exfalso;omega)
    |refine aB (l:=a) (by omega) ?_
    |refine aB (l:=b) (by omega) ?_
    |refine aF (l:=a) (A:=D) (x:=x) (B:=R) hp (by omega) ?_
    |refine aF (l:=b) (A:=D) (x:=y) (B:=S) hq (by omega) ?_
    |refine aT1 ?_
    |refine eqIv_i ?_
    |refine aB4 (fun heq=>?_) (fun heq=>?_)
    |refine eV7 (fun heq=>?_) (fun heq=>?_)
    |refine eY7 ?_
    |refine eZ1 (by kernel_rfl) ?_
    |refine eH4 (by omega) ?_
    |refine bW7 ?_
    |refine fU (p:=(T.row _).eq=true) (by kernel_rfl) ?_
    |refine fU (by omega) ?_
    |refine fU rfl ?_
    |refine eZ2 ?_
    |refine eZ0 (fun hd=>?_) (fun hd=>?_)
    |refine br_lt (fun hlt=>?_) (fun hlt=>?_)
    |refine br_le (fun hle=>?_) (fun hle=>?_)
    |refine eV7 (fun heq=>?_) (fun heq=>?_)
    |refine eQ9 (by omega) (fun x hx=>?_)
    |refine eY0 rfl (fun h=>by cases h) ?_
    |refine jU (fun hbb=>?_) (fun hbb=>?_)
    |refine ret_i ?_
    |refine fA7 ?_)
   all_goals conv=>whnf
   all_goals first
    |exact aA (aC (hne (by first|assumption|exact fun h=>absurd h (by assumption))))
    |skip
   refine⟨(D++[x],R,S),?_,⟨by rw[hp];simp,?_⟩,by simp⟩
   ·simp only[List.length_append,List.length_singleton]
    refine dV ?_ ?_ ?_ ?_
    all_goals repeat' (first|exact trivial|refine And.intro ?_ ?_|with_reducible rfl|exact(fun h=>by cases h)|exact Nat.le_refl _|omega|exact rfl)
   ·have hxy:x=y:=by assumption
    rw[hq,hxy];simp
theorem cY1{a b:List Int}(ha:a.length<=1000000):Sp 30 [.sl (a.map I), .sl (b.map I)] (DB (a=b)):=zsp Tryz.func30 (dW8 ha)
def fewNd(x:Node):Prop:=x.grade.size<=40/\x.heat.size<=40/\x.part.size<=40
def fewF(f:List Node)(n:Int):Prop:=(∀x∈f,fewNd x)/\(f.length:Int)<=n
theorem fewF_vc(f:List Node)(n:Int)(hl:f.length<=9223372036854775807):fnVC T Tryz.prog Tryz.f22 [.sl (f.map nodeV),I n] (DB (fewF f n)):=by
 have hml:(f.map nodeV).length=f.length:=by simp
 have hr:fewF f n↔(∀x∈f,fewNd x)/\(f.length:Int)<=n:=Iff.rfl
 generalize fewF f n=P at*
 repeat' ((conv=>whnf);first
  |(exfalso;omega)
  |refine eY7 ?_
  |refine eZ1 (by kernel_rfl) ?_
  |refine eH4 (by omega) ?_
  |refine bW7 ?_
  |refine fU (p:=(T.row _).eq=true) (by kernel_rfl) ?_
  |refine fU (by omega) ?_
  |refine fU rfl ?_
  |refine eZ2 ?_
  |refine eZ0 (fun hd=>?_) (fun hd=>?_)
  |refine br_lt (fun hlt=>?_) (fun hlt=>?_)
  |refine br_le (fun hle=>?_) (fun hle=>?_)
  |refine eV7 (fun heq=>?_) (fun heq=>?_)
  |refine eQ9 (by omega) (fun x hx=>?_)
  |refine eY0 rfl (fun h=>by cases h) ?_
  |refine jU (fun hbb=>?_) (fun hbb=>?_)
  |refine ret_i ?_
  |refine fA7 ?_)
 refine aU (A:=List Node) (B:=List Node) (fun D R=>mkSt [(0, .sl (f.map nodeV)),(1,I n),(5,I D.length)] [] []) (fun D R=>f=D++R/\∀x∈D,fewNd x) (fun D R=>R.length) [] f ?_ ⟨rfl,by simp⟩ (fun D R hp=>?_)
 ·refine dV ?_ ?_ ?_ ?_
  all_goals repeat' (first|exact trivial|refine And.intro ?_ ?_|with_reducible rfl|exact(fun h=>by cases h)|exact Nat.le_refl _|omega|exact rfl)
 obtain⟨hp,hD⟩:=hp
 cases R with
 |nil=>
  have hlen:f.length=D.length:=by rw[hp];simp
  have hr2:P↔(f.length:Int)<=n:=by
   rw[hr]
   exact⟨fun h=>h.2,fun h=>⟨fun x hx=>hD x (by rw[hp,List.append_nil]at hx;exact hx),h⟩⟩
  clear hr
  repeat' ((conv=>whnf);first
   |(exfalso;omega)
   |refine eY7 ?_
   |refine eZ1 (by kernel_rfl) ?_
   |refine eH4 (by omega) ?_
   |refine bW7 ?_
   |refine fU (p:=(T.row _).eq=true) (by kernel_rfl) ?_
   |refine fU (by omega) ?_
   |refine fU rfl ?_
   |refine eZ2 ?_
   |refine eZ0 (fun hd=>?_) (fun hd=>?_)
   |refine br_lt (fun hlt=>?_) (fun hlt=>?_)
   |refine br_le (fun hle=>?_) (fun hle=>?_)
   |refine eV7 (fun heq=>?_) (fun heq=>?_)
   |refine eQ9 (by omega) (fun x hx=>?_)
   |refine eY0 rfl (fun h=>by cases h) ?_
   |refine jU (fun hbb=>?_) (fun hbb=>?_)
   |refine ret_i ?_
   |refine fA7 ?_)
  all_goals conv=>whnf
  exact aA (le_dec (by rw[hr2,<-hml]))
 |cons x R=>
  have hlen:=aO hp
  have hx:x∈f:=by rw[hp];simp
  have hnP:¬fewNd x->¬P:=fun h hP=>h ((hr.1 hP).1 x hx)
  have hD2:fewNd x->∀z∈D++[x],fewNd z:=fun h z hz=>by
   rcases List.mem_append.1 hz with hz|hz
   ·exact hD z hz
   ·rw[List.mem_singleton.1 hz];exact h
  have hq:fewNd x↔x.grade.size<=40/\x.heat.size<=40/\x.part.size<=40:=Iff.rfl
  generalize fewNd x=q at*
  clear hD hr
  repeat' ((conv=>whnf);first
   |(exfalso;omega)
   |refine aB (l:=f) (by omega) ?_
   |refine aF (l:=f) (A:=D) (x:=x) (B:=R) hp (by omega) ?_
   |refine eY7 ?_
   |refine eZ1 (by kernel_rfl) ?_
   |refine eH4 (by omega) ?_
   |refine bW7 ?_
   |refine fU (p:=(T.row _).eq=true) (by kernel_rfl) ?_
   |refine fU (by omega) ?_
   |refine fU rfl ?_
   |refine eZ2 ?_
   |refine eZ0 (fun hd=>?_) (fun hd=>?_)
   |refine br_lt (fun hlt=>?_) (fun hlt=>?_)
   |refine br_le (fun hle=>?_) (fun hle=>?_)
   |refine eV7 (fun heq=>?_) (fun heq=>?_)
   |refine eQ9 (by omega) (fun x hx=>?_)
   |refine eY0 rfl (fun h=>by cases h) ?_
   |refine jU (fun hbb=>?_) (fun hbb=>?_)
   |refine ret_i ?_
   |refine fA7 ?_)
  all_goals conv=>whnf
  all_goals first
   |exact aA (aC (hnP (fun h=>by have:=hq.1 h;omega)))
   |(refine⟨(D++[x],R),?_,⟨by rw[hp];simp,hD2 (hq.2 ⟨by omega,by omega,by omega⟩)⟩,by simp⟩
     simp only[List.length_append,List.length_singleton]
     show Le T _ (mkSt [(0, .sl (f.map nodeV)),(1,I n),(5,I ((D.length:Int)+1))] [] [])
     refine dV ?_ ?_ ?_ ?_
     all_goals repeat' (first|exact trivial|refine And.intro ?_ ?_|with_reducible rfl|exact(fun h=>by cases h)|exact Nat.le_refl _|omega|exact rfl)
     done)
theorem fewF_spec(f:List Node)(n:Int)(hl:f.length<=9223372036854775807):Sp 22 [.sl (f.map nodeV),I n] (DB (fewF f n)):=zsp Tryz.func22 (fewF_vc f n hl)
def groN(k:Nat)(l:List Node):V:=match l with| [] => .lit (.slice none 0 0)|_::r=> .arr k r.length
def groNA(k:Nat)(l:List Node):List (Nat×AE):=match l with| [] => [] |x::r=> [(k,⟨r.length, .own,42,(x::r).map nodeV⟩)]
def groNR(l:List Node):V:=match l with| [] => .lit (.slice none 0 0)|x::r=> .own 42 ((x::r).map nodeV)
theorem nd_cells(l:List Node):∀y∈l.map nodeV,y.cells.length=9:=fun y hy=>by obtain⟨m,_,rfl⟩:=List.mem_map.1 hy;rfl
theorem ownF_vc(f:List Node)(hl:f.length<=1000000):fnVC T Tryz.prog Tryz.f23 [.sl (f.map nodeV)] (groNR f):=by
 have hml:(f.map nodeV).length=f.length:=by simp
 repeat' ((conv=>whnf);first
  |(exfalso;omega)
  |refine eY7 ?_
  |refine eZ1 (by kernel_rfl) ?_
  |refine eH4 (by omega) ?_
  |refine bW7 ?_
  |refine fU (p:=(T.row _).eq=true) (by kernel_rfl) ?_
  |refine fU (by omega) ?_
  |refine fU rfl ?_
  |refine eZ2 ?_
  |refine eZ0 (fun hd=>?_) (fun hd=>?_)
  |refine br_lt (fun hlt=>?_) (fun hlt=>?_)
  |refine br_le (fun hle=>?_) (fun hle=>?_)
  |refine eV7 (fun heq=>?_) (fun heq=>?_)
  |refine eQ9 (by omega) (fun x hx=>?_)
  |refine eY0 rfl (fun h=>by cases h) ?_
  |refine jU (fun hbb=>?_) (fun hbb=>?_)
  |refine ret_i ?_
  |refine fA7 ?_)
 refine aU (A:=List Node) (B:=List Node) (fun D R=>mkSt [(0, .sl (f.map nodeV)),(3,groN 17 D),(4,I D.length)] [] (groNA 17 D)) (fun D R=>f=D++R) (fun D R=>R.length) [] f ?_ rfl (fun D R hp=>?_)
 ·show Le T _ (mkSt [(0, .sl (f.map nodeV)),(3, .lit (.slice none 0 0)),(4,I 0)] [] [])
  refine dV ?_ ?_ ?_ ?_
  all_goals repeat' (first|exact trivial|refine And.intro ?_ ?_|with_reducible rfl|exact(fun h=>by cases h)|exact Nat.le_refl _|omega|exact rfl)
 cases R with
 |nil=>
  have hlen:f.length=D.length:=by rw[hp];simp
  have hD:D=f:=by rw[hp];simp
  subst hD
  cases D with
  |nil=>
   unfold groN groNA groNR
   repeat' ((conv=>whnf);first
    |(exfalso;omega)
    |refine eY7 ?_
    |refine eZ1 (by kernel_rfl) ?_
    |refine eH4 (by omega) ?_
    |refine bW7 ?_
    |refine fU (p:=(T.row _).eq=true) (by kernel_rfl) ?_
    |refine fU (by omega) ?_
    |refine fU rfl ?_
    |refine eZ2 ?_
    |refine eZ0 (fun hd=>?_) (fun hd=>?_)
    |refine br_lt (fun hlt=>?_) (fun hlt=>?_)
    |refine br_le (fun hle=>?_) (fun hle=>?_)
    |refine eV7 (fun heq=>?_) (fun heq=>?_)
    |refine eQ9 (by omega) (fun x hx=>?_)
    |refine eY0 rfl (fun h=>by cases h) ?_
    |refine jU (fun hbb=>?_) (fun hbb=>?_)
    |refine ret_i ?_
    |refine fA7 ?_)
   all_goals conv=>whnf
   all_goals first
    |exact aG rfl
    |exact aK rfl
    |exact aP rfl
    |(refine⟨?_,rfl,fun rs h=>V.noConfusion h⟩;(repeat' (first|exact trivial|refine And.intro ?_ ?_|with_reducible rfl|exact(fun h=>by cases h)|exact rfl));done)
    |(refine⟨_,rfl,?_⟩;(repeat' (first|exact trivial|refine And.intro ?_ ?_|with_reducible rfl|exact(fun h=>by cases h)|exact rfl));done)
  |cons a K=>
   unfold groN groNA groNR
   repeat' ((conv=>whnf);first
    |(exfalso;omega)
    |refine eY7 ?_
    |refine eZ1 (by kernel_rfl) ?_
    |refine eH4 (by omega) ?_
    |refine bW7 ?_
    |refine fU (p:=(T.row _).eq=true) (by kernel_rfl) ?_
    |refine fU (by omega) ?_
    |refine fU rfl ?_
    |refine eZ2 ?_
    |refine eZ0 (fun hd=>?_) (fun hd=>?_)
    |refine br_lt (fun hlt=>?_) (fun hlt=>?_)
    |refine br_le (fun hle=>?_) (fun hle=>?_)
    |refine eV7 (fun heq=>?_) (fun heq=>?_)
    |refine eQ9 (by omega) (fun x hx=>?_)
    |refine eY0 rfl (fun h=>by cases h) ?_
    |refine jU (fun hbb=>?_) (fun hbb=>?_)
    |refine ret_i ?_
    |refine fA7 ?_)
   all_goals conv=>whnf
   all_goals first
    |exact aG rfl
    |exact aK rfl
    |exact aP rfl
    |(refine⟨?_,rfl,fun rs h=>V.noConfusion h⟩;(repeat' (first|exact trivial|refine And.intro ?_ ?_|with_reducible rfl|exact(fun h=>by cases h)|exact rfl));done)
    |(refine⟨_,rfl,?_⟩;(repeat' (first|exact trivial|refine And.intro ?_ ?_|with_reducible rfl|exact(fun h=>by cases h)|exact rfl));done)
 |cons x R=>
  have hlen:=aO hp
  cases D with
  |nil=>
   unfold groN groNA
   repeat' ((conv=>whnf);first
    |(exfalso;omega)
    |refine aB (l:=f) (by omega) ?_
    |refine aF (l:=f) (A:=[]) (x:=x) (B:=R) hp (by simp) ?_
    |refine gX (of_decide_eq_true rfl) (dA rfl) (show 1<=1000000000 by omega) ?_
    |refine eY7 ?_
    |refine eZ1 (by kernel_rfl) ?_
    |refine eH4 (by omega) ?_
    |refine bW7 ?_
    |refine fU (p:=(T.row _).eq=true) (by kernel_rfl) ?_
    |refine fU (by omega) ?_
    |refine fU rfl ?_
    |refine eZ2 ?_
    |refine eZ0 (fun hd=>?_) (fun hd=>?_)
    |refine br_lt (fun hlt=>?_) (fun hlt=>?_)
    |refine br_le (fun hle=>?_) (fun hle=>?_)
    |refine eV7 (fun heq=>?_) (fun heq=>?_)
    |refine eQ9 (by omega) (fun x hx=>?_)
    |refine eY0 rfl (fun h=>by cases h) ?_
    |refine jU (fun hbb=>?_) (fun hbb=>?_)
    |refine ret_i ?_
    |refine fA7 ?_)
   all_goals conv=>whnf
   refine⟨([x],R),?_,by rw[hp];rfl,by simp⟩
   show Le T _ (mkSt [(0, .sl (f.map nodeV)),(3, .arr 17 0),(4,I 1)] [] [(17,⟨0, .own,42,[nodeV x]⟩)])
   refine dV ?_ ?_ ?_ ?_
   all_goals repeat' (first|exact trivial|refine And.intro ?_ ?_|with_reducible rfl|exact(fun h=>by cases h)|exact Nat.le_refl _|omega|exact rfl)
  |cons a K=>
   have hX:((a::K).map nodeV).length=K.length+1:=by simp
   have hK:(a::K).length=K.length+1:=rfl
   unfold groN groNA
   repeat' ((conv=>whnf);first
    |(exfalso;omega)
    |refine aB (l:=f) (by omega) ?_
    |refine aF (l:=f) (A:=a::K) (x:=x) (B:=R) hp (by omega) ?_
    |refine iH rfl (.inl rfl) rfl (of_decide_eq_true rfl) (dA rfl) (show((a::K).map nodeV).length+1<=1000000000 by omega) ?_
    |refine eY7 ?_
    |refine eZ1 (by kernel_rfl) ?_
    |refine eH4 (by omega) ?_
    |refine bW7 ?_
    |refine fU (p:=(T.row _).eq=true) (by kernel_rfl) ?_
    |refine fU (by omega) ?_
    |refine fU rfl ?_
    |refine eZ2 ?_
    |refine eZ0 (fun hd=>?_) (fun hd=>?_)
    |refine br_lt (fun hlt=>?_) (fun hlt=>?_)
    |refine br_le (fun hle=>?_) (fun hle=>?_)
    |refine eV7 (fun heq=>?_) (fun heq=>?_)
    |refine eQ9 (by omega) (fun x hx=>?_)
    |refine eY0 rfl (fun h=>by cases h) ?_
    |refine jU (fun hbb=>?_) (fun hbb=>?_)
    |refine ret_i ?_
    |refine fA7 ?_)
   all_goals conv=>whnf
   refine⟨(a::(K++[x]),R),?_,by rw[hp];simp,by simp⟩
   show Le T _ (mkSt [(0, .sl (f.map nodeV)),(3, .arr 17 (K++[x]).length),(4,I ((a::(K++[x])).length:Nat))] [] [(17,⟨(K++[x]).length, .own,42,(a::(K++[x])).map nodeV⟩)])
   rw[List.length_cons,List.length_append,<-List.cons_append,List.map_append]
   refine dV ?_ ?_ ?_ ?_
   all_goals repeat' (first|exact trivial|refine And.intro ?_ ?_|with_reducible rfl|exact(fun h=>by cases h)|exact Nat.le_refl _|omega|exact rfl)
   simp
theorem ownF_spec(f:List Node)(hl:f.length<=1000000):Sp 23 [.sl (f.map nodeV)] (groNR f):=zsp Tryz.func23 (ownF_vc f hl)
theorem eqAc(a b c d e f:Int):eqT T 4 59 [I a,I b,I c] [I d,I e,I f] =some (andB (eqB a d) (andB (eqB b e) (andB (eqB c f) true))):=Ac
theorem eqAc_i{a b c:Int}{K:Bool->Prop}(h:K true):aL1.match_1 (fun _=>Prop) (eqT T 4 59 [I a,I b,I c] [I a,I b,I c]) K (fun _=>False):=by
 rw[eqAc];exact MV
theorem br_BBs{b:Bool}{A B:Prop}(h:A):branch (eqBB b b) A B:=by
 have:eqBB b b=true:=by simp[eqBB]
 rw[this];exact h
theorem lawGQ_few(f:List Node)(n:Int)(s:ByteArray)(haw:Sp 10 [] (.lit (.bool true)))(hl:f.length<=9223372036854775807)(h:¬(fewF f 30/\s.size<=40)):Sp 8 [.sl (f.map nodeV),I n,S s] (.lit (.bool true)):=by
 refine zsp Tryz.func8 ?_;have h1:=fewF_spec f 30 hl;generalize fewF f 30=q at*
 repeat' ((conv=>whnf);first|(exfalso;contradiction)|(exfalso;exact h ⟨Ad,Aa⟩)|refine zS ?_|refine zm (fun x hx=>?_)|refine zT ?_ ?_<;>intro _|fail)
 all_goals exact zE
theorem lawGQ_N(f:List Node)(n:Int)(s:ByteArray)(haw:Sp 10 [] (.lit (.bool true)))(hl:f.length<=30)(hz:SzN f)(hf:fewF f 30)(hs:s.size<=40)(h:¬RightF f):Sp 8 [.sl (f.map nodeV),I n,S s] (.lit (.bool true)):=by
 refine zsp Tryz.func8 ?_;have hl':f.length<=1000000:=Aa;have h1:=fewF_spec f 30 Aa
 have h2:=ownF_spec f hl';have c1:=pathN_spec f n hl' hz h
 have c2:=rpathN_spec f n 1 Ah (rcheckN_spec f n hl' hz h);have c3:=kidsN_spec f n hl' hz h
 have c4:=rkidsN_spec f n 1 Ah (rcheckN_spec f n hl' hz h);have c5:=sumN_spec f n hl' hz h
 have c6:=rsumN_spec f n 1 Ah (rcheckN_spec f n hl' hz h);have c7:=certN_spec f n hl' hz h
 have c8:=rcertN_spec f n 1 Ah (rcheckN_spec f n hl' hz h);have c9:=rightG_spec f hl' hz
 have c10:=rrightF_spec f hl' hz;have c11:=heatN_spec f s hl' hz h
 have c12:=rheatN_spec f s hl' hz h;have c13:=cY1 (a:=[]) (b:=[]) Ae
 generalize fewF f 30=q at*;generalize RightF f=P at*;generalize hE:(([] :List Int)=[])=e at*;have hE':e:=by rw[<-hE]
 cases f with
 |nil=>
  unfold groNR at h2
  repeat' ((conv=>whnf);first|(exfalso;contradiction)|(exfalso;omega)|refine eqAc_i ?_|refine jI (fun _=>?_) (fun heq=>absurd rfl heq)|refine br_BBs ?_|refine zS ?_|refine zd (fun hd=>?_) (fun hd=>?_)|refine zl (fun hlt=>?_) (fun hlt=>?_)|refine zk (fun hle=>?_) (fun hle=>?_)|refine ze (fun heq=>?_) (fun heq=>?_)|refine zm (fun x hx=>?_)|refine zb (fun hbb=>?_) (fun hbb=>?_))
  all_goals conv=>whnf
  all_goals exact aK (dH.2 hE')
 |cons a r=>
  unfold groNR at h2
  repeat' ((conv=>whnf);first|(exfalso;contradiction)|(exfalso;omega)|(refine aS5 (c1) true ?_ rfl ?_;focus ((repeat' (first|exact trivial|refine And.intro ?_ ?_|with_reducible rfl|exact(fun h=>Ag)|exact rfl));done))|(refine aS5 (c3) true ?_ rfl ?_;focus ((repeat' (first|exact trivial|refine And.intro ?_ ?_|with_reducible rfl|exact(fun h=>Ag)|exact rfl));done))|(refine aS5 (c5) true ?_ rfl ?_;focus ((repeat' (first|exact trivial|refine And.intro ?_ ?_|with_reducible rfl|exact(fun h=>Ag)|exact rfl));done))|(refine aS5 (c7) true ?_ rfl ?_;focus ((repeat' (first|exact trivial|refine And.intro ?_ ?_|with_reducible rfl|exact(fun h=>Ag)|exact rfl));done))|(refine aS5 (c9) true ?_ rfl ?_;focus ((repeat' (first|exact trivial|refine And.intro ?_ ?_|with_reducible rfl|exact(fun h=>Ag)|exact rfl));done))|(refine aS5 (c11) true ?_ rfl ?_;focus ((repeat' (first|exact trivial|refine And.intro ?_ ?_|with_reducible rfl|exact(fun h=>Ag)|exact rfl));done))|refine eqAc_i ?_|refine jI (fun _=>?_) (fun heq=>absurd rfl heq)|refine br_BBs ?_|refine zS ?_|refine zd (fun hd=>?_) (fun hd=>?_)|refine zl (fun hlt=>?_) (fun hlt=>?_)|refine zk (fun hle=>?_) (fun hle=>?_)|refine ze (fun heq=>?_) (fun heq=>?_)|refine zm (fun x hx=>?_)|refine zb (fun hbb=>?_) (fun hbb=>?_))
  all_goals conv=>whnf
  all_goals exact aK (dH.2 hE')
end Go.Proofs.Led
namespace Go.Proofs.Led
open Go Go.Proofs Go.Ab Go.RowKit
theorem own_sl{f:FuncId}{ys:List V}{e:TypeId}{l:List V}(h:Sp f ys (.own e l)):Sp f ys (.sl l):=by
 refine⟨h.1,fun w G cs h1 h2 h3 h4 h5=>(h.2 w G cs h1 h2 h3 h4 h5).mono ?_⟩;rintro t w' ⟨v,G',rfl,⟨_,hp,ho⟩,q2,q3,q4,q5,q6,q7,q8,q9,q10⟩;rcases ho with⟨hn,h0⟩|⟨b,cap,cur,rfl,hO,hb,hc,hcm,hs,hz,hl⟩
 ·subst h0
  exact⟨v,G',rfl,⟨Ar,bA2 hn⟩,q2,q3,q4,q5,q6,q7,q8,q9,q10⟩
 ·have hk:Keep w' w' G' {G' with O:=upd G'.O b .fz}:=⟨fun c hc'=>by
   show upd G'.O b .fz c= .fz;by_cases e:c=b
   ·rw[e];exact upd_same _ _ _
   ·rw[upd_ne _ _ e];exact hc',fun _ _=>rfl⟩
  refine⟨_,{G' with O:=upd G'.O b .fz},rfl,⟨Ar,?_⟩,fun c hc'=>hk.fz c (q2 c hc'),fun c hc'=>?_,fun c i=>?_,fun c hc'=>?_,q6,q7,q8,q9,q10⟩
  ·have hpf:bM (l.flatMap V.cells):=aH.2 fun y hy=>by
    obtain⟨x,hx,hy⟩:=List.mem_flatMap.1 hy;have hxp:=aH.1 hp x hx
    cases x<;>first
     |(simp only[V.cells,List.mem_singleton]at hy;rw[hy];exact hxp)
     |(simp only[V.cells]at hy;simp only[V.ok]at hxp;exact aH.1 hxp y hy)
   have hlen:(l.flatMap V.cells).length<=cur.size:=by
    rw[<-hl.len,List.length_take];have:cur.toList.length=cur.size:=Array.length_toList;omega
   have hget:∀(j:Nat) y,(l.flatMap V.cells)[j]? =some y->∃u,cur[j]? =some u/\u.oneCell'=true/\Rv w' G' u y:=fun j y hj=>by
    have hjl:=(List.getElem?_eq_some_iff.1 hj).1;have h3:=hjl
    rw[<-hl.len]at h3;have e4:=List.getElem?_eq_getElem h3;have e5:=e4
    rw[List.getElem?_take]at e5;split at e5
    ·exact⟨_,by rw[<-Array.getElem?_toList];exact e5,hl.one _ (List.getElem_mem h3),hl.rel j _ y e4 hj⟩
    ·cases e5
   refine Rv.slS ⟨b,0,none⟩ cap l (T.row e).size (fun j=>(cur[j]?).getD undef) hc hcm (fun _=>upd_same _ _ _) hz (fun j y hj=>?_) (fun j y hj=>?_)
   ·obtain⟨u,h6,h7,_⟩:=hget j y hj
    show w'.cell? _=some ((cur[j]?).getD undef)/\_;dsimp only;rw[h6];refine⟨?_,h7⟩;rw[show(⟨b,0,none⟩:Addr).add j=⟨b,j,none⟩ by unfold Addr.add;split<;>simp_all]
    simp[World.cell?,hb,h6]
   ·obtain⟨u,h6,_,h8⟩:=hget j y hj
    rw[show(cur[j]?).getD undef=u by rw[h6];rfl]
    exact Rv.keep hk h8 (aH.1 hpf y (List.mem_of_getElem? hj)) (fun _ h=>h.elim) (fun _ _ h=>h.elim)
  ·by_cases e:c=b
   ·rw[e];exact(Array.getElem?_eq_some_iff.1 hb).1
   ·exact q3 c (by rwa [show({G' with O:=upd G'.O b .fz}:Gh).O c=G'.O c from upd_ne _ _ e]at hc')
  ·by_cases e:c=b
   ·rw[e,show({G' with O:=upd G'.O b .fz}:Gh).O b= .fz from upd_same _ _ _];simp
   ·rw[show({G' with O:=upd G'.O b .fz}:Gh).O c=G'.O c from upd_ne _ _ e];exact q4 c i
  ·by_cases e:c=b
   ·rcases q5 b FO with⟨_,h6⟩|h6
    ·rw[hO]at h6;cases h6
    ·rw[e];exact .inr h6
   ·rw[show({G' with O:=upd G'.O b .fz}:Gh).O c=G'.O c from upd_ne _ _ e]at hc'⊢
    exact q5 c hc'
end Go.Proofs.Led
