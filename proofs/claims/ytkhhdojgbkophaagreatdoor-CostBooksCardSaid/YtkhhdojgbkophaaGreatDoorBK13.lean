/-
  Stable sorting, in plain Lean: blocks that are merged are sorted as a whole.
-/
import Derived.Test.YtkhhdojgbkophaaGreatDoorBSkS5
set_option linter.unusedVariables false
set_option linter.unusedSimpArgs false
set_option maxRecDepth 100000
noncomputable section
namespace Go.Proofs.Cost58
open Go.Ab
section
variable{α:Type}{c:α->α->Int}{key:α->Int}
def PW(key:α->Int)(l:List α):Prop:=l.Pairwise (fun a b=>key a<=key b)
theorem PW.srt{l:List α}(h:PW key l):Srt key l:=fun i j x y hij hx hy=>by
 obtain⟨h1,rfl⟩:=List.getElem?_eq_some_iff.1 hx;obtain⟨h2,rfl⟩:=List.getElem?_eq_some_iff.1 hy;rcases Nat.lt_or_eq_of_le hij with q|q
 ·exact List.pairwise_iff_getElem.1 h i j h1 h2 q
 ·subst q;exact Int.le_refl _
theorem PW.cut(z:α):∀ {l:List α},PW key l->∃A B,l=A++B/\(∀x∈A,key x<=key z)/\(∀x∈B,key z<key x)
 | [],_=>⟨[],[],rfl,Ae,Ae⟩
 |x::l,h=>by
  have h':=List.pairwise_cons.1 h;by_cases hx:key x<=key z
  ·obtain⟨A,B,e,h1,h2⟩:=PW.cut z (l:=l) h'.2
   refine⟨x::A,B,by rw[e];rfl,fun y hy=>?_,h2⟩
   rcases List.mem_cons.1 hy with rfl|hy
   ·exact hx
   ·exact h1 y hy
  ·refine⟨[],x::l,rfl,Ae,fun y hy=>?_⟩
   rcases List.mem_cons.1 hy with rfl|hy
   ·omega
   ·have:=h'.1 y hy;omega
theorem PW.ins{A B:List α}{z:α}(h:PW key (A++B))(h1:∀x∈A,key x<=key z)(h2:∀x∈B,key z<key x):PW key (A++z::B):=by
 obtain⟨q1,q2,q3⟩:=List.pairwise_append.1 h;refine List.pairwise_append.2 ⟨q1,List.pairwise_cons.2 ⟨fun y hy=>by have:=h2 y hy;omega,q2⟩,fun x hx y hy=>?_⟩
 rcases List.mem_cons.1 hy with rfl|hy
 ·exact h1 x hx
 ·exact q3 x hx y hy
theorem insR_cut(hk:∀a b,c a b<0↔key a<key b){z:α}{S:List α}(h1:∀x∈S,key x<=key z):∀R:List α,(∀x∈R,key z<key x)->insR c z (R++S)=R++z::S
 | [],_=>by
   cases S with
   |nil=>rfl
   |cons y r=>
    show(if c z y<0 then y::insR c z r else z::y::r)=z::y::r
    rw[if_neg (by rw[hk];have:=h1 y (by simp);omega)]
 |y::R,h=>by
  show(if c z y<0 then y::insR c z (R++S)else z::y::(R++S))=y::(R++z::S)
  rw[if_pos (by rw[hk];exact h y (by simp)),insR_cut hk h1 R (fun x hx=>h x BO)]
theorem isortP_snoc(xs:List α)(z:α):qA c (xs++[z])=(insR c z (qA c xs).reverse).reverse:=by
 unfold qA;rw[eB2,List.reverse_reverse]
theorem ins_cut(hk:∀a b,c a b<0↔key a<key b){z:α}{A B xs:List α}(h:qA c xs=A++B)(h1:∀x∈A,key x<=key z)(h2:∀x∈B,key z<key x):qA c (xs++[z])=A++z::B:=by
 rw[isortP_snoc,h,List.reverse_append,insR_cut hk (by simpa using h1) _ EX];simp
theorem snoc_ind{p:List α->Prop}(h0:p [])(h1:∀xs x,p xs->p (xs++[x]))(l:List α):p l:=by
 have:∀r:List α,p r.reverse:=fun r=>by
  induction r with
  |nil=>exact h0
  |cons x r ih=>rw[List.reverse_cons];exact h1 _ _ ih
 have h:=this l.reverse;rwa [List.reverse_reverse]at h
theorem isortP_nil:qA c ([] :List α)=[] :=rfl
theorem isortP_pw(hk:∀a b,c a b<0↔key a<key b)(l:List α):PW key (qA c l):=by
 induction l using snoc_ind with
 |h0=>exact List.Pairwise.nil
 |h1 xs x ih=>
  obtain⟨A,B,e,h1,h2⟩:=PW.cut x ih;rw[ins_cut hk e h1 h2];rw[e]at ih;exact PW.ins ih h1 h2
theorem cX8(l:List α):(qA c l).length=l.length:=FO
theorem dB0{l:List α}{z:α}:z∈qA c l↔z∈l:=Gv
theorem merge_sorted(hk:∀a b,c a b<0↔key a<key b)(X Y:List α):mergeP c (qA c X) (qA c Y)=qA c (X++Y):=by
 induction Y using snoc_ind with
 |h0=>rw[isortP_nil,mergeP_nil',List.append_nil]
 |h1 Y z ih=>
  obtain⟨A1,A2,eA,hA1,hA2⟩:=PW.cut z (isortP_pw hk X);obtain⟨B1,B2,eB,hB1,hB2⟩:=PW.cut z (isortP_pw hk Y)
  have e1:mergeP c (A1++A2) (B1++B2)=mergeP c A1 B1++mergeP c A2 B2:=mergeP_split _ A1 B1 (Nat.le_refl _)
   (fun x hx y hy=>Fa) (fun y hy x hx=>by rw[hk];have:=hA2 x hx;have:=hB1 y hy;omega)
  have e2:mergeP c (A1++A2) ((B1++[z])++B2)=mergeP c A1 (B1++[z])++mergeP c A2 B2:=mergeP_split _ A1 (B1++[z]) (Nat.le_refl _)
   (fun x hx y hy=>Fa) (fun y hy x hx=>by
    rw[hk];have:=hA2 x hx;rcases List.mem_append.1 hy with hy|hy
    ·have:=hB1 y hy;omega
    ·rw[List.mem_singleton.1 hy];exact this)
  have e3:mergeP c (A1++[]) (B1++[z])=mergeP c A1 B1++mergeP c [] [z] :=mergeP_split _ A1 B1 (Nat.le_refl _)
   (fun x hx y hy=>by rw[hk,List.mem_singleton.1 hy];have:=hA1 x hx;omega) Ae
  rw[List.append_nil,mergeP_nil]at e3;rw[ins_cut hk eB hB1 hB2,eA,show B1++z::B2=(B1++[z])++B2 from Ae,e2,e3,<-List.append_assoc X Y [z]];rw[ins_cut hk (A:=mergeP c A1 B1) (B:=mergeP c A2 B2) (by rw[<-ih,eA,eB,e1])]
  ·simp
  ·intro x hx
   rcases(mergeP_mem _ _ _ (Nat.le_refl _) x).1 hx with hx|hx
   ·exact hA1 x hx
   ·exact hB1 x hx
  ·intro x hx
   rcases(mergeP_mem _ _ _ (Nat.le_refl _) x).1 hx with hx|hx
   ·exact hA2 x hx
   ·exact hB2 x hx
def blk(c:α->α->Int)(k:Nat)(l:List α):List α:=if l.length<=k\/k=0 then qA c l else qA c (l.take k)++blk c k (l.drop k)
termination_by l.length
decreasing_by simp;omega
theorem blk_small{k:Nat}{l:List α}(h:l.length<=k):blk c k l=qA c l:=by rw[blk,if_pos (.inl h)]
theorem blk_step{k:Nat}{l:List α}(h0:0<k)(h:k<=l.length):blk c k l=qA c (l.take k)++blk c k (l.drop k):=by
 rcases Nat.lt_or_eq_of_le h with q|q
 ·rw[blk,if_neg Aa]
 ·have e1:l.take k=l:=List.take_of_length_le Aa
  have e2:l.drop k=[] :=List.drop_eq_nil_of_le Aa;rw[blk_small Aa,e1,e2,blk_small Ae,isortP_nil,List.append_nil]
theorem blk_len{k:Nat}:∀(n:Nat) (l:List α),l.length<=n->(blk c k l).length=l.length:=by
 intro n
 induction n with
 |zero=>intro l h;rw[blk_small Aa,cX8]
 |succ n ih=>
  intro l h;rw[blk];split
  ·exact cX8 l
  ·rw[List.length_append,cX8,ih _ Ai];simp;omega
theorem blk_mem{k:Nat}:∀(n:Nat) (l:List α),l.length<=n->∀z,z∈blk c k l↔z∈l:=by
 intro n
 induction n with
 |zero=>intro l h z;rw[blk_small Aa,dB0]
 |succ n ih=>
  intro l h z;rw[blk];split
  ·exact dB0
  ·rw[List.mem_append,dB0,ih _ Ai,<-List.mem_append,List.take_append_drop]
end
end Go.Proofs.Cost58
namespace Go.Proofs.Cost58
open Go Go.Proofs Go.Ab Go.Proofs.Led
variable{g:FuncId}{cs:List V}{c:Int->Int->Int}{Q:Int->Prop}{key:Int->Int}
theorem ins_at(hc:cF2 g cs c Q){l l':List Int}{a b:Int}(pre xs post:List Int)(hq:∀x∈xs,Q x)(h:l=pre++xs++post)(h':l'=pre++qA c xs++post)(ha:a=pre.length)(hb:b=pre.length+xs.length)(hl:pre.length+xs.length+post.length<=100000):
 SpIO 125 [.own 3 (l.map I),I a,I b, .fn g [.fp cs]] (.tup []) 3 (l'.map I):=by
 subst h h' ha hb;exact eI2 hc pre xs post hq hl
theorem stable_vc(hc:cF2 g cs c Q)(hk:∀a b,c a b<0↔key a<key b)(L:List Int)(hq:∀x∈L,Q x)(hl:L.length<=10000):
 fnIO T Tryz.prog Tryz.f78 [.own 3 (L.map I),I L.length, .fn g [.fp cs]] (.tup []) 0 3 ((qA c L).map I):=by
 repeat' ((conv=>whnf);first
  |refine arith_half Aa ?_
  |refine arith_u Aa ?_
  |refine eY7 ?_
  |refine eZ1 Ac ?_
  |refine eH4 Aa ?_
  |refine fU (p:=(T.row _).eq=true) Ac ?_
  |refine fU Aa ?_
  |refine eZ2 ?_
  |refine eZ0 (fun hd=>?_) (fun hd=>?_)
  |refine br_lt (fun hlt=>?_) (fun hlt=>?_)
  |refine br_le (fun hle=>?_) (fun hle=>?_)
  |refine eV7 (fun heq=>?_) (fun heq=>?_)
  |refine eQ9 Aa (fun x hx=>?_)
  |refine eY0 rfl (fun h=>Ad) ?_
  |refine jU (fun hbb=>?_) (fun hbb=>?_)
  |refine ret_i ?_
  |refine fA7 ?_)
 refine aU (A:=List Int) (B:=List Int) (fun D R=>mkSt [(0, .arr 0 0),(1,I L.length),(2, .fn g [.fp cs]),(6,I 20),(7,I D.length),(8,I (D.length+20))] [] [(0,⟨0, .own,3,(D++R).map I⟩)])
  (fun D R=>D++blk c 20 R=blk c 20 L/\D.length+R.length=L.length/\(∀z∈R,Q z)) (fun D R=>R.length) [] L ?_ ⟨rfl,Ae,hq⟩ (fun D R hp=>?_)
 ·exact Il
 ·obtain⟨h1,h2,h3⟩:=hp
  have hql:∀z∈blk c 20 L,Q z:=fun z hz=>hq z ((blk_mem _ L (Nat.le_refl _) z).1 hz);have hbl:(blk c 20 L).length=L.length:=blk_len _ L (Nat.le_refl _)
  rcases Nat.lt_or_ge R.length 20 with hR|hR
  ·have hb:blk c 20 R=qA c R:=blk_small Aa
   repeat' ((conv=>whnf);first
    |refine arith_half Aa ?_
    |refine arith_u Aa ?_
    |(exfalso;omega)
    |(refine aQ2 (ins_at hc (l:=D++R) (l':=blk c 20 L) (a:=D.length) (b:=L.length) D R [] h3 Ae (by rw[<-h1,hb];simp) rfl Aa Ai) rfl rfl ?_ rfl rfl ?_;focus ((repeat' (first|exact trivial|refine And.intro ?_ ?_|with_reducible rfl|exact(fun h=>Ad)|exact rfl));done))
    |refine eY7 ?_
    |refine eZ1 Ac ?_
    |refine eH4 Aa ?_
    |refine fU (p:=(T.row _).eq=true) Ac ?_
    |refine fU Aa ?_
    |refine eZ2 ?_
    |refine eZ0 (fun hd=>?_) (fun hd=>?_)
    |refine br_lt (fun hlt=>?_) (fun hlt=>?_)
    |refine br_le (fun hle=>?_) (fun hle=>?_)
    |refine eV7 (fun heq=>?_) (fun heq=>?_)
    |refine eQ9 Aa (fun x hx=>?_)
    |refine eY0 rfl (fun h=>Ad) ?_
    |refine jU (fun hbb=>?_) (fun hbb=>?_)
    |refine ret_i ?_
    |refine fA7 ?_)
   refine lD (A:=Nat) (fun k=>mkSt [(0, .arr 0 0),(1,I L.length),(2, .fn g [.fp cs]),(6,I k)] [] [(0,⟨0, .own,3,(blk c k L).map I⟩)])
    (fun k=>20<=k/\k<=20000) (fun k=>20000-k) 20 ?_ ⟨Aa,Aa⟩ (fun k hk'=>?_)
   ·exact Il
   ·change 20<=k/\k<=20000 at hk'
    rcases Nat.lt_or_ge k L.length with hkL|hkL
    ·repeat' ((conv=>whnf);first
      |refine arith_half Aa ?_
      |refine arith_u Aa ?_
      |(exfalso;omega)
      |refine eY7 ?_
      |refine eZ1 Ac ?_
      |refine eH4 Aa ?_
      |refine fU (p:=(T.row _).eq=true) Ac ?_
      |refine fU Aa ?_
      |refine eZ2 ?_
      |refine eZ0 (fun hd=>?_) (fun hd=>?_)
      |refine br_lt (fun hlt=>?_) (fun hlt=>?_)
      |refine br_le (fun hle=>?_) (fun hle=>?_)
      |refine eV7 (fun heq=>?_) (fun heq=>?_)
      |refine eQ9 Aa (fun x hx=>?_)
      |refine eY0 rfl (fun h=>Ad) ?_
      |refine jU (fun hbb=>?_) (fun hbb=>?_)
      |refine ret_i ?_
      |refine fA7 ?_)
     refine aU (A:=List Int) (B:=List Int) (fun D R=>mkSt [(0, .arr 0 0),(1,I L.length),(2, .fn g [.fp cs]),(6,I k),(7,I D.length),(8,I (D.length+2*k))] [] [(0,⟨0, .own,3,(D++blk c k R).map I⟩)])
      (fun D R=>D++blk c (2*k) R=blk c (2*k) L/\D.length+R.length=L.length/\(∀z∈R,Q z)) (fun D R=>R.length) [] L ?_ ⟨rfl,Ae,hq⟩ ?_
     ·refine dV ?_ ?_ ?_ ?_
      all_goals repeat' (first|exact trivial|refine And.intro ?_ ?_|with_reducible rfl|exact(fun h=>Ad)|exact Nat.le_refl _|omega|exact rfl)
      ·show 2*(k:Int)=((0:Nat):Int)+2*k
       omega
     ·clear hle h1 h2 h3 hR hb D R
      intro D R hp;obtain⟨h1,h2,h3⟩:=hp;have hkk:2*k=k+k:=Aa;rcases Nat.lt_or_ge R.length (2*k)with hR|hR
      ·have hb:blk c (2*k) R=qA c R:=blk_small Aa
       rcases Nat.lt_or_ge k R.length with hRk|hRk
       ·have e1:blk c k R=qA c (R.take k)++qA c (R.drop k):=by
         rw[blk_step Aa Aa,blk_small (l:=R.drop k) FB]
        have e2:(qA c (R.take k)).length=k:=Dp;have e3:(qA c (R.drop k)).length=R.length-k:=by rw[cX8,List.length_drop]
        have e4:mergeP c (qA c (R.take k)) (qA c (R.drop k))=qA c R:=by rw[merge_sorted hk,List.take_append_drop]
        repeat' ((conv=>whnf);first
         |refine arith_half Aa ?_
         |refine arith_u Aa ?_
         |(exfalso;omega)
         |(refine aQ2 (sym_spec hc hk _ (l:=D++blk c k R) (l':=blk c (2*k) L) (a:=D.length) (m:=D.length+k) (b:=L.length) D (qA c (R.take k)) (qA c (R.drop k)) [] (Nat.le_refl _) Aa Aa (isortP_pw hk _).srt (isortP_pw hk _).srt (fun z hz=>h3 z (List.mem_of_mem_take (dB0.1 hz))) (fun z hz=>h3 z (List.mem_of_mem_drop (dB0.1 hz))) (by rw[e1];simp) (by rw[<-h1,hb,e4];simp) rfl Aa Aa Ai) rfl rfl ?_ rfl rfl ?_;focus ((repeat' (first|exact trivial|refine And.intro ?_ ?_|with_reducible rfl|exact(fun h=>Ad)|exact rfl));done))
         |refine eY7 ?_
         |refine eZ1 Ac ?_
         |refine eH4 Aa ?_
         |refine fU (p:=(T.row _).eq=true) Ac ?_
         |refine fU Aa ?_
         |refine eZ2 ?_
         |refine eZ0 (fun hd=>?_) (fun hd=>?_)
         |refine br_lt (fun hlt=>?_) (fun hlt=>?_)
         |refine br_le (fun hle=>?_) (fun hle=>?_)
         |refine eV7 (fun heq=>?_) (fun heq=>?_)
         |refine eQ9 Aa (fun x hx=>?_)
         |refine eY0 rfl (fun h=>Ad) ?_
         |refine jU (fun hbb=>?_) (fun hbb=>?_)
         |refine ret_i ?_
         |refine fA7 ?_)
        refine⟨2*k,?_,⟨Aa,Aa⟩,Aa⟩;exact MO
       ·have e1:D++blk c k R=blk c (2*k) L:=by rw[<-h1,hb,blk_small hRk]
        rw[e1]
        repeat' ((conv=>whnf);first
         |refine arith_half Aa ?_
         |refine arith_u Aa ?_
         |(exfalso;omega)
         |refine eY7 ?_
         |refine eZ1 Ac ?_
         |refine eH4 Aa ?_
         |refine fU (p:=(T.row _).eq=true) Ac ?_
         |refine fU Aa ?_
         |refine eZ2 ?_
         |refine eZ0 (fun hd=>?_) (fun hd=>?_)
         |refine br_lt (fun hlt=>?_) (fun hlt=>?_)
         |refine br_le (fun hle=>?_) (fun hle=>?_)
         |refine eV7 (fun heq=>?_) (fun heq=>?_)
         |refine eQ9 Aa (fun x hx=>?_)
         |refine eY0 rfl (fun h=>Ad) ?_
         |refine jU (fun hbb=>?_) (fun hbb=>?_)
         |refine ret_i ?_
         |refine fA7 ?_)
        refine⟨2*k,?_,⟨Aa,Aa⟩,Aa⟩;exact MO
      ·have e0:(R.drop k).length=R.length-k:=List.length_drop
       have e1:blk c k R=qA c (R.take k)++(qA c ((R.drop k).take k)++blk c k (R.drop (2*k))):=by
        rw[blk_step Aa Aa,blk_step (l:=R.drop k) Aa Aa,List.drop_drop,hkk]
       have e2:(qA c (R.take k)).length=k:=Dp;have e3:(qA c ((R.drop k).take k)).length=k:=Dp
       have e4:mergeP c (qA c (R.take k)) (qA c ((R.drop k).take k))=qA c (R.take (2*k)):=by rw[merge_sorted hk,hkk,List.take_add]
       have e5:(blk c k (R.drop (2*k))).length=R.length-2*k:=by rw[blk_len _ _ (Nat.le_refl _),List.length_drop]
       have e6:(qA c (R.take (2*k))).length=2*k:=Dp;have e7:(R.drop (2*k)).length=R.length-2*k:=List.length_drop
       repeat' ((conv=>whnf);first
        |refine arith_half Aa ?_
        |refine arith_u Aa ?_
        |(exfalso;omega)
        |(refine aQ2 (sym_spec hc hk _ (l:=D++blk c k R) (l':=D++qA c (R.take (2*k))++blk c k (R.drop (2*k))) (a:=D.length) (m:=D.length+k) (b:=D.length+2*k) D (qA c (R.take k)) (qA c ((R.drop k).take k)) (blk c k (R.drop (2*k))) (Nat.le_refl _) Aa Aa (isortP_pw hk _).srt (isortP_pw hk _).srt (fun z hz=>h3 z (List.mem_of_mem_take (dB0.1 hz))) (fun z hz=>h3 z (List.mem_of_mem_drop (List.mem_of_mem_take (dB0.1 hz)))) (by rw[e1];simp) (by rw[e4]) rfl Aa Aa Aa) rfl rfl ?_ rfl rfl ?_;focus ((repeat' (first|exact trivial|refine And.intro ?_ ?_|with_reducible rfl|exact(fun h=>Ad)|exact rfl));done))
        |refine eY7 ?_
        |refine eZ1 Ac ?_
        |refine eH4 Aa ?_
        |refine fU (p:=(T.row _).eq=true) Ac ?_
        |refine fU Aa ?_
        |refine eZ2 ?_
        |refine eZ0 (fun hd=>?_) (fun hd=>?_)
        |refine br_lt (fun hlt=>?_) (fun hlt=>?_)
        |refine br_le (fun hle=>?_) (fun hle=>?_)
        |refine eV7 (fun heq=>?_) (fun heq=>?_)
        |refine eQ9 Aa (fun x hx=>?_)
        |refine eY0 rfl (fun h=>Ad) ?_
        |refine jU (fun hbb=>?_) (fun hbb=>?_)
        |refine ret_i ?_
        |refine fA7 ?_)
       refine⟨(D++qA c (R.take (2*k)),R.drop (2*k)),?_,⟨?_,?_,fun z hz=>h3 z (List.mem_of_mem_drop hz)⟩,by show(R.drop (2*k)).length<R.length;omega⟩
       ·refine dV ?_ ?_ ?_ ?_
        all_goals repeat' (first|exact trivial|refine And.intro ?_ ?_|with_reducible rfl|exact(fun h=>Ad)|exact Nat.le_refl _|omega|exact rfl)
        ·show(D.length:Int)+2*k=(D++qA c (R.take (2*k))).length
         rw[List.length_append];omega
        ·show(D.length:Int)+2*k+2*k=(D++qA c (R.take (2*k))).length+2*k
         rw[List.length_append];omega
       ·show D++qA c (R.take (2*k))++blk c (2*k) (R.drop (2*k))=_
        rw[<-h1,blk_step (l:=R) Aa hR,List.append_assoc]
       ·show(D++qA c (R.take (2*k))).length+(R.drop (2*k)).length=_
        rw[List.length_append];omega
    ·rw[blk_small hkL]
     repeat' ((conv=>whnf);first
      |refine arith_half Aa ?_
      |refine arith_u Aa ?_
      |(exfalso;omega)
      |refine eY7 ?_
      |refine eZ1 Ac ?_
      |refine eH4 Aa ?_
      |refine fU (p:=(T.row _).eq=true) Ac ?_
      |refine fU Aa ?_
      |refine eZ2 ?_
      |refine eZ0 (fun hd=>?_) (fun hd=>?_)
      |refine br_lt (fun hlt=>?_) (fun hlt=>?_)
      |refine br_le (fun hle=>?_) (fun hle=>?_)
      |refine eV7 (fun heq=>?_) (fun heq=>?_)
      |refine eQ9 Aa (fun x hx=>?_)
      |refine eY0 rfl (fun h=>Ad) ?_
      |refine jU (fun hbb=>?_) (fun hbb=>?_)
      |refine ret_i ?_
      |refine fA7 ?_)
     refine cA7 ?_;exact NG
  ·have ht:(R.take 20).length=20:=by rw[List.length_take];omega
   have hd:(R.drop 20).length=R.length-20:=F7;have hi:(qA c (R.take 20)).length=20:=by rw[cX8,ht]
   repeat' ((conv=>whnf);first
    |refine arith_half Aa ?_
    |refine arith_u Aa ?_
    |(exfalso;omega)
    |(refine aQ2 (ins_at hc (l:=D++R) (l':=D++qA c (R.take 20)++R.drop 20) (a:=D.length) (b:=D.length+20) D (R.take 20) (R.drop 20) (fun z hz=>h3 z (List.mem_of_mem_take hz)) Ae rfl rfl Aa Aa) rfl rfl ?_ rfl rfl ?_;focus ((repeat' (first|exact trivial|refine And.intro ?_ ?_|with_reducible rfl|exact(fun h=>Ad)|exact rfl));done))
    |refine eY7 ?_
    |refine eZ1 Ac ?_
    |refine eH4 Aa ?_
    |refine fU (p:=(T.row _).eq=true) Ac ?_
    |refine fU Aa ?_
    |refine eZ2 ?_
    |refine eZ0 (fun hd=>?_) (fun hd=>?_)
    |refine br_lt (fun hlt=>?_) (fun hlt=>?_)
    |refine br_le (fun hle=>?_) (fun hle=>?_)
    |refine eV7 (fun heq=>?_) (fun heq=>?_)
    |refine eQ9 Aa (fun x hx=>?_)
    |refine eY0 rfl (fun h=>Ad) ?_
    |refine jU (fun hbb=>?_) (fun hbb=>?_)
    |refine ret_i ?_
    |refine fA7 ?_)
   refine⟨(D++qA c (R.take 20),R.drop 20),?_,⟨?_,?_,fun z hz=>h3 z (List.mem_of_mem_drop hz)⟩,by show(R.drop 20).length<R.length;omega⟩
   ·refine dV ?_ ?_ ?_ ?_
    all_goals repeat' (first|exact trivial|refine And.intro ?_ ?_|with_reducible rfl|exact(fun h=>Ad)|exact Nat.le_refl _|omega|exact rfl)
    ·show(D.length:Int)+20=(D++qA c (R.take 20)).length
     rw[List.length_append];omega
    ·show(D.length:Int)+20+20=(D++qA c (R.take 20)).length+20
     rw[List.length_append];omega
   ·show D++qA c (R.take 20)++blk c 20 (R.drop 20)=_
    rw[<-h1,blk_step Aa hR,List.append_assoc]
   ·show(D++qA c (R.take 20)).length+(R.drop 20).length=_
    rw[List.length_append];omega
theorem stable_spec(hc:cF2 g cs c Q)(hk:∀a b,c a b<0↔key a<key b)(L:List Int)(hq:∀x∈L,Q x)(hl:L.length<=10000):
 SpIO 78 [.own 3 (L.map I),I L.length, .fn g [.fp cs]] (.tup []) 3 ((qA c L).map I):=eH7 rfl Tryz.func78 Ac Ac (stable_vc hc hk L hq hl)
theorem sorts_vc(hc:cF2 g cs c Q)(hk:∀a b,c a b<0↔key a<key b)(L:List Int)(hq:∀x∈L,Q x)(hl:L.length<=10000):
 fnIO T Tryz.prog Tryz.f45 [.own 3 (L.map I), .fn g [.fp cs]] (.tup []) 0 3 ((qA c L).map I):=by
 have hs:((List.map I L).length:Int)=L.length:=Ae;have hn:=stable_spec hc hk L hq hl
 rw[<-hs]at hn
 repeat' ((conv=>whnf);first
  |refine arith_half Aa ?_
  |refine arith_u Aa ?_
  |(refine aQ2 (hn) rfl rfl ?_ rfl rfl ?_;focus ((repeat' (first|exact trivial|refine And.intro ?_ ?_|with_reducible rfl|exact(fun h=>Ad)|exact rfl));done))
  |refine cA7 ?_
  |refine eY7 ?_
  |refine eZ1 Ac ?_
  |refine eH4 Aa ?_
  |refine fU (p:=(T.row _).eq=true) Ac ?_
  |refine fU Aa ?_
  |refine eZ2 ?_
  |refine eZ0 (fun hd=>?_) (fun hd=>?_)
  |refine br_lt (fun hlt=>?_) (fun hlt=>?_)
  |refine br_le (fun hle=>?_) (fun hle=>?_)
  |refine eV7 (fun heq=>?_) (fun heq=>?_)
  |refine eQ9 Aa (fun x hx=>?_)
  |refine eY0 rfl (fun h=>Ad) ?_
  |refine jU (fun hbb=>?_) (fun hbb=>?_)
  |refine ret_i ?_
  |refine fA7 ?_)
 exact NG
theorem sorts_spec(hc:cF2 g cs c Q)(hk:∀a b,c a b<0↔key a<key b)(L:List Int)(hq:∀x∈L,Q x)(hl:L.length<=10000):
 SpIO 45 [.own 3 (L.map I), .fn g [.fp cs]] (.tup []) 3 ((qA c L).map I):=eH7 rfl Tryz.func45 Ac Ac (sorts_vc hc hk L hq hl)
end Go.Proofs.Cost58
