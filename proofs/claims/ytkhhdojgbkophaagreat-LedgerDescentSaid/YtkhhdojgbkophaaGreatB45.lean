/-
  The inventory: what is found by its identity.
-/
import Derived.Test.YtkhhdojgbkophaaGreatB40
import Derived.Test.YtkhhdojgbkophaaGreatB27
set_option linter.unusedVariables false
set_option linter.unusedSimpArgs false
namespace Go.Proofs.Led
open Go Go.Proofs Go.Ab
set_option maxRecDepth 100000
set_option maxHeartbeats 4000000
theorem bZ0{α:Type}{Q:α->Prop}:∀ {l:List α} {x:α},x∈l->Q x->(∀y∈l,Q y->y=x)->l[fst Q l]? =some x
 | [],x,h,_,_=>by cases h
 |y::l,x,h,hq,hu=>by
  by_cases hy:Q y
  ·have e:fst Q (y::l)=0:=by
    unfold fst
    rw[List.takeWhile_cons,if_neg (by rw[dH.2 hy];decide)]
    rfl
   rw[e,hu y (by simp) hy]
   rfl
  ·have e:fst Q (y::l)=fst Q l+1:=by
    unfold fst
    rw[List.takeWhile_cons,if_pos (by rw[dW.2 hy];decide)]
    rfl
   rw[e,List.getElem?_cons_succ]
   rcases List.mem_cons.1 h with h|h
   ·rw[h]at hq;exact absurd hq hy
   ·exact bZ0 h hq (fun z hz=>hu z (by simp[hz]))
theorem bB9{α:Type}{key:α->Int}:∀ {l:List α},(l.map key).Pairwise (·<·)->∀ {x y:α},x∈l->y∈l->key x=key y->x=y
 | [],_,x,y,h,_,_=>by cases h
 |z::l,hp,x,y,hx,hy,e=>by
  rw[List.map_cons,List.pairwise_cons]at hp
  rcases List.mem_cons.1 hx with h1|h1<;>rcases List.mem_cons.1 hy with h2|h2
  ·rw[h1,h2]
  ·have:=hp.1 (key y) (List.mem_map_of_mem h2)
   rw[h1]at e
   omega
  ·have:=hp.1 (key x) (List.mem_map_of_mem h1)
   rw[h2]at e
   omega
  ·exact bB9 hp.2 h1 h2 e
theorem eF7{s:aJ}{n:Nat}(h:Ok s n){x:aN}(hx:x∈s.stocks):s.stocks[fst (fun y=>sid y=sid x) s.stocks]? =some x:=
 bZ0 hx rfl (fun y hy e=>bB9 h.ss hy hx e)
theorem dK2{s:aJ}{n:Nat}(h:Ok s n){x:Piece}(hx:x∈s.pieces):s.pieces[fst (fun y=>y.id=x.id) s.pieces]? =some x:=
 bZ0 hx rfl (fun y hy e=>bB9 h.sp hy hx e)
end Go.Proofs.Led
namespace Go.Proofs.Led
open Go Go.Proofs Go.Ab
set_option maxRecDepth 100000
set_option maxHeartbeats 8000000
theorem cC8(n:Int)(x:Piece):Sp 86 [aZ x, .fp [I n]] (DB (x.id=n)):=by
 refine zsp Tryz.func86 ?_
 repeat' ((conv=>whnf);first|refine zg ?_|refine zr ?_)
 all_goals conv=>whnf
 all_goals exact aA (sK Iff.rfl)
theorem bZ9(n:Int)(x:aN):Sp 88 [aQ x, .fp [I n]] (DB (sid x=n)):=by
 refine zsp Tryz.func88 ?_
 have h1:=aE2 x
 repeat' ((conv=>whnf);first|refine zc h1 ?_|refine zg ?_|refine zi ?_|refine zr ?_)
 all_goals conv=>whnf
 all_goals exact aA (sK Iff.rfl)
theorem fB2{g:FuncId}{c:List V}{Q:Piece->Prop}(hg:∀m,Sp g (aZ m:: [.fp c]) (DB (Q m)))(l:List Piece)(hl:l.length<=1000000):fnVC T Tryz.prog Tryz.f85 [.sl (l.map aZ), .fn g [.fp c]] (I (fstI Q l)):=by
 have hll:(l.map aZ).length=l.length:=by simp
 repeat' ((conv=>whnf);first|refine zg ?_)
 refine aU (A:=List Piece) (B:=List Piece) (fun D R=>mkSt [(0, .sl (l.map aZ)),(1, .fn g [.fp c]),(7,I l.length),(8,I D.length)] [] [])
  (fun D R=>l=D++R/\∀m∈D,¬Q m) (fun D R=>R.length) [] l ?_ ⟨rfl,by simp⟩ (fun D R hp=>?_)
 ·exact zj
 ·obtain⟨h1,h2⟩:=hp
  have hlen:l.length=D.length+R.length:=by rw[h1];simp
  have hD:∀y∈D,(!decB (Q y))=true:=fun y hy=>by rw[dW.2 (h2 y hy)];rfl
  cases R with
  |nil=>
   have e:l=D:=by rw[h1];simp
   simp at hlen
   repeat' ((conv=>whnf);first|(exfalso;omega)|refine zg ?_|refine zl (fun hlt=>?_) (fun hlt=>?_)|refine zr ?_)
   conv=>whnf
   refine aG ?_
   unfold fstI
   rw[if_neg (iO.2 (by rw[e];exact h2))]
  |cons x R=>
   rw[List.length_cons]at hlen
   repeat' ((conv=>whnf);first|(exfalso;omega)|refine aF (l:=l) (A:=D) (x:=x) (B:=R) h1 (by omega) ?_|refine zc (hg x) ?_|refine zg ?_|refine za ?_|refine zo ?_|refine zd (fun hd=>?_) (fun hd=>?_)|refine zl (fun hlt=>?_) (fun hlt=>?_)|refine zr ?_)
   ·conv=>whnf
    refine aG ?_
    have e:fst Q l=D.length:=by unfold fst;rw[h1];exact wH hD (by rw[dH.2 hd];rfl)
    unfold fstI
    rw[e,if_pos (by omega)]
   ·conv=>whnf
    refine⟨(D++[x],R),?_,⟨?_,?_⟩,?_⟩
    ·refine dV ?_ ?_ ?_ ?_
     all_goals repeat' (first|exact trivial|refine And.intro ?_ ?_|with_reducible rfl|exact(fun h=>by cases h)|exact Nat.le_refl _|omega|exact rfl)
     ·show(D.length:Int)+1=(D++[x]).length
      simp
    ·show l=D++[x] ++R
     rw[h1];simp
    ·intro m hm
     rcases List.mem_append.1 hm with hm|hm
     ·exact h2 m hm
     ·rw[List.mem_singleton.1 hm];exact hd
    ·show R.length< (x::R).length
     simp
theorem dY3{g:FuncId}{c:List V}{Q:Piece->Prop}(hg:∀m,Sp g (aZ m:: [.fp c]) (DB (Q m)))(l:List Piece)(hl:l.length<=1000000):Sp 85 [.sl (l.map aZ), .fn g [.fp c]] (I (fstI Q l)):=zsp Tryz.func85 (fB2 hg l hl)
theorem fA9{g:FuncId}{c:List V}{Q:aN->Prop}(hg:∀m,Sp g (aQ m:: [.fp c]) (DB (Q m)))(l:List aN)(hl:l.length<=1000000):fnVC T Tryz.prog Tryz.f87 [.sl (l.map aQ), .fn g [.fp c]] (I (fstI Q l)):=by
 have hll:(l.map aQ).length=l.length:=by simp
 repeat' ((conv=>whnf);first|refine zg ?_)
 refine aU (A:=List aN) (B:=List aN) (fun D R=>mkSt [(0, .sl (l.map aQ)),(1, .fn g [.fp c]),(7,I l.length),(8,I D.length)] [] [])
  (fun D R=>l=D++R/\∀m∈D,¬Q m) (fun D R=>R.length) [] l ?_ ⟨rfl,by simp⟩ (fun D R hp=>?_)
 ·exact zj
 ·obtain⟨h1,h2⟩:=hp
  have hlen:l.length=D.length+R.length:=by rw[h1];simp
  have hD:∀y∈D,(!decB (Q y))=true:=fun y hy=>by rw[dW.2 (h2 y hy)];rfl
  cases R with
  |nil=>
   have e:l=D:=by rw[h1];simp
   simp at hlen
   repeat' ((conv=>whnf);first|(exfalso;omega)|refine zg ?_|refine zl (fun hlt=>?_) (fun hlt=>?_)|refine zr ?_)
   conv=>whnf
   refine aG ?_
   unfold fstI
   rw[if_neg (iO.2 (by rw[e];exact h2))]
  |cons x R=>
   rw[List.length_cons]at hlen
   repeat' ((conv=>whnf);first|(exfalso;omega)|refine aF (l:=l) (A:=D) (x:=x) (B:=R) h1 (by omega) ?_|refine zc (hg x) ?_|refine zg ?_|refine za ?_|refine zo ?_|refine zd (fun hd=>?_) (fun hd=>?_)|refine zl (fun hlt=>?_) (fun hlt=>?_)|refine zr ?_)
   ·conv=>whnf
    refine aG ?_
    have e:fst Q l=D.length:=by unfold fst;rw[h1];exact wH hD (by rw[dH.2 hd];rfl)
    unfold fstI
    rw[e,if_pos (by omega)]
   ·conv=>whnf
    refine⟨(D++[x],R),?_,⟨?_,?_⟩,?_⟩
    ·refine dV ?_ ?_ ?_ ?_
     all_goals repeat' (first|exact trivial|refine And.intro ?_ ?_|with_reducible rfl|exact(fun h=>by cases h)|exact Nat.le_refl _|omega|exact rfl)
     ·show(D.length:Int)+1=(D++[x]).length
      simp
    ·show l=D++[x] ++R
     rw[h1];simp
    ·intro m hm
     rcases List.mem_append.1 hm with hm|hm
     ·exact h2 m hm
     ·rw[List.mem_singleton.1 hm];exact hd
    ·show R.length< (x::R).length
     simp
theorem eH2{g:FuncId}{c:List V}{Q:aN->Prop}(hg:∀m,Sp g (aQ m:: [.fp c]) (DB (Q m)))(l:List aN)(hl:l.length<=1000000):Sp 87 [.sl (l.map aQ), .fn g [.fp c]] (I (fstI Q l)):=zsp Tryz.func87 (fA9 hg l hl)
def piece0:Piece:=⟨0,0,aI,aI,aI,0,false,0,aI⟩
noncomputable def bF5(s:aJ)(n:Int):aN:=(s.stocks[fst (fun x=>sid x=n) s.stocks]?).getD wS
noncomputable def bF0(s:aJ)(n:Int):Piece:=(s.pieces[fst (fun x=>x.id=n) s.pieces]?).getD piece0
theorem eD1{α:Type}{Q:α->Prop}{l:List α}:fst Q l<l.length↔∃m∈l,Q m:=by
 by_cases h:fst Q l<l.length
 ·refine⟨fun _=>?_,fun _=>h⟩
  apply Classical.byContradiction
  intro hn
  exact iO.2 (fun m hm hq=>hn ⟨m,hm,hq⟩) h
 ·refine⟨fun q=>absurd q h,fun⟨m,hm,hq⟩=>absurd hq (iO.1 h m hm)⟩
theorem bH9(s:aJ)(n:Int)(hl:s.stocks.length<=1000000):Sp 31 [invV s,I n] (.tup [aQ (bF5 s n),DB (∃m∈s.stocks,sid m=n)]):=by
 refine zsp Tryz.func31 ?_
 have h1:=eH2 (c:=[I n]) (fun x=>bZ9 n x) s.stocks hl
 have hs:bF5 s n=(s.stocks[fst (fun x=>sid x=n) s.stocks]?).getD wS:=rfl
 have hlt:=eD1 (Q:=fun x:aN=>sid x=n) (l:=s.stocks)
 have hi:fstI (fun x:aN=>sid x=n) s.stocks=if fst (fun x=>sid x=n) s.stocks<s.stocks.length then(fst (fun x=>sid x=n) s.stocks:Int)else-1:=rfl
 generalize fstI (fun x:aN=>sid x=n) s.stocks=z at*
 generalize fst (fun x:aN=>sid x=n) s.stocks=k at*
 generalize (∃m∈s.stocks,sid m=n)=P at*
 have hm:(s.stocks.map aQ).length=s.stocks.length:=by simp
 conv=>whnf
 refine dJ4 Unit (fun _=>mkSt [(2, .box 2 0),(3, .fp [I n]),(4, .box 4 0),(5,B false)] [(2,invC s),(4,dA5)] []) (fun _=>True) ?_ ?_
 ·repeat' ((conv=>whnf);first|refine zg ?_|refine zi ?_|refine za ?_|refine zw ?_|refine zy ?_|refine zo ?_|refine zn ?_|refine zd (fun hd=>?_) (fun hd=>?_)|refine zl (fun hlt=>?_) (fun hlt=>?_)|refine zk (fun hle=>?_) (fun hle=>?_)|refine ze (fun heq=>?_) (fun heq=>?_)|refine zm (fun x hx=>?_)|refine zv ?_|refine zb (fun hbb=>?_) (fun hbb=>?_)|refine zr ?_|refine zq ?_)
  refine⟨(),?_,trivial⟩
  refine Le.trans (bZ6 (i:=3) (cs:=[I n]) rfl (by decide) ⟨trivial,trivial⟩) ?_
  exact zj
 intro _ _
 by_cases c:k<s.stocks.length
 ·rw[if_pos c]at hi
  have hP:P:=hlt.1 c
  have hg:s.stocks[k]? =some (bF5 s n):=by rw[hs,List.getElem?_eq_getElem c];rfl
  rw[hi]at h1
  repeat' ((conv=>whnf);first|(exfalso;omega)|refine zc h1 ?_|refine aB (l:=s.stocks) (by omega) ?_|refine gK (l:=s.stocks) hg (by omega) ?_|refine zg ?_|refine zl (fun hlt=>?_) (fun hlt=>?_)|refine zr ?_)
  all_goals conv=>whnf
  refine⟨_,rfl,⟨?_,congrArg (fun b=>Value.bool b) (fE hP),trivial⟩,rfl⟩
  (repeat' (first|exact trivial|refine And.intro ?_ ?_|with_reducible rfl|exact(fun h=>by cases h)|exact rfl));done
 ·rw[if_neg c]at hi
  have hP:¬P:=fun h=>c (hlt.2 h)
  have hg:bF5 s n=wS:=by rw[hs,List.getElem?_eq_none (by omega)];rfl
  rw[hi]at h1
  rw[hg]
  repeat' ((conv=>whnf);first|(exfalso;omega)|refine zc h1 ?_|refine zg ?_|refine zl (fun hlt=>?_) (fun hlt=>?_)|refine zr ?_)
  all_goals conv=>whnf
  refine⟨_,rfl,⟨?_,congrArg (fun b=>Value.bool b) (aC hP),trivial⟩,rfl⟩
  (repeat' (first|exact trivial|refine And.intro ?_ ?_|with_reducible rfl|exact(fun h=>by cases h)|exact rfl));done
theorem bG3(s:aJ)(n:Int)(hl:s.pieces.length<=1000000):Sp 30 [invV s,I n] (.tup [aZ (bF0 s n),DB (∃m∈s.pieces,m.id=n)]):=by
 refine zsp Tryz.func30 ?_
 have h1:=dY3 (c:=[I n]) (fun x=>cC8 n x) s.pieces hl
 have hs:bF0 s n=(s.pieces[fst (fun x=>x.id=n) s.pieces]?).getD piece0:=rfl
 have hlt:=eD1 (Q:=fun x:Piece=>x.id=n) (l:=s.pieces)
 have hi:fstI (fun x:Piece=>x.id=n) s.pieces=if fst (fun x=>x.id=n) s.pieces<s.pieces.length then(fst (fun x=>x.id=n) s.pieces:Int)else-1:=rfl
 generalize fstI (fun x:Piece=>x.id=n) s.pieces=z at*
 generalize fst (fun x:Piece=>x.id=n) s.pieces=k at*
 generalize (∃m∈s.pieces,m.id=n)=P at*
 have hm:(s.pieces.map aZ).length=s.pieces.length:=by simp
 conv=>whnf
 refine dJ4 Unit (fun _=>mkSt [(2, .box 2 0),(3, .fp [I n]),(4, .box 4 0),(5,B false)] [(2,invC s),(4,dZ8 piece0)] []) (fun _=>True) ?_ ?_
 ·repeat' ((conv=>whnf);first|refine zg ?_|refine zi ?_|refine za ?_|refine zw ?_|refine zy ?_|refine zo ?_|refine zn ?_|refine zd (fun hd=>?_) (fun hd=>?_)|refine zl (fun hlt=>?_) (fun hlt=>?_)|refine zk (fun hle=>?_) (fun hle=>?_)|refine ze (fun heq=>?_) (fun heq=>?_)|refine zm (fun x hx=>?_)|refine zv ?_|refine zb (fun hbb=>?_) (fun hbb=>?_)|refine zr ?_|refine zq ?_)
  refine⟨(),?_,trivial⟩
  refine Le.trans (bZ6 (i:=3) (cs:=[I n]) rfl (by decide) ⟨trivial,trivial⟩) ?_
  exact zj
 intro _ _
 by_cases c:k<s.pieces.length
 ·rw[if_pos c]at hi
  have hP:P:=hlt.1 c
  have hg:s.pieces[k]? =some (bF0 s n):=by rw[hs,List.getElem?_eq_getElem c];rfl
  rw[hi]at h1
  repeat' ((conv=>whnf);first|(exfalso;omega)|refine zc h1 ?_|refine aB (l:=s.pieces) (by omega) ?_|refine gK (l:=s.pieces) hg (by omega) ?_|refine zg ?_|refine zl (fun hlt=>?_) (fun hlt=>?_)|refine zr ?_)
  all_goals conv=>whnf
  refine⟨_,rfl,⟨?_,congrArg (fun b=>Value.bool b) (fE hP),trivial⟩,rfl⟩
  (repeat' (first|exact trivial|refine And.intro ?_ ?_|with_reducible rfl|exact(fun h=>by cases h)|exact rfl));done
 ·rw[if_neg c]at hi
  have hP:¬P:=fun h=>c (hlt.2 h)
  have hg:bF0 s n=piece0:=by rw[hs,List.getElem?_eq_none (by omega)];rfl
  rw[hi]at h1
  rw[hg]
  repeat' ((conv=>whnf);first|(exfalso;omega)|refine zc h1 ?_|refine zg ?_|refine zl (fun hlt=>?_) (fun hlt=>?_)|refine zr ?_)
  all_goals conv=>whnf
  refine⟨_,rfl,⟨?_,congrArg (fun b=>Value.bool b) (aC hP),trivial⟩,rfl⟩
  (repeat' (first|exact trivial|refine And.intro ?_ ?_|with_reducible rfl|exact(fun h=>by cases h)|exact rfl));done
end Go.Proofs.Led
namespace Go.Proofs.Led
open Go Go.Proofs Go.Ab
set_option maxRecDepth 100000
set_option maxHeartbeats 4000000
def Sm(n:Int):Prop:= -10000<=n/\n<=10000
theorem vG{a b:Int}(ha:Sm a)(hb:Sm b): -100000000<=a*b/\a*b<=100000000:=by
 have h:(a*b).natAbs<=10000*10000:=by
  rw[Int.natAbs_mul]
  unfold Sm at*
  exact Nat.mul_le_mul (by omega) (by omega)
 omega
theorem kN{a b:Vc}(h1:Sm (a.1-b.1))(h2:Sm (a.2-b.2)):vsub a b=(a.1-b.1,a.2-b.2):=by
 unfold Sm at*
 unfold vsub
 rw[w_in (by omega),w_in (by omega)]
theorem iK{a b:Vc}(h1:Sm a.1)(h2:Sm a.2)(h3:Sm b.1)(h4:Sm b.2):bZ a b=a.1*b.2-a.2*b.1:=by
 have q1:=vG h1 h4
 have q2:=vG h2 h3
 unfold bZ
 rw[w_in (n:=a.1*b.2) (by omega),w_in (n:=a.2*b.1) (by omega),w_in (by omega)]
theorem bY4{a b:Vc}(h1:Sm a.1)(h2:Sm a.2)(h3:Sm b.1)(h4:Sm b.2):vdot a b=a.1*b.1+a.2*b.2:=by
 have q1:=vG h1 h3
 have q2:=vG h2 h4
 unfold vdot
 rw[w_in (n:=a.1*b.1) (by omega),w_in (n:=a.2*b.2) (by omega),w_in (by omega)]
theorem tC{n:Int}:cmpI n 0≠0↔n≠0:=by
 unfold cmpI
 split
 ·constructor<;>intro _<;>omega
 ·split
  ·constructor<;>intro _<;>omega
  ·constructor<;>intro h
   ·exact absurd rfl h
   ·omega
theorem qN{v:Vc}{m:Int}(h1: -m<=v.1)(h2:v.1<=m)(h3: -m<=v.2)(h4:v.2<=m)(hm:0<=m/\m<=1000000):within v m:=by
 unfold within
 rw[w_in (n:=0-m) (by omega)]
 omega
def rr(a b c d:Int):Rg:=[(a,b),(c,b),(c,d),(a,d)]
structure RB(a b c d:Int):Prop where
 x0:0<=a
 x1:a<c
 x2:c<=1900
 y0:0<=b
 y1:b<d
 y2:d<=1900
theorem uY{x y:Int}(hx:0<x)(hy:0<y):0<x*y:=Int.mul_pos hx hy
theorem bD6(a b c d:Int):bF (rr a b c d)=[((a,b),(c,b)),((c,b),(c,d)),((c,d),(a,d)),((a,d),(a,b))] :=by kernel_rfl
theorem eU3(a b c d:Int):iU (rr a b c d) 0=(c,b):=by kernel_rfl
theorem eV9(a b c d:Int):iU (rr a b c d) 1=(c,d):=by kernel_rfl
theorem eU5(a b c d:Int):iU (rr a b c d) 2=(a,d):=by kernel_rfl
theorem eV3(a b c d:Int):iU (rr a b c d) 3=(a,b):=by kernel_rfl
theorem eV2(a b c d:Int):mY (rr a b c d) 0=(a,d):=by kernel_rfl
theorem eV8(a b c d:Int):mY (rr a b c d) 1=(a,b):=by kernel_rfl
theorem eU8(a b c d:Int):mY (rr a b c d) 2=(c,b):=by kernel_rfl
theorem eV0(a b c d:Int):mY (rr a b c d) 3=(c,d):=by kernel_rfl
theorem eL5{a b c d:Int}(h:RB a b c d):0<zY (rr a b c d):=by
 obtain⟨x0,x1,x2,y0,y1,y2⟩:=h
 have s:∀n:Int,0<=n->n<=1900->Sm n:=fun n h1 h2=>⟨by omega,by omega⟩
 have e1:bZ (a,b) (c,b)=a*b-b*c:=iK (s a x0 (by omega)) (s b y0 (by omega)) (s c (by omega) x2) (s b y0 (by omega))
 have e2:bZ (c,b) (c,d)=c*d-b*c:=iK (s c (by omega) x2) (s b y0 (by omega)) (s c (by omega) x2) (s d (by omega) y2)
 have e3:bZ (c,d) (a,d)=c*d-d*a:=iK (s c (by omega) x2) (s d (by omega) y2) (s a x0 (by omega)) (s d (by omega) y2)
 have e4:bZ (a,d) (a,b)=a*b-d*a:=iK (s a x0 (by omega)) (s d (by omega) y2) (s a x0 (by omega)) (s b y0 (by omega))
 have q1:=vG (s a x0 (by omega)) (s b y0 (by omega))
 have q2:=vG (s b y0 (by omega)) (s c (by omega) x2)
 have q3:=vG (s c (by omega) x2) (s d (by omega) y2)
 have q4:=vG (s d (by omega) y2) (s a x0 (by omega))
 have hA:zY (rr a b c d)=W (W (W (W (0+bZ (a,b) (c,b))+bZ (c,b) (c,d))+bZ (c,d) (a,d))+bZ (a,d) (a,b)):=by kernel_rfl
 have hp:=uY (x:=c-a) (y:=d-b) (by omega) (by omega)
 have hx:(c-a)*(d-b)=c*d-b*c-d*a+a*b:=by
  rw[Int.sub_mul,Int.mul_sub,Int.mul_sub,Int.mul_comm c b,Int.mul_comm a d];omega
 rw[hA,e1,e2,e3,e4]
 generalize a*b=p1 at*
 generalize b*c=p2 at*
 generalize c*d=p3 at*
 generalize d*a=p4 at*
 rw[w_in (n:=0+(p1-p2)) (by omega),w_in (n:=0+(p1-p2)+(p3-p2)) (by omega),w_in (n:=0+(p1-p2)+(p3-p2)+(p3-p4)) (by omega),w_in (by omega)]
 omega
theorem yN{u v w:Vc}(hu:0<=u.1/\u.1<=1900/\0<=u.2/\u.2<=1900)(hv:0<=v.1/\v.1<=1900/\0<=v.2/\v.2<=1900)(hw:0<=w.1/\w.1<=1900/\0<=w.2/\w.2<=1900):
 kR u v w=cmpI ((v.1-u.1)*(w.2-u.2)- (v.2-u.2)*(w.1-u.1)) 0:=by
 unfold kR
 have s:∀m n:Int,0<=m->m<=1900->0<=n->n<=1900->Sm (m-n):=fun m n h1 h2 h3 h4=>⟨by omega,by omega⟩
 have a1:=s v.1 u.1 (by omega) (by omega) (by omega) (by omega)
 have a2:=s v.2 u.2 (by omega) (by omega) (by omega) (by omega)
 have a3:=s w.1 u.1 (by omega) (by omega) (by omega) (by omega)
 have a4:=s w.2 u.2 (by omega) (by omega) (by omega) (by omega)
 rw[kN a1 a2,kN a3 a4,iK a1 a2 a3 a4]
theorem dX7{a b c d:Int}(h:RB a b c d):∀i,i< (rr a b c d).length->kR (mY (rr a b c d) i) ((rr a b c d).getD i z0) (iU (rr a b c d) i)≠0:=by
 obtain⟨x0,x1,x2,y0,y1,y2⟩:=h
 intro i hi
 have hi4:i<4:=hi
 have h4:i=0\/i=1\/i=2\/i=3:=by omega
 rcases h4 with rfl|rfl|rfl|rfl
 ·rw[eV2,eU3]
  show kR (a,d) (a,b) (c,b)≠0
  rw[yN (by simp only;omega) (by simp only;omega) (by simp only;omega),tC]
  simp only
  have:=uY (x:=c-a) (y:=d-b) (by omega) (by omega)
  rw[show a-a=0 by omega,Int.zero_mul,show b-d= -(d-b) by omega,Int.neg_mul,Int.mul_comm (d-b)]
  omega
 ·rw[eV8,eV9]
  show kR (a,b) (c,b) (c,d)≠0
  rw[yN (by simp only;omega) (by simp only;omega) (by simp only;omega),tC]
  simp only
  have:=uY (x:=c-a) (y:=d-b) (by omega) (by omega)
  rw[show b-b=0 by omega,Int.zero_mul]
  omega
 ·rw[eU8,eU5]
  show kR (c,b) (c,d) (a,d)≠0
  rw[yN (by simp only;omega) (by simp only;omega) (by simp only;omega),tC]
  simp only
  have:=uY (x:=c-a) (y:=d-b) (by omega) (by omega)
  rw[show c-c=0 by omega,Int.zero_mul,show a-c= -(c-a) by omega,Int.mul_neg,Int.mul_comm (d-b)]
  omega
 ·rw[eV0,eV3]
  show kR (c,d) (a,d) (a,b)≠0
  rw[yN (by simp only;omega) (by simp only;omega) (by simp only;omega),tC]
  simp only
  have:=uY (x:=c-a) (y:=d-b) (by omega) (by omega)
  rw[show d-d=0 by omega,Int.zero_mul,show a-c= -(c-a) by omega,show b-d= -(d-b) by omega,Int.neg_mul_neg]
  omega
def On19(v:Vc):Prop:=0<=v.1/\v.1<=1900/\0<=v.2/\v.2<=1900
theorem eE4{s:Sg}(h1:On19 s.1)(h2:On19 s.2):bI s:=by
 unfold On19 at*
 exact⟨qN (by omega) (by omega) (by omega) (by omega) (by omega),qN (by omega) (by omega) (by omega) (by omega) (by omega)⟩
theorem yC{s t:Sg}(h1:On19 s.1)(h2:On19 s.2)(h3:On19 t.1)(h4:On19 t.2):jC s t=(s.2.1-s.1.1)*(t.2.2-t.1.2)- (s.2.2-s.1.2)*(t.2.1-t.1.1):=by
 unfold On19 at*
 have s1:∀m n:Int,0<=m->m<=1900->0<=n->n<=1900->Sm (m-n):=fun m n h1 h2 h3 h4=>⟨by omega,by omega⟩
 have a1:=s1 s.2.1 s.1.1 (by omega) (by omega) (by omega) (by omega)
 have a2:=s1 s.2.2 s.1.2 (by omega) (by omega) (by omega) (by omega)
 have a3:=s1 t.2.1 t.1.1 (by omega) (by omega) (by omega) (by omega)
 have a4:=s1 t.2.2 t.1.2 (by omega) (by omega) (by omega) (by omega)
 unfold jC
 rw[kN a1 a2,kN a3 a4,iK a1 a2 a3 a4]
theorem bW0{s t:Sg}(h1:On19 s.1)(h2:On19 s.2)(h3:On19 t.1)(h4:On19 t.2):lX s t=(t.1.1-s.1.1)*(t.2.2-t.1.2)- (t.1.2-s.1.2)*(t.2.1-t.1.1):=by
 unfold On19 at*
 have s1:∀m n:Int,0<=m->m<=1900->0<=n->n<=1900->Sm (m-n):=fun m n h1 h2 h3 h4=>⟨by omega,by omega⟩
 have a1:=s1 t.1.1 s.1.1 (by omega) (by omega) (by omega) (by omega)
 have a2:=s1 t.1.2 s.1.2 (by omega) (by omega) (by omega) (by omega)
 have a3:=s1 t.2.1 t.1.1 (by omega) (by omega) (by omega) (by omega)
 have a4:=s1 t.2.2 t.1.2 (by omega) (by omega) (by omega) (by omega)
 unfold lX
 rw[kN a1 a2,kN a3 a4,iK a1 a2 a3 a4]
theorem bT9{s t:Sg}(h1:On19 s.1)(h2:On19 s.2)(h3:On19 t.1)(h4:On19 t.2):lS s t=(t.1.1-s.1.1)*(s.2.2-s.1.2)- (t.1.2-s.1.2)*(s.2.1-s.1.1):=by
 unfold On19 at*
 have s1:∀m n:Int,0<=m->m<=1900->0<=n->n<=1900->Sm (m-n):=fun m n h1 h2 h3 h4=>⟨by omega,by omega⟩
 have a1:=s1 t.1.1 s.1.1 (by omega) (by omega) (by omega) (by omega)
 have a2:=s1 t.1.2 s.1.2 (by omega) (by omega) (by omega) (by omega)
 have a3:=s1 s.2.1 s.1.1 (by omega) (by omega) (by omega) (by omega)
 have a4:=s1 s.2.2 s.1.2 (by omega) (by omega) (by omega) (by omega)
 unfold lS
 rw[kN a1 a2,kN a3 a4,iK a1 a2 a3 a4]
theorem aP6{s t:Sg}(h:jC s t=0):dG s t≠2:=by
 unfold dG kQ
 split
 ·show(0:Int)≠2;decide
 ·rw[if_neg (fun q=>q h)]
  split
  ·show(1:Int)≠2;decide
  ·split
   ·show(1:Int)≠2;decide
   ·split
    ·show(0:Int)≠2;decide
    ·unfold yD
     split
     ·show(1:Int)≠2;decide
     ·split
      ·show(3:Int)≠2;decide
      ·show(0:Int)≠2;decide
theorem cL8{s t:Sg}(h:jC s t=0)(h1:kR s.1 s.2 t.1≠0)(h2:s.1≠s.2)(h3:t.1≠t.2):dG s t=0:=by
 unfold dG kQ
 split
 ·rfl
 ·rw[if_neg (fun q=>q h),if_neg (fun q=>h2 q.1),if_neg (fun q=>h3 q.1),if_pos (.inr (.inr h1))]
  rfl
theorem cN5{s t:Sg}(h:jC s t≠0)(h2:dG s t=2):(0<jC s t/\0<lX s t/\lX s t<jC s t/\0<lS s t/\lS s t<jC s t)\/
 (jC s t<0/\0<W (0-lX s t)/\W (0-lX s t)<W (0-jC s t)/\0<W (0-lS s t)/\W (0-lS s t)<W (0-jC s t)):=by
 unfold dG kQ at h2
 split at h2
 ·cases h2
 ·unfold lines at h2
  simp only at h2
  split at h2
  ·cases h2
  ·rename_i hq
   have hk:aH6 (turned (lX s t) (lS s t) (jC s t)).1 (turned (lX s t) (lS s t) (jC s t)).2.1 (turned (lX s t) (lS s t) (jC s t)).2.2=2:=h2
   unfold aH6 at hk
   split at hk
   ·cases hk
   ·rename_i hn
    unfold turned at hq hn
    split at hq
    ·rename_i hd
     rw[if_pos hd]at hn
     simp only at hq hn
     right
     omega
    ·rename_i hd
     rw[if_neg hd]at hn
     simp only at hq hn
     left
     omega
theorem bL1{a b c d:Int}(h:RB a b c d):On19 (a,b)/\On19 (c,b)/\On19 (c,d)/\On19 (a,d):=by
 obtain⟨x0,x1,x2,y0,y1,y2⟩:=h
 refine⟨?_,?_,?_,?_⟩<;>(unfold On19;simp only;omega)
theorem eT7{a b c d:Int}(h:RB a b c d):dG ((a,b),(c,b)) ((c,d),(a,d))=0:=by
 obtain⟨q1,q2,q3,q4⟩:=bL1 h
 obtain⟨x0,x1,x2,y0,y1,y2⟩:=h
 refine cL8 ?_ ?_ ?_ ?_
 ·rw[yC q1 q2 q3 q4]
  simp only
  rw[show d-d=0 by omega,show b-b=0 by omega];simp
 ·show kR (a,b) (c,b) (c,d)≠0
  rw[yN (by simp only;omega) (by simp only;omega) (by simp only;omega),tC]
  simp only
  have:=uY (x:=c-a) (y:=d-b) (by omega) (by omega)
  rw[show b-b=0 by omega,Int.zero_mul]
  omega
 ·intro e
  have:a=c:=congrArg Prod.fst e
  omega
 ·intro e
  have:c=a:=congrArg Prod.fst e
  omega
theorem eS9{a b c d:Int}(h:RB a b c d):dG ((c,b),(c,d)) ((a,d),(a,b))=0:=by
 obtain⟨q1,q2,q3,q4⟩:=bL1 h
 obtain⟨x0,x1,x2,y0,y1,y2⟩:=h
 refine cL8 ?_ ?_ ?_ ?_
 ·rw[yC q2 q3 q4 q1]
  simp only
  rw[show c-c=0 by omega,show a-a=0 by omega];simp
 ·show kR (c,b) (c,d) (a,d)≠0
  rw[yN (by simp only;omega) (by simp only;omega) (by simp only;omega),tC]
  simp only
  have:=uY (x:=c-a) (y:=d-b) (by omega) (by omega)
  rw[show c-c=0 by omega,Int.zero_mul,show a-c= -(c-a) by omega,Int.mul_neg,Int.mul_comm (d-b)]
  omega
 ·intro e
  have:b=d:=congrArg Prod.snd e
  omega
 ·intro e
  have:d=b:=congrArg Prod.snd e
  omega
theorem dB7{a b c d:Int}(h:RB a b c d):dM (rr a b c d):=by
 refine⟨(by decide:3<=4),(by decide:4<=40),?_,eL5 h,dX7 h,?_⟩
 ·obtain⟨x0,x1,x2,y0,y1,y2⟩:=h
  intro v hv
  have hv':v=(a,b)\/v=(c,b)\/v=(c,d)\/v=(a,d):=by simpa [rr]using hv
  rcases hv' with rfl|rfl|rfl|rfl<;>exact qN (by simp only;omega) (by simp only;omega) (by simp only;omega) (by simp only;omega) (by omega)
 ·intro i k hik hk
  have hk4:k<4:=hk
  rw[bD6]
  show k≠i+1->(i≠0\/k≠4-1)->_
  intro h1 h2
  have hc:(i=0/\k=2)\/(i=1/\k=3):=by omega
  rcases hc with⟨rfl,rfl⟩|⟨rfl,rfl⟩
  ·exact eT7 h
  ·exact eS9 h
def rS(a b c d:Int):Sh:=⟨rr a b c d,[]⟩
theorem bC0{a b c d:Int}(h:RB a b c d):bG (rS a b c d):=by
 refine⟨Nat.zero_le 6,fun r hr=>?_,(by decide:4<=80),trivial⟩
 rw[List.mem_singleton.1 (show r∈[rr a b c d]from hr)]
 exact dB7 h
theorem aG2{x m:Vc}:kF x m↔x.2<m.2\/(x.2=m.2/\x.1<m.1):=by
 unfold kF vcmp orI cmpI
 split<;>(try split)<;>(try split)<;>(try split)<;>(try split)<;>omega
theorem eG8{a b c d:Int}(h:RB a b c d):wL (rr a b c d)=rr a b c d:=by
 obtain⟨x0,x1,x2,y0,y1,y2⟩:=h
 have e1:wO (rr a b c d)=(a,b):=by
  show sQ (a,b) [(c,b),(c,d),(a,d)] =(a,b)
  rw[wF,if_neg (by rw[aG2];simp only;omega),wF,if_neg (by rw[aG2];simp only;omega),wF,if_neg (by rw[aG2];simp only;omega)]
  rfl
 unfold wL
 rw[e1]
 have e2:sN (a,b) (rr a b c d) 0=some 0:=by
  show sN (a,b) ((a,b)::_) 0=some 0
  rw[sN,if_pos rfl]
 rw[e2]
 show List.drop 0 (rr a b c d)++List.take 0 (rr a b c d)=_
 simp
theorem cP4{a b c d:Int}(h:RB a b c d):qO (rS a b c d)=rS a b c d:=by
 rw[aN9 (bC0 h)]
 have e1:gQ (rS a b c d).outer=rr a b c d:=by
  show gQ (rr a b c d)=_
  unfold gQ
  rw[if_pos (dB7 h),eG8 h]
 rw[e1]
 rfl
theorem bU1{a b c d:Int}(h:RB a b c d):jV (rS a b c d):=⟨bC0 h,(cP4 h).symm⟩
theorem eD8{a b c d:Int}(h:RB a b c d):(boxS (rS a b c d)).1=((a,b),(c,d)):=by
 rw[eG7 (bC0 h)]
 show(boxR (rr a b c d)).1=_
 rw[dX3 (dB7 h)]
 obtain⟨x0,x1,x2,y0,y1,y2⟩:=h
 show gU (gU (gU (gU ((a,b),(a,b)) (a,b)) (c,b)) (c,d)) (a,d)=_
 simp only[gU]
 refine Prod.ext (Prod.ext ?_ ?_) (Prod.ext ?_ ?_)<;>simp only<;>omega
theorem cL4{x:Bx}{v:Vc}(h:RB (x.1.1-v.1) (x.1.2-v.2) (x.2.1-v.1) (x.2.2-v.2)):jT x v=rS (x.1.1-v.1) (x.1.2-v.2) (x.2.1-v.1) (x.2.2-v.2):=by
 have hh:=h
 obtain⟨x0,x1,x2,y0,y1,y2⟩:=h
 show qO (sV (vsub x.1 v) (vsub x.2 v))=_
 rw[kN ⟨by omega,by omega⟩ ⟨by omega,by omega⟩,kN ⟨by omega,by omega⟩ ⟨by omega,by omega⟩]
 have e:sV (x.1.1-v.1,x.1.2-v.2) (x.2.1-v.1,x.2.2-v.2)=rS (x.1.1-v.1) (x.1.2-v.2) (x.2.1-v.1) (x.2.2-v.2):=by
  unfold sV
  rw[if_neg]
  ·rfl
  ·rintro(h|h|h|h)
   ·simp only at h;omega
   ·simp only at h;omega
   ·exact h (qN (by simp only;omega) (by simp only;omega) (by simp only;omega) (by simp only;omega) (by omega))
   ·exact h (qN (by simp only;omega) (by simp only;omega) (by simp only;omega) (by simp only;omega) (by omega))
 rw[e]
 exact cP4 hh
theorem gcd_one(n:Int):divisor n 1=1:=by
 have h:gcdI n 1=1:=by
  rw[gcdI,dif_neg (by decide)]
  have:n.tmod 1=0:=Int.tmod_one n
  rw[this,gcdI,dif_pos rfl]
 unfold divisor
 rw[h]
 decide
theorem eE5{p:Vc}(h:On19 p):wJ (p.1,p.2,1):=by
 unfold On19 at h
 refine⟨⟨(by decide:(1:Int)<=1),(by decide:(1:Int)<=134217728),?_⟩,gcd_one _⟩
 show within (p.1,p.2) (W (4000*1))
 rw[show W (4000*1)=4000 by decide]
 exact qN (by simp only;omega) (by simp only;omega) (by simp only;omega) (by simp only;omega) (by omega)
theorem uZ{p v:Vc}(h1:On19 p)(h2:On19 v):toP (p.1,p.2,1) v=(p.1-v.1,p.2-v.2):=by
 unfold On19 at*
 unfold toP
 simp only[Int.mul_one]
 rw[w_in (n:=v.1) (by omega),w_in (n:=v.2) (by omega),w_in (by omega),w_in (by omega)]
theorem aP9{p:Vc}{e:Sg}(h1:On19 p)(h2:On19 e.1)(h3:On19 e.2):bV4 (p.1,p.2,1) e=(e.2.1-e.1.1)*(p.2-e.1.2)- (e.2.2-e.1.2)*(p.1-e.1.1):=by
 unfold bV4
 rw[uZ h1 h2]
 unfold On19 at*
 rw[kN ⟨by omega,by omega⟩ ⟨by omega,by omega⟩,iK ⟨by simp only;omega,by simp only;omega⟩ ⟨by simp only;omega,by simp only;omega⟩ ⟨by simp only;omega,by simp only;omega⟩ ⟨by simp only;omega,by simp only;omega⟩]
theorem pG{k n:Int}(hk:0<k):(k*n=0↔n=0)/\(0<k*n↔0<n)/\(k*n<0↔n<0):=by
 refine⟨⟨fun h=>?_,fun h=>by rw[h,Int.mul_zero]⟩,⟨fun h=>?_,fun h=>Int.mul_pos hk h⟩,⟨fun h=>?_,fun h=>Int.mul_neg_of_pos_of_neg hk h⟩⟩
 ·rcases Int.mul_eq_zero.1 h with h|h
  ·omega
  ·exact h
 ·exact Int.pos_of_mul_pos_right h hk|>fun x=>x
 ·exact Int.neg_of_mul_neg_right h (by omega)|>fun x=>x
theorem on_h{p:Vc}{x1 x2 y:Int}(hp:On19 p)(h1:On19 (x1,y))(h2:On19 (x2,y))(hne:x1≠x2):(onE (p.1,p.2,1) ((x1,y),(x2,y))↔p.2=y/\min x1 x2<=p.1/\p.1<=max x1 x2)/\¬rW (p.1,p.2,1) ((x1,y),(x2,y)):=by
 constructor
 ·unfold onE
  rw[aP9 hp h1 h2,uZ hp h1,uZ hp h2]
  simp only
  rw[show y-y=0 by omega,Int.zero_mul,Int.sub_zero]
  constructor
  ·rintro⟨h,q⟩
   rcases Int.mul_eq_zero.1 h with h|h
   ·omega
   ·omega
  ·rintro⟨h,q⟩
   refine⟨by rw[h,show y-y=0 by omega,Int.mul_zero],by omega⟩
 ·unfold rW
  rw[uZ hp h1,uZ hp h2]
  exact fun h=>h.1 Iff.rfl
theorem on_v{p:Vc}{x y1 y2:Int}(hp:On19 p)(h1:On19 (x,y1))(h2:On19 (x,y2))(hne:y1≠y2):(onE (p.1,p.2,1) ((x,y1),(x,y2))↔p.1=x/\min y1 y2<=p.2/\p.2<=max y1 y2):=by
 unfold onE
 rw[aP9 hp h1 h2,uZ hp h1,uZ hp h2]
 simp only
 rw[show x-x=0 by omega,Int.zero_mul]
 constructor
 ·rintro⟨h,q⟩
  have h':(y2-y1)*(p.1-x)=0:=by omega
  rcases Int.mul_eq_zero.1 h' with h|h
  ·omega
  ·omega
 ·rintro⟨h,q⟩
  refine⟨by rw[h,show x-x=0 by omega,Int.mul_zero];omega,by omega⟩
theorem eP8{p:Vc}{x y1 y2:Int}(hp:On19 p)(h1:On19 (x,y1))(h2:On19 (x,y2))(hlt:y1<y2):rW (p.1,p.2,1) ((x,y1),(x,y2))↔y1<=p.2/\p.2<y2/\p.1<x:=by
 unfold rW
 rw[aP9 hp h1 h2,uZ hp h1,uZ hp h2]
 simp only
 rw[show x-x=0 by omega,Int.zero_mul]
 obtain⟨m1,m2,m3⟩:=pG (k:=y2-y1) (n:=p.1-x) (by omega)
 constructor
 ·rintro⟨q1,q2⟩
  by_cases c1:y1<=p.2
  ·have q3:0<0- (y2-y1)*(p.1-x):=q2.1 (by omega)
   have q4:(y2-y1)*(p.1-x)<0:=by omega
   have q5:=m3.1 q4
   refine⟨c1,?_,by omega⟩
   by_cases c2:p.2<y2
   ·exact c2
   ·exact absurd ⟨fun _=>by omega,fun _=>by omega⟩ q1
  ·exact absurd ⟨fun _=>by omega,fun _=>by omega⟩ q1
 ·rintro⟨q1,q2,q3⟩
  refine⟨fun h=>?_,fun _=>?_,fun _=>by omega⟩
  ·have:=h.1 (by omega);omega
  ·have:=m3.2 (by omega:p.1-x<0);omega
theorem dN2{p:Vc}{x y1 y2:Int}(hp:On19 p)(h1:On19 (x,y1))(h2:On19 (x,y2))(hlt:y2<y1):rW (p.1,p.2,1) ((x,y1),(x,y2))↔y2<=p.2/\p.2<y1/\p.1<=x:=by
 unfold rW
 rw[aP9 hp h1 h2,uZ hp h1,uZ hp h2]
 simp only
 rw[show x-x=0 by omega,Int.zero_mul]
 obtain⟨m1,m2,m3⟩:=pG (k:=y1-y2) (n:=p.1-x) (by omega)
 have e:(y2-y1)*(p.1-x)= -((y1-y2)*(p.1-x)):=by rw[<-Int.neg_mul];congr 1;omega
 rw[e]
 constructor
 ·rintro⟨q1,q2⟩
  by_cases c1:y2<=p.2
  ·by_cases c2:p.2<y1
   ·refine⟨c1,c2,?_⟩
    by_cases c3:p.1<=x
    ·exact c3
    ·have:=m2.2 (by omega:0<p.1-x)
     have:=q2.2 (by omega)
     omega
   ·exact absurd ⟨fun _=>by omega,fun _=>by omega⟩ q1
  ·exact absurd ⟨fun _=>by omega,fun _=>by omega⟩ q1
 ·rintro⟨q1,q2,q3⟩
  refine⟨fun h=>?_,fun _=>by omega,fun h=>?_⟩
  ·have:=h.2 (by omega);omega
  ·have:=m2.1 (by omega:0< (y1-y2)*(p.1-x));omega
def wR(a b c d:Int)(p:Vc):Prop:=a<p.1/\p.1<c/\b<p.2/\p.2<d
def wP(a b c d:Int)(p:Vc):Prop:=a<=p.1/\p.1<=c/\b<=p.2/\p.2<=d
theorem eG1{a b c d:Int}(h:RB a b c d){p:Vc}(hp:On19 p):
 (wR a b c d p/\iF (rr a b c d) (p.1,p.2,1)=2)\/(¬wR a b c d p/\wP a b c d p/\iF (rr a b c d) (p.1,p.2,1)=1)\/(¬wP a b c d p/\iF (rr a b c d) (p.1,p.2,1)=0):=by
 rw[aD9 (dB7 h) (eE5 hp),bD6]
 obtain⟨q1,q2,q3,q4⟩:=bL1 h
 obtain⟨x0,x1,x2,y0,y1,y2⟩:=h
 obtain⟨a1,a2⟩:=on_h hp q1 q2 (by omega)
 have b1:=on_v hp q2 q3 (by omega)
 have b2:=eP8 hp q2 q3 (by omega)
 obtain⟨c1,c2⟩:=on_h hp q3 q4 (by omega)
 have d1:=on_v hp q4 q1 (by omega)
 have d2:=dN2 hp q4 q1 (by omega)
 unfold wR wP
 by_cases h1:onE (p.1,p.2,1) ((a,b),(c,b))
 ·rw[oP h1]
  have:=a1.1 h1
  exact .inr (.inl ⟨by omega,by omega,rfl⟩)
 rw[jD h1 a2]
 by_cases h2:onE (p.1,p.2,1) ((c,b),(c,d))
 ·rw[oP h2]
  have:=b1.1 h2
  exact .inr (.inl ⟨by omega,by omega,rfl⟩)
 have n1:¬(p.2=b/\min a c<=p.1/\p.1<=max a c):=fun h=>h1 (a1.2 h)
 have n2:¬(p.1=c/\min b d<=p.2/\p.2<=max b d):=fun h=>h2 (b1.2 h)
 by_cases f2:rW (p.1,p.2,1) ((c,b),(c,d))
 ·rw[rE h2 f2]
  have g2:=b2.1 f2
  by_cases h3:onE (p.1,p.2,1) ((c,d),(a,d))
  ·rw[oP h3]
   have:=c1.1 h3
   exact .inr (.inl ⟨by omega,by omega,rfl⟩)
  rw[jD h3 c2]
  have n3:¬(p.2=d/\min c a<=p.1/\p.1<=max c a):=fun h=>h3 (c1.2 h)
  by_cases h4:onE (p.1,p.2,1) ((a,d),(a,b))
  ·rw[oP h4]
   have:=d1.1 h4
   exact .inr (.inl ⟨by omega,by omega,rfl⟩)
  have n4:¬(p.1=a/\min d b<=p.2/\p.2<=max d b):=fun h=>h4 (d1.2 h)
  by_cases f4:rW (p.1,p.2,1) ((a,d),(a,b))
  ·rw[rE h4 f4,qB]
   have g4:=d2.1 f4
   exact .inr (.inr ⟨by omega,rfl⟩)
  ·rw[jD h4 f4,qB]
   have g4:¬(b<=p.2/\p.2<d/\p.1<=a):=fun h=>f4 (d2.2 h)
   exact .inl ⟨by omega,rfl⟩
 ·rw[jD h2 f2]
  have g2:¬(b<=p.2/\p.2<d/\p.1<c):=fun h=>f2 (b2.2 h)
  by_cases h3:onE (p.1,p.2,1) ((c,d),(a,d))
  ·rw[oP h3]
   have:=c1.1 h3
   exact .inr (.inl ⟨by omega,by omega,rfl⟩)
  rw[jD h3 c2]
  have n3:¬(p.2=d/\min c a<=p.1/\p.1<=max c a):=fun h=>h3 (c1.2 h)
  by_cases h4:onE (p.1,p.2,1) ((a,d),(a,b))
  ·rw[oP h4]
   have:=d1.1 h4
   exact .inr (.inl ⟨by omega,by omega,rfl⟩)
  have n4:¬(p.1=a/\min d b<=p.2/\p.2<=max d b):=fun h=>h4 (d1.2 h)
  have f4:¬rW (p.1,p.2,1) ((a,d),(a,b)):=fun f=>by have:=d2.1 f;omega
  rw[jD h4 f4,qB]
  exact .inr (.inr ⟨by omega,rfl⟩)
theorem aP7{a b c d:Int}(h:RB a b c d){p:Vc}(hp:On19 p):
 (wR a b c d p/\lJ (rS a b c d) p=2)\/(¬wR a b c d p/\wP a b c d p/\lJ (rS a b c d) p=1)\/(¬wP a b c d p/\lJ (rS a b c d) p=0):=by
 have e:lJ (rS a b c d) p=iF (rr a b c d) (p.1,p.2,1):=by
  have hw:within p 4000:=by
   unfold On19 at hp
   exact qN (by omega) (by omega) (by omega) (by omega) (by omega)
  rw[cO2 hw]
  by_cases h2:iF (rr a b c d) (p.1,p.2,1)=2
  ·rw[bP9 (bC0 h) h2,h2]
   rfl
  ·rw[bQ2 (bC0 h) h2]
   rfl
 rw[e]
 exact eG1 h hp
theorem eF5{s:Sg}{p:Vc}(h1:On19 s.1)(h2:On19 s.2)(hp:On19 p):eX s p↔min s.1.1 s.2.1<=p.1/\p.1<=max s.1.1 s.2.1/\min s.1.2 s.2.2<=p.2/\p.2<=max s.1.2 s.2.2/\(s.2.1-s.1.1)*(p.2-s.1.2)- (s.2.2-s.1.2)*(p.1-s.1.1)=0:=by
 unfold eX
 rw[yN h1 h2 hp]
 have hb:(aC7 [s.1,s.2]).1=((min s.1.1 s.2.1,min s.1.2 s.2.2),(max s.1.1 s.2.1,max s.1.2 s.2.2)):=by
  show gU (gU (s.1,s.1) s.1) s.2=_
  simp only[gU]
  refine Prod.ext (Prod.ext ?_ ?_) (Prod.ext ?_ ?_)<;>simp only<;>omega
 rw[hb]
 unfold bJ8
 simp only
 constructor
 ·rintro⟨_,⟨q1,q2,q3,q4⟩,q5⟩
  refine⟨q1,q2,q3,q4,?_⟩
  by_cases hz:(s.2.1-s.1.1)*(p.2-s.1.2)- (s.2.2-s.1.2)*(p.1-s.1.1)=0
  ·exact hz
  ·exact absurd q5 (tC.2 hz)
 ·rintro⟨q1,q2,q3,q4,q5⟩
  exact⟨eE4 h1 h2,⟨q1,q2,q3,q4⟩,by rw[q5];rfl⟩
theorem dF0{x1 x2 y:Int}{p:Vc}(h1:On19 (x1,y))(h2:On19 (x2,y))(hp:On19 p):eX ((x1,y),(x2,y)) p↔p.2=y/\min x1 x2<=p.1/\p.1<=max x1 x2:=by
 rw[eF5 h1 h2 hp]
 simp only
 constructor
 ·rintro⟨q1,q2,q3,q4,_⟩;omega
 ·rintro⟨q1,q2,q3⟩
  refine⟨q2,q3,by omega,by omega,?_⟩
  rw[q1,show y-y=0 by omega,Int.zero_mul,Int.mul_zero];rfl
theorem dH4{x y1 y2:Int}{p:Vc}(h1:On19 (x,y1))(h2:On19 (x,y2))(hp:On19 p):eX ((x,y1),(x,y2)) p↔p.1=x/\min y1 y2<=p.2/\p.2<=max y1 y2:=by
 rw[eF5 h1 h2 hp]
 simp only
 constructor
 ·rintro⟨q1,q2,q3,q4,_⟩;omega
 ·rintro⟨q1,q2,q3⟩
  refine⟨by omega,by omega,q2,q3,?_⟩
  rw[q1,show x-x=0 by omega,Int.zero_mul,Int.mul_zero];rfl
end Go.Proofs.Led
