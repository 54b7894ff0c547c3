/-
  Shapes: which are valid, walked.
-/
import Derived.Test.YtdjgbagnajikeaaGreatDoorB3
import Derived.Shelf.Spec.SlicesGrow
set_option linter.unusedVariables false
set_option linter.unusedSimpArgs false
set_option maxRecDepth 100000
set_option maxHeartbeats 4000000
noncomputable section
namespace Go.Proofs.Led
open Go Go.Proofs Go.Ab
theorem aM3{T:Tab}{P:Program}{σ:St}{f:Operand}{g:FuncId}{caps:List V}{ps wr:List Nat}{x y:aA2}{Q:Exit->St->Prop}(items:List (List V))(hs:aB0 T P g caps items)(hl:∀it∈items,it.length=ps.length){A B:Type}(st:A->B->St)(inv:Nat->A->B->Prop)(a0:A)(b0:B)
 (h0:Le T σ (st a0 b0))(h1:inv 0 a0 b0)(hf:(st a0 b0).ev f= .fn g caps)(h:∀k a b it,inv k a b->items[k]? =some it->x ⟨cM2 ps it (st a b).env,(st a b).bx,(st a b).ar⟩ fun e σ1=>match e with
  | .normal=>y σ1 fun e σ2=>match e with
    | .normal=>∃p':A×B,Le T (sJ wr σ2) (st p'.1 p'.2)/\inv (k+1) p'.1 p'.2
    | .ret=>Q .ret (sJ wr σ2)
    | .exit i=>Q (.exit i) (sJ wr σ2)
    |_=>False
  |_=>False)(he:∀a b,inv items.length a b->Q .normal (st a b)):aO0 T P f g caps ps wr x y σ Q:=
 eS1 items hs hl (A:=A×B) (fun p=>st p.1 p.2) (fun k p=>inv k p.1 p.2) (a0,b0) h0 h1 hf (fun k p it=>h k p.1 p.2 it) (fun p=>he p.1 p.2)
theorem idx_eq{α:Type}{f:α->V}{xs:List V}{l A B:List α}{x:α}{i:Nat}{K:V->Prop}(hx:xs=l.map f)(h:l=A++x::B)(hi:i=A.length)(hk:K (f x)):idx xs i K:=by
 subst hx;exact aF h hi hk
def gV(s:Sh):Prop:=s.outer.length<=1000000/\s.holes.length<=1000000/\∀h∈s.holes,h.length<=1000000
theorem gV.mem{s:Sh}(h:gV s){r:Rg}(hr:r∈rings s):r.length<=1000000:=by
 exact Oh
theorem vC(s:Sh):∀it∈iI s,it.length=1:=fun it h=>by
 obtain⟨r,_,rfl⟩:=List.mem_map.1 h;rfl
theorem aE4{s:Sh}{D R:List Rg}{it:List V}(hp:rings s=D++R)(h:(iI s)[D.length]? =some it):∃r R',R=r::R'/\it=[rgV r] :=by
 unfold iI at h;rw[hp,List.getElem?_map]at h
 cases R with
 |nil=>simp at h
 |cons r R'=>
  refine⟨r,R',rfl,?_⟩;simp at h;exact h.symm
theorem aN4(D:List Rg)(r:Rg):corners (D++[r])=corners D+r.length:=by unfold corners;simp
theorem zF9{D:List Rg}(h:∀r∈D,dM r):corners D<=40*D.length:=by
 induction D with
 |nil=>simp[corners]
 |cons d D ih=>
  have h1:=(h d Ae).2.1;have h2:=ih (fun r hr=>h r (by simp[hr]))
  have e:corners (d::D)=d.length+corners D:=by unfold corners;simp
  rw[e,List.length_cons];omega
theorem kK(s:Sh)(hs:gV s):Sp 109 [shV s] (DB (bG s)):=by
 refine zsp Tryz.func109 ?_;have hmm:(s.holes.map rgV).length=s.holes.length:=Ae;generalize hP:bG s=P;have hr:P↔bG s:=G7
 unfold bG at hr
 repeat' ((conv=>whnf);first|refine zc (rQ s) ?_|refine zS ?_|refine zT ?_ ?_<;>intro _|fail)
 all_goals conv=>whnf
 all_goals first
  |(refine aA (aC ?_);rw[hr];intro h;obtain⟨h1,h2,h3,h4⟩:=h;first|omega|contradiction)
  |skip
 have h6:s.holes.length<=6:=Aa
 refine aM3 (iI s) (vJ s Aa) (vC s) (A:=List Rg) (B:=List Rg) (fun D R=>mkSt [(1, .box 1 0),(2, .box 2 0),(3, .box 3 0),(14, .fn 152 [.fp (shV s).cells])] [(1,(shV s).cells),(2,[.lit (.bool false)]),(3,[I (corners D)])] [])
  (fun k D R=>rings s=D++R/\D.length=k/\∀r∈D,dM r) [] (rings s) ?_ ⟨rfl,rfl,Ae⟩ rfl ?_ ?_
 ·exact zj
 ·rintro k D R it ⟨hp,hk,hD⟩ hit
  subst hk;obtain⟨r,R',rfl,rfl⟩:=aE4 hp hit;have hlen:=aO hp;have hlr:(rings s).length=s.holes.length+1:=Be
  have hrl:r.length<=1000000:=hs.mem Af;have hc:=zF9 hD
  have hll:(r.map vcV).length=r.length:=Ae;have ec:((corners (D++[r]):Nat):Int)=(corners D:Int)+((r.map vcV).length:Nat):=by rw[aN4,hll];simp
  repeat' ((conv=>whnf);first|refine zc (lN r hrl) ?_|refine zS ?_|refine zT ?_ ?_<;>intro _|fail)
  all_goals conv=>whnf
  ·exact IQ
  ·refine aA (aC ?_)
   rw[hr];intro h;exact absurd (h.2.1 r Af) Ad
 ·rintro D R ⟨hp,hk,hD⟩
  have hRn:R=[] :=Hu;subst hRn;rw[List.append_nil]at hp;subst hp;clear hk;have hlr:(rings s).length=s.holes.length+1:=Be
  have hc:=zF9 hD
  repeat' ((conv=>whnf);first|refine zS ?_|refine zT ?_ ?_<;>intro _|fail)
  all_goals conv=>whnf
  all_goals first
   |(refine aA (aC ?_);rw[hr];intro h;obtain⟨h1,h2,h3,h4⟩:=h;first|omega|contradiction)
   |skip
  have h80:corners (rings s)<=80:=Aa;have hr2:P↔qR s.outer [] s.holes:=hr.trans ⟨fun h=>h.2.2.2,fun h=>⟨h6,hD,h80,h⟩⟩
  refine aU (A:=List Rg) (B:=List Rg) (fun D R=>mkSt [(1, .box 1 0),(2, .box 2 0),(26, .sl (s.holes.map rgV)),(27,I s.holes.length),(28,I D.length)] [(1,(shV s).cells),(2,[.lit (.bool false)])] []) (fun D R=>s.holes=D++R/\(P↔qR s.outer D R)) (fun D R=>R.length) [] s.holes ?_ ⟨rfl,hr2⟩ (fun D R hp=>?_)
  ·exact GV
  obtain⟨hp,hP2⟩:=hp
  cases R with
  |nil=>
   have hlen:s.holes.length=D.length:=Af
   repeat' ((conv=>whnf);first|(exfalso;omega)|refine zS ?_|refine zT ?_ ?_<;>intro _|fail)
   all_goals conv=>whnf
   exact aA (fE (hP2.2 trivial))
  |cons h R=>
   have hlen:=aO hp;have hhl:h.length<=1000000:=hs.2.2 h Af
   rw[qR]at hP2;unfold cU0 at hP2;have htk:((s.holes.map rgV).take ((D.length:Nat):Int).toNat)=D.map rgV:=by rw[Int.toNat_natCast,hp];simp
   repeat' ((conv=>whnf);first|(exfalso;omega)|refine zc (tX h s.outer 2 hhl hs.1) ?_|refine zc (vS h s.outer hhl hs.1) ?_|refine fU ⟨Aa,Aa,Aa, .inl rfl⟩ ?_|refine zS ?_|refine zT ?_ ?_<;>intro _|fail)
   all_goals conv=>whnf
   all_goals first
    |(refine aA (aC ?_);rw[hP2];intro h;obtain⟨⟨h1,h2,h3⟩,h4⟩:=h;contradiction)
    |skip
   refine aU (A:=List Rg) (B:=List Rg) (fun E S=>mkSt [(1, .box 1 0),(2, .box 2 0),(6,rgV h),(26, .sl (s.holes.map rgV)),(27,I s.holes.length),(28,I D.length),(48, .sl (List.drop (Int.toNat 0) (List.take ((D.length:Nat):Int).toNat (List.map rgV s.holes)))),(49,I (List.drop (Int.toNat 0) (List.take ((D.length:Nat):Int).toNat (List.map rgV s.holes))).length),(50,I E.length)] [(1,(shV s).cells),(2,[.lit (.bool false)])] []) (fun E S=>D=E++S/\∀k∈E,uV h k/\pR h k 0/\pR k h 0) (fun E S=>S.length) [] D ?_ ⟨rfl,Ae⟩ (fun E S hq=>?_)
   ·exact zj
   obtain⟨hq,hE⟩:=hq;have hX:(List.drop (Int.toNat 0) (List.take ((D.length:Nat):Int).toNat (List.map rgV s.holes)))=D.map rgV:=htk;have hXl:(List.drop (Int.toNat 0) (List.take ((D.length:Nat):Int).toNat (List.map rgV s.holes))).length=D.length:=by rw[hX,List.length_map]
   cases S with
   |nil=>
    have hlen2:D.length=E.length:=AO;have hDE:D=E:=AO
    repeat' ((conv=>whnf);first|(exfalso;omega)|refine zS ?_|refine zT ?_ ?_<;>intro _|fail)
    all_goals conv=>whnf
    exact Oq
   |cons k S=>
    have hlen2:=aO hq;have hkl:k.length<=1000000:=hs.2.2 k (by rw[hp,hq];simp)
    repeat' ((conv=>whnf);first|(exfalso;omega)|refine idx_eq (l:=D) (A:=E) (x:=k) (B:=S) hX hq Aa ?_|refine zc (vS h k hhl hkl) ?_|refine zc (tX h k 0 hhl hkl) ?_|refine zc (tX k h 0 hkl hhl) ?_|refine zS ?_|refine zT ?_ ?_<;>intro _|fail)
    all_goals conv=>whnf
    all_goals first
     |(refine aA (aC ?_);rw[hP2];intro q;have q1:=q.1.2.2 k AO;obtain⟨q2,q3,q4⟩:=q1;contradiction)
     |skip
    exact Oc
theorem eI3{s:Sh}(h:bG s):uK s=qH (W (2*nG s.outer)) (rings s):=if_pos h
theorem eC2{s:Sh}(h:¬bG s):uK s=0:=if_neg h
theorem dS3(n:Int)(D:List Rg)(r:Rg):qH n (D++[r])=W (qH n D-nG r):=by unfold qH;rw[List.foldl_append];rfl
theorem cG8(s:Sh)(hs:gV s):Sp 69 [shV s] (I (uK s)):=by
 refine zsp Tryz.func69 ?_;have h1:=eI3 (s:=s);have h2:=eC2 (s:=s)
 generalize uK s=A at*;have ho:s.outer.length<=1000000:=hs.1
 repeat' ((conv=>whnf);first|refine zc (kK s hs) ?_|refine zc (aX1 s.outer hs.1) ?_|refine zc (rQ s) ?_|refine zg ?_|refine zw ?_|refine zn ?_|refine zz (fun _=>?_) fun _=>?_|refine zr ?_)
 all_goals conv=>whnf
 all_goals first
  |exact aG (h2 Ad).symm
  |skip
 have hA:=h1 Ad
 refine aM3 (iI s) (vJ s hs.2.1) (vC s) (A:=List Rg) (B:=List Rg) (fun D R=>mkSt [(1, .box 1 0),(3, .box 3 0),(13, .fn 152 [.fp (shV s).cells])] [(1,(shV s).cells),(3,[I (qH (W (2*nG s.outer)) D)])] [])
  (fun k D R=>rings s=D++R/\D.length=k) [] (rings s) ?_ ⟨rfl,rfl⟩ rfl ?_ ?_
 ·exact zj
 ·rintro k D R it ⟨hp,hk⟩ hit
  subst hk;obtain⟨r,R',rfl,rfl⟩:=aE4 hp hit;have hrl:r.length<=1000000:=hs.mem Af;have es:=dS3 (W (2*nG s.outer)) D r
  generalize W (2*nG s.outer)=a0 at*
  repeat' ((conv=>whnf);first|refine zc (aX1 r hrl) ?_|refine zi ?_|refine zw ?_)
  all_goals conv=>whnf
  refine⟨(D++[r],R'),?_,Af,Ae⟩;simp only[es];exact zj
 ·rintro D R ⟨hp,hk⟩
  have hRn:R=[] :=Hu;subst hRn;rw[List.append_nil]at hp;subst hp;generalize W (2*nG s.outer)=a0 at*
  repeat' ((conv=>whnf);first|refine zS ?_|fail)
  all_goals conv=>whnf
  exact aG hA.symm
theorem dP7{s:Sh}{p:Pt}(h:¬bG s):qW s p=0:=if_neg h
theorem bQ2{s:Sh}{p:Pt}(h:bG s)(h2:¬iF s.outer p=2):qW s p=iF s.outer p:=by unfold qW;rw[if_pos h,if_neg h2]
theorem bP9{s:Sh}{p:Pt}(h:bG s)(h2:iF s.outer p=2):qW s p=qG 2 p s.holes:=by unfold qW;rw[if_pos h,if_pos h2]
theorem dX1{o:Int}{p:Pt}{h:Rg}{l:List Rg}(q:iF h p=2):qG o p (h::l)=0:=by rw[qG,if_pos q]
theorem eB4{o:Int}{p:Pt}{h:Rg}{l:List Rg}(q:iF h p=1):qG o p (h::l)=1:=by rw[qG,if_neg (by omega),if_pos q]
theorem dW5{o:Int}{p:Pt}{h:Rg}{l:List Rg}(q:¬iF h p=2)(q2:¬iF h p=1):qG o p (h::l)=qG o p l:=by rw[qG,if_neg q,if_neg q2]
theorem cA8(s:Sh)(p:Pt)(hs:gV s):Sp 340 [shV s,ptV p] (I (qW s p)):=by
 refine zsp Tryz.func340 ?_;have h1:=dP7 (s:=s) (p:=p);have h2:=bQ2 (s:=s) (p:=p)
 have h3:=bP9 (s:=s) (p:=p);have hw:=aB7 s.outer p hs.1
 have hmm:(s.holes.map rgV).length=s.holes.length:=Ae;have hhl:=hs.2.1
 generalize qW s p=A at*;generalize iF s.outer p=wo at*
 repeat' ((conv=>whnf);first|refine zc (kK s hs) ?_|refine zS ?_|refine zT ?_ ?_<;>intro _|fail)
 all_goals conv=>whnf
 all_goals first
  |exact aG (h1 Ad).symm
  |exact aG (h2 Ad Ad).symm
  |skip
 have hA:=h3 Ad Ad;refine aU (A:=List Rg) (B:=List Rg) (fun D R=>mkSt [(3, .box 3 0),(5,I wo),(19, .sl (s.holes.map rgV)),(20,I s.holes.length),(21,I D.length)] [(3,(ptV p).cells)] []) (fun D R=>s.holes=D++R/\A=qG 2 p R) (fun D R=>R.length) [] s.holes ?_ ⟨rfl,hA⟩ (fun D R hp=>?_)
 ·exact GV
 obtain⟨hp,hA⟩:=hp
 cases R with
 |nil=>
  have hlen:s.holes.length=D.length:=Af
  repeat' ((conv=>whnf);first|(exfalso;omega)|refine zS ?_|refine zT ?_ ?_<;>intro _|fail)
  all_goals conv=>whnf
  exact aG (by rw[hA];show _=(2:Int);omega)
 |cons h R=>
  have hlen:=aO hp;have hl:h.length<=1000000:=hs.2.2 h Af
  have g2:=dX1 (o:=2) (p:=p) (h:=h) (l:=R);have g1:=eB4 (o:=2) (p:=p) (h:=h) (l:=R)
  have g0:=dW5 (o:=2) (p:=p) (h:=h) (l:=R);have hwh:=aB7 h p hl
  rw[<-hA]at g0 g1 g2;generalize iF h p=wh at*
  repeat' ((conv=>whnf);first|(exfalso;omega)|refine zS ?_|refine zT ?_ ?_<;>intro _|fail)
  all_goals conv=>whnf
  all_goals first
   |exact aG (g2 Ad).symm
   |exact aG (g1 Ad).symm
   |skip
  refine⟨(D++[h],R),?_,⟨Af,g0 Ad Ad⟩,Ae⟩;exact Ll
theorem cO2{s:Sh}{v:Vc}(h:within v 4000):lJ s v=qW s (v.1,v.2,1):=if_pos h
theorem eC0{s:Sh}{v:Vc}(h:¬within v 4000):lJ s v=0:=if_neg h
theorem aD4(s:Sh)(v:Vc)(hs:gV s):Sp 304 [shV s,vcV v] (I (lJ s v)):=by
 refine zsp Tryz.func304 ?_;have h1:=cO2 (s:=s) (v:=v);have h2:=eC0 (s:=s) (v:=v)
 generalize lJ s v=A at*
 repeat' ((conv=>whnf);first|refine zc (kC v 4000) ?_|refine zc (zN v) ?_|refine zc (cA8 s (v.1,v.2,1) hs) ?_|refine zS ?_|refine zT ?_ ?_<;>intro _|fail)
 all_goals conv=>whnf
 all_goals first
  |exact aG (h2 Ad).symm
  |exact aG (h1 Ad).symm
open Classical in
def boxS(s:Sh):Bx×Bool:=if bG s then boxR s.outer else(((0,0),(0,0)),false)
theorem eG7{s:Sh}(h:bG s):boxS s=boxR s.outer:=if_pos h
theorem eW5{s:Sh}(h:¬bG s):boxS s=(((0,0),(0,0)),false):=if_neg h
theorem aS0(s:Sh)(hs:gV s):Sp 156 [shV s] (.tup [bxV (boxS s).1, .lit (.bool (boxS s).2)]):=by
 refine zsp Tryz.func156 ?_;have h1:=eG7 (s:=s);have h2:=eW5 (s:=s)
 have hb:=dL2 s.outer hs.1;generalize boxS s=A at*;generalize boxR s.outer=B at*
 repeat' ((conv=>whnf);first|refine zc (kK s hs) ?_|refine zS ?_|refine zd (fun hd=>?_) (fun hd=>?_))
 ·rw[h1 hd]
  all_goals exact zE
 ·rw[h2 hd]
  all_goals exact zE
theorem gX{xs:List V}{bytes size:Nat}{K:Prop}(hb:bytes<=10000)(h5:∀x∈xs,x.cells.length=size)(h4:xs.length<=1000000000)(hk:K):need (xs.length*bytes<=140737488355328/\xs.length<=140737488355328/\∀x∈xs,x.cells.length=size) K:=by
 have:=Nat.mul_le_mul h4 hb;exact fU ⟨Aa,Aa,h5⟩ hk
def d0(D:List Rg)(r:Rg):List Rg:=D++[r]
def edgSt(s:Sh)(D:List Rg):St:=match D with
 | [] =>mkSt [(1, .box 1 0),(3, .box 3 0),(6, .fn 152 [.fp (shV s).cells])] [(1,(shV s).cells),(3,[nilV])] []
 |d::D=>mkSt [(1, .box 1 0),(3, .box 3 0),(6, .fn 152 [.fp (shV s).cells])] [(1,(shV s).cells),(3,[.arr 11 D.length])] [(11,⟨D.length, .own,270,((d::D).flatMap bF).map sgV⟩)]
theorem aX0(l:List Sg):∀y∈l.map sgV,y.cells.length=4:=fun y hy=>AU
theorem cM5{r:Rg}(h:r.length<=1000000):((bF r).map sgV).length<=1000000:=by rw[List.length_map];exact aK9 h
theorem bC1{s:Sh}(hs:gV s)(h7:s.holes.length<=6){D R:List Rg}(hp:rings s=D++R):(D.flatMap bF).length<=7000000:=by
 have h1:∀(E:List Rg),(∀r∈E,(bF r).length<=1000000)->(E.flatMap bF).length<=1000000*E.length:=by
  intro E
  induction E with
  |nil=>intro _;simp
  |cons e E ih=>
   intro h;have a:=h e Ae;have b:=ih (fun r hr=>h r (by simp[hr]))
   exact Np
 have h2:=h1 D (fun r hr=>aK9 (hs.mem (by rw[hp];simp[hr])))
 have h3:(rings s).length=D.length+R.length:=Af;have h4:(rings s).length=s.holes.length+1:=Be
 omega
theorem aV8(s:Sh)(hs:gV s)(h7:s.holes.length<=6):Sp 300 [shV s] (.own 270 ((aC0 s).map sgV)):=by
 refine zsp Tryz.func300 ?_
 repeat' ((conv=>whnf);first|refine zc (rQ s) ?_|refine zS ?_|fail)
 all_goals conv=>whnf
 refine aM3 (iI s) (vJ s hs.2.1) (vC s) (A:=List Rg) (B:=List Rg) (fun D R=>edgSt s D)
  (fun k D R=>rings s=D++R/\D.length=k) [] (rings s) ?_ ⟨rfl,rfl⟩ rfl ?_ ?_
 ·exact zj
 ·rintro k D R it ⟨hp,hk⟩ hit
  subst hk;obtain⟨r,R',rfl,rfl⟩:=aE4 hp hit;have hrl:r.length<=1000000:=hs.mem Af;have hfb:=bC1 hs h7 hp
  have heb:=cM5 hrl;have hff:(((d0 D r:List Rg).flatMap bF).map sgV)=(D.flatMap bF).map sgV++(bF r).map sgV:=by unfold d0;simp
  cases D with
  |nil=>
   repeat' ((conv=>whnf);first|refine zc (qE r hrl) ?_|refine gX (of_decide_eq_true rfl) (aX0 _) (show((bF r).map sgV).length<=1000000000 from Aa) ?_|refine zS ?_|fail)
   all_goals conv=>whnf
   refine⟨([r],R'),?_,Gw,rfl⟩;show Le T _ (mkSt [(1, .box 1 0),(3, .box 3 0),(6, .fn 152 [.fp (shV s).cells])] [(1,(shV s).cells),(3,[.arr 11 0])] [(11,⟨0, .own,270,(([r] :List Rg).flatMap bF).map sgV⟩)]);rw[show([r] :List Rg).flatMap bF=bF r from Ae];exact zj
  |cons d D=>
   have hfl:(((d::D).flatMap bF).map sgV).length=((d::D).flatMap bF).length:=List.length_map ..
   repeat' ((conv=>whnf);first|refine zc (qE r hrl) ?_|refine iH rfl (.inl rfl) rfl (of_decide_eq_true rfl) (aX0 _) (show(((d::D).flatMap bF).map sgV).length+((bF r).map sgV).length<=1000000000 from Aa) ?_|refine zS ?_|fail)
   all_goals conv=>whnf
   refine⟨(d::D++[r],R'),?_,Af,Ae⟩;show Le T _ (mkSt [(1, .box 1 0),(3, .box 3 0),(6, .fn 152 [.fp (shV s).cells])] [(1,(shV s).cells),(3,[.arr 11 (D++[r]).length])] [(11,⟨(D++[r]).length, .own,270,(((d::D)++[r]).flatMap bF).map sgV⟩)]);rw[show((d::D)++[r])=d0 (d::D) r from rfl,hff,List.length_append,List.length_singleton];exact zj
 ·rintro D R ⟨hp,hk⟩
  have hRn:R=[] :=Hu;subst hRn;rw[List.append_nil]at hp;unfold aC0;exact O3
end Go.Proofs.Led
namespace Go.Proofs
open Go.Shelf Go.Ab
def Tryz.bY5:Go.Shelf.Ren:=⟨fun|4=>328|n=>n,fun|22=>75|25=>97|n=>n,fun n=>n⟩
theorem Tryz.cH7:Go.Proofs.Lays8.n4 Tryz.prog Tryz.bY5:={
 mixed:=Ac
 f4:=⟨Tryz.f328.name,Ah,Tryz.func328.trans (congrArg some Ac)⟩
 t0:=Tryz.underlying0
 a0:=Tryz.isAgg0
 z0:=Tryz.sizeOf0
 v0:=Tryz.zeroValue0
 t3:=Tryz.underlying3
 a3:=Tryz.isAgg3
 z3:=Tryz.sizeOf3
 v3:=Tryz.zeroValue3
 t4:=Tryz.underlying4
 a4:=Tryz.isAgg4
 z4:=Tryz.sizeOf4
 v4:=Tryz.zeroValue4
 t9:=Tryz.underlying9
 a9:=Tryz.isAgg9
 z9:=Tryz.sizeOf9
 v9:=Tryz.zeroValue9
 t20:=Tryz.underlying20
 a20:=Tryz.isAgg20
 z20:=Tryz.sizeOf20
 v20:=Tryz.zeroValue20
 t22:=Tryz.underlying75
 a22:=Tryz.isAgg75
 z22:=Tryz.sizeOf75
 v22:=Tryz.zeroValue75}
end Go.Proofs
namespace Go.Proofs.Led
open Go Go.Proofs Go.Ab Go.RowKit
theorem dZ9{w:World}{G:Gh}{j:Nat}{v:Value}{u:Value}(h:Rb T w G j v (.lit u)):v=u:=h.2.bH
theorem arr2{cs:Array Value}(h:cs.size=2):∃a b,cs= #[a,b] :=by
 obtain⟨l⟩:=cs
 match l,h with
 | [a,b],_=>exact⟨a,b,rfl⟩
theorem row97:aH9 Tryz.prog 97 (T.row 97):=uG 97 (of_decide_eq_true Ac)
theorem size97:(T.row 97).size=2:=Ac
theorem bytes97:(T.row 97).bytes=16:=Ac
theorem dP8(n:Nat)(hn:n<=1000000):Sp 328 [.lit (.slice none 0 0),I n] (.own 97 []):=by
 refine⟨Ac,fun w G cs h1 h2 h3 h4 h5=>?_⟩;obtain⟨v0,v1,rfl⟩:=arr2 h1;have r0:v0= .slice none 0 0:=dZ9 (h4 0 v0 _ rfl rfl)
 have r1:v1= .int .i64 n:=dZ9 (h4 1 v1 (I n) rfl rfl);subst r0 r1;have h97:97<T.n 97:=of_decide_eq_true Ac
 rcases Nat.eq_zero_or_pos n with rfl|hpos
 ·refine(Any8.slices_Grow_room Tryz.cH7 none 0 0 0 w (Nat.le_refl _) Ah Ah Ah).mono ?_
  rintro e w' ⟨rfl,rfl⟩;refine⟨_,G,rfl,⟨h97,Fg, .inl ⟨.inl rfl,rfl⟩⟩,fun _ h=>h,h2,h3,fun b hb=>?_,fun _ _ _=>rfl,Nat.le_refl _,rfl,rfl,rfl⟩;exact LH
 ·obtain⟨i0,hi0,hsz,hby,z,hz,hzc,_,hzl,_,_⟩:=row97.info
  rw[size97]at hsz hzl;rw[bytes97]at hby;have hzs:z.cells.size=2:=by rw[<-Array.length_toList,hzc,hzl]
  have hcall:Calls Tryz.prog 328 #[.slice none 0 0, .int .i64 n] w fun e w'=>e= .returned (.slice (some ⟨w.heap.size,0,none⟩) 0 (grownCap w (0+n) 0 97))/\
   w'=w.drew.alloc (.cells (([] :List Value).toArray++Builtin.zeroCells z.cells (0+n-0)++Builtin.zeroCells z.cells (grownCap w (0+n) 0 97- (0+n))) 97):=
   Any8.slices_Grow_grow Tryz.cH7 i0 z hi0 hz Aa none 0 0 n [] w (Nat.le_refl _) Aa (by rw[hby];omega) Aa Ae (fun _=>rfl) (fun a h=>Ag)
  refine hcall.mono ?_;rintro e w' ⟨rfl,rfl⟩;have hge:=grownCap_ge w (0+n) 0 97;have hle:=grownCap_le_maxLen w (0+n) 0 97 BI
  have hsize:(w.drew.alloc (.cells (([] :List Value).toArray++Builtin.zeroCells z.cells (0+n-0)++Builtin.zeroCells z.cells (grownCap w (0+n) 0 97- (0+n))) 97)).heap.size=w.heap.size+1:=Array.size_push _;have hnew:(w.drew.alloc (.cells (([] :List Value).toArray++Builtin.zeroCells z.cells (0+n-0)++Builtin.zeroCells z.cells (grownCap w (0+n) 0 97- (0+n))) 97)).heap[w.heap.size]? =some (.cells (([] :List Value).toArray++Builtin.zeroCells z.cells (0+n-0)++Builtin.zeroCells z.cells (grownCap w (0+n) 0 97- (0+n))) 97 (0,0)):=Array.getElem?_push_size
  have hold:∀b,b<w.heap.size->(w.drew.alloc (.cells (([] :List Value).toArray++Builtin.zeroCells z.cells (0+n-0)++Builtin.zeroCells z.cells (grownCap w (0+n) 0 97- (0+n))) 97)).heap[b]? =w.heap[b]? :=by
   intro b hb;have:(w.drew.alloc (.cells (([] :List Value).toArray++Builtin.zeroCells z.cells (0+n-0)++Builtin.zeroCells z.cells (grownCap w (0+n) 0 97- (0+n))) 97)).heap=w.heap.push _:=rfl;rw[this,Array.getElem?_push_lt hb,Array.getElem?_eq_getElem hb]
  refine⟨_,{G with O:=upd G.O w.heap.size (.ar 0)},rfl,⟨h97,Fg, .inr ⟨w.heap.size,_,_,rfl,upd_same _ _ _,hnew,Nat.zero_le _,hle,?_,Ae,?_⟩⟩,?_,?_,?_,?_,fun b hb _=>hold b hb,by rw[hsize];omega,rfl,rfl,rfl⟩
  ·rw[Array.size_append,Array.size_append,size_zeroCells,size_zeroCells,hzs,size97]
   show 0+(0+n-0)*2+(grownCap w (0+n) 0 97- (0+n))*2=grownCap w (0+n) 0 97*2;omega
  ·refine⟨Ae,Ae,Ae⟩
  ·intro b hb
   have:b≠w.heap.size:=fun e=>by have:=h2 b Au;omega
   show upd G.O w.heap.size (.ar 0) b= .fz;rw[upd_ne _ _ this];exact hb
  ·intro b hb
   rw[hsize];change upd G.O w.heap.size (.ar 0) b≠ .ext at hb;by_cases e:b=w.heap.size
   ·omega
   ·have hb':G.O b≠ .ext:=by
     have:=hb;rw[show(upd G.O w.heap.size (Tag.ar 0)) b=G.O b from upd_ne _ _ e]at this;exact this
    have:=h2 b hb';omega
  ·intro b i hb
   change upd G.O w.heap.size (.ar 0) b= .bx i at hb;by_cases e:b=w.heap.size
   ·subst e
    rw[show(upd G.O w.heap.size (Tag.ar 0)) w.heap.size= .ar 0 from upd_same _ _ _]at hb;cases hb
   ·rw[show(upd G.O w.heap.size (Tag.ar 0)) b=G.O b from upd_ne _ _ e]at hb
    exact h3 b i hb
  ·intro b hb
   change upd G.O w.heap.size (.ar 0) b≠ .ext at hb;show(G.O b= .fz/\upd G.O w.heap.size (.ar 0) b= .fz)\/_;by_cases e:b=w.heap.size
   ·exact .inr (.inl Aa)
   ·rw[show(upd G.O w.heap.size (Tag.ar 0)) b=G.O b from upd_ne _ _ e]at hb⊢
    exact LH
end Go.Proofs.Led
namespace Go.Proofs.Led
open Go Go.Proofs Go.Ab
theorem cN6(L:List Rg)(hL:L.length<=100)(hs:∀l∈L,l.length<=10000):Sp 296 [.sl (L.map rgV)] (.own 97 (L.flatten.map vcV)):=by
 refine zsp Tryz.func296 ?_;have hll:(L.map rgV).length=L.length:=Ae
 have hfl:∀D:List Rg,(∀l∈D,l.length<=10000)->D.flatten.length<=D.length*10000:=by
  intro D
  induction D with
  |nil=>intro _;simp
  |cons d D ih=>
   intro h;have h1:=h d Ae;have h2:=ih (fun l hl=>h l (by simp[hl]))
   simp only[List.flatten_cons,List.length_append,List.length_cons];omega
 repeat' ((conv=>whnf);first|refine zS ?_|fail)
 refine aU (A:=List Rg) (B:=List Rg) (fun D R=>mkSt [(0, .sl (L.map rgV)),(3,I D.flatten.length),(9, .sl (L.map rgV)),(10,I L.length),(11,I D.length)] [] [])
  (fun D R=>L=D++R) (fun D R=>R.length) [] L ?_ rfl (fun D R hp=>?_)
 ·exact zj
 ·have h1:L=D++R:=hp
  have hlen:L.length=D.length+R.length:=AY;have hD:=hfl D (fun l hl=>hs l (by rw[h1];simp[hl]))
  cases R with
  |cons x R=>
   rw[List.length_cons]at hlen;have hx:=hs x AY;have hxm:(x.map vcV).length=x.length:=Ae
   repeat' ((conv=>whnf);first|(exfalso;omega)|refine zS ?_|refine zT ?_ ?_<;>intro _|fail)
   conv=>whnf
   refine⟨(D++[x],R),?_,?_,?_⟩
   ·refine dV ?_ ?_ ?_ ?_
    all_goals repeat' (first|exact trivial|refine And.intro ?_ ?_|with_reducible rfl|exact(fun h=>Ag)|exact Nat.le_refl _|omega|exact rfl)
    ·show(D.flatten.length:Int)+((x.map vcV).length:Nat)=((D++[x]).flatten.length:Nat)
     rw[hxm];simp
    ·show(D.length:Int)+1=(D++[x]).length
     simp
   ·show L=D++[x] ++R
    rw[h1];simp
   ·show R.length< (x::R).length
    simp
  |nil=>
   have e:L=D:=AY;simp at hlen
   repeat' ((conv=>whnf);first|(exfalso;omega)|refine zc (dP8 D.flatten.length Aa) ?_|refine zS ?_|refine zT ?_ ?_<;>intro _|fail)
   clear h1 hp hlen hD
   refine aU (A:=List Rg) (B:=List Rg) (fun D R=>mkSt [(6, .arr 24 D.length),(25, .sl (L.map rgV)),(26,I L.length),(27,I D.length)] [] [(24,⟨D.length, .own,97,D.flatten.map vcV⟩)])
    (fun D R=>L=D++R) (fun D R=>R.length) [] L ?_ rfl (fun D R hp=>?_)
   ·exact zj
   ·have h1:L=D++R:=hp
    have hlen:L.length=D.length+R.length:=AY;have hD:=hfl D (fun l hl=>hs l (by rw[h1];simp[hl]))
    cases R with
    |cons x R=>
     rw[List.length_cons]at hlen;have hx:=hs x AY
     repeat' ((conv=>whnf);first|(exfalso;omega)|refine iH rfl (.inl rfl) rfl (of_decide_eq_true rfl) (fun y hy=>AU) (by show(List.map vcV D.flatten).length+(List.map vcV x).length<=_;rw[List.length_map,List.length_map];omega) ?_|refine zS ?_|refine zT ?_ ?_<;>intro _|fail)
     conv=>whnf
     refine⟨(D++[x],R),?_,?_,?_⟩
     ·refine dV ?_ ?_ ?_ ?_
      all_goals repeat' (first|exact trivial|refine And.intro ?_ ?_|with_reducible rfl|exact(fun h=>Ag)|exact Nat.le_refl _|omega|exact rfl)
      all_goals first
       |(show D.length+1=(D++[x]).length;simp;done)
       |(show List.map vcV D.flatten++List.map vcV x=List.map vcV (D++[x]).flatten;simp;done)
       |(show(D.length:Int)+1=(D++[x]).length;simp;done)
     ·show L=D++[x] ++R
      rw[h1];simp
     ·show R.length< (x::R).length
      simp
    |nil=>
     have e:L=D:=AY;simp at hlen
     repeat' ((conv=>whnf);first|(exfalso;omega)|refine zS ?_|refine zT ?_ ?_<;>intro _|fail)
     conv=>whnf
     refine⟨⟨⟨rfl,rfl,rfl,?_⟩,trivial⟩,rfl,fun _ h=>Ag⟩;show List.map vcV D.flatten=List.map vcV L.flatten;rw[e]
theorem dT1{xs ys:List V}{X Y Z:Rg}(hx:xs=X.map vcV)(hy:ys=Y.map vcV)(hz:Z=X++Y)(h1:X.length<=10000)(h2:Y.length<=10000):Sp 296 [.sl [.sl xs, .sl ys]] (.own 97 (Z.map vcV)):=by
 subst hx hy hz
 have:=cN6 [X,Y] Ae (fun l hl=>by
  rcases List.mem_cons.1 hl with rfl|hl
  ·exact h1
  ·cases List.mem_singleton.1 hl;exact h2)
 rwa [show [X,Y].flatten=X++Y from Ae]at this
theorem bJ7{r:Rg}(h:dM r):gQ r=wL r:=if_pos h
theorem eJ3{r:Rg}(h:¬dM r):gQ r=[] :=if_neg h
theorem aU6(r:Rg)(hl:r.length<=1000000):Sp 246 [rgV r] (.sl ((gQ r).map vcV)):=by
 refine zsp Tryz.func246 ?_;have hll:(r.map vcV).length=r.length:=Ae;by_cases hr:dM r
 ·rw[bJ7 hr]
  have hne:r≠ [] :=fun h=>by have:=hr.1;rw[h]at this;simp at this
  have h40:=hr.2.1;obtain⟨j,hj,_,hj2⟩:=aT6 (k:=0) (eH8 hne);have hi0:bZ1 (wO r) r=j:=by unfold bZ1;rw[hj]
  have hi:=cJ4 r (wO r) hl;rw[hi0]at hi;have hb:wL r=r.drop j++r.take j:=by unfold wL;rw[hj];rfl
  rw[hb]
  have hc:=xX (dT1 (xs:=((r.map vcV).take (((r.map vcV).length:Nat):Int).toNat).drop ((j:Nat):Int).toNat) (ys:=((r.map vcV).take ((j:Nat):Int).toNat).drop (0:Int).toNat) (X:=r.drop j) (Y:=r.take j) (Z:=r.drop j++r.take j)
   (by rw[Int.toNat_natCast,Int.toNat_natCast,List.take_length,List.map_drop]) (by rw[Int.toNat_natCast,List.map_take];rfl) rfl (by rw[List.length_drop];omega) D9)
  repeat' ((conv=>whnf);first|(exfalso;contradiction)|refine zc (lN r hl) ?_|refine zc (cL6 r hl hne) ?_|refine bW8 [] [(20,[88888])] trivial Ac ?_|refine fU ⟨Aa,Aa,Aa, .inr (fun x hx=>by obtain⟨v,_,rfl⟩:=List.mem_map.1 hx;rfl)⟩ ?_|refine zh (hc) [] ?_|refine zS ?_|refine zT ?_ ?_<;>intro _|fail)
  all_goals conv=>whnf
  exact Lj
 ·rw[eJ3 hr]
  repeat' ((conv=>whnf);first|(exfalso;contradiction)|refine zc (lN r hl) ?_|refine zS ?_|refine zT ?_ ?_<;>intro _|fail)
  all_goals conv=>whnf
  exact⟨⟨rfl,trivial⟩,rfl,fun _ h=>Ag⟩
theorem aM5(l:List Vc):∀y∈l.map vcV,y.cells.length=2:=fun y hy=>AU
theorem aY2(r:Rg)(hl:r.length<=1000000):Sp 353 [rgV r] (.sl (r.map vcV)):=by
 refine zsp Tryz.func353 ?_;have hll:(r.map vcV).length=r.length:=Ae
 repeat' ((conv=>whnf);first|(refine bV3.mk rfl (of_decide_eq_true Ac) Ac (.inl rfl) ?_;intro b hb;cases b)|refine iH rfl (.inl rfl) rfl (of_decide_eq_true rfl) (aM5 r) (by show 0+(List.map vcV r).length<=_;omega) ?_|refine zS ?_|fail)
 all_goals conv=>whnf
 ·refine⟨?_,rfl,fun rs h=>V.noConfusion h⟩
  (repeat' (first|exact trivial|refine And.intro ?_ ?_|with_reducible rfl|exact(fun h=>Ag)|exact rfl));done
 ·have e:r=[] :=by
   cases r with
   |nil=>rfl
   |cons x l=>exact absurd (hb Ae) Ah
  subst e;exact Lj
theorem bH7(a b:Rg)(ha:a.length<=1000000)(hb:b.length<=1000000):Sp 244 [rgV a,rgV b] (DB (a=b)):=by
 refine zsp Tryz.func244 ?_
 repeat' ((conv=>whnf);first|refine zc (eA2 a b ha hb) ?_|refine zS ?_|fail)
 all_goals exact zE
def sV(lo hi:Vc):Sh:=open Classical in if hi.1<=lo.1\/hi.2<=lo.2\/¬within lo 2000\/¬within hi 2000 then sh0 else⟨[lo,(hi.1,lo.2),hi,(lo.1,hi.2)],[]⟩
theorem eS0{lo hi:Vc}(h:hi.1<=lo.1\/hi.2<=lo.2\/¬within lo 2000\/¬within hi 2000):sV lo hi=sh0:=if_pos h
theorem eR9{lo hi:Vc}(h:¬(hi.1<=lo.1\/hi.2<=lo.2\/¬within lo 2000\/¬within hi 2000)):sV lo hi=⟨[lo,(hi.1,lo.2),hi,(lo.1,hi.2)],[]⟩:=if_neg h
theorem cX1(lo hi:Vc):Sp 310 [vcV lo,vcV hi] (shV (sV lo hi)):=by
 refine zsp Tryz.func310 ?_;have h1:=eS0 (lo:=lo) (hi:=hi);have h2:=eR9 (lo:=lo) (hi:=hi)
 generalize sV lo hi=A at*
 repeat' ((conv=>whnf);first|refine zc (kC lo 2000) ?_|refine zc (kC hi 2000) ?_|refine zS ?_|refine zT ?_ ?_<;>intro _|fail)
 all_goals conv=>whnf
 all_goals first
  |(rw[h1 (by first|exact .inl ‹_› |exact .inr (.inl ‹_›)|exact .inr (.inr (.inl ‹_›))|exact .inr (.inr (.inr ‹_›)))];refine⟨?_,rfl,fun rs h=>V.noConfusion h⟩;(repeat' (first|exact trivial|refine And.intro ?_ ?_|with_reducible rfl|exact(fun h=>Ag)|exact rfl));done)
  |(rw[h2 (by rintro(q|q|q|q)<;>first|omega|contradiction)];refine⟨?_,rfl,fun rs h=>V.noConfusion h⟩;(repeat' (first|exact trivial|refine And.intro ?_ ?_|with_reducible rfl|exact(fun h=>Ag)|exact rfl));done)
theorem eG2{l:List Rg}{z:Int}{k:Nat}{K:V->Prop}(hz:z=(k:Int))(h:k<l.length)(hk:K (rgV (l.getD k []))):idx (l.map rgV) z.toNat K:=by
 subst hz;refine gK (l:=l) (j:=k) (x:=l.getD k []) ?_ Aa hk;exact Ns
theorem eJ5{l:List Rg}{k:Nat}(h:k<l.length):l.take (k+1)=l.take k++[l.getD k []] :=by
 rw[List.take_add_one,List.getD_eq_getElem?_getD,List.getElem?_eq_getElem h];rfl
theorem getD_mem{l:List Rg}{k:Nat}(h:k<l.length):l.getD k []∈l:=by
 rw[List.getD_eq_getElem?_getD,List.getElem?_eq_getElem h];exact List.getElem_mem h
theorem dW1(a b:List Rg)(ha:a.length<=1000000)(hb:b.length<=1000000)(ha2:∀r∈a,r.length<=1000000)(hb2:∀r∈b,r.length<=1000000):Sp 245 [.sl (a.map rgV), .sl (b.map rgV), .fn 244 []] (DB (a=b)):=by
 refine zsp Tryz.func245 ?_;have hla:(a.map rgV).length=a.length:=Ae;have hlb:(b.map rgV).length=b.length:=Ae
 repeat' ((conv=>whnf);first|refine zS ?_|refine ze (fun heq=>?_) (fun heq=>?_))
 all_goals conv=>whnf
 all_goals first
  |(refine aA (aC ?_);intro h;subst h;omega)
  |skip
 have hab:a.length=b.length:=Aa;refine lD (A:=Nat) (fun k=>mkSt [(0, .sl (a.map rgV)),(1, .sl (b.map rgV)),(2, .fn 244 []),(15, .sl (a.map rgV)),(16,I a.length),(17,I k)] [] []) (fun k=>k<=a.length/\a.take k=b.take k) (fun k=>a.length-k) 0 ?_ ⟨Aa,rfl⟩ (fun k hk=>?_)
 ·exact zj
 obtain⟨hk,ht⟩:=hk;by_cases hkr:k<a.length
 ·have hs:=bH7 (a.getD k []) (b.getD k []) (ha2 _ (getD_mem hkr)) (hb2 _ (getD_mem Aa))
  repeat' ((conv=>whnf);first|(exfalso;omega)|refine eG2 (l:=a) (k:=k) Aa Aa ?_|refine eG2 (l:=b) (k:=k) Aa Aa ?_|refine zS ?_|refine zd (fun hd=>?_) (fun hd=>?_)|refine zl (fun hlt=>?_) (fun hlt=>?_))
  all_goals conv=>whnf
  ·refine⟨k+1,?_,⟨Aa,?_⟩,Aa⟩
   ·exact zj
   ·rw[eJ5 Aa,eJ5 Aa,ht,hd]
  ·refine aA (aC ?_)
   intro h;subst h;exact hd rfl
 ·have ek:k=a.length:=by omega
  repeat' ((conv=>whnf);first|(exfalso;omega)|refine zS ?_|refine zl (fun hlt=>?_) (fun hlt=>?_))
  all_goals conv=>whnf
  exact NT
theorem cQ8(a b:Sh)(ha:gV a)(hb:gV b):Sp 203 [shV a,shV b] (DB (a=b)):=by
 refine zsp Tryz.func203 ?_
 have e:a=b↔a.outer=b.outer/\a.holes=b.holes:=by
  obtain⟨a1,a2⟩:=a;obtain⟨b1,b2⟩:=b;simp
 repeat' ((conv=>whnf);first|refine zc (bH7 a.outer b.outer ha.1 hb.1) ?_|refine zc (dW1 a.holes b.holes ha.2.1 hb.2.1 ha.2.2 hb.2.2) ?_|refine zS ?_|refine zT ?_ ?_<;>intro _|fail)
 all_goals conv=>whnf
 all_goals first
  |(refine aA (fQ ?_);rw[e];exact⟨fun q=>⟨Ad,q⟩,fun q=>q.2⟩)
  |(refine aA (aC ?_);rw[e];intro q;exact absurd q.1 Ad)
end Go.Proofs.Led
