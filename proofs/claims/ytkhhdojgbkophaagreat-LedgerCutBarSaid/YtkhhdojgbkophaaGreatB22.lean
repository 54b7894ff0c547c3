/-
  Shapes: which are valid, walked.
-/
import Derived.Test.YtkhhdojgbkophaaGreatB21
set_option linter.unusedVariables false
set_option linter.unusedSimpArgs false
namespace Go.Proofs.Led
open Go Go.Proofs Go.Ab
set_option maxRecDepth 100000
set_option maxHeartbeats 4000000
theorem aM3{T:Tab}{P:Program}{σ:St}{f:Operand}{g:FuncId}{caps:List V}{ps wr:List Nat}{x y:aA2}{Q:Exit->St->Prop}(items:List (List V))(hs:aB0 T P g caps items)(hl:∀it∈items,it.length=ps.length){A B:Type}(st:A->B->St)(inv:Nat->A->B->Prop)(a0:A)(b0:B)
 (h0:Le T σ (st a0 b0))(h1:inv 0 a0 b0)(hf:(st a0 b0).ev f= .fn g caps)(h:∀k a b it,inv k a b->items[k]? =some it->x ⟨cM2 ps it (st a b).env,(st a b).bx,(st a b).ar⟩ fun e σ1=>match e with
  | .normal=>y σ1 fun e σ2=>match e with
   | .normal=>∃p':A×B,Le T (sJ wr σ2) (st p'.1 p'.2)/\inv (k+1) p'.1 p'.2
   | .ret=>Q .ret (sJ wr σ2)
   | .exit i=>Q (.exit i) (sJ wr σ2)
   |_=>False
  |_=>False)(he:∀a b,inv items.length a b->Q .normal (st a b)):aO0 T P f g caps ps wr x y σ Q:=
 eS1 items hs hl (A:=A×B) (fun p=>st p.1 p.2) (fun k p=>inv k p.1 p.2) (a0,b0) h0 h1 hf (fun k p it=>h k p.1 p.2 it) (fun p=>he p.1 p.2)
theorem idx_eq{α:Type}{f:α->V}{xs:List V}{l A B:List α}{x:α}{i:Nat}{K:V->Prop}(hx:xs=l.map f)(h:l=A++x::B)(hi:i=A.length)(hk:K (f x)):idx xs i K:=by
 subst hx
 exact aF h hi hk
def gV(s:Sh):Prop:=s.outer.length<=1000000/\s.holes.length<=1000000/\∀h∈s.holes,h.length<=1000000
theorem gV.mem{s:Sh}(h:gV s){r:Rg}(hr:r∈rings s):r.length<=1000000:=by
 rcases List.mem_cons.1 hr with rfl|hr
 ·exact h.1
 ·exact h.2.2 r hr
theorem vC(s:Sh):∀it∈iI s,it.length=1:=fun it h=>by
 obtain⟨r,_,rfl⟩:=List.mem_map.1 h;rfl
theorem aE4{s:Sh}{D R:List Rg}{it:List V}(hp:rings s=D++R)(h:(iI s)[D.length]? =some it):∃r R',R=r::R'/\it=[rgV r] :=by
 unfold iI at h
 rw[hp,List.getElem?_map]at h
 cases R with
 |nil=>simp at h
 |cons r R'=>
  refine⟨r,R',rfl,?_⟩
  simp at h
  exact h.symm
theorem aN4(D:List Rg)(r:Rg):corners (D++[r])=corners D+r.length:=by unfold corners;simp
theorem zF{D:List Rg}(h:∀r∈D,dM r):corners D<=40*D.length:=by
 induction D with
 |nil=>simp[corners]
 |cons d D ih=>
  have h1:=(h d (by simp)).2.1
  have h2:=ih (fun r hr=>h r (by simp[hr]))
  have e:corners (d::D)=d.length+corners D:=by unfold corners;simp
  rw[e,List.length_cons];omega
theorem kK(s:Sh)(hs:gV s):Sp 158 [shV s] (DB (bG s)):=by
 refine zsp Tryz.func158 ?_
 have hmm:(s.holes.map rgV).length=s.holes.length:=by simp
 generalize hP:bG s=P
 have hr:P↔bG s:=by rw[hP]
 unfold bG at hr
 repeat' ((conv=>whnf);first|refine zc (rQ s) ?_|refine zg ?_|refine zz (fun _=>?_) fun _=>?_|refine zr ?_)
 all_goals conv=>whnf
 all_goals first
  |(refine aA (aC ?_);rw[hr];intro h;obtain⟨h1,h2,h3,h4⟩:=h;first|omega|contradiction)
  |skip
 have h6:s.holes.length<=6:=by omega
 refine aM3 (iI s) (vJ s (by omega)) (vC s) (A:=List Rg) (B:=List Rg) (fun D R=>mkSt [(1, .box 1 0),(2, .box 2 0),(3, .box 3 0),(14, .fn 230 [.fp (shV s).cells])] [(1,(shV s).cells),(2,[.lit (.bool false)]),(3,[I (corners D)])] [])
  (fun k D R=>rings s=D++R/\D.length=k/\∀r∈D,dM r) [] (rings s) ?_ ⟨rfl,rfl,by simp⟩ rfl ?_ ?_
 ·exact zj
 ·rintro k D R it ⟨hp,hk,hD⟩ hit
  subst hk
  obtain⟨r,R',rfl,rfl⟩:=aE4 hp hit
  have hlen:=aO hp
  have hlr:(rings s).length=s.holes.length+1:=by unfold rings;simp
  have hrl:r.length<=1000000:=hs.mem (by rw[hp];simp)
  have hc:=zF hD
  have hll:(r.map vcV).length=r.length:=by simp
  have ec:((corners (D++[r]):Nat):Int)=(corners D:Int)+((r.map vcV).length:Nat):=by rw[aN4,hll];simp
  repeat' ((conv=>whnf);first|refine zc (lN r hrl) ?_|refine zg ?_|refine za ?_|refine zn ?_|refine zz (fun _=>?_) fun _=>?_|refine zr ?_)
  all_goals conv=>whnf
  ·refine⟨(D++[r],R'),?_,by rw[hp];simp,by simp,fun q hq=>?_⟩
   ·simp only[ec]
    exact zj
   ·rcases List.mem_append.1 hq with hq|hq
    ·exact hD q hq
    ·rw[List.mem_singleton.1 hq];assumption
  ·refine aA (aC ?_)
   rw[hr]
   intro h
   exact absurd (h.2.1 r (by rw[hp];simp)) (by assumption)
 ·rintro D R ⟨hp,hk,hD⟩
  have hRn:R=[] :=by
   have h1:(iI s).length=(rings s).length:=by unfold iI;simp
   have h2:(rings s).length=D.length+R.length:=by rw[hp];simp
   exact List.length_eq_zero_iff.1 (by omega)
  subst hRn
  rw[List.append_nil]at hp
  subst hp
  clear hk
  have hlr:(rings s).length=s.holes.length+1:=by unfold rings;simp
  have hc:=zF hD
  repeat' ((conv=>whnf);first|refine zg ?_|refine zz (fun _=>?_) fun _=>?_|refine zr ?_)
  all_goals conv=>whnf
  all_goals first
   |(refine aA (aC ?_);rw[hr];intro h;obtain⟨h1,h2,h3,h4⟩:=h;first|omega|contradiction)
   |skip
  have h80:corners (rings s)<=80:=by omega
  have hr2:P↔qR s.outer [] s.holes:=hr.trans ⟨fun h=>h.2.2.2,fun h=>⟨h6,hD,h80,h⟩⟩
  refine aU (A:=List Rg) (B:=List Rg) (fun D R=>mkSt [(1, .box 1 0),(2, .box 2 0),(26, .sl (s.holes.map rgV)),(27,I s.holes.length),(28,I D.length)] [(1,(shV s).cells),(2,[.lit (.bool false)])] []) (fun D R=>s.holes=D++R/\(P↔qR s.outer D R)) (fun D R=>R.length) [] s.holes ?_ ⟨rfl,hr2⟩ (fun D R hp=>?_)
  ·refine dV ?_ ?_ ?_ ?_
   all_goals repeat' (first|exact trivial|refine And.intro ?_ ?_|with_reducible rfl|exact(fun h=>by cases h)|exact Nat.le_refl _|omega|exact rfl)
   all_goals (try rw[List.length_map])
  obtain⟨hp,hP2⟩:=hp
  cases R with
  |nil=>
   have hlen:s.holes.length=D.length:=by rw[hp];simp
   repeat' ((conv=>whnf);first|(exfalso;omega)|refine zg ?_|refine zz (fun _=>?_) fun _=>?_|refine zr ?_)
   all_goals conv=>whnf
   exact aA (fE (hP2.2 trivial))
  |cons h R=>
   have hlen:=aO hp
   have hhl:h.length<=1000000:=hs.2.2 h (by rw[hp];simp)
   rw[qR]at hP2
   unfold cU0 at hP2
   have htk:((s.holes.map rgV).take ((D.length:Nat):Int).toNat)=D.map rgV:=by rw[Int.toNat_natCast,hp];simp
   repeat' ((conv=>whnf);first|(exfalso;omega)|refine aF (l:=s.holes) (A:=D) (x:=h) (B:=R) hp (by omega) ?_|refine zc (tX h s.outer 2 hhl hs.1) ?_|refine zc (vS h s.outer hhl hs.1) ?_|refine fU ⟨by omega,by omega,by omega, .inl rfl⟩ ?_|refine zg ?_|refine zo ?_|refine zn ?_|refine zz (fun _=>?_) fun _=>?_|refine zr ?_)
   all_goals conv=>whnf
   all_goals first
    |(refine aA (aC ?_);rw[hP2];intro h;obtain⟨⟨h1,h2,h3⟩,h4⟩:=h;contradiction)
    |skip
   refine aU (A:=List Rg) (B:=List Rg) (fun E S=>mkSt [(1, .box 1 0),(2, .box 2 0),(6,rgV h),(26, .sl (s.holes.map rgV)),(27,I s.holes.length),(28,I D.length),(48, .sl (List.drop (Int.toNat 0) (List.take ((D.length:Nat):Int).toNat (List.map rgV s.holes)))),(49,I (List.drop (Int.toNat 0) (List.take ((D.length:Nat):Int).toNat (List.map rgV s.holes))).length),(50,I E.length)] [(1,(shV s).cells),(2,[.lit (.bool false)])] []) (fun E S=>D=E++S/\∀k∈E,uV h k/\pR h k 0/\pR k h 0) (fun E S=>S.length) [] D ?_ ⟨rfl,by simp⟩ (fun E S hq=>?_)
   ·exact zj
   obtain⟨hq,hE⟩:=hq
   have hX:(List.drop (Int.toNat 0) (List.take ((D.length:Nat):Int).toNat (List.map rgV s.holes)))=D.map rgV:=htk
   have hXl:(List.drop (Int.toNat 0) (List.take ((D.length:Nat):Int).toNat (List.map rgV s.holes))).length=D.length:=by rw[hX,List.length_map]
   cases S with
   |nil=>
    have hlen2:D.length=E.length:=by rw[hq];simp
    have hDE:D=E:=by rw[hq];simp
    repeat' ((conv=>whnf);first|(exfalso;omega)|refine zg ?_|refine za ?_|refine zz (fun _=>?_) fun _=>?_)
    all_goals conv=>whnf
    refine⟨(D++[h],R),?_,⟨by rw[hp];simp,?_⟩,by simp⟩
    ·simp only[List.length_append,List.length_singleton]
     exact zj
    ·rw[hP2]
     exact⟨fun q=>q.2,fun q=>⟨⟨by assumption,by assumption,by rw[hDE];exact hE⟩,q⟩⟩
   |cons k S=>
    have hlen2:=aO hq
    have hkl:k.length<=1000000:=hs.2.2 k (by rw[hp,hq];simp)
    repeat' ((conv=>whnf);first|(exfalso;omega)|refine idx_eq (l:=D) (A:=E) (x:=k) (B:=S) hX hq (by omega) ?_|refine zc (vS h k hhl hkl) ?_|refine zc (tX h k 0 hhl hkl) ?_|refine zc (tX k h 0 hkl hhl) ?_|refine zg ?_|refine za ?_|refine zo ?_|refine zn ?_|refine zz (fun _=>?_) fun _=>?_|refine zr ?_)
    all_goals conv=>whnf
    all_goals first
     |(refine aA (aC ?_);rw[hP2];intro q;have q1:=q.1.2.2 k (by rw[hq];simp);obtain⟨q2,q3,q4⟩:=q1;contradiction)
     |skip
    refine⟨(E++[k],S),?_,⟨by rw[hq];simp,fun z hz=>?_⟩,by simp⟩
    ·simp only[List.length_append,List.length_singleton]
     exact zj
    ·rcases List.mem_append.1 hz with hz|hz
     ·exact hE z hz
     ·rw[List.mem_singleton.1 hz]
      exact⟨by assumption,by assumption,by assumption⟩
theorem eI3{s:Sh}(h:bG s):uK s=qH (W (2*nG s.outer)) (rings s):=if_pos h
theorem eC2{s:Sh}(h:¬bG s):uK s=0:=if_neg h
theorem dS3(n:Int)(D:List Rg)(r:Rg):qH n (D++[r])=W (qH n D-nG r):=by unfold qH;rw[List.foldl_append];rfl
theorem cG8(s:Sh)(hs:gV s):Sp 99 [shV s] (I (uK s)):=by
 refine zsp Tryz.func99 ?_
 have h1:=eI3 (s:=s)
 have h2:=eC2 (s:=s)
 generalize uK s=A at*
 have ho:s.outer.length<=1000000:=hs.1
 repeat' ((conv=>whnf);first|refine zc (kK s hs) ?_|refine zc (aX1 s.outer hs.1) ?_|refine zc (rQ s) ?_|refine zg ?_|refine zw ?_|refine zn ?_|refine zz (fun _=>?_) fun _=>?_|refine zr ?_)
 all_goals conv=>whnf
 all_goals first
  |exact aG (h2 (by assumption)).symm
  |skip
 have hA:=h1 (by assumption)
 refine aM3 (iI s) (vJ s hs.2.1) (vC s) (A:=List Rg) (B:=List Rg) (fun D R=>mkSt [(1, .box 1 0),(3, .box 3 0),(13, .fn 230 [.fp (shV s).cells])] [(1,(shV s).cells),(3,[I (qH (W (2*nG s.outer)) D)])] [])
  (fun k D R=>rings s=D++R/\D.length=k) [] (rings s) ?_ ⟨rfl,rfl⟩ rfl ?_ ?_
 ·exact zj
 ·rintro k D R it ⟨hp,hk⟩ hit
  subst hk
  obtain⟨r,R',rfl,rfl⟩:=aE4 hp hit
  have hrl:r.length<=1000000:=hs.mem (by rw[hp];simp)
  have es:=dS3 (W (2*nG s.outer)) D r
  generalize W (2*nG s.outer)=a0 at*
  repeat' ((conv=>whnf);first|refine zc (aX1 r hrl) ?_|refine zi ?_|refine zw ?_)
  all_goals conv=>whnf
  refine⟨(D++[r],R'),?_,by rw[hp];simp,by simp⟩
  simp only[es]
  exact zj
 ·rintro D R ⟨hp,hk⟩
  have hRn:R=[] :=by
   have h1:(iI s).length=(rings s).length:=by unfold iI;simp
   have h2:(rings s).length=D.length+R.length:=by rw[hp];simp
   exact List.length_eq_zero_iff.1 (by omega)
  subst hRn
  rw[List.append_nil]at hp
  subst hp
  generalize W (2*nG s.outer)=a0 at*
  repeat' ((conv=>whnf);first|refine zg ?_|refine zr ?_)
  all_goals conv=>whnf
  exact aG hA.symm
theorem dP7{s:Sh}{p:Pt}(h:¬bG s):qW s p=0:=if_neg h
theorem bQ2{s:Sh}{p:Pt}(h:bG s)(h2:¬iF s.outer p=2):qW s p=iF s.outer p:=by unfold qW;rw[if_pos h,if_neg h2]
theorem bP9{s:Sh}{p:Pt}(h:bG s)(h2:iF s.outer p=2):qW s p=qG 2 p s.holes:=by unfold qW;rw[if_pos h,if_pos h2]
theorem dX1{o:Int}{p:Pt}{h:Rg}{l:List Rg}(q:iF h p=2):qG o p (h::l)=0:=by rw[qG,if_pos q]
theorem eB4{o:Int}{p:Pt}{h:Rg}{l:List Rg}(q:iF h p=1):qG o p (h::l)=1:=by rw[qG,if_neg (by omega),if_pos q]
theorem dW5{o:Int}{p:Pt}{h:Rg}{l:List Rg}(q:¬iF h p=2)(q2:¬iF h p=1):qG o p (h::l)=qG o p l:=by rw[qG,if_neg q,if_neg q2]
theorem cA8(s:Sh)(p:Pt)(hs:gV s):Sp 339 [shV s,ptV p] (I (qW s p)):=by
 refine zsp Tryz.func339 ?_
 have h1:=dP7 (s:=s) (p:=p)
 have h2:=bQ2 (s:=s) (p:=p)
 have h3:=bP9 (s:=s) (p:=p)
 have hw:=aB7 s.outer p hs.1
 have hmm:(s.holes.map rgV).length=s.holes.length:=by simp
 have hhl:=hs.2.1
 generalize qW s p=A at*
 generalize iF s.outer p=wo at*
 repeat' ((conv=>whnf);first|refine zc (kK s hs) ?_|refine zc hw ?_|refine zg ?_|refine zn ?_|refine zz (fun _=>?_) fun _=>?_|refine zr ?_)
 all_goals conv=>whnf
 all_goals first
  |exact aG (h1 (by assumption)).symm
  |exact aG (h2 (by assumption) (by assumption)).symm
  |skip
 have hA:=h3 (by assumption) (by assumption)
 refine aU (A:=List Rg) (B:=List Rg) (fun D R=>mkSt [(3, .box 3 0),(5,I wo),(19, .sl (s.holes.map rgV)),(20,I s.holes.length),(21,I D.length)] [(3,(ptV p).cells)] []) (fun D R=>s.holes=D++R/\A=qG 2 p R) (fun D R=>R.length) [] s.holes ?_ ⟨rfl,hA⟩ (fun D R hp=>?_)
 ·refine dV ?_ ?_ ?_ ?_
  all_goals repeat' (first|exact trivial|refine And.intro ?_ ?_|with_reducible rfl|exact(fun h=>by cases h)|exact Nat.le_refl _|omega|exact rfl)
  all_goals (try rw[List.length_map])
 obtain⟨hp,hA⟩:=hp
 cases R with
 |nil=>
  have hlen:s.holes.length=D.length:=by rw[hp];simp
  repeat' ((conv=>whnf);first|(exfalso;omega)|refine zg ?_|refine zz (fun _=>?_) fun _=>?_|refine zr ?_)
  all_goals conv=>whnf
  exact aG (by rw[hA];show _=(2:Int);omega)
 |cons h R=>
  have hlen:=aO hp
  have hl:h.length<=1000000:=hs.2.2 h (by rw[hp];simp)
  have g2:=dX1 (o:=2) (p:=p) (h:=h) (l:=R)
  have g1:=eB4 (o:=2) (p:=p) (h:=h) (l:=R)
  have g0:=dW5 (o:=2) (p:=p) (h:=h) (l:=R)
  have hwh:=aB7 h p hl
  rw[<-hA]at g0 g1 g2
  generalize iF h p=wh at*
  repeat' ((conv=>whnf);first|(exfalso;omega)|refine aF (l:=s.holes) (A:=D) (x:=h) (B:=R) hp (by omega) ?_|refine zc hwh ?_|refine zg ?_|refine za ?_|refine zo ?_|refine zz (fun _=>?_) fun _=>?_|refine zr ?_)
  all_goals conv=>whnf
  all_goals first
   |exact aG (g2 (by assumption)).symm
   |exact aG (g1 (by assumption)).symm
   |skip
  refine⟨(D++[h],R),?_,⟨by rw[hp];simp,g0 (by assumption) (by assumption)⟩,by simp⟩
  simp only[List.length_append,List.length_singleton]
  exact zj
theorem cO2{s:Sh}{v:Vc}(h:within v 4000):lJ s v=qW s (v.1,v.2,1):=if_pos h
theorem eC0{s:Sh}{v:Vc}(h:¬within v 4000):lJ s v=0:=if_neg h
theorem aD4(s:Sh)(v:Vc)(hs:gV s):Sp 287 [shV s,vcV v] (I (lJ s v)):=by
 refine zsp Tryz.func287 ?_
 have h1:=cO2 (s:=s) (v:=v)
 have h2:=eC0 (s:=s) (v:=v)
 generalize lJ s v=A at*
 repeat' ((conv=>whnf);first|refine zc (kC v 4000) ?_|refine zc (zN v) ?_|refine zc (cA8 s (v.1,v.2,1) hs) ?_|refine zg ?_|refine zi ?_|refine zn ?_|refine zz (fun _=>?_) fun _=>?_|refine zr ?_)
 all_goals conv=>whnf
 all_goals first
  |exact aG (h2 (by assumption)).symm
  |exact aG (h1 (by assumption)).symm
open Classical in
noncomputable def boxS(s:Sh):Bx×Bool:=if bG s then boxR s.outer else(((0,0),(0,0)),false)
theorem eG7{s:Sh}(h:bG s):boxS s=boxR s.outer:=if_pos h
theorem eW5{s:Sh}(h:¬bG s):boxS s=(((0,0),(0,0)),false):=if_neg h
theorem aS0(s:Sh)(hs:gV s):Sp 94 [shV s] (.tup [bxV (boxS s).1, .lit (.bool (boxS s).2)]):=by
 refine zsp Tryz.func94 ?_
 have h1:=eG7 (s:=s)
 have h2:=eW5 (s:=s)
 have hb:=dL2 s.outer hs.1
 generalize boxS s=A at*
 generalize boxR s.outer=B at*
 repeat' ((conv=>whnf);first|refine zc (kK s hs) ?_|refine zc hb ?_|refine zg ?_|refine zn ?_|refine zd (fun hd=>?_) (fun hd=>?_)|refine zr ?_)
 ·rw[h1 hd]
  all_goals conv=>whnf
  all_goals first|exact aG rfl|exact aK rfl|exact aP rfl|exact zt|exact zu
 ·rw[h2 hd]
  all_goals conv=>whnf
  all_goals first|exact aG rfl|exact aK rfl|exact aP rfl|exact zt|exact zu
theorem gX{xs:List V}{bytes size:Nat}{K:Prop}(hb:bytes<=10000)(h5:∀x∈xs,x.cells.length=size)(h4:xs.length<=1000000000)(hk:K):need (xs.length*bytes<=140737488355328/\xs.length<=140737488355328/\∀x∈xs,x.cells.length=size) K:=by
 have:=Nat.mul_le_mul h4 hb
 exact fU ⟨by omega,by omega,h5⟩ hk
def d0(D:List Rg)(r:Rg):List Rg:=D++[r]
noncomputable def edgSt(s:Sh)(D:List Rg):St:=match D with
 | [] =>mkSt [(1, .box 1 0),(3, .box 3 0),(6, .fn 230 [.fp (shV s).cells])] [(1,(shV s).cells),(3,[nilV])] []
 |d::D=>mkSt [(1, .box 1 0),(3, .box 3 0),(6, .fn 230 [.fp (shV s).cells])] [(1,(shV s).cells),(3,[.arr 11 D.length])] [(11,⟨D.length, .own,298,((d::D).flatMap bF).map sgV⟩)]
theorem aX0(l:List Sg):∀y∈l.map sgV,y.cells.length=4:=fun y hy=>by obtain⟨m,_,rfl⟩:=List.mem_map.1 hy;rfl
theorem cM5{r:Rg}(h:r.length<=1000000):((bF r).map sgV).length<=1000000:=by rw[List.length_map];exact aK9 h
theorem bC1{s:Sh}(hs:gV s)(h7:s.holes.length<=6){D R:List Rg}(hp:rings s=D++R):(D.flatMap bF).length<=7000000:=by
 have h1:∀(E:List Rg),(∀r∈E,(bF r).length<=1000000)->(E.flatMap bF).length<=1000000*E.length:=by
  intro E
  induction E with
  |nil=>intro _;simp
  |cons e E ih=>
   intro h
   have a:=h e (by simp)
   have b:=ih (fun r hr=>h r (by simp[hr]))
   rw[List.flatMap_cons,List.length_append,List.length_cons]
   omega
 have h2:=h1 D (fun r hr=>aK9 (hs.mem (by rw[hp];simp[hr])))
 have h3:(rings s).length=D.length+R.length:=by rw[hp];simp
 have h4:(rings s).length=s.holes.length+1:=by unfold rings;simp
 omega
theorem aV8(s:Sh)(hs:gV s)(h7:s.holes.length<=6):Sp 282 [shV s] (.own 298 ((aC0 s).map sgV)):=by
 refine zsp Tryz.func282 ?_
 repeat' ((conv=>whnf);first|refine zc (rQ s) ?_|refine zg ?_)
 all_goals conv=>whnf
 refine aM3 (iI s) (vJ s hs.2.1) (vC s) (A:=List Rg) (B:=List Rg) (fun D R=>edgSt s D)
  (fun k D R=>rings s=D++R/\D.length=k) [] (rings s) ?_ ⟨rfl,rfl⟩ rfl ?_ ?_
 ·exact zj
 ·rintro k D R it ⟨hp,hk⟩ hit
  subst hk
  obtain⟨r,R',rfl,rfl⟩:=aE4 hp hit
  have hrl:r.length<=1000000:=hs.mem (by rw[hp];simp)
  have hfb:=bC1 hs h7 hp
  have heb:=cM5 hrl
  have hff:(((d0 D r:List Rg).flatMap bF).map sgV)=(D.flatMap bF).map sgV++(bF r).map sgV:=by unfold d0;simp
  cases D with
  |nil=>
   repeat' ((conv=>whnf);first|refine zc (qE r hrl) ?_|refine gX (of_decide_eq_true rfl) (aX0 _) (show((bF r).map sgV).length<=1000000000 by omega) ?_|refine zi ?_|refine zv ?_)
   all_goals conv=>whnf
   refine⟨([r],R'),?_,by rw[hp];rfl,rfl⟩
   show Le T _ (mkSt [(1, .box 1 0),(3, .box 3 0),(6, .fn 230 [.fp (shV s).cells])] [(1,(shV s).cells),(3,[.arr 11 0])] [(11,⟨0, .own,298,(([r] :List Rg).flatMap bF).map sgV⟩)])
   rw[show([r] :List Rg).flatMap bF=bF r by simp]
   exact zj
  |cons d D=>
   have hfl:(((d::D).flatMap bF).map sgV).length=((d::D).flatMap bF).length:=List.length_map ..
   repeat' ((conv=>whnf);first|refine zc (qE r hrl) ?_|refine iH rfl (.inl rfl) rfl (of_decide_eq_true rfl) (aX0 _) (show(((d::D).flatMap bF).map sgV).length+((bF r).map sgV).length<=1000000000 by omega) ?_|refine zi ?_|refine zv ?_)
   all_goals conv=>whnf
   refine⟨(d::D++[r],R'),?_,by rw[hp];simp,by simp⟩
   show Le T _ (mkSt [(1, .box 1 0),(3, .box 3 0),(6, .fn 230 [.fp (shV s).cells])] [(1,(shV s).cells),(3,[.arr 11 (D++[r]).length])] [(11,⟨(D++[r]).length, .own,298,(((d::D)++[r]).flatMap bF).map sgV⟩)])
   rw[show((d::D)++[r])=d0 (d::D) r from rfl,hff,List.length_append,List.length_singleton]
   exact zj
 ·rintro D R ⟨hp,hk⟩
  have hRn:R=[] :=by
   have h1:(iI s).length=(rings s).length:=by unfold iI;simp
   have h2:(rings s).length=D.length+R.length:=by rw[hp];simp
   exact List.length_eq_zero_iff.1 (by omega)
  subst hRn
  rw[List.append_nil]at hp
  unfold aC0
  cases D with
  |nil=>exact absurd hp (by unfold rings;simp)
  |cons d D=>
   rw[hp]
   repeat' ((conv=>whnf);first|refine zg ?_|refine zr ?_)
   all_goals conv=>whnf
   exact⟨⟨⟨rfl,rfl,rfl,rfl⟩,trivial⟩,rfl,fun _ h=>by cases h⟩
end Go.Proofs.Led
