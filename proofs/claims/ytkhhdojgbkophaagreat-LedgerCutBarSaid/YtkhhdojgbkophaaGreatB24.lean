/-
  Rings: their canonical form, walked.
-/
import Derived.Test.YtkhhdojgbkophaaGreatB21
import Derived.Test.YtkhhdojgbkophaaGreatSG1
import Derived.Test.YtkhhdojgbkophaaGreatB22
import Derived.Test.YtkhhdojgbkophaaGreatSV3
import Derived.Test.YtkhhdojgbkophaaGreatB18
set_option linter.unusedVariables false
set_option linter.unusedSimpArgs false
namespace Go.Proofs.Led
open Go Go.Proofs Go.Ab
set_option maxRecDepth 100000
set_option maxHeartbeats 4000000
theorem cN6(L:List Rg)(hL:L.length<=100)(hs:∀l∈L,l.length<=10000):Sp 278 [.sl (L.map rgV)] (.own 76 (L.flatten.map vcV)):=by
 refine zsp Tryz.func278 ?_
 have hll:(L.map rgV).length=L.length:=by simp
 have hfl:∀D:List Rg,(∀l∈D,l.length<=10000)->D.flatten.length<=D.length*10000:=by
  intro D
  induction D with
  |nil=>intro _;simp
  |cons d D ih=>
   intro h
   have h1:=h d (by simp)
   have h2:=ih (fun l hl=>h l (by simp[hl]))
   simp only[List.flatten_cons,List.length_append,List.length_cons];omega
 repeat' ((conv=>whnf);first|refine zg ?_)
 refine aU (A:=List Rg) (B:=List Rg) (fun D R=>mkSt [(0, .sl (L.map rgV)),(3,I D.flatten.length),(9, .sl (L.map rgV)),(10,I L.length),(11,I D.length)] [] [])
  (fun D R=>L=D++R) (fun D R=>R.length) [] L ?_ rfl (fun D R hp=>?_)
 ·exact zj
 ·have h1:L=D++R:=hp
  have hlen:L.length=D.length+R.length:=by rw[h1];simp
  have hD:=hfl D (fun l hl=>hs l (by rw[h1];simp[hl]))
  cases R with
  |cons x R=>
   rw[List.length_cons]at hlen
   have hx:=hs x (by rw[h1];simp)
   have hxm:(x.map vcV).length=x.length:=by simp
   repeat' ((conv=>whnf);first|(exfalso;omega)|refine aF (l:=L) (A:=D) (x:=x) (B:=R) h1 (by omega) ?_|refine zg ?_|refine za ?_|refine zo ?_|refine zz (fun _=>?_) fun _=>?_)
   conv=>whnf
   refine⟨(D++[x],R),?_,?_,?_⟩
   ·refine dV ?_ ?_ ?_ ?_
    all_goals repeat' (first|exact trivial|refine And.intro ?_ ?_|with_reducible rfl|exact(fun h=>by cases h)|exact Nat.le_refl _|omega|exact rfl)
    ·show(D.flatten.length:Int)+((x.map vcV).length:Nat)=((D++[x]).flatten.length:Nat)
     rw[hxm];simp
    ·show(D.length:Int)+1=(D++[x]).length
     simp
   ·show L=D++[x] ++R
    rw[h1];simp
   ·show R.length< (x::R).length
    simp
  |nil=>
   have e:L=D:=by rw[h1];simp
   simp at hlen
   repeat' ((conv=>whnf);first|(exfalso;omega)|refine zc (dP8 D.flatten.length (by omega)) ?_|refine zg ?_|refine zz (fun _=>?_) fun _=>?_)
   clear h1 hp hlen hD
   refine aU (A:=List Rg) (B:=List Rg) (fun D R=>mkSt [(6, .arr 24 D.length),(25, .sl (L.map rgV)),(26,I L.length),(27,I D.length)] [] [(24,⟨D.length, .own,76,D.flatten.map vcV⟩)])
    (fun D R=>L=D++R) (fun D R=>R.length) [] L ?_ rfl (fun D R hp=>?_)
   ·exact zj
   ·have h1:L=D++R:=hp
    have hlen:L.length=D.length+R.length:=by rw[h1];simp
    have hD:=hfl D (fun l hl=>hs l (by rw[h1];simp[hl]))
    cases R with
    |cons x R=>
     rw[List.length_cons]at hlen
     have hx:=hs x (by rw[h1];simp)
     repeat' ((conv=>whnf);first|(exfalso;omega)|refine aF (l:=L) (A:=D) (x:=x) (B:=R) h1 (by omega) ?_|refine iH rfl (.inl rfl) rfl (of_decide_eq_true rfl) (fun y hy=>by obtain⟨m,_,rfl⟩:=List.mem_map.1 hy;rfl) (by show(List.map vcV D.flatten).length+(List.map vcV x).length<=_;rw[List.length_map,List.length_map];omega) ?_|refine zg ?_|refine za ?_|refine zo ?_|refine zz (fun _=>?_) fun _=>?_)
     conv=>whnf
     refine⟨(D++[x],R),?_,?_,?_⟩
     ·refine dV ?_ ?_ ?_ ?_
      all_goals repeat' (first|exact trivial|refine And.intro ?_ ?_|with_reducible rfl|exact(fun h=>by cases h)|exact Nat.le_refl _|omega|exact rfl)
      all_goals first
       |(show D.length+1=(D++[x]).length;simp;done)
       |(show List.map vcV D.flatten++List.map vcV x=List.map vcV (D++[x]).flatten;simp;done)
       |(show(D.length:Int)+1=(D++[x]).length;simp;done)
     ·show L=D++[x] ++R
      rw[h1];simp
     ·show R.length< (x::R).length
      simp
    |nil=>
     have e:L=D:=by rw[h1];simp
     simp at hlen
     repeat' ((conv=>whnf);first|(exfalso;omega)|refine zg ?_|refine zz (fun _=>?_) fun _=>?_|refine zr ?_)
     conv=>whnf
     refine⟨⟨⟨rfl,rfl,rfl,?_⟩,trivial⟩,rfl,fun _ h=>by cases h⟩
     show List.map vcV D.flatten=List.map vcV L.flatten
     rw[e]
theorem dT1{xs ys:List V}{X Y Z:Rg}(hx:xs=X.map vcV)(hy:ys=Y.map vcV)(hz:Z=X++Y)(h1:X.length<=10000)(h2:Y.length<=10000):Sp 278 [.sl [.sl xs, .sl ys]] (.own 76 (Z.map vcV)):=by
 subst hx hy hz
 have:=cN6 [X,Y] (by simp) (fun l hl=>by
  rcases List.mem_cons.1 hl with rfl|hl
  ·exact h1
  ·cases List.mem_singleton.1 hl;exact h2)
 rwa [show [X,Y].flatten=X++Y by simp]at this
theorem bJ7{r:Rg}(h:dM r):gQ r=wL r:=if_pos h
theorem eJ3{r:Rg}(h:¬dM r):gQ r=[] :=if_neg h
theorem aU6(r:Rg)(hl:r.length<=1000000):Sp 216 [rgV r] (.sl ((gQ r).map vcV)):=by
 refine zsp Tryz.func216 ?_
 have hll:(r.map vcV).length=r.length:=by simp
 by_cases hr:dM r
 ·rw[bJ7 hr]
  have hne:r≠ [] :=fun h=>by have:=hr.1;rw[h]at this;simp at this
  have h40:=hr.2.1
  obtain⟨j,hj,_,hj2⟩:=aT6 (k:=0) (eH8 hne)
  have hi0:bZ1 (wO r) r=j:=by unfold bZ1;rw[hj]
  have hi:=cJ4 r (wO r) hl
  rw[hi0]at hi
  have hb:wL r=r.drop j++r.take j:=by unfold wL;rw[hj];rfl
  rw[hb]
  have hc:=xX (dT1 (xs:=((r.map vcV).take (((r.map vcV).length:Nat):Int).toNat).drop ((j:Nat):Int).toNat) (ys:=((r.map vcV).take ((j:Nat):Int).toNat).drop (0:Int).toNat) (X:=r.drop j) (Y:=r.take j) (Z:=r.drop j++r.take j)
   (by rw[Int.toNat_natCast,Int.toNat_natCast,List.take_length,List.map_drop]) (by rw[Int.toNat_natCast,List.map_take];rfl) rfl (by rw[List.length_drop];omega) (by rw[List.length_take];omega))
  repeat' ((conv=>whnf);first|(exfalso;contradiction)|refine zc (lN r hl) ?_|refine zc (cL6 r hl hne) ?_|refine zc hi ?_|refine bW8 [] [(20,[88888])] trivial (by kernel_rfl) ?_|refine fU ⟨by omega,by omega,by omega, .inr (fun x hx=>by obtain⟨v,_,rfl⟩:=List.mem_map.1 hx;rfl)⟩ ?_|refine zh (hc) [] ?_|refine zg ?_|refine zn ?_|refine zz (fun _=>?_) fun _=>?_|refine zr ?_)
  all_goals conv=>whnf
  refine⟨?_,rfl,fun rs h=>V.noConfusion h⟩
  (repeat' (first|exact trivial|refine And.intro ?_ ?_|with_reducible rfl|exact(fun h=>by cases h)|exact rfl));done
 ·rw[eJ3 hr]
  repeat' ((conv=>whnf);first|(exfalso;contradiction)|refine zc (lN r hl) ?_|refine zg ?_|refine zn ?_|refine zz (fun _=>?_) fun _=>?_|refine zr ?_)
  all_goals conv=>whnf
  exact⟨⟨rfl,trivial⟩,rfl,fun _ h=>by cases h⟩
theorem aM5(l:List Vc):∀y∈l.map vcV,y.cells.length=2:=fun y hy=>by obtain⟨m,_,rfl⟩:=List.mem_map.1 hy;rfl
theorem aY2(r:Rg)(hl:r.length<=1000000):Sp 368 [rgV r] (.sl (r.map vcV)):=by
 refine zsp Tryz.func368 ?_
 have hll:(r.map vcV).length=r.length:=by simp
 repeat' ((conv=>whnf);first|(refine bV3.mk rfl (of_decide_eq_true (by kernel_rfl)) (by kernel_rfl) (.inl rfl) ?_;intro b hb;cases b)|refine iH rfl (.inl rfl) rfl (of_decide_eq_true rfl) (aM5 r) (by show 0+(List.map vcV r).length<=_;omega) ?_|refine zg ?_|refine zr ?_)
 all_goals conv=>whnf
 ·refine⟨?_,rfl,fun rs h=>V.noConfusion h⟩
  (repeat' (first|exact trivial|refine And.intro ?_ ?_|with_reducible rfl|exact(fun h=>by cases h)|exact rfl));done
 ·have e:r=[] :=by
   cases r with
   |nil=>rfl
   |cons x l=>exact absurd (hb (by simp)) (by decide)
  subst e
  refine⟨?_,rfl,fun rs h=>V.noConfusion h⟩
  (repeat' (first|exact trivial|refine And.intro ?_ ?_|with_reducible rfl|exact(fun h=>by cases h)|exact rfl));done
theorem bH7(a b:Rg)(ha:a.length<=1000000)(hb:b.length<=1000000):Sp 214 [rgV a,rgV b] (DB (a=b)):=by
 refine zsp Tryz.func214 ?_
 repeat' ((conv=>whnf);first|refine zc (eA2 a b ha hb) ?_|refine zg ?_|refine zr ?_)
 all_goals conv=>whnf
 all_goals first|exact aG rfl|exact aK rfl|exact aP rfl|exact zt|exact zu
noncomputable def sV(lo hi:Vc):Sh:=open Classical in if hi.1<=lo.1\/hi.2<=lo.2\/¬within lo 2000\/¬within hi 2000 then sh0 else⟨[lo,(hi.1,lo.2),hi,(lo.1,hi.2)],[]⟩
theorem eS0{lo hi:Vc}(h:hi.1<=lo.1\/hi.2<=lo.2\/¬within lo 2000\/¬within hi 2000):sV lo hi=sh0:=if_pos h
theorem eR9{lo hi:Vc}(h:¬(hi.1<=lo.1\/hi.2<=lo.2\/¬within lo 2000\/¬within hi 2000)):sV lo hi=⟨[lo,(hi.1,lo.2),hi,(lo.1,hi.2)],[]⟩:=if_neg h
theorem cX1(lo hi:Vc):Sp 347 [vcV lo,vcV hi] (shV (sV lo hi)):=by
 refine zsp Tryz.func347 ?_
 have h1:=eS0 (lo:=lo) (hi:=hi)
 have h2:=eR9 (lo:=lo) (hi:=hi)
 generalize sV lo hi=A at*
 repeat' ((conv=>whnf);first|refine zc (kC lo 2000) ?_|refine zc (kC hi 2000) ?_|refine zg ?_|refine zn ?_|refine zz (fun _=>?_) fun _=>?_|refine zr ?_)
 all_goals conv=>whnf
 all_goals first
  |(rw[h1 (by first|exact .inl ‹_› |exact .inr (.inl ‹_›)|exact .inr (.inr (.inl ‹_›))|exact .inr (.inr (.inr ‹_›)))];refine⟨?_,rfl,fun rs h=>V.noConfusion h⟩;(repeat' (first|exact trivial|refine And.intro ?_ ?_|with_reducible rfl|exact(fun h=>by cases h)|exact rfl));done)
  |(rw[h2 (by rintro(q|q|q|q)<;>first|omega|contradiction)];refine⟨?_,rfl,fun rs h=>V.noConfusion h⟩;(repeat' (first|exact trivial|refine And.intro ?_ ?_|with_reducible rfl|exact(fun h=>by cases h)|exact rfl));done)
theorem eG2{l:List Rg}{z:Int}{k:Nat}{K:V->Prop}(hz:z=(k:Int))(h:k<l.length)(hk:K (rgV (l.getD k []))):idx (l.map rgV) z.toNat K:=by
 subst hz
 refine gK (l:=l) (j:=k) (x:=l.getD k []) ?_ (by omega) hk
 rw[List.getD_eq_getElem?_getD,List.getElem?_eq_getElem h];rfl
theorem eJ5{l:List Rg}{k:Nat}(h:k<l.length):l.take (k+1)=l.take k++[l.getD k []] :=by
 rw[List.take_add_one,List.getD_eq_getElem?_getD,List.getElem?_eq_getElem h];rfl
theorem getD_mem{l:List Rg}{k:Nat}(h:k<l.length):l.getD k []∈l:=by
 rw[List.getD_eq_getElem?_getD,List.getElem?_eq_getElem h]
 exact List.getElem_mem h
theorem dW1(a b:List Rg)(ha:a.length<=1000000)(hb:b.length<=1000000)(ha2:∀r∈a,r.length<=1000000)(hb2:∀r∈b,r.length<=1000000):Sp 215 [.sl (a.map rgV), .sl (b.map rgV), .fn 214 []] (DB (a=b)):=by
 refine zsp Tryz.func215 ?_
 have hla:(a.map rgV).length=a.length:=by simp
 have hlb:(b.map rgV).length=b.length:=by simp
 repeat' ((conv=>whnf);first|refine zg ?_|refine zn ?_|refine ze (fun heq=>?_) (fun heq=>?_)|refine zr ?_)
 all_goals conv=>whnf
 all_goals first
  |(refine aA (aC ?_);intro h;subst h;omega)
  |skip
 have hab:a.length=b.length:=by omega
 refine lD (A:=Nat) (fun k=>mkSt [(0, .sl (a.map rgV)),(1, .sl (b.map rgV)),(2, .fn 214 []),(15, .sl (a.map rgV)),(16,I a.length),(17,I k)] [] []) (fun k=>k<=a.length/\a.take k=b.take k) (fun k=>a.length-k) 0 ?_ ⟨by omega,rfl⟩ (fun k hk=>?_)
 ·exact zj
 obtain⟨hk,ht⟩:=hk
 by_cases hkr:k<a.length
 ·have hs:=bH7 (a.getD k []) (b.getD k []) (ha2 _ (getD_mem hkr)) (hb2 _ (getD_mem (by omega)))
  repeat' ((conv=>whnf);first|(exfalso;omega)|refine aB (l:=a) (by omega) ?_|refine aB (l:=b) (by omega) ?_|refine eG2 (l:=a) (k:=k) (by omega) (by omega) ?_|refine eG2 (l:=b) (k:=k) (by omega) (by omega) ?_|refine zc hs ?_|refine zg ?_|refine za ?_|refine zn ?_|refine zd (fun hd=>?_) (fun hd=>?_)|refine zl (fun hlt=>?_) (fun hlt=>?_)|refine zr ?_)
  all_goals conv=>whnf
  ·refine⟨k+1,?_,⟨by omega,?_⟩,by omega⟩
   ·exact zj
   ·rw[eJ5 (by omega),eJ5 (by omega),ht,hd]
  ·refine aA (aC ?_)
   intro h
   subst h
   exact hd rfl
 ·have ek:k=a.length:=by omega
  repeat' ((conv=>whnf);first|(exfalso;omega)|refine zg ?_|refine zl (fun hlt=>?_) (fun hlt=>?_)|refine zr ?_)
  all_goals conv=>whnf
  refine aA (fE ?_)
  rw[ek,List.take_length,hab,List.take_length]at ht
  exact ht
theorem cQ8(a b:Sh)(ha:gV a)(hb:gV b):Sp 159 [shV a,shV b] (DB (a=b)):=by
 refine zsp Tryz.func159 ?_
 have e:a=b↔a.outer=b.outer/\a.holes=b.holes:=by
  obtain⟨a1,a2⟩:=a
  obtain⟨b1,b2⟩:=b
  simp
 repeat' ((conv=>whnf);first|refine zc (bH7 a.outer b.outer ha.1 hb.1) ?_|refine zc (dW1 a.holes b.holes ha.2.1 hb.2.1 ha.2.2 hb.2.2) ?_|refine zg ?_|refine zz (fun _=>?_) fun _=>?_|refine zr ?_)
 all_goals conv=>whnf
 all_goals first
  |(refine aA (fQ ?_);rw[e];exact⟨fun q=>⟨by assumption,q⟩,fun q=>q.2⟩)
  |(refine aA (aC ?_);rw[e];intro q;exact absurd q.1 (by assumption))
noncomputable def rinSt(s:Sh)(D:List Rg):St:=match D with
 | [] =>mkSt [(1, .box 1 0),(3, .box 3 0),(6, .fn 230 [.fp (shV s).cells])] [(1,(shV s).cells),(3,[nilV])] []
 |d::D=>mkSt [(1, .box 1 0),(3, .box 3 0),(6, .fn 230 [.fp (shV s).cells])] [(1,(shV s).cells),(3,[.arr 12 D.length])] [(12,⟨D.length, .own,39,(d::D).map rgV⟩)]
theorem dV3{s:Sh}(hs:gV s){D R:List Rg}(hp:rings s=D++R):D.length<=1000001:=by
 have h3:(rings s).length=D.length+R.length:=by rw[hp];simp
 have h4:(rings s).length=s.holes.length+1:=by unfold rings;simp
 have:=hs.2.1
 omega
theorem aW6(s:Sh)(hs:gV s):Sp 338 [shV s] (.own 39 ((rings s).map rgV)):=by
 refine zsp Tryz.func338 ?_
 repeat' ((conv=>whnf);first|refine zc (rQ s) ?_|refine zg ?_)
 all_goals conv=>whnf
 refine aM3 (iI s) (vJ s hs.2.1) (vC s) (A:=List Rg) (B:=List Rg) (fun D R=>rinSt s D)
  (fun k D R=>rings s=D++R/\D.length=k) [] (rings s) ?_ ⟨rfl,rfl⟩ rfl ?_ ?_
 ·exact zj
 ·rintro k D R it ⟨hp,hk⟩ hit
  subst hk
  obtain⟨r,R',rfl,rfl⟩:=aE4 hp hit
  have hrl:r.length<=1000000:=hs.mem (by rw[hp];simp)
  have hfb:=dV3 hs hp
  cases D with
  |nil=>
   repeat' ((conv=>whnf);first|refine zc (aY2 r hrl) ?_|refine gX (of_decide_eq_true rfl) (dA rfl) (of_decide_eq_true rfl) ?_|refine zi ?_|refine zv ?_)
   all_goals conv=>whnf
   refine⟨([r],R'),?_,by rw[hp];rfl,rfl⟩
   show Le T _ (mkSt [(1, .box 1 0),(3, .box 3 0),(6, .fn 230 [.fp (shV s).cells])] [(1,(shV s).cells),(3,[.arr 12 0])] [(12,⟨0, .own,39,[rgV r]⟩)])
   exact zj
  |cons d D=>
   have hfl:((d::D).map rgV).length=(d::D).length:=List.length_map ..
   repeat' ((conv=>whnf);first|refine zc (aY2 r hrl) ?_|refine iH rfl (.inl rfl) rfl (of_decide_eq_true rfl) (dA rfl) (show((d::D).map rgV).length+1<=1000000000 by omega) ?_|refine zi ?_|refine zv ?_)
   all_goals conv=>whnf
   refine⟨(d::D++[r],R'),?_,by rw[hp];simp,by simp⟩
   show Le T _ (mkSt [(1, .box 1 0),(3, .box 3 0),(6, .fn 230 [.fp (shV s).cells])] [(1,(shV s).cells),(3,[.arr 12 (D++[r]).length])] [(12,⟨(D++[r]).length, .own,39,((d::D)++[r]).map rgV⟩)])
   rw[show((d::D)++[r]).map rgV=(d::D).map rgV++[rgV r] by simp,List.length_append,List.length_singleton]
   exact zj
 ·rintro D R ⟨hp,hk⟩
  have hRn:R=[] :=by
   have h1:(iI s).length=(rings s).length:=by unfold iI;simp
   have h2:(rings s).length=D.length+R.length:=by rw[hp];simp
   exact List.length_eq_zero_iff.1 (by omega)
  subst hRn
  rw[List.append_nil]at hp
  cases D with
  |nil=>exact absurd hp (by unfold rings;simp)
  |cons d D=>
   rw[hp]
   repeat' ((conv=>whnf);first|refine zg ?_|refine zr ?_)
   all_goals conv=>whnf
   exact⟨⟨⟨rfl,rfl,rfl,rfl⟩,trivial⟩,rfl,fun _ h=>by cases h⟩
noncomputable def verSt(rs:List Rg)(D:List Rg):St:=match D with
 | [] =>mkSt [(3,nilV),(7, .arr 7 0),(8,I rs.length),(9,I 0)] [] [(7,⟨0, .own,39,rs.map rgV⟩)]
 |d::D=>mkSt [(3, .arr 15 D.length),(7, .arr 7 0),(8,I rs.length),(9,I ((D.length:Int)+1))] [] [(7,⟨0, .own,39,rs.map rgV⟩),(15,⟨D.length, .own,76,(d::D).flatten.map vcV⟩)]
theorem dH9(D:List Rg)(h:∀r∈D,r.length<=1000000):D.flatten.length<=1000000*D.length:=by
 induction D with
 |nil=>simp
 |cons d D ih=>
  have h1:=h d (by simp)
  have h2:=ih (fun r hr=>h r (by simp[hr]))
  rw[List.flatten_cons,List.length_append,List.length_cons]
  omega
theorem aJ3(s:Sh)(hs:gV s)(h7:s.holes.length<=6):Sp 285 [shV s] (.own 76 ((rings s).flatten.map vcV)):=by
 refine zsp Tryz.func285 ?_
 have hrs:=aW6 s hs
 have hne:rings s≠ [] :=by unfold rings;simp
 have hlr:(rings s).length<=7:=by unfold rings;simp;omega
 have hmem:∀r∈rings s,r.length<=1000000:=fun r hr=>hs.mem hr
 generalize rings s=rs at*
 have hmm:(rs.map rgV).length=rs.length:=by simp
 repeat' ((conv=>whnf);first|refine zc hrs ?_|refine zg ?_|refine zv ?_)
 refine aU (A:=List Rg) (B:=List Rg) (fun D R=>verSt rs D) (fun D R=>rs=D++R) (fun D R=>R.length) [] rs ?_ rfl (fun D R hp=>?_)
 ·refine dV ?_ ?_ ?_ ?_
  all_goals repeat' (first|exact trivial|refine And.intro ?_ ?_|with_reducible rfl|exact(fun h=>by cases h)|exact Nat.le_refl _|omega|exact rfl)
  all_goals (try rw[List.length_map])
 have hD:=dH9 D (fun r hr=>hmem r (by rw[hp];simp[hr]))
 cases R with
 |nil=>
  have e:rs=D:=by rw[hp];simp
  subst e
  cases rs with
  |nil=>exact absurd rfl hne
  |cons d D=>
   have h0:(d::D).length=D.length+1:=rfl
   repeat' ((conv=>whnf);first|(exfalso;omega)|refine zg ?_|refine zz (fun _=>?_) fun _=>?_|refine zr ?_)
   all_goals conv=>whnf
   exact⟨⟨⟨rfl,rfl,rfl,rfl⟩,trivial⟩,rfl,fun _ h=>by cases h⟩
 |cons r R=>
  have hlen:=aO hp
  have hrl:=hmem r (by rw[hp];simp)
  have hrm:(r.map vcV).length=r.length:=by simp
  cases D with
  |nil=>
   have h0:([] :List Rg).length=0:=rfl
   repeat' ((conv=>whnf);first|(exfalso;omega)|refine dS rfl rfl (by show 0<=_/\_< ((rs.map rgV).length:Int);omega) ?_|refine aF (l:=rs) (A:=[]) (x:=r) (B:=R) hp (by omega) ?_|refine gX (of_decide_eq_true rfl) (aM5 _) (show(r.map vcV).length<=1000000000 by omega) ?_|refine zg ?_|refine za ?_|refine zv ?_|refine zz (fun _=>?_) fun _=>?_)
   all_goals conv=>whnf
   refine⟨([r],R),?_,hp,by simp⟩
   show Le T _ (mkSt [(3, .arr 15 0),(7, .arr 7 0),(8,I rs.length),(9,I (0+1))] [] [(7,⟨0, .own,39,rs.map rgV⟩),(15,⟨0, .own,76,([r] :List Rg).flatten.map vcV⟩)])
   rw[show([r] :List Rg).flatten=r by simp]
   exact zj
  |cons d D=>
   have h0:(d::D).length=D.length+1:=rfl
   have hfl:((d::D).flatten.map vcV).length=(d::D).flatten.length:=List.length_map ..
   repeat' ((conv=>whnf);first|(exfalso;omega)|refine dS rfl rfl (by show 0<=_/\_< ((rs.map rgV).length:Int);omega) ?_|refine aF (l:=rs) (A:=d::D) (x:=r) (B:=R) hp (by omega) ?_|refine iH rfl (.inl rfl) rfl (of_decide_eq_true rfl) (aM5 _) (show((d::D).flatten.map vcV).length+(r.map vcV).length<=1000000000 by omega) ?_|refine zg ?_|refine za ?_|refine zv ?_|refine zz (fun _=>?_) fun _=>?_)
   all_goals conv=>whnf
   refine⟨(d::D++[r],R),?_,by rw[hp];simp,by simp⟩
   show Le T _ (mkSt [(3, .arr 15 (D++[r]).length),(7, .arr 7 0),(8,I rs.length),(9,I (((D++[r]).length:Int)+1))] [] [(7,⟨0, .own,39,rs.map rgV⟩),(15,⟨(D++[r]).length, .own,76,((d::D)++[r]).flatten.map vcV⟩)])
   rw[show((d::D)++[r]).flatten.map vcV=(d::D).flatten.map vcV++r.map vcV by simp,List.length_append,List.length_singleton]
   exact zj
end Go.Proofs.Led
namespace Go.Proofs.Led
open Go Go.Proofs Go.Ab
set_option maxRecDepth 100000
set_option maxHeartbeats 2000000
def jS(a b:Vc):Int:=if 0<bZ a b then 0 else if bZ a b<0 then 2 else if vdot a b<0 then 1 else 3
theorem eW4{a b:Vc}(h:0<bZ a b):jS a b=0:=if_pos h
theorem eZ4{a b:Vc}(h:bZ a b<0):jS a b=2:=by unfold jS;rw[if_neg (by omega),if_pos h]
theorem eW6{a b:Vc}(h0:bZ a b<=0)(h1:0<=bZ a b)(h:vdot a b<0):jS a b=1:=by unfold jS;rw[if_neg (by omega),if_neg (by omega),if_pos h]
theorem fB4{a b:Vc}(h0:bZ a b<=0)(h1:0<=bZ a b)(h:0<=vdot a b):jS a b=3:=by unfold jS;rw[if_neg (by omega),if_neg (by omega),if_neg (by omega)]
theorem aQ6(a b:Vc):Sp 289 [vcV a,vcV b] (I (jS a b)):=by
 refine zsp Tryz.func289 ?_
 have h0:=eW4 (a:=a) (b:=b)
 have h1:=eW6 (a:=a) (b:=b)
 have h2:=eZ4 (a:=a) (b:=b)
 have h3:=fB4 (a:=a) (b:=b)
 generalize jS a b=A at*
 have hc:=kD a b
 have hd:=dP6 a b
 generalize bZ a b=c at*
 generalize vdot a b=d at*
 repeat' ((conv=>whnf);first|refine zc hc ?_|refine zc hd ?_|refine zg ?_|refine zl (fun hlt=>?_) (fun hlt=>?_)|refine zr ?_)
 all_goals conv=>whnf
 all_goals first
  |exact aG (h0 (by omega)).symm
  |exact aG (h2 (by omega)).symm
  |exact aG (h1 (by omega) (by omega) (by omega)).symm
  |exact aG (h3 (by omega) (by omega) (by omega)).symm
theorem bX9(s:Sg):Sp 226 [sgV s] (sgV (s.2,s.1)):=by
 refine zsp Tryz.func226 ?_
 repeat' ((conv=>whnf);first|refine zg ?_|refine zr ?_)
 all_goals conv=>whnf
 all_goals first|exact aG rfl|exact aK rfl|exact aP rfl|exact zt|exact zu
def oG(s:Sg)(d:Vc):Prop:=jS s.1 d<jS s.1 s.2\/(jS s.1 d=jS s.1 s.2/\jS s.1 d≠3/\0<bZ d s.2)
theorem bE0(s:Sg)(d:Vc):Sp 290 [sgV s,vcV d] (DB (oG s d)):=by
 refine zsp Tryz.func290 ?_
 have hx:=aQ6 s.1 d
 have hy:=aQ6 s.1 s.2
 have hc:=kD d s.2
 generalize hP:oG s d=P
 have hr:P↔oG s d:=by rw[hP]
 unfold oG at hr
 clear hP
 generalize jS s.1 d=x at*
 generalize jS s.1 s.2=y at*
 generalize bZ d s.2=c at*
 repeat' ((conv=>whnf);first|refine zc hx ?_|refine zc hy ?_|refine zc hc ?_|refine zg ?_|refine zi ?_|refine zn ?_|refine zz (fun _=>?_) fun _=>?_|refine zr ?_)
 all_goals conv=>whnf
 all_goals refine aA ?_
 all_goals first
  |exact fE (hr.2 (by omega))
  |exact aC (fun h=>by have h:=hr.1 h;omega)
  |(refine aS1 ?_;rw[hr];omega)
def jH(s t:Sg):Prop:=jS s.1 t.1=3\/oG s t.1\/oG t s.1
theorem cT5(s t:Sg):Sp 225 [sgV s,sgV t] (DB (jH s t)):=by
 refine zsp Tryz.func225 ?_
 have hx:=aQ6 s.1 t.1
 have h1:=bE0 s t.1
 have h2:=bE0 t s.1
 generalize hP:jH s t=P
 have hr:P↔jH s t:=by rw[hP]
 unfold jH at hr
 clear hP
 generalize jS s.1 t.1=x at*
 generalize oG s t.1=p at*
 generalize oG t s.1=q at*
 repeat' ((conv=>whnf);first|refine zc hx ?_|refine zc h1 ?_|refine zc h2 ?_|refine zg ?_|refine zz (fun _=>?_) fun _=>?_|refine zr ?_)
 all_goals conv=>whnf
 all_goals refine aA ?_
 all_goals first
  |exact fE (hr.2 (by first|exact .inl ‹_› |exact .inr (.inl ‹_›)))
  |(refine fQ ?_;rw[hr];exact⟨fun h=> .inr (.inr h),fun h=>by rcases h with h|h|h<;>first|contradiction|exact h⟩)
end Go.Proofs.Led
namespace Go.Proofs.Led
open Go Go.Proofs Go.Ab
set_option maxRecDepth 100000
set_option maxHeartbeats 4000000
theorem fD3{g:FuncId}{c d:List V}{Q:Vc->Prop}(hg:∀m,Sp g (vcV m:: [.fp c, .fp d]) (DB (Q m)))(l:List Vc)(hl:l.length<=1000000):fnVC T Tryz.prog Tryz.f337 [.sl (l.map vcV), .fn g [.fp c, .fp d]] (I (fstI Q l)):=by
 have hll:(l.map vcV).length=l.length:=by simp
 repeat' ((conv=>whnf);first|refine zg ?_)
 refine aU (A:=List Vc) (B:=List Vc) (fun D R=>mkSt [(0, .sl (l.map vcV)),(1, .fn g [.fp c, .fp d]),(7,I l.length),(8,I D.length)] [] [])
  (fun D R=>l=D++R/\∀m∈D,¬Q m) (fun D R=>R.length) [] l ?_ ⟨rfl,by simp⟩ (fun D R hp=>?_)
 ·exact zj
 ·obtain⟨h1,h2⟩:=hp
  have hlen:l.length=D.length+R.length:=by rw[h1];simp
  have hD:∀y∈D,(!decB (Q y))=true:=fun y hy=>by rw[dW.2 (h2 y hy)];rfl
  cases R with
  |nil=>
   have e:l=D:=by rw[h1];simp
   simp at hlen
   repeat' ((conv=>whnf);first|(exfalso;omega)|refine zg ?_|refine zl (fun hlt=>?_) (fun hlt=>?_)|refine zr ?_)
   conv=>whnf
   refine aG ?_
   unfold fstI
   rw[if_neg (iO.2 (by rw[e];exact h2))]
  |cons x R=>
   rw[List.length_cons]at hlen
   repeat' ((conv=>whnf);first|(exfalso;omega)|refine aF (l:=l) (A:=D) (x:=x) (B:=R) h1 (by omega) ?_|refine zc (hg x) ?_|refine zg ?_|refine za ?_|refine zo ?_|refine zd (fun hd=>?_) (fun hd=>?_)|refine zl (fun hlt=>?_) (fun hlt=>?_)|refine zr ?_)
   ·conv=>whnf
    refine aG ?_
    have e:fst Q l=D.length:=by unfold fst;rw[h1];exact wH hD (by rw[dH.2 hd];rfl)
    unfold fstI
    rw[e,if_pos (by omega)]
   ·conv=>whnf
    refine⟨(D++[x],R),?_,⟨?_,?_⟩,?_⟩
    ·refine dV ?_ ?_ ?_ ?_
     all_goals repeat' (first|exact trivial|refine And.intro ?_ ?_|with_reducible rfl|exact(fun h=>by cases h)|exact Nat.le_refl _|omega|exact rfl)
     ·show(D.length:Int)+1=(D++[x]).length
      simp
    ·show l=D++[x] ++R
     rw[h1];simp
    ·intro m hm
     rcases List.mem_append.1 hm with hm|hm
     ·exact h2 m hm
     ·rw[List.mem_singleton.1 hm];exact hd
    ·show R.length< (x::R).length
     simp
theorem dW6{g:FuncId}{c d:List V}{Q:Vc->Prop}(hg:∀m,Sp g (vcV m:: [.fp c, .fp d]) (DB (Q m)))(l:List Vc)(hl:l.length<=1000000):Sp 337 [.sl (l.map vcV), .fn g [.fp c, .fp d]] (I (fstI Q l)):=zsp Tryz.func337 (fD3 hg l hl)
theorem eY5{g:FuncId}{c d:List V}{Q:Vc->Prop}(hg:∀m,Sp g (vcV m:: [.fp c, .fp d]) (DB (Q m)))(l:List Vc)(hl:l.length<=1000000):fnVC T Tryz.prog Tryz.f284 [.sl (l.map vcV), .fn g [.fp c, .fp d]] (DB (∃m∈l,Q m)):=by
 repeat' ((conv=>whnf);first|refine zc (dW6 hg l hl) ?_|refine zg ?_|refine zr ?_)
 conv=>whnf
 refine aA (le_dec ?_)
 have h:=iO (Q:=Q) (l:=l)
 unfold fstI
 constructor
 ·intro h0
  split at h0
  ·rename_i hlt
   exact Classical.byContradiction fun hn=>(h.2 (fun m hm hq=>hn ⟨m,hm,hq⟩)) hlt
  ·omega
 ·rintro⟨m,hm,hq⟩
  split
  ·omega
  ·rename_i hlt
   exact(h.1 hlt m hm hq).elim
theorem dV5{g:FuncId}{c d:List V}{Q:Vc->Prop}(hg:∀m,Sp g (vcV m:: [.fp c, .fp d]) (DB (Q m)))(l:List Vc)(hl:l.length<=1000000):Sp 284 [.sl (l.map vcV), .fn g [.fp c, .fp d]] (DB (∃m∈l,Q m)):=zsp Tryz.func284 (eY5 hg l hl)
theorem cY2(b:Sh)(n:Int)(hb:gV b)(v:Vc):Sp 286 [vcV v, .fp (shV b).cells, .fp [I n]] (DB (lJ b v=n)):=by
 refine zsp Tryz.func286 ?_
 repeat' ((conv=>whnf);first|refine zc (aD4 b v hb) ?_|refine zg ?_|refine zi ?_|refine zr ?_)
 all_goals conv=>whnf
 all_goals exact aA eqB_d
def rV(s:Sh):List Vc:=(rings s).flatten
theorem cH3{s:Sh}(hs:gV s)(h7:s.holes.length<=6):(rV s).length<=7000000:=by
 have h1:=dH9 (rings s) (fun r hr=>hs.mem hr)
 have h4:(rings s).length=s.holes.length+1:=by unfold rings;simp
 unfold rV
 omega
def bL9(a b:Sh)(n:Int):Prop:=∃v∈rV a,lJ b v=n
theorem bK5(a b:Sh)(n:Int)(ha:gV a)(h7:a.holes.length<=6)(hb:gV b)(hl:(rV a).length<=1000000):Sp 222 [shV a,shV b,I n] (DB (bL9 a b n)):=by
 refine zsp Tryz.func222 ?_
 repeat' ((conv=>whnf);first|refine zc (aJ3 a ha h7) ?_|refine zc (dV5 (fun v=>cY2 b n hb v) (rV a) hl) ?_|refine zg ?_|refine zr ?_)
 all_goals conv=>whnf
 all_goals exact aA rfl
end Go.Proofs.Led
namespace Go.Proofs.Led
open Go Go.Proofs Go.Ab Go.RowKit
structure jL where
 id:Int
 grade:ByteArray
 heat:ByteArray
 grain:Int
 shape:Sh
 defects:List Sh
def shC(s:Sh):List V:=[rgV s.outer, .sl (s.holes.map rgV)]
def aA7(s:jL):List V:=[I s.id,S s.grade,S s.heat,I s.grain,rgV s.shape.outer, .sl (s.shape.holes.map rgV), .sl (s.defects.map shV)]
def zJ(s:jL):V:= .agg (aA7 s)
def dN:jL:=⟨0,aI,aI,0,sh0,[]⟩
abbrev Iv:=Int×Int
def ivV(d:Iv):V:= .agg [I d.1,I d.2]
structure Bar where
 id:Int
 grade:ByteArray
 heat:ByteArray
 length:Int
 defects:List Iv
def barC(b:Bar):List V:=[I b.id,S b.grade,S b.heat,I b.length, .sl (b.defects.map ivV)]
def barV(b:Bar):V:= .agg (barC b)
def bar0:Bar:=⟨0,aI,aI,0,[]⟩
structure aN where
 isBar:Bool
 sheet:jL
 bar:Bar
 program:ByteArray
def gB(x:aN):List V:=[B x.isBar,I x.sheet.id,S x.sheet.grade,S x.sheet.heat,I x.sheet.grain,rgV x.sheet.shape.outer, .sl (x.sheet.shape.holes.map rgV), .sl (x.sheet.defects.map shV),
 I x.bar.id,S x.bar.grade,S x.bar.heat,I x.bar.length, .sl (x.bar.defects.map ivV),S x.program]
def aQ(x:aN):V:= .agg (gB x)
def wS:aN:=⟨false,dN,bar0,aI⟩
structure Piece where
 id:Int
 parent:Int
 part:ByteArray
 grade:ByteArray
 heat:ByteArray
 size:Int
 isBar:Bool
 status:Int
 order:ByteArray
def dZ8(x:Piece):List V:=[I x.id,I x.parent,S x.part,S x.grade,S x.heat,I x.size,B x.isBar,I x.status,S x.order]
def aZ(x:Piece):V:= .agg (dZ8 x)
structure aJ where
 stocks:List aN
 pieces:List Piece
 used:List Int
 received:Iv
 scrap:Iv
def invC(s:aJ):List V:=[.sl (s.stocks.map aQ), .sl (s.pieces.map aZ), .sl (s.used.map I),I s.received.1,I s.received.2,I s.scrap.1,I s.scrap.2]
def invV(s:aJ):V:= .agg (invC s)
def inv0:aJ:=⟨[],[],[],(0,0),(0,0)⟩
structure Made where
 id:Int
 part:ByteArray
 size:Int
def dK(x:Made):V:= .agg [I x.id,S x.part,I x.size]
structure Rest where
 id:Int
 box:Bx
 lo:Int
 hi:Int
def bY(x:Rest):V:= .agg [I x.id,I x.box.1.1,I x.box.1.2,I x.box.2.1,I x.box.2.2,I x.lo,I x.hi]
structure Event where
 kind:Int
 id:Int
 text:ByteArray
 sheet:jL
 bar:Bar
 cuts:List Made
 rests:List Rest
 scrap:Int
def iJ(x:Event):List V:=[I x.kind,I x.id,S x.text,I x.sheet.id,S x.sheet.grade,S x.sheet.heat,I x.sheet.grain,rgV x.sheet.shape.outer, .sl (x.sheet.shape.holes.map rgV), .sl (x.sheet.defects.map shV),
 I x.bar.id,S x.bar.grade,S x.bar.heat,I x.bar.length, .sl (x.bar.defects.map ivV), .sl (x.cuts.map dK), .sl (x.rests.map bY),I x.scrap]
def aS(x:Event):V:= .agg (iJ x)
def lK(s:jL):Prop:=gV s.shape/\s.defects.length<=1000000/\∀d∈s.defects,gV d
end Go.Proofs.Led
namespace Go.Proofs.Led
open Go Go.Proofs Go.Ab
set_option maxRecDepth 100000
set_option maxHeartbeats 4000000
variable{g:FuncId}{c:Rg->Rg->Int}{Q:Rg->Prop}
abbrev cF2(g:FuncId)(c:Rg->Rg->Int)(Q:Rg->Prop):Prop:=∀i j,Q i->Q j->Sp g [rgV i,rgV j] (I (c i j))
theorem fC7(hc:cF2 g c Q)(pre xs post:List Rg)(hq:∀x∈xs,Q x)(hl:pre.length+xs.length+post.length<=100000):
 fnIO T Tryz.prog Tryz.f326 [.own 39 ((pre++xs++post).map rgV),I pre.length,I (pre.length+xs.length), .fn g []] (.tup []) 0 39 ((pre++qA c xs++post).map rgV):=by
 repeat' ((conv=>whnf);first|refine zg ?_|refine za ?_)
 refine lD (A:=Nat) (fun k=>mkSt [(0, .arr 0 0),(1,I pre.length),(2,I (pre.length+xs.length)),(3, .fn g []),(8,I (pre.length+k))] [] [(0,⟨0, .own,39,(pre++(isR c (xs.take k)).reverse++xs.drop k++post).map rgV⟩)])
  (fun k=>1<=k/\(k<=xs.length\/k=1)) (fun k=>xs.length-k) 1 ?_ ⟨by omega, .inr rfl⟩ (fun k hk=>?_)
 ·refine dV ?_ ?_ ?_ ?_
  all_goals repeat' (first|exact trivial|refine And.intro ?_ ?_|with_reducible rfl|exact(fun h=>by cases h)|exact Nat.le_refl _|omega|exact rfl)
  ·show List.map rgV (pre++xs++post)=List.map rgV (pre++(isR c (List.take 1 xs)).reverse++List.drop 1 xs++post)
   cases xs with
   |nil=>simp[isR]
   |cons x r=>simp[isR,insR]
 ·change 1<=k/\(k<=xs.length\/k=1)at hk
  rcases Nat.lt_or_ge k xs.length with hkl|hkl
  ·have hd:xs.drop k=xs[k] ::xs.drop (k+1):=List.drop_eq_getElem_cons hkl
   have ht:xs.take (k+1)=xs.take k++[xs[k]] :=by rw[List.take_add_one,List.getElem?_eq_getElem hkl];rfl
   have hx0:Q xs[k] :=hq _ (List.getElem_mem hkl)
   generalize xs[k] =x at hd ht hx0
   obtain⟨tl,hd'⟩:∃tl,xs.drop (k+1)=tl:=⟨_,rfl⟩
   rw[hd']at hd
   have hlen:(isR c (xs.take k)).length=k:=by rw[dH2,List.length_take];omega
   have hR0:∀z∈isR c (xs.take k),Q z:=fun z hz=>hq z (List.mem_of_mem_take (dI0.1 hz))
   have hnew:isR c (xs.take (k+1))=insR c x (isR c (xs.take k)):=by rw[ht,eB2]
   generalize isR c (xs.take k)=R0 at hlen hR0 hnew
   rw[hd]
   repeat' ((conv=>whnf);first|(exfalso;omega)|refine zg ?_|refine zl (fun hlt=>?_) (fun hlt=>?_))
   refine aU (A:=List Rg) (B:=List Rg) (fun R M=>mkSt [(0, .arr 0 0),(1,I pre.length),(2,I (pre.length+xs.length)),(3, .fn g []),(8,I (pre.length+k)),(9,I (pre.length+R.length))] [] [(0,⟨0, .own,39,(pre++(R.reverse++x::(M++tl))++post).map rgV⟩)])
    (fun R M=>R.length<=k/\(∀z∈R,Q z)/\(insR c x R0).reverse=(insR c x R).reverse++M) (fun R M=>R.length) R0 [] ?_ ⟨by omega,hR0,by simp⟩ (fun R M hp=>?_)
   ·refine dV ?_ ?_ ?_ ?_
    all_goals repeat' (first|exact trivial|refine And.intro ?_ ?_|with_reducible rfl|exact(fun h=>by cases h)|exact Nat.le_refl _|omega|exact rfl)
    ·show List.map rgV (pre++R0.reverse++x::tl++post)=List.map rgV (pre++(R0.reverse++x::([] ++tl))++post)
     simp
   ·obtain⟨hp1,hp2,hp3⟩:=hp
    change R.length<=k at hp1
    change∀z∈R,Q z at hp2
    change (insR c x R0).reverse=(insR c x R).reverse++M at hp3
    cases R with
    |nil=>
     have hn:([] :List Rg).length=0:=rfl
     repeat' ((conv=>whnf);first|(exfalso;omega)|refine zg ?_|refine zi ?_|refine za ?_|refine zl (fun hlt=>?_) (fun hlt=>?_))
     refine⟨k+1,?_,⟨by omega, .inl (by omega)⟩,by omega⟩
     rw[hnew]
     refine dV ?_ ?_ ?_ ?_
     all_goals repeat' (first|exact trivial|refine And.intro ?_ ?_|with_reducible rfl|exact(fun h=>by cases h)|exact Nat.le_refl _|omega|exact rfl)
     ·show List.map rgV (pre++([].reverse++x::(M++tl))++post)=List.map rgV (pre++(insR c x R0).reverse++List.drop (k+1) xs++post)
      rw[hp3,hd']
      simp[insR]
    |cons y r=>
     have hsz:(pre++((y::r).reverse++x::(M++tl))++post).length=pre.length+(r.length+1)+1+(M++tl++post).length:=by simp;omega
     have hlc:(y::r).length=r.length+1:=rfl
     repeat' ((conv=>whnf);first|(exfalso;omega)|(refine dY5 (l:=pre++((y::r).reverse++x::(M++tl))++post) rfl (fun h=>by cases h) rfl ?_ ?_;focus (constructor<;>omega))|refine cQ9 (by omega) ?_|(refine dX6 (l:=pre++((y::r).reverse++x::(M++tl))++post) rfl (fun h=>by cases h) rfl ?_ ?_;focus (constructor<;>omega))|refine aF (l:=pre++((y::r).reverse++x::(M++tl))++post) (A:=pre++(y::r).reverse) (x:=x) (B:=M++tl++post) (by simp) (by simp;omega) ?_|refine aF (l:=pre++((y::r).reverse++x::(M++tl))++post) (A:=pre++r.reverse) (x:=y) (B:=x::(M++tl++post)) (by simp) (by simp;omega) ?_|refine zc (hc x y hx0 (hp2 y (by simp))) ?_|refine dB8 rfl rfl ?_|refine zg ?_|refine zi ?_|refine za ?_|refine zl (fun hlt=>?_) (fun hlt=>?_)|refine zv ?_)
     ·refine⟨(r,y::M),?_,?_,?_⟩
      ·refine dV ?_ ?_ ?_ ?_
       all_goals repeat' (first|exact trivial|refine And.intro ?_ ?_|with_reducible rfl|exact(fun h=>by cases h)|exact Nat.le_refl _|omega|exact rfl)
       ·show List.set (List.set (List.map rgV (pre++((y::r).reverse++x::(M++tl))++post)) _ (rgV y)) _ (rgV x)=List.map rgV (pre++(r.reverse++x::(y::M++tl))++post)
        rw[show pre++((y::r).reverse++x::(M++tl))++post=(pre++(y::r).reverse)++x::(M++tl++post) by simp,List.map_append,List.map_cons,set_mid (by simp;omega)]
        rw[show(pre++(y::r).reverse:List Rg)=(pre++r.reverse)++[y] by simp,List.map_append,List.map_cons,List.append_assoc,List.map_nil,List.cons_append,List.nil_append,set_mid (by simp;omega)]
        simp
       ·show(pre.length:Int)+(y::r).length-1=pre.length+r.length
        omega
      ·refine⟨by show r.length<=k;omega,fun z hz=>hp2 z (by simp[show z∈r from hz]),?_⟩
       show(insR c x R0).reverse=(insR c x r).reverse++y::M
       rw[hp3];simp[insR,hlt]
      ·show r.length< (y::r).length
       simp
     ·refine⟨k+1,?_,⟨by omega, .inl (by omega)⟩,by omega⟩
      rw[hnew]
      refine dV ?_ ?_ ?_ ?_
      all_goals repeat' (first|exact trivial|refine And.intro ?_ ?_|with_reducible rfl|exact(fun h=>by cases h)|exact Nat.le_refl _|omega|exact rfl)
      ·show List.map rgV (pre++((y::r).reverse++x::(M++tl))++post)=List.map rgV (pre++(insR c x R0).reverse++List.drop (k+1) xs++post)
       rw[hp3,hd']
       simp[insR,show¬c x y<0 by omega]
  ·rw[List.take_of_length_le hkl,List.drop_eq_nil_of_le hkl]
   repeat' ((conv=>whnf);first|(exfalso;omega)|refine zg ?_|refine zl (fun hlt=>?_) (fun hlt=>?_))
   refine cA7 ?_
   conv=>whnf
   refine⟨[],rfl,⟨⟨rfl,rfl,rfl,?_⟩,trivial⟩,rfl⟩
   show List.map rgV (pre++(isR c xs).reverse++[] ++post)=List.map rgV (pre++qA c xs++post)
   simp[qA]
theorem eI2(hc:cF2 g c Q)(xs:List Rg)(hq:∀x∈xs,Q x)(hl:xs.length<=100000):
 SpIO 326 [.own 39 (xs.map rgV),I 0,I xs.length, .fn g []] (.tup []) 39 ((qA c xs).map rgV):=by
 have:=eH7 rfl Tryz.func326 (by kernel_rfl) (by kernel_rfl) (fC7 hc [] xs [] hq (by simp;omega))
 simp only[List.nil_append,List.append_nil,List.length_nil]at this
 rw[show((0:Nat):Int)+(xs.length:Int)=xs.length by omega]at this
 exact this
def Qr(r:Rg):Prop:=r≠ []/\r.length<=1000000
def cR(a b:Rg):Int:=vcmp (a.getD 0 z0) (b.getD 0 z0)
theorem eR1(a b:Rg)(ha:Qr a)(hb:Qr b):Sp 218 [rgV a,rgV b] (I (cR a b)):=by
 refine zsp Tryz.func218 ?_
 have hpa:0<a.length:=List.length_pos_iff.2 ha.1
 have hpb:0<b.length:=List.length_pos_iff.2 hb.1
 repeat' ((conv=>whnf);first|refine aB (l:=a) (by omega) ?_|refine aB (l:=b) (by omega) ?_|refine aU3 (r:=a) (k:=0) rfl hpa ?_|refine aU3 (r:=b) (k:=0) rfl hpb ?_|refine zc (qI (a.getD 0 z0) (b.getD 0 z0)) ?_|refine zg ?_|refine zi ?_|refine zr ?_)
 all_goals conv=>whnf
 all_goals first|exact aG rfl|exact aK rfl|exact aP rfl|exact zt|exact zu
theorem cR_ok:cF2 218 cR Qr:=fun i j hi hj=>eR1 i j hi hj
end Go.Proofs.Led
