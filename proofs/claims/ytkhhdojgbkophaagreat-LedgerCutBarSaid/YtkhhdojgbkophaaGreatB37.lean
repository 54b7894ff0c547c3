/-
  The inventory as a variable: a stock that is discarded.
-/
import Derived.Test.YtkhhdojgbkophaaGreatB35
import Derived.Test.YtkhhdojgbkophaaGreatSI5
set_option linter.unusedVariables false
set_option linter.unusedSimpArgs false
namespace Go.Proofs.Led
open Go Go.Proofs Go.Ab
set_option maxRecDepth 100000
set_option maxHeartbeats 4000000
def nN{α:Type}(l:List α)(i:Nat):List α:=l.take i++l.drop (i+1)
theorem bK1(l:List aN)(i:Nat)(hi:i<l.length)(hl:l.length<=1000000000):Sp 138 [.own 88 (l.map aQ),I i,I ((i:Int)+1)] (.own 88 ((nN l i).map aQ)):=by
 have h:=dL5 (l.map aQ) i (by simpa using hi) (by simpa using hl)
 unfold nN
 rw[List.map_append,List.map_take,List.map_drop]
 exact h
noncomputable def aX4(s:aJ)(k:Nat)(m:aN):aJ:={stocks:=nN s.stocks k,pieces:=s.pieces,used:=s.used,received:=s.received,scrap:=plus m.isBar s.scrap (gG m)}
theorem cG4(s:aJ)(e:Event)(m:aN)(hs:Gd s)(hf:∃m∈s.stocks,sid m=e.id)(hm:s.stocks[bs sid s.stocks e.id]? =some m)(hp:m.program=aI)(hx:eY m):
 jR T Tryz.prog Tryz.f63 [.box 100000 0,aS e] [stC s] (I 0) [stC (aX4 s (bs sid s.stocks e.id) m)] :=by
 have h1:=find_spec s e.id hs
 have hkl:=(List.getElem?_eq_some_iff.1 hm).1
 have hll:(s.stocks.map aQ).length=s.stocks.length:=by simp
 have hl:=hs.ls
 have h2:=bK1 s.stocks (bs sid s.stocks e.id) hkl (by omega)
 have h4:=oL m.isBar
 have h5:=vF m hx
 unfold aX4
 generalize bs sid s.stocks e.id=k at*
 generalize (∃m∈s.stocks,sid m=e.id)=P at*
 generalize nN s.stocks k=L at*
 generalize gG m=z at*
 unfold plus
 obtain⟨b,sh,br,p⟩:=m
 cases b
 ·repeat' ((conv=>whnf);first|(exfalso;contradiction)|refine jI (fun heq=>?_) (fun heq=>?_)|refine zh (h1) [100000] ?_|refine dS rfl rfl (by show 0<=_/\_< ((s.stocks.map aQ).length:Int);omega) ?_|refine gK (l:=s.stocks) hm (by omega) ?_|refine zc h4 ?_|refine zc h5 ?_|refine zc h2 ?_|refine zg ?_|refine zi ?_|refine za ?_|refine zw ?_|refine zn ?_|refine zv ?_|refine zz (fun _=>?_) fun _=>?_|refine zq ?_)
  all_goals conv=>whnf
  all_goals first|exact⟨_,rfl,zc1⟩|exact zc1
 ·repeat' ((conv=>whnf);first|(exfalso;contradiction)|refine jI (fun heq=>?_) (fun heq=>?_)|refine zh (h1) [100000] ?_|refine dS rfl rfl (by show 0<=_/\_< ((s.stocks.map aQ).length:Int);omega) ?_|refine gK (l:=s.stocks) hm (by omega) ?_|refine zc h4 ?_|refine zc h5 ?_|refine zc h2 ?_|refine zg ?_|refine zi ?_|refine za ?_|refine zw ?_|refine zn ?_|refine zv ?_|refine zz (fun _=>?_) fun _=>?_|refine zq ?_)
  all_goals conv=>whnf
  all_goals first|exact⟨_,rfl,zc1⟩|exact zc1
theorem bM1(s:aJ)(e:Event)(m:aN)(hs:Gd s)(hf:∃m∈s.stocks,sid m=e.id)(hm:s.stocks[bs sid s.stocks e.id]? =some m)(hp:m.program=aI)(hx:eY m):
 SpB 63 [.box 100000 0,aS e] [stC s] (I 0) [stC (aX4 s (bs sid s.stocks e.id) m)] :=
 b_of Tryz.func63 (by kernel_rfl) (by kernel_rfl) rfl rfl (cG4 s e m hs hf hm hp hx)
theorem cN0(s:aJ)(e:Event)(m:aN)(hs:Gd s)(hf:∃m∈s.stocks,sid m=e.id)(hm:s.stocks[bs sid s.stocks e.id]? =some m)(hp:m.program≠aI):
 jR T Tryz.prog Tryz.f63 [.box 100000 0,aS e] [stC s] (I 27) [bots] :=by
 have h1:=find_spec s e.id hs
 have hkl:=(List.getElem?_eq_some_iff.1 hm).1
 have hll:(s.stocks.map aQ).length=s.stocks.length:=by simp
 generalize bs sid s.stocks e.id=k at*
 generalize (∃m∈s.stocks,sid m=e.id)=P at*
 repeat' ((conv=>whnf);first|(exfalso;contradiction)|refine jI (fun heq=>?_) (fun heq=>?_)|refine zh (h1) [100000] ?_|refine dS rfl rfl (by show 0<=_/\_< ((s.stocks.map aQ).length:Int);omega) ?_|refine gK (l:=s.stocks) hm (by omega) ?_|refine zg ?_|refine zn ?_|refine zv ?_|refine zz (fun _=>?_) fun _=>?_|refine zq ?_)
 all_goals conv=>whnf
 all_goals first|exact⟨_,rfl,zc1⟩|exact zc1
theorem bO0(s:aJ)(e:Event)(m:aN)(hs:Gd s)(hf:∃m∈s.stocks,sid m=e.id)(hm:s.stocks[bs sid s.stocks e.id]? =some m)(hp:m.program≠aI):
 SpB 63 [.box 100000 0,aS e] [stC s] (I 27) [bots] :=
 b_of Tryz.func63 (by kernel_rfl) (by kernel_rfl) rfl rfl (cN0 s e m hs hf hm hp)
theorem cE2(s:aJ)(e:Event)(hs:Gd s)(hf:¬∃m∈s.stocks,sid m=e.id):
 jR T Tryz.prog Tryz.f63 [.box 100000 0,aS e] [stC s] (I 8) [bots] :=by
 have h1:=find_spec s e.id hs
 generalize bs sid s.stocks e.id=k at*
 generalize (∃m∈s.stocks,sid m=e.id)=P at*
 repeat' ((conv=>whnf);first|(exfalso;contradiction)|refine zh (h1) [100000] ?_|refine zg ?_|refine zn ?_|refine zz (fun _=>?_) fun _=>?_|refine zq ?_)
 all_goals conv=>whnf
 all_goals first|exact⟨_,rfl,zc1⟩|exact zc1
theorem bO2(s:aJ)(e:Event)(hs:Gd s)(hf:¬∃m∈s.stocks,sid m=e.id):
 SpB 63 [.box 100000 0,aS e] [stC s] (I 8) [bots] :=
 b_of Tryz.func63 (by kernel_rfl) (by kernel_rfl) rfl rfl (cE2 s e hs hf)
def Fits(s:Sh):Prop:=s.outer.length<=9223372036854775807/\s.holes.length<=1000000/\∀h∈s.holes,h.length<=9223372036854775807
theorem Fits.mem{s:Sh}(h:Fits s){r:Rg}(hr:r∈rings s):r.length<=9223372036854775807:=by
 rcases List.mem_cons.1 hr with rfl|hr
 ·exact h.1
 ·exact h.2.2 r hr
theorem gV.fits{s:Sh}(h:gV s):Fits s:=⟨by have:=h.1;omega,h.2.1,fun r hr=>by have:=h.2.2 r hr;omega⟩
def tN(s:jL):Prop:=Fits s.shape/\s.defects.length<=1000000/\∀d∈s.defects,Fits d
theorem cA2(r:Rg)(hl:r.length<=9223372036854775807):Sp 211 [rgV r] (DB (dM r)):=by
 by_cases h:r.length<=1000000
 ·exact lN r h
 ·have e:DB (dM r)= .lit (.bool false):=congrArg (fun b=>V.lit (.bool b)) (dW.2 (fun q=>by have:=q.2.1;omega))
  rw[e]
  refine zsp Tryz.func211 ?_
  have hll:(r.map vcV).length=r.length:=by simp
  repeat' ((conv=>whnf);first|(exfalso;omega)|refine zg ?_|refine zz (fun _=>?_) fun _=>?_|refine zr ?_)
  all_goals conv=>whnf
  all_goals first|exact aG rfl|exact aK rfl|exact aP rfl|exact zt|exact zu
theorem wQ(s:Sh)(hs:Fits s):Sp 158 [shV s] (DB (bG s)):=by
 refine zsp Tryz.func158 ?_
 have hmm:(s.holes.map rgV).length=s.holes.length:=by simp
 generalize hP:bG s=P
 have hr:P↔bG s:=by rw[hP]
 unfold bG at hr
 repeat' ((conv=>whnf);first|refine zc (rQ s) ?_|refine zg ?_|refine zz (fun _=>?_) fun _=>?_|refine zr ?_)
 all_goals conv=>whnf
 all_goals first
  |(refine aA (aC ?_);rw[hr];intro h;obtain⟨h1,h2,h3,h4⟩:=h;first|omega|contradiction)
  |skip
 have h6:s.holes.length<=6:=by omega
 refine aM3 (iI s) (vJ s (by omega)) (vC s) (A:=List Rg) (B:=List Rg) (fun D R=>mkSt [(1, .box 1 0),(2, .box 2 0),(3, .box 3 0),(14, .fn 230 [.fp (shV s).cells])] [(1,(shV s).cells),(2,[.lit (.bool false)]),(3,[I (corners D)])] [])
  (fun k D R=>rings s=D++R/\D.length=k/\∀r∈D,dM r) [] (rings s) ?_ ⟨rfl,rfl,by simp⟩ rfl ?_ ?_
 ·exact zj
 ·rintro k D R it ⟨hp,hk,hD⟩ hit
  subst hk
  obtain⟨r,R',rfl,rfl⟩:=aE4 hp hit
  have hlen:=aO hp
  have hlr:(rings s).length=s.holes.length+1:=by unfold rings;simp
  have hrl:r.length<=9223372036854775807:=hs.mem (by rw[hp];simp)
  have hc:=zF hD
  have hll:(r.map vcV).length=r.length:=by simp
  have ec:((corners (D++[r]):Nat):Int)=(corners D:Int)+((r.map vcV).length:Nat):=by rw[aN4,hll];simp
  have hf:=cA2 r hrl
  rcases Nat.lt_or_ge 40 r.length with hbig|hsm
  ·have hno:¬dM r:=fun h=>by have:=h.2.1;omega
   repeat' ((conv=>whnf);first|(exfalso;contradiction)|refine zc hf ?_|refine zg ?_|refine zw ?_|refine zn ?_|refine zz (fun _=>?_) fun _=>?_|refine zr ?_)
   all_goals conv=>whnf
   refine aA (aC ?_)
   rw[hr]
   intro h
   exact absurd (h.2.1 r (by rw[hp];simp)) (by assumption)
  ·repeat' ((conv=>whnf);first|refine zc hf ?_|refine zg ?_|refine za ?_|refine zn ?_|refine zz (fun _=>?_) fun _=>?_|refine zr ?_)
   all_goals conv=>whnf
   ·refine⟨(D++[r],R'),?_,by rw[hp];simp,by simp,fun q hq=>?_⟩
    ·simp only[ec]
     exact zj
    ·rcases List.mem_append.1 hq with hq|hq
     ·exact hD q hq
     ·rw[List.mem_singleton.1 hq];assumption
   ·refine aA (aC ?_)
    rw[hr]
    intro h
    exact absurd (h.2.1 r (by rw[hp];simp)) (by assumption)
 ·rintro D R ⟨hp,hk,hD⟩
  have hRn:R=[] :=by
   have h1:(iI s).length=(rings s).length:=by unfold iI;simp
   have h2:(rings s).length=D.length+R.length:=by rw[hp];simp
   exact List.length_eq_zero_iff.1 (by omega)
  subst hRn
  rw[List.append_nil]at hp
  subst hp
  clear hk
  have hlr:(rings s).length=s.holes.length+1:=by unfold rings;simp
  have hc:=zF hD
  repeat' ((conv=>whnf);first|refine zg ?_|refine zz (fun _=>?_) fun _=>?_|refine zr ?_)
  all_goals conv=>whnf
  all_goals first
   |(refine aA (aC ?_);rw[hr];intro h;obtain⟨h1,h2,h3,h4⟩:=h;first|omega|contradiction)
   |skip
  have h40:∀r∈rings s,r.length<=40:=fun r hr=>(hD r hr).2.1
  have hsz:gV s:=⟨by have:=h40 s.outer (by unfold rings;simp);omega,by omega,fun r hr=>by have:=h40 r (by unfold rings;simp[hr]);omega⟩
  clear h40
  have h80:corners (rings s)<=80:=by omega
  have hr2:P↔qR s.outer [] s.holes:=hr.trans ⟨fun h=>h.2.2.2,fun h=>⟨h6,hD,h80,h⟩⟩
  refine aU (A:=List Rg) (B:=List Rg) (fun D R=>mkSt [(1, .box 1 0),(2, .box 2 0),(26, .sl (s.holes.map rgV)),(27,I s.holes.length),(28,I D.length)] [(1,(shV s).cells),(2,[.lit (.bool false)])] []) (fun D R=>s.holes=D++R/\(P↔qR s.outer D R)) (fun D R=>R.length) [] s.holes ?_ ⟨rfl,hr2⟩ (fun D R hp=>?_)
  ·refine dV ?_ ?_ ?_ ?_
   all_goals repeat' (first|exact trivial|refine And.intro ?_ ?_|with_reducible rfl|exact(fun h=>by cases h)|exact Nat.le_refl _|omega|exact rfl)
   all_goals (try rw[List.length_map])
  obtain⟨hp,hP2⟩:=hp
  cases R with
  |nil=>
   have hlen:s.holes.length=D.length:=by rw[hp];simp
   repeat' ((conv=>whnf);first|(exfalso;omega)|refine zg ?_|refine zz (fun _=>?_) fun _=>?_|refine zr ?_)
   all_goals conv=>whnf
   exact aA (fE (hP2.2 trivial))
  |cons h R=>
   have hlen:=aO hp
   have hhl:h.length<=1000000:=hsz.2.2 h (by rw[hp];simp)
   rw[qR]at hP2
   unfold cU0 at hP2
   have htk:((s.holes.map rgV).take ((D.length:Nat):Int).toNat)=D.map rgV:=by rw[Int.toNat_natCast,hp];simp
   repeat' ((conv=>whnf);first|(exfalso;omega)|refine aF (l:=s.holes) (A:=D) (x:=h) (B:=R) hp (by omega) ?_|refine zc (tX h s.outer 2 hhl hsz.1) ?_|refine zc (vS h s.outer hhl hsz.1) ?_|refine fU ⟨by omega,by omega,by omega, .inl rfl⟩ ?_|refine zg ?_|refine zo ?_|refine zn ?_|refine zz (fun _=>?_) fun _=>?_|refine zr ?_)
   all_goals conv=>whnf
   all_goals first
    |(refine aA (aC ?_);rw[hP2];intro h;obtain⟨⟨h1,h2,h3⟩,h4⟩:=h;contradiction)
    |skip
   refine aU (A:=List Rg) (B:=List Rg) (fun E S=>mkSt [(1, .box 1 0),(2, .box 2 0),(6,rgV h),(26, .sl (s.holes.map rgV)),(27,I s.holes.length),(28,I D.length),(48, .sl (List.drop (Int.toNat 0) (List.take ((D.length:Nat):Int).toNat (List.map rgV s.holes)))),(49,I (List.drop (Int.toNat 0) (List.take ((D.length:Nat):Int).toNat (List.map rgV s.holes))).length),(50,I E.length)] [(1,(shV s).cells),(2,[.lit (.bool false)])] []) (fun E S=>D=E++S/\∀k∈E,uV h k/\pR h k 0/\pR k h 0) (fun E S=>S.length) [] D ?_ ⟨rfl,by simp⟩ (fun E S hq=>?_)
   ·exact zj
   obtain⟨hq,hE⟩:=hq
   have hX:(List.drop (Int.toNat 0) (List.take ((D.length:Nat):Int).toNat (List.map rgV s.holes)))=D.map rgV:=htk
   have hXl:(List.drop (Int.toNat 0) (List.take ((D.length:Nat):Int).toNat (List.map rgV s.holes))).length=D.length:=by rw[hX,List.length_map]
   cases S with
   |nil=>
    have hlen2:D.length=E.length:=by rw[hq];simp
    have hDE:D=E:=by rw[hq];simp
    repeat' ((conv=>whnf);first|(exfalso;omega)|refine zg ?_|refine za ?_|refine zz (fun _=>?_) fun _=>?_)
    all_goals conv=>whnf
    refine⟨(D++[h],R),?_,⟨by rw[hp];simp,?_⟩,by simp⟩
    ·simp only[List.length_append,List.length_singleton]
     exact zj
    ·rw[hP2]
     exact⟨fun q=>q.2,fun q=>⟨⟨by assumption,by assumption,by rw[hDE];exact hE⟩,q⟩⟩
   |cons k S=>
    have hlen2:=aO hq
    have hkl:k.length<=1000000:=hsz.2.2 k (by rw[hp,hq];simp)
    repeat' ((conv=>whnf);first|(exfalso;omega)|refine idx_eq (l:=D) (A:=E) (x:=k) (B:=S) hX hq (by omega) ?_|refine zc (vS h k hhl hkl) ?_|refine zc (tX h k 0 hhl hkl) ?_|refine zc (tX k h 0 hkl hhl) ?_|refine zg ?_|refine za ?_|refine zo ?_|refine zn ?_|refine zz (fun _=>?_) fun _=>?_|refine zr ?_)
    all_goals conv=>whnf
    all_goals first
     |(refine aA (aC ?_);rw[hP2];intro q;have q1:=q.1.2.2 k (by rw[hq];simp);obtain⟨q2,q3,q4⟩:=q1;contradiction)
     |skip
    refine⟨(E++[k],S),?_,⟨by rw[hq];simp,fun z hz=>?_⟩,by simp⟩
    ·simp only[List.length_append,List.length_singleton]
     exact zj
    ·rcases List.mem_append.1 hz with hz|hz
     ·exact hE z hz
     ·rw[List.mem_singleton.1 hz]
      exact⟨by assumption,by assumption,by assumption⟩
theorem aO1(s:Sh)(hs:Fits s):Sp 93 [shV s] (DB (jV s)):=by
 by_cases h:bG s
 ·exact aD5 s (iT h)
 ·have h1:=wQ s hs
  have e1:DB (jV s)= .lit (.bool false):=congrArg (fun b=>V.lit (.bool b)) (dW.2 (fun q=>h q.1))
  rw[e1]
  refine zsp Tryz.func93 ?_
  repeat' ((conv=>whnf);first|(exfalso;contradiction)|refine zc h1 ?_|refine zg ?_|refine zi ?_|refine zz (fun _=>?_) fun _=>?_|refine zr ?_)
  all_goals conv=>whnf
  all_goals first|exact aG rfl|exact aK rfl|exact aP rfl|exact zt|exact zu
theorem cA3(c s:Sh)(hc:bG c)(hs:Fits s):Sp 96 [shV c,shV s] (.tup [DB (lI c s),I (pO c s)]):=by
 by_cases h2:bG s
 ·exact aA6 c s (iT hc) (iT h2)
 ·have m1:=wQ c (iT hc).fits
  have m2:=wQ s hs
  have e1:DB (lI c s)= .lit (.bool false):=congrArg (fun b=>V.lit (.bool b)) (dW.2 (fun h=>h2 h.2.1))
  have e2:pO c s=11:=if_neg (fun h=>h2 h.2)
  rw[e1,e2]
  refine zsp Tryz.func96 ?_
  repeat' ((conv=>whnf);first|(exfalso;contradiction)|refine zc m1 ?_|refine zc m2 ?_|refine zg ?_|refine zn ?_|refine zz (fun _=>?_) fun _=>?_|refine zr ?_)
  all_goals conv=>whnf
  all_goals first|exact aG rfl|exact aK rfl|exact aP rfl|exact zt|exact zu
theorem aR2(s:jL)(hs:tN s):Sp 33 [zJ s] (DB (dB s)):=by
 refine zsp Tryz.func33 ?_
 obtain⟨hs1,hs2,hs3⟩:=hs
 have h1:=aK4 s
 have h2:=aI6 s.id s.grade s.heat
 have h3:=aO1 s.shape hs1
 by_cases hcan:jV s.shape
 rotate_left
 ·have hr:dB s->kZ s.id s.grade s.heat/\0<=s.grain/\s.grain<=2/\jV s.shape:=fun h=>⟨h.1,h.2.1,h.2.2.1,h.2.2.2.1⟩
  generalize dB s=P at*
  generalize kZ s.id s.grade s.heat=p1 at*
  generalize jV s.shape=p2 at*
  repeat' ((conv=>whnf);first|(exfalso;contradiction)|refine zc h1 ?_|refine zc h2 ?_|refine zc h3 ?_|refine zg ?_|refine zn ?_|refine zz (fun _=>?_) fun _=>?_|refine zr ?_)
  all_goals conv=>whnf
  all_goals exact aA (aC (fun h=>hcan (hr h).2.2.2))
 have hok:=hcan.1
 have hsz:=iT hok
 have h4:=aS0 s.shape hsz
 have h5:=mJ (boxS s.shape).1.1
 have h6:=mJ (boxS s.shape).1.2
 have hr:dB s↔kZ s.id s.grade s.heat/\0<=s.grain/\s.grain<=2/\jV s.shape/\s.defects.length<=6/\dQ (boxS s.shape).1.1/\dQ (boxS s.shape).1.2/\∀d∈s.defects,qQ s.shape d:=Iff.rfl
 have hl:(s.defects.map shV).length=s.defects.length:=by simp
 have hdf:∀d,qQ s.shape d↔jV d/\pO s.shape d=0/\lI s.shape d:=fun d=>Iff.rfl
 generalize dB s=P at*
 generalize kZ s.id s.grade s.heat=p1 at*
 generalize jV s.shape=p2 at*
 generalize dQ (boxS s.shape).1.1=p3 at*
 generalize dQ (boxS s.shape).1.2=p4 at*
 repeat' ((conv=>whnf);first|refine zc h1 ?_|refine zc h2 ?_|refine zc h3 ?_|refine zc h4 ?_|refine zc h5 ?_|refine zc h6 ?_|refine zg ?_|refine zn ?_|refine zz (fun _=>?_) fun _=>?_|refine zr ?_)
 all_goals conv=>whnf
 all_goals first
  |exact aA (aC (fun h=>absurd (hr.1 h).1 (by assumption)))
  |exact aA (aC (fun h=>absurd (hr.1 h).2.2.2.1 (by assumption)))
  |exact aA (aC (fun h=>absurd (hr.1 h).2.2.2.2.2.1 (by assumption)))
  |exact aA (aC (fun h=>absurd (hr.1 h).2.2.2.2.2.2.1 (by assumption)))
  |exact aA (aC (fun h=>by have:=(hr.1 h).2.1;have:=(hr.1 h).2.2.1;have:=(hr.1 h).2.2.2.2.1;omega))
  |skip
 have hP:P↔∀d∈s.defects,qQ s.shape d:=⟨fun h=>(hr.1 h).2.2.2.2.2.2.2,fun h=>hr.2 ⟨by assumption,by omega,by omega,by assumption,by omega,by assumption,by assumption,h⟩⟩
 clear hr
 refine aU (A:=List Sh) (B:=List Sh) (fun D R=>mkSt [(1, .box 1 0),(53, .sl (s.defects.map shV)),(54,I s.defects.length),(55,I D.length)] [(1,aA7 s)] []) (fun D R=>s.defects=D++R/\∀d∈D,qQ s.shape d) (fun D R=>R.length) [] s.defects ?_ ⟨rfl,by simp⟩ (fun D R hp=>?_)
 ·refine dV ?_ ?_ ?_ ?_
  all_goals repeat' (first|exact trivial|refine And.intro ?_ ?_|with_reducible rfl|exact(fun h=>by cases h)|exact Nat.le_refl _|omega|exact rfl)
  all_goals (try rw[hl])
 obtain⟨hp,hD⟩:=hp
 cases R with
 |nil=>
  have hlen:s.defects.length=D.length:=by rw[hp];simp
  repeat' ((conv=>whnf);first|(exfalso;omega)|refine zg ?_|refine zz (fun _=>?_) fun _=>?_|refine zr ?_)
  all_goals conv=>whnf
  refine aA (fE (hP.2 fun d h=>?_))
  rw[hp,List.append_nil]at h
  exact hD d h
 |cons d R=>
  have hlen:=aO hp
  have hdm:d∈s.defects:=by rw[hp];simp
  have g1:=cA3 s.shape d hok (hs3 d hdm)
  have g2:=aO1 d (hs3 d hdm)
  have hq:=hdf d
  generalize jV d=q1 at*
  generalize pO s.shape d=q2 at*
  generalize lI s.shape d=q3 at*
  repeat' ((conv=>whnf);first|(exfalso;omega)|refine aB (l:=s.defects) (by omega) ?_|refine aF (l:=s.defects) (A:=D) (x:=d) (B:=R) hp (by omega) ?_|refine zc g1 ?_|refine zc g2 ?_|refine zg ?_|refine za ?_|refine zn ?_|refine zz (fun _=>?_) fun _=>?_|refine zr ?_)
  all_goals conv=>whnf
  all_goals first
   |exact aA (aC (fun h=>absurd (hq.1 (hP.1 h d hdm)).1 (by assumption)))
   |exact aA (aC (fun h=>absurd (hq.1 (hP.1 h d hdm)).2.1 (by assumption)))
   |exact aA (aC (fun h=>absurd (hq.1 (hP.1 h d hdm)).2.2 (by assumption)))
   |skip
  refine⟨(D++[d],R),?_,⟨by rw[hp];simp,fun z hz=>?_⟩,by simp⟩
  ·simp only[List.length_append,List.length_singleton]
   exact zj
  ·rcases List.mem_append.1 hz with hz|hz
   ·exact hD z hz
   ·rw[List.mem_singleton.1 hz]
    exact hq.2 ⟨by assumption,by assumption,by assumption⟩
theorem bM6(s:jL):Sp 74 [zJ s] (DB (pJ s)):=by
 refine zsp Tryz.func74 ?_
 have hr:pJ s↔s.id=0/\s.grade=aI/\s.heat=aI/\s.grain=0/\s.shape.outer.length=0/\s.shape.holes.length=0/\s.defects.length=0:=Iff.rfl
 generalize pJ s=P at*
 have l1:(s.shape.outer.map vcV).length=s.shape.outer.length:=by simp
 have l2:(s.shape.holes.map rgV).length=s.shape.holes.length:=by simp
 have l3:(s.defects.map shV).length=s.defects.length:=by simp
 repeat' ((conv=>whnf);first|refine jI (fun heq=>?_) (fun heq=>?_)|refine zg ?_|refine zz (fun _=>?_) fun _=>?_|refine zr ?_)
 all_goals conv=>whnf
 all_goals first
  |exact aA (sK ⟨fun h=>hr.2 ⟨by omega,by assumption,by assumption,by omega,by omega,by omega,by omega⟩,fun h=>by have:=(hr.1 h).2.2.2.2.2.2;omega⟩)
  |exact aA (aC (fun h=>by have:=(hr.1 h);omega))
  |exact aA (aC (fun h=>absurd (hr.1 h).2.1 (by assumption)))
  |exact aA (aC (fun h=>absurd (hr.1 h).2.2.1 (by assumption)))
theorem aX9{s:jL}(h:dB s):lK s:=⟨iT h.2.2.2.1.1,by have:=h.2.2.2.2.1;omega,fun d hd=>iT (h.2.2.2.2.2.2.2 d hd).1.1⟩
def bU7(c:Made):Prop:=nC c.id/\iM c.part/\1<=c.size
def bR4(r:Rest):Prop:=nC r.id/\(r.box=bx0\/(r.lo=0/\r.hi=0))
def nY(e:Event):Prop:=(∀c∈e.cuts,bU7 c)/\(∀r∈e.rests,bR4 r)/\e.cuts.length<=60/\e.rests.length<=6/\0<=e.scrap/\e.text=aI
structure iY(e:Event):Prop where
 sh:tN e.sheet
 br:e.bar.defects.length<=1000000
 ct:e.cuts.length<=1000000
 rs:e.rests.length<=1000000
theorem bL8(e:Event)(he:iY e):Sp 77 [aS e] (DB (nY e)):=by
 refine zsp Tryz.func77 ?_
 have hl1:(e.cuts.map dK).length=e.cuts.length:=by simp
 have hl2:(e.rests.map bY).length=e.rests.length:=by simp
 have hc:=he.ct
 have hrs:=he.rs
 have hr:nY e↔(∀c∈e.cuts,bU7 c)/\(∀r∈e.rests,bR4 r)/\e.cuts.length<=60/\e.rests.length<=6/\0<=e.scrap/\e.text=aI:=Iff.rfl
 generalize nY e=P at*
 repeat' ((conv=>whnf);first|refine zg ?_)
 refine aU (A:=List Made) (B:=List Made) (fun D R=>mkSt [(1, .box 1 0),(8, .sl (e.cuts.map dK)),(9,I e.cuts.length),(10,I D.length)] [(1,iJ e)] []) (fun D R=>e.cuts=D++R/\∀c∈D,bU7 c) (fun D R=>R.length) [] e.cuts ?_ ⟨rfl,by simp⟩ (fun D R hp=>?_)
 ·refine dV ?_ ?_ ?_ ?_
  all_goals repeat' (first|exact trivial|refine And.intro ?_ ?_|with_reducible rfl|exact(fun h=>by cases h)|exact Nat.le_refl _|omega|exact rfl)
  all_goals (try rw[hl1])
 obtain⟨hp,hD⟩:=hp
 cases R with
 |cons c R=>
  have hlen:=aO hp
  have g1:=aW0 c.id
  have g2:=aG6 c.part
  have hcm:c∈e.cuts:=by rw[hp];simp
  have hq:bU7 c↔nC c.id/\iM c.part/\1<=c.size:=Iff.rfl
  generalize nC c.id=q1 at*
  generalize iM c.part=q2 at*
  repeat' ((conv=>whnf);first|(exfalso;omega)|refine aB (l:=e.cuts) (by omega) ?_|refine aF (l:=e.cuts) (A:=D) (x:=c) (B:=R) hp (by omega) ?_|refine zc g1 ?_|refine zc g2 ?_|refine zg ?_|refine za ?_|refine zn ?_|refine zz (fun _=>?_) fun _=>?_|refine zr ?_)
  all_goals conv=>whnf
  all_goals first
   |exact aA (aC (fun h=>absurd (hq.1 ((hr.1 h).1 c hcm)).1 (by assumption)))
   |exact aA (aC (fun h=>absurd (hq.1 ((hr.1 h).1 c hcm)).2.1 (by assumption)))
   |exact aA (aC (fun h=>by have:=(hq.1 ((hr.1 h).1 c hcm)).2.2;omega))
   |skip
  refine⟨(D++[c],R),?_,⟨by rw[hp];simp,fun z hz=>?_⟩,by simp⟩
  ·simp only[List.length_append,List.length_singleton]
   exact zj
  ·rcases List.mem_append.1 hz with hz|hz
   ·exact hD z hz
   ·rw[List.mem_singleton.1 hz]
    exact hq.2 ⟨by assumption,by assumption,by omega⟩
 |nil=>
  have hlen:e.cuts.length=D.length:=by rw[hp];simp
  have hA:∀c∈e.cuts,bU7 c:=fun c h=>hD c (by rw[hp,List.append_nil]at h;exact h)
  clear hD hp
  repeat' ((conv=>whnf);first|(exfalso;omega)|refine zg ?_|refine zz (fun _=>?_) fun _=>?_)
  refine aU (A:=List Rest) (B:=List Rest) (fun D R=>mkSt [(1, .box 1 0),(31, .sl (e.rests.map bY)),(32,I e.rests.length),(33,I D.length)] [(1,iJ e)] []) (fun D R=>e.rests=D++R/\∀c∈D,bR4 c) (fun D R=>R.length) [] e.rests ?_ ⟨rfl,by simp⟩ (fun D R hp=>?_)
  ·refine dV ?_ ?_ ?_ ?_
   all_goals repeat' (first|exact trivial|refine And.intro ?_ ?_|with_reducible rfl|exact(fun h=>by cases h)|exact Nat.le_refl _|omega|exact rfl)
   all_goals (try rw[hl2])
  obtain⟨hp,hD⟩:=hp
  cases R with
  |cons c R=>
   have hlen:=aO hp
   have g1:=aW0 c.id
   have hcm:c∈e.rests:=by rw[hp];simp
   have hq:bR4 c↔nC c.id/\(c.box=bx0\/(c.lo=0/\c.hi=0)):=Iff.rfl
   generalize nC c.id=q1 at*
   repeat' ((conv=>whnf);first|(exfalso;omega)|refine aB (l:=e.rests) (by omega) ?_|refine aF (l:=e.rests) (A:=D) (x:=c) (B:=R) hp (by omega) ?_|refine cC5 ?_|refine cA4 (a:=c.box) (b:=bx0) (fun hv=>?_) (fun hv=>?_)|refine zc g1 ?_|refine zg ?_|refine za ?_|refine zy ?_|refine zn ?_|refine zz (fun _=>?_) fun _=>?_|refine zr ?_)
   all_goals conv=>whnf
   all_goals first
    |exact aA (aC (fun h=>absurd (hq.1 ((hr.1 h).2.1 c hcm)).1 (by assumption)))
    |exact aA (aC (fun h=>by rcases(hq.1 ((hr.1 h).2.1 c hcm)).2 with h'|h';exact absurd h' (by assumption);omega))
    |skip
   all_goals refine⟨(D++[c],R),?_,⟨by rw[hp];simp,fun z hz=>?_⟩,by simp⟩
   all_goals first
    |(rcases List.mem_append.1 hz with hz|hz
      ·exact hD z hz
      ·rw[List.mem_singleton.1 hz]
       first
        |exact hq.2 ⟨by assumption, .inl (by assumption)⟩
        |exact hq.2 ⟨by assumption, .inr ⟨by omega,by omega⟩⟩)
    |skip
   all_goals simp only[List.length_append,List.length_singleton]
   ·exact zj
   ·exact zj
  |nil=>
   have hlen2:e.rests.length=D.length:=by rw[hp];simp
   have hB:∀c∈e.rests,bR4 c:=fun c h=>hD c (by rw[hp,List.append_nil]at h;exact h)
   clear hD hp
   repeat' ((conv=>whnf);first|(exfalso;omega)|refine zg ?_|refine zz (fun _=>?_) fun _=>?_|refine zr ?_)
   all_goals conv=>whnf
   all_goals first
    |exact aA (aC (fun h=>by have:=hr.1 h;omega))
    |exact aA (qV ⟨fun h=>hr.2 ⟨hA,hB,by omega,by omega,by omega,h⟩,fun h=>(hr.1 h).2.2.2.2.2⟩)
def iD(e:Event):Prop:=
 ((e.kind=1\/e.kind=2)->e.id=0/\e.text=aI)/\(¬(e.kind=1\/e.kind=2)->pJ e.sheet/\yT e.bar)/\(e.kind≠5->e.cuts.length=0/\e.rests.length=0/\e.scrap=0)/\
 (e.kind=1->yT e.bar/\dB e.sheet)/\(e.kind=2->pJ e.sheet/\fM e.bar)/\(e.kind=3\/e.kind=7->iM e.text)/\(e.kind=4\/e.kind=6\/e.kind=8->e.text=aI)/\
 (e.kind=5->nY e)/\1<=e.kind/\e.kind<=8
theorem aE0(e:Event)(he:iY e):Sp 19 [aS e] (DB (iD e)):=by
 refine zsp Tryz.func19 ?_
 have h1:=bM6 e.sheet
 have h2:=cV3 e.bar
 have h3:=aR2 e.sheet he.sh
 have h4:=qP e.bar he.br
 have h5:=aG6 e.text
 have h6:=bL8 e he
 have hl1:(e.cuts.map dK).length=e.cuts.length:=by simp
 have hl2:(e.rests.map bY).length=e.rests.length:=by simp
 have hr:iD e↔((e.kind=1\/e.kind=2)->e.id=0/\e.text=aI)/\(¬(e.kind=1\/e.kind=2)->pJ e.sheet/\yT e.bar)/\(e.kind≠5->e.cuts.length=0/\e.rests.length=0/\e.scrap=0)/\
  (e.kind=1->yT e.bar/\dB e.sheet)/\(e.kind=2->pJ e.sheet/\fM e.bar)/\(e.kind=3\/e.kind=7->iM e.text)/\(e.kind=4\/e.kind=6\/e.kind=8->e.text=aI)/\
  (e.kind=5->nY e)/\1<=e.kind/\e.kind<=8:=Iff.rfl
 generalize iD e=P at*
 generalize pJ e.sheet=n1 at*
 generalize yT e.bar=n2 at*
 generalize dB e.sheet=q1 at*
 generalize fM e.bar=q2 at*
 generalize iM e.text=q3 at*
 generalize nY e=q4 at*
 have hk:e.kind=1\/e.kind=2\/e.kind=3\/e.kind=4\/e.kind=5\/e.kind=6\/e.kind=7\/e.kind=8\/(e.kind<1\/8<e.kind):=by omega
 rcases hk with hk|hk|hk|hk|hk|hk|hk|hk|hk
 ·repeat' ((conv=>whnf);first|(exfalso;omega)|refine jI (fun heq=>?_) (fun heq=>?_)|refine zc h1 ?_|refine zc h2 ?_|refine zc h3 ?_|refine zg ?_|refine zi ?_|refine zn ?_|refine zz (fun _=>?_) fun _=>?_|refine zr ?_)
  all_goals conv=>whnf
  all_goals first
   |exact aA (aC (fun h=>by have:=hr.1 h;grind))
   |exact aA (fQ (by grind))
   |exact aA (qV (by grind))
 ·repeat' ((conv=>whnf);first|(exfalso;omega)|refine jI (fun heq=>?_) (fun heq=>?_)|refine zc h1 ?_|refine zc h2 ?_|refine zc h4 ?_|refine zg ?_|refine zi ?_|refine zn ?_|refine zz (fun _=>?_) fun _=>?_|refine zr ?_)
  all_goals conv=>whnf
  all_goals first
   |exact aA (aC (fun h=>by have:=hr.1 h;grind))
   |exact aA (fQ (by grind))
   |exact aA (qV (by grind))
 ·repeat' ((conv=>whnf);first|(exfalso;omega)|refine zc h1 ?_|refine zc h2 ?_|refine zc h5 ?_|refine zg ?_|refine zi ?_|refine zn ?_|refine zz (fun _=>?_) fun _=>?_|refine zr ?_)
  all_goals conv=>whnf
  all_goals first
   |exact aA (aC (fun h=>by have:=hr.1 h;grind))
   |exact aA (fQ (by grind))
   |exact aA (qV (by grind))
 ·repeat' ((conv=>whnf);first|(exfalso;omega)|refine zc h1 ?_|refine zc h2 ?_|refine zg ?_|refine zi ?_|refine zn ?_|refine zz (fun _=>?_) fun _=>?_|refine zr ?_)
  all_goals conv=>whnf
  all_goals first
   |exact aA (aC (fun h=>by have:=hr.1 h;grind))
   |exact aA (fQ (by grind))
   |exact aA (qV (by grind))
 ·repeat' ((conv=>whnf);first|(exfalso;omega)|refine zc h1 ?_|refine zc h2 ?_|refine zc h6 ?_|refine zg ?_|refine zi ?_|refine zn ?_|refine zz (fun _=>?_) fun _=>?_|refine zr ?_)
  all_goals conv=>whnf
  all_goals first
   |exact aA (aC (fun h=>by have:=hr.1 h;grind))
   |exact aA (fQ (by grind))
   |exact aA (qV (by grind))
 ·repeat' ((conv=>whnf);first|(exfalso;omega)|refine zc h1 ?_|refine zc h2 ?_|refine zg ?_|refine zi ?_|refine zn ?_|refine zz (fun _=>?_) fun _=>?_|refine zr ?_)
  all_goals conv=>whnf
  all_goals first
   |exact aA (aC (fun h=>by have:=hr.1 h;grind))
   |exact aA (fQ (by grind))
   |exact aA (qV (by grind))
 ·repeat' ((conv=>whnf);first|(exfalso;omega)|refine zc h1 ?_|refine zc h2 ?_|refine zc h5 ?_|refine zg ?_|refine zi ?_|refine zn ?_|refine zz (fun _=>?_) fun _=>?_|refine zr ?_)
  all_goals conv=>whnf
  all_goals first
   |exact aA (aC (fun h=>by have:=hr.1 h;grind))
   |exact aA (fQ (by grind))
   |exact aA (qV (by grind))
 ·repeat' ((conv=>whnf);first|(exfalso;omega)|refine zc h1 ?_|refine zc h2 ?_|refine zg ?_|refine zi ?_|refine zn ?_|refine zz (fun _=>?_) fun _=>?_|refine zr ?_)
  all_goals conv=>whnf
  all_goals first
   |exact aA (aC (fun h=>by have:=hr.1 h;grind))
   |exact aA (fQ (by grind))
   |exact aA (qV (by grind))
 ·repeat' ((conv=>whnf);first|(exfalso;omega)|refine zc h1 ?_|refine zc h2 ?_|refine zg ?_|refine zi ?_|refine zn ?_|refine zz (fun _=>?_) fun _=>?_|refine zr ?_)
  all_goals conv=>whnf
  all_goals first
   |exact aA (aC (fun h=>by have:=hr.1 h;grind))
   |exact aA (fQ (by grind))
   |exact aA (qV (by grind))
noncomputable def upS(r:Iv)(l:List aN):Iv:=l.foldl (fun r x=>plus x.isBar r (gG x)) r
def upP(r:Iv)(l:List Piece):Iv:=l.foldl (fun r x=>plus x.isBar r x.size) r
def tK(s:aJ):Prop:=upP (upS s.scrap s.stocks) s.pieces=s.received
theorem eC9(r:Iv)(D:List aN)(x:aN):upS r (D++[x])=plus x.isBar (upS r D) (gG x):=by unfold upS;simp
theorem eL4(r:Iv)(D:List Piece)(x:Piece):upP r (D++[x])=plus x.isBar (upP r D) x.size:=by unfold upP;simp
theorem eS4{a b:Iv}{p:Prop}(h:a=b↔p):andB (eqB a.1 b.1) (andB (eqB a.2 b.2) true)=decB p:=Bool.eq_iff_iff.2 (by rw[dU0,dH];exact h)
theorem bN0(s:aJ)(hl1:s.stocks.length<=1000000)(hl2:s.pieces.length<=1000000)(hz:∀x∈s.stocks,eY x):Sp 24 [invV s] (DB (tK s)):=by
 refine zsp Tryz.func24 ?_
 have hm1:(s.stocks.map aQ).length=s.stocks.length:=by simp
 have hm2:(s.pieces.map aZ).length=s.pieces.length:=by simp
 have hr:upP (upS s.scrap s.stocks) s.pieces=s.received↔tK s:=Iff.rfl
 generalize tK s=P at*
 repeat' ((conv=>whnf);first|refine zg ?_)
 refine aU (A:=List aN) (B:=List aN) (fun D R=>mkSt [(1, .box 1 0),(3, .box 3 0),(11, .sl (s.stocks.map aQ)),(12,I s.stocks.length),(13,I D.length)] [(1,invC s),(3,[I (upS s.scrap D).1,I (upS s.scrap D).2])] []) (fun D R=>s.stocks=D++R) (fun D R=>R.length) [] s.stocks ?_ rfl (fun D R hp=>?_)
 ·refine dV ?_ ?_ ?_ ?_
  all_goals repeat' (first|exact trivial|refine And.intro ?_ ?_|with_reducible rfl|exact(fun h=>by cases h)|exact Nat.le_refl _|omega|exact rfl)
  all_goals (try rw[hm1])
 cases R with
 |cons x R=>
  have hlen:=aO hp
  have g1:=oL x.isBar
  have g2:=vF x (hz x (by rw[hp];simp))
  have hsn:=eC9 s.scrap D x
  have hlD:((D++[x]).length:Int)=(D.length:Int)+1:=by simp
  generalize upS s.scrap D=r at*
  generalize gG x=z at*
  unfold plus at hsn
  obtain⟨b,sh,br,p⟩:=x
  cases b
  all_goals simp only[if_true,Bool.false_eq_true,if_false]at hsn
  ·repeat' ((conv=>whnf);first|(exfalso;omega)|refine aB (l:=s.stocks) (by omega) ?_|refine aF (l:=s.stocks) (A:=D) (x:=⟨false,sh,br,p⟩) (B:=R) hp (by omega) ?_|refine zc g1 ?_|refine zc g2 ?_|refine zg ?_|refine zi ?_|refine za ?_|refine zw ?_|refine zz (fun _=>?_) fun _=>?_)
   all_goals conv=>whnf
   refine⟨(D++[⟨false,sh,br,p⟩],R),?_,by rw[hp];simp,by simp⟩
   simp only[hsn,List.length_append,List.length_singleton]
   exact zj
  ·repeat' ((conv=>whnf);first|(exfalso;omega)|refine aB (l:=s.stocks) (by omega) ?_|refine aF (l:=s.stocks) (A:=D) (x:=⟨true,sh,br,p⟩) (B:=R) hp (by omega) ?_|refine zc g1 ?_|refine zc g2 ?_|refine zg ?_|refine zi ?_|refine za ?_|refine zw ?_|refine zz (fun _=>?_) fun _=>?_)
   all_goals conv=>whnf
   refine⟨(D++[⟨true,sh,br,p⟩],R),?_,by rw[hp];simp,by simp⟩
   simp only[hsn,List.length_append,List.length_singleton]
   exact zj
 |nil=>
  have hlen:s.stocks.length=D.length:=by rw[hp];simp
  have e:s.stocks=D:=by rw[hp];simp
  rw[e]at hr
  generalize upS s.scrap D=r0 at*
  repeat' ((conv=>whnf);first|(exfalso;omega)|refine zg ?_|refine zz (fun _=>?_) fun _=>?_)
  clear hp
  refine aU (A:=List Piece) (B:=List Piece) (fun D R=>mkSt [(1, .box 1 0),(3, .box 3 0),(28, .sl (s.pieces.map aZ)),(29,I s.pieces.length),(30,I D.length)] [(1,invC s),(3,[I (upP r0 D).1,I (upP r0 D).2])] []) (fun D R=>s.pieces=D++R) (fun D R=>R.length) [] s.pieces ?_ rfl (fun D R hp=>?_)
  ·refine dV ?_ ?_ ?_ ?_
   all_goals repeat' (first|exact trivial|refine And.intro ?_ ?_|with_reducible rfl|exact(fun h=>by cases h)|exact Nat.le_refl _|omega|exact rfl)
   all_goals (try rw[hm2])
  cases R with
  |cons x R=>
   have hlen2:=aO hp
   have g1:=oL x.isBar
   have hsn:=eL4 r0 D x
   have hlD:((D++[x]).length:Int)=(D.length:Int)+1:=by simp
   generalize upP r0 D=r at*
   unfold plus at hsn
   obtain⟨i1,i2,i3,i4,i5,i6,b,i8,i9⟩:=x
   cases b
   all_goals simp only[if_true,Bool.false_eq_true,if_false]at hsn
   ·repeat' ((conv=>whnf);first|(exfalso;omega)|refine aB (l:=s.pieces) (by omega) ?_|refine aF (l:=s.pieces) (A:=D) (x:=⟨i1,i2,i3,i4,i5,i6,false,i8,i9⟩) (B:=R) hp (by omega) ?_|refine zc g1 ?_|refine zg ?_|refine zi ?_|refine za ?_|refine zw ?_|refine zz (fun _=>?_) fun _=>?_)
    all_goals conv=>whnf
    refine⟨(D++[⟨i1,i2,i3,i4,i5,i6,false,i8,i9⟩],R),?_,by rw[hp];simp,by simp⟩
    simp only[hsn,List.length_append,List.length_singleton]
    exact zj
   ·repeat' ((conv=>whnf);first|(exfalso;omega)|refine aB (l:=s.pieces) (by omega) ?_|refine aF (l:=s.pieces) (A:=D) (x:=⟨i1,i2,i3,i4,i5,i6,true,i8,i9⟩) (B:=R) hp (by omega) ?_|refine zc g1 ?_|refine zg ?_|refine zi ?_|refine za ?_|refine zw ?_|refine zz (fun _=>?_) fun _=>?_)
    all_goals conv=>whnf
    refine⟨(D++[⟨i1,i2,i3,i4,i5,i6,true,i8,i9⟩],R),?_,by rw[hp];simp,by simp⟩
    simp only[hsn,List.length_append,List.length_singleton]
    exact zj
  |nil=>
   have hlen2:s.pieces.length=D.length:=by rw[hp];simp
   have e2:s.pieces=D:=by rw[hp];simp
   rw[e2]at hr
   generalize upP r0 D=r1 at*
   repeat' ((conv=>whnf);first|(exfalso;omega)|refine zg ?_|refine zy ?_|refine zz (fun _=>?_) fun _=>?_|refine zr ?_)
   all_goals conv=>whnf
   all_goals exact aA (eS4 hr)
end Go.Proofs.Led
