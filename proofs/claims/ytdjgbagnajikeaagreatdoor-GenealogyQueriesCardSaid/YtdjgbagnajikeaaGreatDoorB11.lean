/-
  The inventory as a variable: a stock that is discarded.
-/
import Derived.Test.YtdjgbagnajikeaaGreatDoorB10
import Derived.Test.YtdjgbagnajikeaaGreatDoorSI5
set_option linter.unusedVariables false
set_option linter.unusedSimpArgs false
set_option maxRecDepth 100000
set_option maxHeartbeats 4000000
noncomputable section
namespace Go.Proofs.Led
open Go Go.Proofs Go.Ab
def nN{α:Type}(l:List α)(i:Nat):List α:=l.take i++l.drop (i+1)
theorem bK1(l:List aN)(i:Nat)(hi:i<l.length)(hl:l.length<=1000000000):Sp 121 [.own 86 (l.map aQ),I i,I ((i:Int)+1)] (.own 86 ((nN l i).map aQ)):=by
 have h:=dL5 (l.map aQ) i Dk AQ;unfold nN;rw[List.map_append,List.map_take,List.map_drop];exact h
def aX4(s:aJ)(k:Nat)(m:aN):aJ:={stocks:=nN s.stocks k,pieces:=s.pieces,used:=s.used,received:=s.received,scrap:=plus m.isBar s.scrap (gG m)}
theorem cG4(s:aJ)(e:Event)(m:aN)(hs:Gd s)(hf:∃m∈s.stocks,sid m=e.id)(hm:s.stocks[bs sid s.stocks e.id]? =some m)(hp:m.program=aI)(hx:eY m):
 jR T Tryz.prog Tryz.f82 [.box 100000 0,aS e] [stC s] (I 0) [stC (aX4 s (bs sid s.stocks e.id) m)] :=by
 have h1:=find_spec s e.id hs;have hkl:=(List.getElem?_eq_some_iff.1 hm).1
 have hll:(s.stocks.map aQ).length=s.stocks.length:=Ae;have hl:=hs.ls
 have h2:=bK1 s.stocks (bs sid s.stocks e.id) hkl Aa;have h4:=oL m.isBar
 have h5:=vF m hx;unfold aX4;generalize bs sid s.stocks e.id=k at*;generalize (∃m∈s.stocks,sid m=e.id)=P at*;generalize nN s.stocks k=L at*;generalize gG m=z at*;unfold plus;obtain⟨b,sh,br,p⟩:=m;cases b
 ·exact Ij
 ·exact Ij
theorem bM1(s:aJ)(e:Event)(m:aN)(hs:Gd s)(hf:∃m∈s.stocks,sid m=e.id)(hm:s.stocks[bs sid s.stocks e.id]? =some m)(hp:m.program=aI)(hx:eY m):
 SpB 82 [.box 100000 0,aS e] [stC s] (I 0) [stC (aX4 s (bs sid s.stocks e.id) m)] :=
 b_of Tryz.func82 Ac Ac rfl rfl (cG4 s e m hs hf hm hp hx)
theorem cN0(s:aJ)(e:Event)(m:aN)(hs:Gd s)(hf:∃m∈s.stocks,sid m=e.id)(hm:s.stocks[bs sid s.stocks e.id]? =some m)(hp:m.program≠aI):
 jR T Tryz.prog Tryz.f82 [.box 100000 0,aS e] [stC s] (I 27) [bots] :=by
 have h1:=find_spec s e.id hs;have hkl:=(List.getElem?_eq_some_iff.1 hm).1
 have hll:(s.stocks.map aQ).length=s.stocks.length:=Ae;exact KZ
theorem bO0(s:aJ)(e:Event)(m:aN)(hs:Gd s)(hf:∃m∈s.stocks,sid m=e.id)(hm:s.stocks[bs sid s.stocks e.id]? =some m)(hp:m.program≠aI):
 SpB 82 [.box 100000 0,aS e] [stC s] (I 27) [bots] :=
 b_of Tryz.func82 Ac Ac rfl rfl (cN0 s e m hs hf hm hp)
theorem cE2(s:aJ)(e:Event)(hs:Gd s)(hf:¬∃m∈s.stocks,sid m=e.id):
 jR T Tryz.prog Tryz.f82 [.box 100000 0,aS e] [stC s] (I 8) [bots] :=by
 exact Lh
theorem bO2(s:aJ)(e:Event)(hs:Gd s)(hf:¬∃m∈s.stocks,sid m=e.id):
 SpB 82 [.box 100000 0,aS e] [stC s] (I 8) [bots] :=
 b_of Tryz.func82 Ac Ac rfl rfl (cE2 s e hs hf)
def Fits(s:Sh):Prop:=s.outer.length<=9223372036854775807/\s.holes.length<=1000000/\∀h∈s.holes,h.length<=9223372036854775807
theorem Fits.mem{s:Sh}(h:Fits s){r:Rg}(hr:r∈rings s):r.length<=9223372036854775807:=by
 exact Oh
theorem gV.fits{s:Sh}(h:gV s):Fits s:=⟨by have:=h.1;omega,h.2.1,fun r hr=>by have:=h.2.2 r hr;omega⟩
def tN(s:jL):Prop:=Fits s.shape/\s.defects.length<=1000000/\∀d∈s.defects,Fits d
theorem cA2(r:Rg)(hl:r.length<=9223372036854775807):Sp 148 [rgV r] (DB (dM r)):=by
 by_cases h:r.length<=1000000
 ·exact lN r h
 ·have e:DB (dM r)= .lit (.bool false):=congrArg (fun b=>V.lit (.bool b)) (dW.2 (fun q=>by have:=q.2.1;omega))
  rw[e];refine zsp Tryz.func148 ?_;have hll:(r.map vcV).length=r.length:=Ae;exact KP
theorem wQ(s:Sh)(hs:Fits s):Sp 109 [shV s] (DB (bG s)):=by
 refine zsp Tryz.func109 ?_;have hmm:(s.holes.map rgV).length=s.holes.length:=Ae;generalize hP:bG s=P;have hr:P↔bG s:=G7
 unfold bG at hr
 repeat' ((conv=>whnf);first|(exfalso;omega)|refine zc (rQ s) ?_|refine zS ?_|refine zm (fun x hx=>?_)|refine zT ?_ ?_<;>intro _|fail)
 all_goals conv=>whnf
 all_goals first
  |(refine aA (aC ?_);rw[hr];intro h;obtain⟨h1,h2,h3,h4⟩:=h;first|omega|contradiction)
  |skip
 have h6:s.holes.length<=6:=Aa
 refine aM3 (iI s) (vJ s Aa) (vC s) (A:=List Rg) (B:=List Rg) (fun D R=>mkSt [(1, .box 1 0),(2, .box 2 0),(3, .box 3 0),(14, .fn 152 [.fp (shV s).cells])] [(1,(shV s).cells),(2,[.lit (.bool false)]),(3,[I (corners D)])] [])
  (fun k D R=>rings s=D++R/\D.length=k/\∀r∈D,dM r) [] (rings s) ?_ ⟨rfl,rfl,Ae⟩ rfl ?_ ?_
 ·exact zj
 ·rintro k D R it ⟨hp,hk,hD⟩ hit
  subst hk;obtain⟨r,R',rfl,rfl⟩:=aE4 hp hit;have hlen:=aO hp;have hlr:(rings s).length=s.holes.length+1:=Be
  have hrl:r.length<=9223372036854775807:=hs.mem Af;have hc:=zF9 hD
  have hll:(r.map vcV).length=r.length:=Ae;have ec:((corners (D++[r]):Nat):Int)=(corners D:Int)+((r.map vcV).length:Nat):=by rw[aN4,hll];simp
  have hf:=cA2 r hrl;rcases Nat.lt_or_ge 40 r.length with hbig|hsm
  ·have hno:¬dM r:=fun h=>by have:=h.2.1;omega
   repeat' ((conv=>whnf);first|(exfalso;omega)|(exfalso;contradiction)|refine zc hf ?_|refine zS ?_|refine zm (fun x hx=>?_)|refine zT ?_ ?_<;>intro _|fail)
   all_goals conv=>whnf
   refine aA (aC ?_);rw[hr];intro h;exact absurd (h.2.1 r Af) Ad
  ·repeat' ((conv=>whnf);first|(exfalso;omega)|refine zc hf ?_|refine zS ?_|refine zm (fun x hx=>?_)|refine zT ?_ ?_<;>intro _|fail)
   all_goals conv=>whnf
   ·exact IQ
   ·refine aA (aC ?_)
    rw[hr];intro h;exact absurd (h.2.1 r Af) Ad
 ·rintro D R ⟨hp,hk,hD⟩
  have hRn:R=[] :=Hu;subst hRn;rw[List.append_nil]at hp;subst hp;clear hk;have hlr:(rings s).length=s.holes.length+1:=Be
  have hc:=zF9 hD
  repeat' ((conv=>whnf);first|(exfalso;omega)|refine zS ?_|refine zm (fun x hx=>?_)|refine zT ?_ ?_<;>intro _|fail)
  all_goals conv=>whnf
  all_goals first
   |(refine aA (aC ?_);rw[hr];intro h;obtain⟨h1,h2,h3,h4⟩:=h;first|omega|contradiction)
   |skip
  have h40:∀r∈rings s,r.length<=40:=fun r hr=>(hD r hr).2.1;have hsz:gV s:=⟨by have:=h40 s.outer Be;omega,Aa,fun r hr=>by have:=h40 r (by unfold rings;simp[hr]);omega⟩
  clear h40;have h80:corners (rings s)<=80:=Aa;have hr2:P↔qR s.outer [] s.holes:=hr.trans ⟨fun h=>h.2.2.2,fun h=>⟨h6,hD,h80,h⟩⟩
  refine aU (A:=List Rg) (B:=List Rg) (fun D R=>mkSt [(1, .box 1 0),(2, .box 2 0),(26, .sl (s.holes.map rgV)),(27,I s.holes.length),(28,I D.length)] [(1,(shV s).cells),(2,[.lit (.bool false)])] []) (fun D R=>s.holes=D++R/\(P↔qR s.outer D R)) (fun D R=>R.length) [] s.holes ?_ ⟨rfl,hr2⟩ (fun D R hp=>?_)
  ·exact GV
  obtain⟨hp,hP2⟩:=hp
  cases R with
  |nil=>
   have hlen:s.holes.length=D.length:=Af
   repeat' ((conv=>whnf);first|(exfalso;omega)|refine zS ?_|refine zm (fun x hx=>?_)|refine zT ?_ ?_<;>intro _|fail)
   all_goals conv=>whnf
   exact aA (fE (hP2.2 trivial))
  |cons h R=>
   have hlen:=aO hp;have hhl:h.length<=1000000:=hsz.2.2 h Af
   rw[qR]at hP2;unfold cU0 at hP2;have htk:((s.holes.map rgV).take ((D.length:Nat):Int).toNat)=D.map rgV:=by rw[Int.toNat_natCast,hp];simp
   repeat' ((conv=>whnf);first|(exfalso;omega)|refine aF (l:=s.holes) (A:=D) (x:=h) (B:=R) hp Aa ?_|refine zc (tX h s.outer 2 hhl hsz.1) ?_|refine zc (vS h s.outer hhl hsz.1) ?_|refine fU ⟨Aa,Aa,Aa, .inl rfl⟩ ?_|refine zS ?_|refine zm (fun x hx=>?_)|refine zT ?_ ?_<;>intro _|fail)
   all_goals conv=>whnf
   all_goals first
    |(refine aA (aC ?_);rw[hP2];intro h;obtain⟨⟨h1,h2,h3⟩,h4⟩:=h;contradiction)
    |skip
   refine aU (A:=List Rg) (B:=List Rg) (fun E S=>mkSt [(1, .box 1 0),(2, .box 2 0),(6,rgV h),(26, .sl (s.holes.map rgV)),(27,I s.holes.length),(28,I D.length),(48, .sl (List.drop (Int.toNat 0) (List.take ((D.length:Nat):Int).toNat (List.map rgV s.holes)))),(49,I (List.drop (Int.toNat 0) (List.take ((D.length:Nat):Int).toNat (List.map rgV s.holes))).length),(50,I E.length)] [(1,(shV s).cells),(2,[.lit (.bool false)])] []) (fun E S=>D=E++S/\∀k∈E,uV h k/\pR h k 0/\pR k h 0) (fun E S=>S.length) [] D ?_ ⟨rfl,Ae⟩ (fun E S hq=>?_)
   ·exact zj
   obtain⟨hq,hE⟩:=hq;have hX:(List.drop (Int.toNat 0) (List.take ((D.length:Nat):Int).toNat (List.map rgV s.holes)))=D.map rgV:=htk;have hXl:(List.drop (Int.toNat 0) (List.take ((D.length:Nat):Int).toNat (List.map rgV s.holes))).length=D.length:=by rw[hX,List.length_map]
   cases S with
   |nil=>
    have hlen2:D.length=E.length:=AO;have hDE:D=E:=AO
    repeat' ((conv=>whnf);first|(exfalso;omega)|refine zS ?_|refine zm (fun x hx=>?_)|refine zT ?_ ?_<;>intro _|fail)
    all_goals conv=>whnf
    exact Oq
   |cons k S=>
    have hlen2:=aO hq;have hkl:k.length<=1000000:=hsz.2.2 k (by rw[hp,hq];simp)
    repeat' ((conv=>whnf);first|(exfalso;omega)|refine idx_eq (l:=D) (A:=E) (x:=k) (B:=S) hX hq Aa ?_|refine zc (vS h k hhl hkl) ?_|refine zc (tX h k 0 hhl hkl) ?_|refine zc (tX k h 0 hkl hhl) ?_|refine zS ?_|refine zm (fun x hx=>?_)|refine zT ?_ ?_<;>intro _|fail)
    all_goals conv=>whnf
    all_goals first
     |(refine aA (aC ?_);rw[hP2];intro q;have q1:=q.1.2.2 k AO;obtain⟨q2,q3,q4⟩:=q1;contradiction)
     |skip
    exact Oc
theorem aO1(s:Sh)(hs:Fits s):Sp 155 [shV s] (DB (jV s)):=by
 by_cases h:bG s
 ·exact aD5 s (iT h)
 ·have h1:=wQ s hs
  have e1:DB (jV s)= .lit (.bool false):=congrArg (fun b=>V.lit (.bool b)) (dW.2 (fun q=>h q.1));rw[e1];refine zsp Tryz.func155 ?_
  repeat' ((conv=>whnf);first|(exfalso;contradiction)|refine zc h1 ?_|refine zS ?_|refine zm (fun x hx=>?_)|refine zT ?_ ?_<;>intro _|fail)
  all_goals exact zE
theorem cA3(c s:Sh)(hc:bG c)(hs:Fits s):Sp 158 [shV c,shV s] (.tup [DB (lI c s),I (pO c s)]):=by
 by_cases h2:bG s
 ·exact aA6 c s (iT hc) (iT h2)
 ·have m1:=wQ c (iT hc).fits
  have m2:=wQ s hs;have e1:DB (lI c s)= .lit (.bool false):=congrArg (fun b=>V.lit (.bool b)) (dW.2 (fun h=>h2 h.2.1))
  have e2:pO c s=11:=if_neg (fun h=>h2 h.2);rw[e1,e2];refine zsp Tryz.func158 ?_
  repeat' ((conv=>whnf);first|(exfalso;contradiction)|refine zc m1 ?_|refine zc m2 ?_|refine zS ?_|refine zm (fun x hx=>?_)|refine zT ?_ ?_<;>intro _|fail)
  all_goals exact zE
theorem aR2(s:jL)(hs:tN s):Sp 114 [zJ s] (DB (dB s)):=by
 refine zsp Tryz.func114 ?_;obtain⟨hs1,hs2,hs3⟩:=hs;have h1:=aK4 s;have h2:=aI6 s.id s.grade s.heat
 have h3:=aO1 s.shape hs1;by_cases hcan:jV s.shape;rotate_left
 ·have hr:dB s->kZ s.id s.grade s.heat/\0<=s.grain/\s.grain<=2/\jV s.shape:=fun h=>⟨h.1,h.2.1,h.2.2.1,h.2.2.2.1⟩
  generalize dB s=P at*;generalize kZ s.id s.grade s.heat=p1 at*;generalize jV s.shape=p2 at*
  repeat' ((conv=>whnf);first|(exfalso;contradiction)|refine zc h1 ?_|refine zc h2 ?_|refine zc h3 ?_|refine zS ?_|refine zm (fun x hx=>?_)|refine zT ?_ ?_<;>intro _|fail)
  all_goals conv=>whnf
  all_goals exact aA (aC (fun h=>hcan (hr h).2.2.2))
 have hok:=hcan.1;have hsz:=iT hok
 have h4:=aS0 s.shape hsz;have h5:=mJ (boxS s.shape).1.1
 have h6:=mJ (boxS s.shape).1.2;have hr:dB s↔kZ s.id s.grade s.heat/\0<=s.grain/\s.grain<=2/\jV s.shape/\s.defects.length<=6/\dQ (boxS s.shape).1.1/\dQ (boxS s.shape).1.2/\∀d∈s.defects,qQ s.shape d:=Iff.rfl
 have hl:(s.defects.map shV).length=s.defects.length:=Ae;have hdf:∀d,qQ s.shape d↔jV d/\pO s.shape d=0/\lI s.shape d:=fun d=>Iff.rfl
 generalize dB s=P at*;generalize kZ s.id s.grade s.heat=p1 at*;generalize jV s.shape=p2 at*;generalize dQ (boxS s.shape).1.1=p3 at*;generalize dQ (boxS s.shape).1.2=p4 at*
 repeat' ((conv=>whnf);first|(exfalso;omega)|refine zc h1 ?_|refine zc h2 ?_|refine zc h3 ?_|refine zc h4 ?_|refine zc h5 ?_|refine zc h6 ?_|refine zS ?_|refine zm (fun x hx=>?_)|refine zT ?_ ?_<;>intro _|fail)
 all_goals conv=>whnf
 all_goals first
  |exact aA (aC (fun h=>absurd (hr.1 h).1 Ad))
  |exact aA (aC (fun h=>absurd (hr.1 h).2.2.2.1 Ad))
  |exact aA (aC (fun h=>absurd (hr.1 h).2.2.2.2.2.1 Ad))
  |exact aA (aC (fun h=>absurd (hr.1 h).2.2.2.2.2.2.1 Ad))
  |exact aA (aC (fun h=>by have:=(hr.1 h).2.1;have:=(hr.1 h).2.2.1;have:=(hr.1 h).2.2.2.2.1;omega))
  |skip
 have hP:P↔∀d∈s.defects,qQ s.shape d:=⟨fun h=>(hr.1 h).2.2.2.2.2.2.2,fun h=>hr.2 ⟨Ad,Aa,Aa,Ad,Aa,Ad,Ad,h⟩⟩;clear hr;refine aU (A:=List Sh) (B:=List Sh) (fun D R=>mkSt [(1, .box 1 0),(53, .sl (s.defects.map shV)),(54,I s.defects.length),(55,I D.length)] [(1,aA7 s)] []) (fun D R=>s.defects=D++R/\∀d∈D,qQ s.shape d) (fun D R=>R.length) [] s.defects ?_ ⟨rfl,Ae⟩ (fun D R hp=>?_)
 ·exact HY
 obtain⟨hp,hD⟩:=hp
 cases R with
 |nil=>
  have hlen:s.defects.length=D.length:=Af
  repeat' ((conv=>whnf);first|(exfalso;omega)|refine zS ?_|refine zm (fun x hx=>?_)|refine zT ?_ ?_<;>intro _|fail)
  all_goals conv=>whnf
  exact NY
 |cons d R=>
  have hlen:=aO hp;have hdm:d∈s.defects:=Af
  have g1:=cA3 s.shape d hok (hs3 d hdm);have g2:=aO1 d (hs3 d hdm)
  have hq:=hdf d;generalize jV d=q1 at*;generalize pO s.shape d=q2 at*;generalize lI s.shape d=q3 at*
  repeat' ((conv=>whnf);first|(exfalso;omega)|refine aB (l:=s.defects) Aa ?_|refine aF (l:=s.defects) (A:=D) (x:=d) (B:=R) hp Aa ?_|refine zc g1 ?_|refine zc g2 ?_|refine zS ?_|refine zm (fun x hx=>?_)|refine zT ?_ ?_<;>intro _|fail)
  all_goals conv=>whnf
  all_goals first
   |exact aA (aC (fun h=>absurd (hq.1 (hP.1 h d hdm)).1 Ad))
   |exact aA (aC (fun h=>absurd (hq.1 (hP.1 h d hdm)).2.1 Ad))
   |exact aA (aC (fun h=>absurd (hq.1 (hP.1 h d hdm)).2.2 Ad))
   |skip
  exact Oe
theorem bM6(s:jL):Sp 112 [zJ s] (DB (pJ s)):=by
 refine zsp Tryz.func112 ?_;have hr:pJ s↔s.id=0/\s.grade=aI/\s.heat=aI/\s.grain=0/\s.shape.outer.length=0/\s.shape.holes.length=0/\s.defects.length=0:=Iff.rfl;generalize pJ s=P at*;have l1:(s.shape.outer.map vcV).length=s.shape.outer.length:=Ae
 have l2:(s.shape.holes.map rgV).length=s.shape.holes.length:=Ae;have l3:(s.defects.map shV).length=s.defects.length:=Ae
 repeat' ((conv=>whnf);first|refine jI (fun heq=>?_) (fun heq=>?_)|refine zS ?_|refine zm (fun x hx=>?_)|refine zT ?_ ?_<;>intro _|fail)
 all_goals conv=>whnf
 all_goals first
  |exact aA (sK ⟨fun h=>hr.2 ⟨Aa,Ad,Ad,Aa,Aa,Aa,Aa⟩,fun h=>by have:=(hr.1 h).2.2.2.2.2.2;omega⟩)
  |exact aA (aC (fun h=>by have:=(hr.1 h);omega))
  |exact aA (aC (fun h=>absurd (hr.1 h).2.1 Ad))
  |exact aA (aC (fun h=>absurd (hr.1 h).2.2.1 Ad))
theorem aX9{s:jL}(h:dB s):lK s:=⟨iT h.2.2.2.1.1,by have:=h.2.2.2.2.1;omega,fun d hd=>iT (h.2.2.2.2.2.2.2 d hd).1.1⟩
def bU7(c:Made):Prop:=nC c.id/\iM c.part/\1<=c.size
def bR4(r:Rest):Prop:=nC r.id/\(r.box=bx0\/(r.lo=0/\r.hi=0))
def nY(e:Event):Prop:=(∀c∈e.cuts,bU7 c)/\(∀r∈e.rests,bR4 r)/\e.cuts.length<=60/\e.rests.length<=6/\0<=e.scrap/\e.text=aI
structure iY(e:Event):Prop where
 sh:tN e.sheet
 br:e.bar.defects.length<=1000000
 ct:e.cuts.length<=1000000
 rs:e.rests.length<=1000000
theorem bL8(e:Event)(he:iY e):Sp 116 [aS e] (DB (nY e)):=by
 refine zsp Tryz.func116 ?_;have hl1:(e.cuts.map dK).length=e.cuts.length:=Ae;have hl2:(e.rests.map bY).length=e.rests.length:=Ae
 have hc:=he.ct;have hrs:=he.rs
 have hr:nY e↔(∀c∈e.cuts,bU7 c)/\(∀r∈e.rests,bR4 r)/\e.cuts.length<=60/\e.rests.length<=6/\0<=e.scrap/\e.text=aI:=Iff.rfl;generalize nY e=P at*
 repeat' ((conv=>whnf);first|refine zS ?_|fail)
 refine aU (A:=List Made) (B:=List Made) (fun D R=>mkSt [(1, .box 1 0),(8, .sl (e.cuts.map dK)),(9,I e.cuts.length),(10,I D.length)] [(1,iJ e)] []) (fun D R=>e.cuts=D++R/\∀c∈D,bU7 c) (fun D R=>R.length) [] e.cuts ?_ ⟨rfl,Ae⟩ (fun D R hp=>?_)
 ·refine dV ?_ ?_ ?_ ?_
  all_goals repeat' (first|exact trivial|refine And.intro ?_ ?_|with_reducible rfl|exact(fun h=>Ag)|exact Nat.le_refl _|omega|exact rfl)
  all_goals (try rw[hl1])
 obtain⟨hp,hD⟩:=hp
 cases R with
 |cons c R=>
  have hlen:=aO hp;have g1:=aW0 c.id
  have g2:=aG6 c.part;have hcm:c∈e.cuts:=Af
  have hq:bU7 c↔nC c.id/\iM c.part/\1<=c.size:=Iff.rfl;generalize nC c.id=q1 at*;generalize iM c.part=q2 at*
  repeat' ((conv=>whnf);first|(exfalso;omega)|refine zS ?_|refine zT ?_ ?_<;>intro _|fail)
  all_goals conv=>whnf
  all_goals first
   |exact aA (aC (fun h=>absurd (hq.1 ((hr.1 h).1 c hcm)).1 Ad))
   |exact aA (aC (fun h=>absurd (hq.1 ((hr.1 h).1 c hcm)).2.1 Ad))
   |exact aA (aC (fun h=>by have:=(hq.1 ((hr.1 h).1 c hcm)).2.2;omega))
   |skip
  refine⟨(D++[c],R),?_,⟨Af,fun z hz=>?_⟩,Ae⟩
  ·exact Hl
  ·rcases List.mem_append.1 hz with hz|hz
   ·exact hD z hz
   ·rw[List.mem_singleton.1 hz]
    exact hq.2 ⟨Ad,Ad,Aa⟩
 |nil=>
  have hlen:e.cuts.length=D.length:=Af;have hA:∀c∈e.cuts,bU7 c:=fun c h=>hD c FN
  clear hD hp
  repeat' ((conv=>whnf);first|(exfalso;omega)|refine zS ?_|refine zT ?_ ?_<;>intro _|fail)
  refine aU (A:=List Rest) (B:=List Rest) (fun D R=>mkSt [(1, .box 1 0),(31, .sl (e.rests.map bY)),(32,I e.rests.length),(33,I D.length)] [(1,iJ e)] []) (fun D R=>e.rests=D++R/\∀c∈D,bR4 c) (fun D R=>R.length) [] e.rests ?_ ⟨rfl,Ae⟩ (fun D R hp=>?_)
  ·refine dV ?_ ?_ ?_ ?_
   all_goals repeat' (first|exact trivial|refine And.intro ?_ ?_|with_reducible rfl|exact(fun h=>Ag)|exact Nat.le_refl _|omega|exact rfl)
   all_goals (try rw[hl2])
  obtain⟨hp,hD⟩:=hp
  cases R with
  |cons c R=>
   have hlen:=aO hp;have g1:=aW0 c.id
   have hcm:c∈e.rests:=Af;have hq:bR4 c↔nC c.id/\(c.box=bx0\/(c.lo=0/\c.hi=0)):=Iff.rfl
   generalize nC c.id=q1 at*
   repeat' ((conv=>whnf);first|(exfalso;omega)|refine cC5 ?_|refine cA4 (a:=c.box) (b:=bx0) (fun hv=>?_) (fun hv=>?_)|refine zS ?_|refine zT ?_ ?_<;>intro _|fail)
   all_goals conv=>whnf
   all_goals first
    |exact aA (aC (fun h=>absurd (hq.1 ((hr.1 h).2.1 c hcm)).1 Ad))
    |exact aA (aC (fun h=>by rcases(hq.1 ((hr.1 h).2.1 c hcm)).2 with h'|h';exact absurd h' (by assumption);omega))
    |skip
   all_goals refine⟨(D++[c],R),?_,⟨Af,fun z hz=>?_⟩,Ae⟩
   all_goals first
    |(rcases List.mem_append.1 hz with hz|hz
      ·exact hD z hz
      ·rw[List.mem_singleton.1 hz]
       first
        |exact hq.2 ⟨Ad, .inl Ad⟩
        |exact hq.2 ⟨Ad, .inr ⟨Aa,Aa⟩⟩)
    |skip
   all_goals simp only[List.length_append,List.length_singleton]
   ·exact zj
   ·exact zj
  |nil=>
   have hlen2:e.rests.length=D.length:=Af;have hB:∀c∈e.rests,bR4 c:=fun c h=>hD c FN
   clear hD hp
   repeat' ((conv=>whnf);first|(exfalso;omega)|refine zS ?_|refine zT ?_ ?_<;>intro _|fail)
   all_goals conv=>whnf
   all_goals first
    |exact aA (aC (fun h=>by have:=hr.1 h;omega))
    |exact aA (qV ⟨fun h=>hr.2 ⟨hA,hB,Aa,Aa,Aa,h⟩,fun h=>(hr.1 h).2.2.2.2.2⟩)
def iD(e:Event):Prop:=
 ((e.kind=1\/e.kind=2)->e.id=0/\e.text=aI)/\(¬(e.kind=1\/e.kind=2)->pJ e.sheet/\yT e.bar)/\(e.kind≠5->e.cuts.length=0/\e.rests.length=0/\e.scrap=0)/\
 (e.kind=1->yT e.bar/\dB e.sheet)/\(e.kind=2->pJ e.sheet/\fM e.bar)/\(e.kind=3\/e.kind=7->iM e.text)/\(e.kind=4\/e.kind=6\/e.kind=8->e.text=aI)/\
 (e.kind=5->nY e)/\1<=e.kind/\e.kind<=8
theorem aE0(e:Event)(he:iY e):Sp 71 [aS e] (DB (iD e)):=by
 refine zsp Tryz.func71 ?_;have h1:=bM6 e.sheet;have h2:=cV3 e.bar
 have h3:=aR2 e.sheet he.sh;have h4:=qP e.bar he.br
 have h5:=aG6 e.text;have h6:=bL8 e he
 have hl1:(e.cuts.map dK).length=e.cuts.length:=Ae;have hl2:(e.rests.map bY).length=e.rests.length:=Ae
 have hr:iD e↔((e.kind=1\/e.kind=2)->e.id=0/\e.text=aI)/\(¬(e.kind=1\/e.kind=2)->pJ e.sheet/\yT e.bar)/\(e.kind≠5->e.cuts.length=0/\e.rests.length=0/\e.scrap=0)/\
  (e.kind=1->yT e.bar/\dB e.sheet)/\(e.kind=2->pJ e.sheet/\fM e.bar)/\(e.kind=3\/e.kind=7->iM e.text)/\(e.kind=4\/e.kind=6\/e.kind=8->e.text=aI)/\
  (e.kind=5->nY e)/\1<=e.kind/\e.kind<=8:=Iff.rfl
 generalize iD e=P at*;generalize pJ e.sheet=n1 at*;generalize yT e.bar=n2 at*;generalize dB e.sheet=q1 at*;generalize fM e.bar=q2 at*;generalize iM e.text=q3 at*;generalize nY e=q4 at*;have hk:e.kind=1\/e.kind=2\/e.kind=3\/e.kind=4\/e.kind=5\/e.kind=6\/e.kind=7\/e.kind=8\/(e.kind<1\/8<e.kind):=Aa;rcases hk with hk|hk|hk|hk|hk|hk|hk|hk|hk
 ·exact Io
 ·exact Io
 ·exact GU
 ·exact GU
 ·exact GU
 ·exact GU
 ·exact GU
 ·exact GU
 ·exact GU
theorem eqIv(a b c d:Int):eqT T 4 49 [I a,I b] [I c,I d] =some (andB (eqB a c) (andB (eqB b d) true)):=Ac
theorem eqIv_i{a b c d:Int}{K:Bool->Prop}(h:K (andB (eqB a c) (andB (eqB b d) true))):aL1.match_1 (fun _=>Prop) (eqT T 4 49 [I a,I b] [I c,I d]) K (fun _=>False):=by
 rw[eqIv];exact h
def upS(r:Iv)(l:List aN):Iv:=l.foldl (fun r x=>plus x.isBar r (gG x)) r
def upP(r:Iv)(l:List Piece):Iv:=l.foldl (fun r x=>plus x.isBar r x.size) r
def tK(s:aJ):Prop:=upP (upS s.scrap s.stocks) s.pieces=s.received
end Go.Proofs.Led
