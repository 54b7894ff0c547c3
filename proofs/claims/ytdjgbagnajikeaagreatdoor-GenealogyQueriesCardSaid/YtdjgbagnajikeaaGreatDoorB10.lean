/-
  The inventory as a variable: IDs that become used.
-/
import Derived.Test.YtdjgbagnajikeaaGreatDoorB9
set_option linter.unusedVariables false
set_option linter.unusedSimpArgs false
set_option maxRecDepth 100000
set_option maxHeartbeats 4000000
noncomputable section
namespace Go.Proofs.Led
open Go Go.Proofs Go.Ab
theorem fH{α:Type}{l:List α}{i:Nat}{x y:α}:y∈putAt l i x↔y=x\/y∈l:=by
 unfold putAt;rw[List.mem_append,List.mem_cons];constructor
 ·rintro(h|h|h)
  ·exact .inr (List.mem_of_mem_take h)
  ·exact .inl h
  ·exact .inr (List.mem_of_mem_drop h)
 ·rintro(h|h)
  ·exact .inr (.inl h)
  ·rw[<-List.take_append_drop i l,List.mem_append]at h
   rcases h with h|h
   ·exact .inl h
   ·exact .inr (.inr h)
theorem mQ{α:Type}{l:List α}{i:Nat}{x:α}:(putAt l i x).length=l.length+1:=by
 unfold putAt;rw[List.length_append,List.length_cons,List.length_take,List.length_drop];omega
theorem yR{α:Type}{key:α->Int}{x:α}:∀ {l:List α},(l.map key).Pairwise (·<·)->(∀m∈l,key m≠key x)->((putAt l (bs key l (key x)) x).map key).Pairwise (·<·)
 | [],_,_=>by simp[putAt]
 |y::r,hs,hx=>by
  rw[List.map_cons,List.pairwise_cons]at hs;obtain⟨h1,h2⟩:=hs;have hyx:=hx y Ae;by_cases h:key y<key x
  ·have e:bs key (y::r) (key x)=bs key r (key x)+1:=by
    exact Ov
   have ih:=yR h2 (fun m hm=>hx m (by simp[hm]))
   rw[e];show List.Pairwise _ (key y::(putAt r (bs key r (key x)) x).map key);rw[List.pairwise_cons];refine⟨fun z hz=>?_,ih⟩;obtain⟨m,hm,rfl⟩:=List.mem_map.1 hz;rcases fH.1 hm with rfl|hm
   ·exact h
   ·exact h1 _ (List.mem_map_of_mem hm)
  ·have e:bs key (y::r) (key x)=0:=by
    unfold bs;rw[List.takeWhile_cons_of_neg D8];rfl
   rw[e];show List.Pairwise _ (key x::key y::r.map key);rw[List.pairwise_cons,List.pairwise_cons];refine⟨fun z hz=>?_,h1,h2⟩;rcases List.mem_cons.1 hz with rfl|hz
   ·omega
   ·have:=h1 z hz
    omega
def putN(l:List Int)(n:Int):List Int:=putAt l (bs id l n) n
def cO(used ids:List Int):List Int:=ids.foldl putN used
def dP:List Int->List Int->Prop
 |_,[] =>True
 |used,n::r=>n∉used/\dP (putN used n) r
theorem rF{l:List Int}{n:Int}(hs:(l.map id).Pairwise (·<·))(hn:n∉l):((putN l n).map id).Pairwise (·<·):=
 yR (key:=id) (x:=n) hs (fun m hm e=>hn (by rw[<-show m=n from e];exact hm))
theorem aW4(used D:List Int)(n:Int):cO used (D++[n])=putN (cO used D) n:=by unfold cO;simp
def stB(s:aJ)(g:Nat):List V:=[.arr 100000 0, .arr 100001 0, .arr 100002 g,I s.received.1,I s.received.2,I s.scrap.1,I s.scrap.2]
def stA(s:aJ)(used:List Int)(g:Nat):List (Nat×AE):=[(100000,⟨0, .own,86,s.stocks.map aQ⟩),(100001,⟨0, .own,71,s.pieces.map aZ⟩),(100002,⟨g, .own,3,used.map I⟩)]
abbrev bots:List V:=[.bot, .bot, .bot, .bot, .bot, .bot, .bot]
theorem dR8(s:aJ)(ids:List Int)(hs:Gd s)(hl:s.used.length+ids.length<=1000000)(hok:dP s.used ids):jR T Tryz.prog Tryz.f119 [.box 100000 0, .sl (ids.map I)] [stC s] (I 0) [stC {s with used:=cO s.used ids}] :=by
 have hll:(ids.map I).length=ids.length:=Ae
 repeat' ((conv=>whnf);first|refine zS ?_|fail)
 refine aU (A:=List Int) (B:=List Int) (fun D R=>mkSt [(0, .box 100000 0),(9, .sl (ids.map I)),(10,I ids.length),(11,I D.length)] [(100000,stB s D.length)] (stA s (cO s.used D) D.length))
  (fun D R=>ids=D++R/\((cO s.used D).map id).Pairwise (·<·)/\(cO s.used D).length=s.used.length+D.length/\(dP s.used ids↔dP (cO s.used D) R)) (fun D R=>R.length) [] ids ?_ ⟨rfl,hs.su,rfl,Iff.rfl⟩ (fun D R hp=>?_)
 ·exact IB
 obtain⟨hp,hps,hpl,hpo⟩:=hp
 cases R with
 |nil=>
  have hlen:ids.length=D.length:=Af;have e:ids=D:=Af
  rw[e];rw[e]at hlen hll;exact MJ
 |cons n R=>
  have hlen:=aO hp;have h1:=cQ0 n (cO s.used D) Gp hps
  have h2:=bP5 (cO s.used D) (bs id (cO s.used D) n) n (bQ8 _ _ _) Gp;have hsn:=aW4 s.used D n
  have hps2:=fun h=>rF (n:=n) hps h;have hlp:(putN (cO s.used D) n).length=(cO s.used D).length+1:=mQ
  have hq:dP (cO s.used D) (n::R)↔n∉cO s.used D/\dP (putN (cO s.used D) n) R:=Iff.rfl;have hmm:(∃m∈cO s.used D,m=n)↔n∈cO s.used D:=⟨fun⟨m,h,e⟩=>e▸h,fun h=>⟨n,h,rfl⟩⟩
  have hlD:((D++[n]).length:Int)=(D.length:Int)+1:=Ae;generalize cO s.used D=U at*;have hpu:putN U n=putAt U (bs id U n) n:=rfl
  rw[<-hpu]at h2;generalize bs id U n=k at*;generalize putN U n=U' at*;generalize (∃m∈U,m=n)=P at*
  repeat' ((conv=>whnf);first|(exfalso;omega)|(refine aS5 (h1) true ?_ rfl ?_;focus ((repeat' (first|exact trivial|refine And.intro ?_ ?_|with_reducible rfl|exact(fun h=>Ag)|exact rfl));done))|refine zh (xX h2) [] ?_|refine zS ?_|refine zT ?_ ?_<;>intro _|fail)
  all_goals conv=>whnf
  ·exact absurd (hmm.1 Ad) (hq.1 (hpo.1 hok)).1
  all_goals refine⟨(D++[n],R),?_,⟨Af,CY,CU,BJ⟩,Ae⟩
  exact Om
theorem aT7(s:aJ)(ids:List Int)(hs:Gd s)(hl:s.used.length+ids.length<=1000000)(hok:dP s.used ids):SpB 119 [.box 100000 0, .sl (ids.map I)] [stC s] (I 0) [stC {s with used:=cO s.used ids}] :=
 b_of Tryz.func119 Ac Ac rfl rfl (dR8 s ids hs hl hok)
theorem dN4(s:aJ)(ids:List Int)(hs:Gd s)(hl:s.used.length+ids.length<=1000000)(hok:¬dP s.used ids):jR T Tryz.prog Tryz.f119 [.box 100000 0, .sl (ids.map I)] [stC s] (I 7) [bots] :=by
 have hll:(ids.map I).length=ids.length:=Ae
 repeat' ((conv=>whnf);first|refine zS ?_|fail)
 refine aU (A:=List Int) (B:=List Int) (fun D R=>mkSt [(0, .box 100000 0),(9, .sl (ids.map I)),(10,I ids.length),(11,I D.length)] [(100000,stB s D.length)] (stA s (cO s.used D) D.length))
  (fun D R=>ids=D++R/\((cO s.used D).map id).Pairwise (·<·)/\(cO s.used D).length=s.used.length+D.length/\(dP s.used ids↔dP (cO s.used D) R)) (fun D R=>R.length) [] ids ?_ ⟨rfl,hs.su,rfl,Iff.rfl⟩ (fun D R hp=>?_)
 ·exact IB
 obtain⟨hp,hps,hpl,hpo⟩:=hp
 cases R with
 |nil=>
  have hlen:ids.length=D.length:=Af;have e:ids=D:=Af
  exact absurd (hpo.2 trivial) hok
 |cons n R=>
  have hlen:=aO hp;have h1:=cQ0 n (cO s.used D) Gp hps
  have h2:=bP5 (cO s.used D) (bs id (cO s.used D) n) n (bQ8 _ _ _) Gp;have hsn:=aW4 s.used D n
  have hps2:=fun h=>rF (n:=n) hps h;have hlp:(putN (cO s.used D) n).length=(cO s.used D).length+1:=mQ
  have hq:dP (cO s.used D) (n::R)↔n∉cO s.used D/\dP (putN (cO s.used D) n) R:=Iff.rfl;have hmm:(∃m∈cO s.used D,m=n)↔n∈cO s.used D:=⟨fun⟨m,h,e⟩=>e▸h,fun h=>⟨n,h,rfl⟩⟩
  have hlD:((D++[n]).length:Int)=(D.length:Int)+1:=Ae;generalize cO s.used D=U at*;have hpu:putN U n=putAt U (bs id U n) n:=rfl
  rw[<-hpu]at h2;generalize bs id U n=k at*;generalize putN U n=U' at*;generalize (∃m∈U,m=n)=P at*
  repeat' ((conv=>whnf);first|(exfalso;omega)|(refine aS5 (h1) true ?_ rfl ?_;focus ((repeat' (first|exact trivial|refine And.intro ?_ ?_|with_reducible rfl|exact(fun h=>Ag)|exact rfl));done))|refine zh (xX h2) [] ?_|refine zS ?_|refine zT ?_ ?_<;>intro _|fail)
  all_goals conv=>whnf
  ·skip
   all_goals conv=>whnf
   all_goals first|exact⟨_,rfl,zc1⟩|exact zc1
  all_goals refine⟨(D++[n],R),?_,⟨Af,CY,CU,BJ⟩,Ae⟩
  exact Om
theorem aU4(s:aJ)(ids:List Int)(hs:Gd s)(hl:s.used.length+ids.length<=1000000)(hok:¬dP s.used ids):SpB 119 [.box 100000 0, .sl (ids.map I)] [stC s] (I 7) [bots] :=
 b_of Tryz.func119 Ac Ac rfl rfl (dN4 s ids hs hl hok)
theorem aB8{α:Type}{key:α->Int}{t:Int}:∀ {l:List α},(l.map key).Pairwise (·<·)->(∃y∈l,key y=t)->∃m,l[bs key l t]? =some m/\key m=t
 | [],_,⟨y,hy,_⟩=>by cases hy
 |x::r,hs,⟨y,hy,e⟩=>by
  rw[List.map_cons,List.pairwise_cons]at hs;obtain⟨h1,h2⟩:=hs;by_cases h:key x<t
  ·have eb:bs key (x::r) t=bs key r t+1:=by
    exact Ov
   rcases List.mem_cons.1 hy with rfl|hy
   ·omega
   ·obtain⟨m,hm,e2⟩:=aB8 h2 ⟨y,hy,e⟩
    exact⟨m,by rw[eb];exact hm,e2⟩
  ·have eb:bs key (x::r) t=0:=by
    unfold bs;rw[List.takeWhile_cons_of_neg D8];rfl
   rcases List.mem_cons.1 hy with rfl|hy
   ·exact⟨y,by rw[eb];rfl,e⟩
   ·have:=h1 _ (List.mem_map_of_mem hy)
    omega
def prog(x:aN)(p:ByteArray):aN:={x with program:=p}
def setK(s:aJ)(k:Nat)(x:aN):aJ:={s with stocks:=s.stocks.set k x}
theorem cP1(s:aJ)(k:Nat)(x:aN):stC (setK s k x)=[.own 86 ((s.stocks.map aQ).set ((k:Int)).toNat (aQ x)), .own 71 (s.pieces.map aZ), .own 3 (s.used.map I),I s.received.1,I s.received.2,I s.scrap.1,I s.scrap.2] :=by
 unfold stC setK;rw[Int.toNat_natCast,List.map_set]
theorem cH5(s:aJ)(e:Event)(m:aN)(hs:Gd s)(hf:∃m∈s.stocks,sid m=e.id)(hm:s.stocks[bs sid s.stocks e.id]? =some m)(hp:m.program=aI):
 jR T Tryz.prog Tryz.f77 [.box 100000 0,aS e] [stC s] (I 0) [stC (setK s (bs sid s.stocks e.id) (prog m e.text))] :=by
 exact Lp
theorem bM2(s:aJ)(e:Event)(m:aN)(hs:Gd s)(hf:∃m∈s.stocks,sid m=e.id)(hm:s.stocks[bs sid s.stocks e.id]? =some m)(hp:m.program=aI):
 SpB 77 [.box 100000 0,aS e] [stC s] (I 0) [stC (setK s (bs sid s.stocks e.id) (prog m e.text))] :=
 b_of Tryz.func77 Ac Ac rfl rfl (cH5 s e m hs hf hm hp)
theorem cM4(s:aJ)(e:Event)(m:aN)(hs:Gd s)(hf:∃m∈s.stocks,sid m=e.id)(hm:s.stocks[bs sid s.stocks e.id]? =some m)(hp:¬(m.program=aI)):
 jR T Tryz.prog Tryz.f77 [.box 100000 0,aS e] [stC s] (I 27) [bots] :=by
 have h1:=find_spec s e.id hs;have hkl:=(List.getElem?_eq_some_iff.1 hm).1
 have hll:(s.stocks.map aQ).length=s.stocks.length:=Ae;have hl:=hs.ls
 exact KZ
theorem bM0(s:aJ)(e:Event)(m:aN)(hs:Gd s)(hf:∃m∈s.stocks,sid m=e.id)(hm:s.stocks[bs sid s.stocks e.id]? =some m)(hp:¬(m.program=aI)):
 SpB 77 [.box 100000 0,aS e] [stC s] (I 27) [bots] :=
 b_of Tryz.func77 Ac Ac rfl rfl (cM4 s e m hs hf hm hp)
theorem cI5(s:aJ)(e:Event)(hs:Gd s)(hf:¬∃m∈s.stocks,sid m=e.id):
 jR T Tryz.prog Tryz.f77 [.box 100000 0,aS e] [stC s] (I 8) [bots] :=by
 exact Lh
theorem bN7(s:aJ)(e:Event)(hs:Gd s)(hf:¬∃m∈s.stocks,sid m=e.id):
 SpB 77 [.box 100000 0,aS e] [stC s] (I 8) [bots] :=
 b_of Tryz.func77 Ac Ac rfl rfl (cI5 s e hs hf)
theorem cR7(s:aJ)(e:Event)(m:aN)(hs:Gd s)(hf:∃m∈s.stocks,sid m=e.id)(hm:s.stocks[bs sid s.stocks e.id]? =some m)(hp:m.program≠aI):
 jR T Tryz.prog Tryz.f78 [.box 100000 0,aS e] [stC s] (I 0) [stC (setK s (bs sid s.stocks e.id) (prog m aI))] :=by
 exact Lp
theorem bZ5(s:aJ)(e:Event)(m:aN)(hs:Gd s)(hf:∃m∈s.stocks,sid m=e.id)(hm:s.stocks[bs sid s.stocks e.id]? =some m)(hp:m.program≠aI):
 SpB 78 [.box 100000 0,aS e] [stC s] (I 0) [stC (setK s (bs sid s.stocks e.id) (prog m aI))] :=
 b_of Tryz.func78 Ac Ac rfl rfl (cR7 s e m hs hf hm hp)
theorem cX3(s:aJ)(e:Event)(m:aN)(hs:Gd s)(hf:∃m∈s.stocks,sid m=e.id)(hm:s.stocks[bs sid s.stocks e.id]? =some m)(hp:¬(m.program≠aI)):
 jR T Tryz.prog Tryz.f78 [.box 100000 0,aS e] [stC s] (I 10) [bots] :=by
 have h1:=find_spec s e.id hs;have hkl:=(List.getElem?_eq_some_iff.1 hm).1
 have hll:(s.stocks.map aQ).length=s.stocks.length:=Ae;have hl:=hs.ls
 exact KZ
theorem cB5(s:aJ)(e:Event)(m:aN)(hs:Gd s)(hf:∃m∈s.stocks,sid m=e.id)(hm:s.stocks[bs sid s.stocks e.id]? =some m)(hp:¬(m.program≠aI)):
 SpB 78 [.box 100000 0,aS e] [stC s] (I 10) [bots] :=
 b_of Tryz.func78 Ac Ac rfl rfl (cX3 s e m hs hf hm hp)
theorem cQ4(s:aJ)(e:Event)(hs:Gd s)(hf:¬∃m∈s.stocks,sid m=e.id):
 jR T Tryz.prog Tryz.f78 [.box 100000 0,aS e] [stC s] (I 8) [bots] :=by
 exact Lh
theorem cA0(s:aJ)(e:Event)(hs:Gd s)(hf:¬∃m∈s.stocks,sid m=e.id):
 SpB 78 [.box 100000 0,aS e] [stC s] (I 8) [bots] :=
 b_of Tryz.func78 Ac Ac rfl rfl (cQ4 s e hs hf)
theorem cV1{l:List V}{i j:Nat}{v:V}{K:V->Prop}(h:j=i)(hi:i<l.length)(hk:K v):idx (l.set i v) j K:=by
 subst h;exact dE3 _ (by rw[List.getElem?_set_self hi]) hk
def setP(s:aJ)(k:Nat)(x:Piece):aJ:={s with pieces:=s.pieces.set k x}
theorem eI0(s:aJ)(k:Nat)(x y:Piece):stC (setP s k x)=[.own 86 (s.stocks.map aQ), .own 71 (((s.pieces.map aZ).set ((k:Int)).toNat (aZ y)).set ((k:Int)).toNat (aZ x)), .own 3 (s.used.map I),I s.received.1,I s.received.2,I s.scrap.1,I s.scrap.2] :=by
 unfold stC setP;rw[Int.toNat_natCast,List.set_set,List.map_set]
def marked(m:Piece)(st:Int)(o:ByteArray):Piece:={m with status:=st,order:=o}
theorem dU8(s:aJ)(n st:Int)(o:ByteArray)(m:Piece)(hs:Gd s)(hf:∃m∈s.pieces,m.id=n)(hm:s.pieces[bs Piece.id s.pieces n]? =some m)(hp:m.status=1):
 jR T Tryz.prog Tryz.f126 [.box 100000 0,I n,I st,S o] [stC s] (I 0) [stC (setP s (bs Piece.id s.pieces n) (marked m st o))] :=by
 have h1:=uQ s n hs;have hkl:=(List.getElem?_eq_some_iff.1 hm).1
 have hll:(s.pieces.map aZ).length=s.pieces.length:=Ae;have hl:=hs.lp
 generalize bs Piece.id s.pieces n=k at*;generalize (∃m∈s.pieces,m.id=n)=P at*;rw[eI0 s k (marked m st o) {m with status:=st}]
 repeat' ((conv=>whnf);first|(exfalso;contradiction)|refine zh (h1) [100000] ?_|refine dS rfl rfl DR ?_|refine dS rfl rfl (by refine⟨by omega,?_⟩;show _< ((List.set (s.pieces.map aZ) _ _).length:Int);rw[List.length_set];omega) ?_|refine dB8 rfl rfl ?_|refine cV1 rfl (by rw[hll];omega) ?_|refine zS ?_|refine zT ?_ ?_<;>intro _|fail)
 all_goals conv=>whnf
 all_goals first|exact⟨_,rfl,zc1⟩|exact zc1
theorem cU5(s:aJ)(n st:Int)(o:ByteArray)(m:Piece)(hs:Gd s)(hf:∃m∈s.pieces,m.id=n)(hm:s.pieces[bs Piece.id s.pieces n]? =some m)(hp:m.status=1):
 SpB 126 [.box 100000 0,I n,I st,S o] [stC s] (I 0) [stC (setP s (bs Piece.id s.pieces n) (marked m st o))] :=
 b_of Tryz.func126 Ac Ac rfl rfl (dU8 s n st o m hs hf hm hp)
theorem eE6(s:aJ)(n st:Int)(o:ByteArray)(m:Piece)(hs:Gd s)(hf:∃m∈s.pieces,m.id=n)(hm:s.pieces[bs Piece.id s.pieces n]? =some m)(hp:¬m.status=1):
 jR T Tryz.prog Tryz.f126 [.box 100000 0,I n,I st,S o] [stC s] (I 10) [bots] :=by
 have h1:=uQ s n hs;have hkl:=(List.getElem?_eq_some_iff.1 hm).1
 have hll:(s.pieces.map aZ).length=s.pieces.length:=Ae;have hl:=hs.lp
 generalize bs Piece.id s.pieces n=k at*;generalize (∃m∈s.pieces,m.id=n)=P at*
 repeat' ((conv=>whnf);first|(exfalso;contradiction)|refine zh (h1) [100000] ?_|refine dS rfl rfl DR ?_|refine zS ?_|refine zT ?_ ?_<;>intro _|fail)
 all_goals conv=>whnf
 all_goals first|exact⟨_,rfl,zc1⟩|exact zc1
theorem cR1(s:aJ)(n st:Int)(o:ByteArray)(m:Piece)(hs:Gd s)(hf:∃m∈s.pieces,m.id=n)(hm:s.pieces[bs Piece.id s.pieces n]? =some m)(hp:¬m.status=1):
 SpB 126 [.box 100000 0,I n,I st,S o] [stC s] (I 10) [bots] :=
 b_of Tryz.func126 Ac Ac rfl rfl (eE6 s n st o m hs hf hm hp)
theorem eL2(s:aJ)(n st:Int)(o:ByteArray)(hs:Gd s)(hf:¬∃m∈s.pieces,m.id=n):
 jR T Tryz.prog Tryz.f126 [.box 100000 0,I n,I st,S o] [stC s] (I 8) [bots] :=by
 have h1:=uQ s n hs;generalize bs Piece.id s.pieces n=k at*;generalize (∃m∈s.pieces,m.id=n)=P at*
 repeat' ((conv=>whnf);first|(exfalso;contradiction)|refine zh (h1) [100000] ?_|refine zS ?_|refine zT ?_ ?_<;>intro _|fail)
 all_goals conv=>whnf
 all_goals first|exact⟨_,rfl,zc1⟩|exact zc1
theorem cX9(s:aJ)(n st:Int)(o:ByteArray)(hs:Gd s)(hf:¬∃m∈s.pieces,m.id=n):
 SpB 126 [.box 100000 0,I n,I st,S o] [stC s] (I 8) [bots] :=
 b_of Tryz.func126 Ac Ac rfl rfl (eL2 s n st o hs hf)
theorem dP5(s:aJ)(e:Event){r:Int}{bs':List (List V)}(hl:bs'=[bots]\/∃s',bs'=[stC s'])(h:SpB 126 [.box 100000 0,I e.id,I 2,S aI] [stC s] (I r) bs'):
 jR T Tryz.prog Tryz.f80 [.box 100000 0,aS e] [stC s] (I r) bs':=by
 exact MR
theorem aU1(s:aJ)(e:Event){r:Int}{bs':List (List V)}(hl:bs'=[bots]\/∃s',bs'=[stC s'])(h:SpB 126 [.box 100000 0,I e.id,I 2,S aI] [stC s] (I r) bs'):
 SpB 80 [.box 100000 0,aS e] [stC s] (I r) bs':=
 b_of Tryz.func80 Ac Ac rfl Ci (dP5 s e hl h)
theorem eR6(s:aJ)(e:Event){r:Int}{bs':List (List V)}(hl:bs'=[bots]\/∃s',bs'=[stC s'])(h:SpB 126 [.box 100000 0,I e.id,I 3,S e.text] [stC s] (I r) bs'):
 jR T Tryz.prog Tryz.f81 [.box 100000 0,aS e] [stC s] (I r) bs':=by
 exact MR
theorem bS3(s:aJ)(e:Event){r:Int}{bs':List (List V)}(hl:bs'=[bots]\/∃s',bs'=[stC s'])(h:SpB 126 [.box 100000 0,I e.id,I 3,S e.text] [stC s] (I r) bs'):
 SpB 81 [.box 100000 0,aS e] [stC s] (I r) bs':=
 b_of Tryz.func81 Ac Ac rfl Ci (eR6 s e hl h)
def plus(b:Bool)(r:Iv)(n:Int):Iv:=if b then(r.1,W (r.2+n))else(W (r.1+n),r.2)
def aX7(s:aJ)(x:aN):aJ:={stocks:=putS s.stocks x,pieces:=s.pieces,used:=putN s.used (sid x),received:=plus x.isBar s.received (gG x),scrap:=s.scrap}
theorem eO0{s:aJ}{n:Int}(hs:Gd s)(hl:s.used.length+1<=1000000)(hn:n∉s.used):Gd {s with used:=putN s.used n}:=
 ⟨hs.ls,hs.lp,by show(putN s.used n).length<=_;rw[show(putN s.used n).length=s.used.length+1 from mQ];exact hl,hs.ss,hs.sp,rF hs.su hn⟩
theorem cJ5(s:aJ)(x:aN)(hs:Gd s)(hx:eY x)(hl:s.used.length+1<=1000000)(hn:sid x∉s.used):
 jR T Tryz.prog Tryz.f117 [.box 100000 0,aQ x] [stC s] (I 0) [stC (aX7 s x)] :=by
 have h1:=aE2 x;have h2:=aT7 s [sid x] hs hl ⟨hn,trivial⟩
 have h3:=cF7 {s with used:=putN s.used (sid x)} x (eO0 hs hl hn);have h4:=oL x.isBar
 have h5:=vF x hx;change SpB _ _ _ _ [stC {s with used:=putN s.used (sid x)}]at h2;unfold aX7;unfold addS at h3;simp only at h3;generalize putN s.used (sid x)=U at*;generalize putS s.stocks x=L at*;generalize sid x=n at*;generalize gG x=z at*;unfold plus;obtain⟨b,sh,br,p⟩:=x;cases b
 ·exact I4
 ·exact I4
theorem bN1(s:aJ)(x:aN)(hs:Gd s)(hx:eY x)(hl:s.used.length+1<=1000000)(hn:sid x∉s.used):
 SpB 117 [.box 100000 0,aQ x] [stC s] (I 0) [stC (aX7 s x)] :=
 b_of Tryz.func117 Ac Ac rfl rfl (cJ5 s x hs hx hl hn)
theorem cK4(s:aJ)(x:aN)(hs:Gd s)(hl:s.used.length+1<=1000000)(hn:sid x∈s.used):
 jR T Tryz.prog Tryz.f117 [.box 100000 0,aQ x] [stC s] (I 7) [bots] :=by
 have h1:=aE2 x;have h2:=aU4 s [sid x] hs hl (fun h=>h.1 hn)
 generalize sid x=n at*
 repeat' ((conv=>whnf);first|(exfalso;omega)|refine zh (h2) [100000] ?_|refine zS ?_|refine zT ?_ ?_<;>intro _|fail)
 all_goals conv=>whnf
 all_goals first|exact⟨_,rfl,zc1⟩|exact zc1
theorem bM7(s:aJ)(x:aN)(hs:Gd s)(hl:s.used.length+1<=1000000)(hn:sid x∈s.used):
 SpB 117 [.box 100000 0,aQ x] [stC s] (I 7) [bots] :=
 b_of Tryz.func117 Ac Ac rfl rfl (cK4 s x hs hl hn)
theorem eF2(s:aJ)(e:Event){r:Int}{bs':List (List V)}(hl:bs'=[bots]\/∃s',bs'=[stC s'])(h:SpB 117 [.box 100000 0,aQ (⟨true,dN,e.bar,aI⟩:aN)] [stC s] (I r) bs'):
 jR T Tryz.prog Tryz.f76 [.box 100000 0,aS e] [stC s] (I r) bs':=by
 exact MR
theorem bJ1(s:aJ)(e:Event){r:Int}{bs':List (List V)}(hl:bs'=[bots]\/∃s',bs'=[stC s'])(h:SpB 117 [.box 100000 0,aQ (⟨true,dN,e.bar,aI⟩:aN)] [stC s] (I r) bs'):
 SpB 76 [.box 100000 0,aS e] [stC s] (I r) bs':=
 b_of Tryz.func76 Ac Ac rfl Ci (eF2 s e hl h)
theorem dO1(s:aJ)(e:Event){r:Int}{bs':List (List V)}(hl:bs'=[bots]\/∃s',bs'=[stC s'])(h:SpB 117 [.box 100000 0,aQ (⟨false,e.sheet,bar0,aI⟩:aN)] [stC s] (I r) bs'):
 jR T Tryz.prog Tryz.f75 [.box 100000 0,aS e] [stC s] (I r) bs':=by
 exact MR
theorem aW2(s:aJ)(e:Event){r:Int}{bs':List (List V)}(hl:bs'=[bots]\/∃s',bs'=[stC s'])(h:SpB 117 [.box 100000 0,aQ (⟨false,e.sheet,bar0,aI⟩:aN)] [stC s] (I r) bs'):
 SpB 75 [.box 100000 0,aS e] [stC s] (I r) bs':=
 b_of Tryz.func75 Ac Ac rfl Ci (dO1 s e hl h)
end Go.Proofs.Led
