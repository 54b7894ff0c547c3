/-
  Names, walked: letters, digits, what follows in a name.
-/
import Derived.Test.YtkhhdojgbkophaaGreatB18
import Derived.Test.YtkhhdojgbkophaaGreatB24
import Derived.Test.YtkhhdojgbkophaaGreatB25
set_option linter.unusedVariables false
set_option linter.unusedSimpArgs false
namespace Go.Proofs.Led
open Go Go.Proofs Go.Ab
set_option maxRecDepth 100000
def jA(c:Int):Prop:=(97<=c/\c<=122)\/(65<=c/\c<=90)
def isDigit(c:Int):Prop:=48<=c/\c<=57
def fG(c:Int):Prop:=jA c\/isDigit c\/c=95
def iM(s:ByteArray):Prop:=1<=s.size/\s.size<=16/\jA (byteAt s 0)/\∀i,i<s.size->fG (byteAt s i)
theorem dQ2(c:Int):fnVC T Tryz.prog Tryz.f149 [U c] (.lit (.bool (decB (jA c)))):=by
 repeat' ((conv=>whnf);first|refine zg ?_|refine zz (fun _=>?_) fun _=>?_|refine zr ?_)
 all_goals conv=>whnf
 all_goals refine aA ?_
 ·exact fE (by unfold jA;omega)
 ·refine le_dec ?_
  unfold jA;omega
 ·exact aC (by unfold jA;omega)
 ·refine le_dec ?_
  unfold jA;omega
 ·exact aC (by unfold jA;omega)
theorem aT4(c:Int):Sp 149 [U c] (.lit (.bool (decB (jA c)))):=zsp Tryz.func149 (dQ2 c)
theorem eD7(c:Int):fnVC T Tryz.prog Tryz.f206 [U c] (.lit (.bool (decB (isDigit c)))):=by
 repeat' ((conv=>whnf);first|refine zg ?_|refine zz (fun _=>?_) fun _=>?_|refine zr ?_)
 all_goals conv=>whnf
 all_goals refine aA ?_
 ·refine le_dec ?_
  unfold isDigit;omega
 ·exact aC (by unfold isDigit;omega)
theorem cX6(c:Int):Sp 206 [U c] (.lit (.bool (decB (isDigit c)))):=zsp Tryz.func206 (eD7 c)
theorem dX8(c:Int):fnVC T Tryz.prog Tryz.f151 [U c] (.lit (.bool (decB (fG c)))):=by
 repeat' ((conv=>whnf);first|refine zc (aT4 c) ?_|refine zc (cX6 c) ?_|refine zg ?_|refine zd (fun hd=>?_) (fun hd=>?_)|refine zr ?_)
 all_goals conv=>whnf
 all_goals refine aA ?_
 ·exact fE (.inl hd)
 ·exact fE (.inr (.inl hd))
 ·rename_i h1
  refine sK ⟨fun h=> .inr (.inr h),fun h=>?_⟩
  rcases h with h|h|h
  ·exact(h1 h).elim
  ·exact(hd h).elim
  ·exact h
theorem cR8(c:Int):Sp 151 [U c] (.lit (.bool (decB (fG c)))):=zsp Tryz.func151 (dX8 c)
noncomputable def wh(p:Nat->Bool):Nat->Nat->Nat
 |0,i=>i
 |f+1,i=>if p i then wh p f (i+1)else i
theorem dG8{p:Nat->Bool}{f i:Nat}(h:p i=true):wh p (f+1) i=wh p f (i+1):=by rw[wh,if_pos h]
theorem dE4{p:Nat->Bool}{f i:Nat}(h:p i=false):wh p (f+1) i=i:=by rw[wh,if_neg (by simp[h])]
theorem cV4(p:Nat->Bool):∀f i,wh p f i=i+f↔∀j,i<=j->j<i+f->p j=true
 |0,i=>by simp[wh];omega
 |f+1,i=>by
  rw[wh]
  split
  ·rename_i h
   have:=cV4 p f (i+1)
   rw[show i+(f+1)=i+1+f by omega,this]
   constructor
   ·intro h1 j hj hj2
    rcases Nat.eq_or_lt_of_le hj with rfl|hlt
    ·exact h
    ·exact h1 j hlt hj2
   ·intro h1 j hj hj2
    exact h1 j (by omega) hj2
  ·rename_i h
   constructor
   ·intro h1;omega
   ·intro h1;exact(h (h1 i (Nat.le_refl _) (by omega))).elim
noncomputable def whS(K:Int->Prop)(s:ByteArray)(i:Nat):Nat:=wh (fun j=>decB (K (byteAt s j))) (s.size-i) i
theorem dV7{g:FuncId}{Kd:Int->Prop}(hg:∀c,Sp g [U c] (.lit (.bool (decB (Kd c)))))(s:ByteArray)(i:Nat)(hs:s.size<=1000000000):
 fnVC T Tryz.prog Tryz.f150 [S s,I i, .fn g []] (I (whS Kd s i)):=by
 repeat' ((conv=>whnf);first|refine zg ?_)
 refine lD (A:=Nat) (fun k=>mkSt [(0,S s),(1,I k),(2, .fn g [])] [] []) (fun k=>whS Kd s k=whS Kd s i) (fun k=>s.size-k) i ?_ rfl (fun k hk=>?_)
 ·exact zj
 ·change whS Kd s k=whS Kd s i at hk
  rcases Nat.lt_or_ge k s.size with hlt|hge
  ·obtain⟨f,hf⟩:∃f,s.size-k=f+1:=⟨s.size-k-1,by omega⟩
   have hks:whS Kd s k=wh (fun j=>decB (Kd (byteAt s j))) (f+1) k:=by unfold whS;rw[hf]
   repeat' ((conv=>whnf);first|(exfalso;omega)|refine zc (hg (byteAt s k)) ?_|refine zg ?_|refine za ?_|refine zo ?_|refine zd (fun hd=>?_) (fun hd=>?_)|refine zl (fun hlt=>?_) (fun hlt=>?_)|refine zr ?_)
   ·conv=>whnf
    refine⟨k+1,?_,?_,by omega⟩
    ·refine dV ?_ ?_ ?_ ?_
     all_goals repeat' (first|exact trivial|refine And.intro ?_ ?_|with_reducible rfl|exact(fun h=>by cases h)|exact Nat.le_refl _|omega|exact rfl)
    ·show whS Kd s (k+1)=_
     rw[<-hk,hks,dG8 (dH.2 hd)]
     unfold whS
     rw[show s.size- (k+1)=f by omega]
   ·conv=>whnf
    refine aG ?_
    rw[<-hk,hks,dE4 (dW.2 hd)]
  ·have hks:whS Kd s k=k:=by unfold whS;rw[show s.size-k=0 by omega];rfl
   repeat' ((conv=>whnf);first|(exfalso;omega)|refine zg ?_|refine zl (fun hlt=>?_) (fun hlt=>?_)|refine zr ?_)
   conv=>whnf
   refine aG ?_
   rw[<-hk,hks]
theorem cQ3{g:FuncId}{Kd:Int->Prop}(hg:∀c,Sp g [U c] (.lit (.bool (decB (Kd c)))))(s:ByteArray)(i:Nat)(hs:s.size<=1000000000):
 Sp 150 [S s,I i, .fn g []] (I (whS Kd s i)):=zsp Tryz.func150 (dV7 hg s i hs)
theorem eL8(s:ByteArray):fnVC T Tryz.prog Tryz.f76 [S s] (.lit (.bool (decB (iM s)))):=by
 have hz:=dJ7 (s:=s)
 rcases Nat.lt_or_ge 16 s.size with hbig|hsm
 ·repeat' ((conv=>whnf);first|refine jI (fun heq=>?_) (fun heq=>?_)|(exfalso;omega)|refine zg ?_|refine zn ?_|refine zk (fun hle=>?_) (fun hle=>?_)|refine zr ?_)
  all_goals conv=>whnf
  all_goals refine aA ?_
  all_goals exact aC (fun h=>by have:=h.2.1;omega)
 ·repeat' ((conv=>whnf);first|refine jI (fun heq=>?_) (fun heq=>?_)|(exfalso;omega)|refine cK2 ⟨by omega,by have:=mt hz.1 heq;omega⟩ ?_|refine zc (aT4 (byteAt s 0)) ?_|refine zc (cQ3 cR8 s 0 (by omega)) ?_|refine zg ?_|refine zn ?_|refine zd (fun hd=>?_) (fun hd=>?_)|refine zk (fun hle=>?_) (fun hle=>?_)|refine zr ?_)
  all_goals conv=>whnf
  all_goals refine aA ?_
  ·exact aC (fun h=>by have:=h.1;have:=hz.2 heq;omega)
  ·refine sK ?_
   have hw:=cV4 (fun j=>decB (fG (byteAt s j))) s.size 0
   have hs0:whS fG s 0=wh (fun j=>decB (fG (byteAt s j))) s.size 0:=rfl
   have hne:=mt hz.1 heq
   rw[<-hs0,Nat.zero_add]at hw
   have e:(((whS fG s 0:Nat):Int)=(s.size:Int))↔whS fG s 0=s.size:=by omega
   show(((whS fG s 0:Nat):Int)=(s.size:Int))↔_
   rw[e,hw]
   constructor
   ·intro h
    exact⟨by omega,hsm,hd,fun i hi=>dH.1 (h i (Nat.zero_le _) (by omega))⟩
   ·intro h j _ hj
    exact dH.2 (h.2.2.2 j (by omega))
  ·exact aC (fun h=>hd h.2.2.1)
theorem aG6(s:ByteArray):Sp 76 [S s] (.lit (.bool (decB (iM s)))):=zsp Tryz.func76 (eL8 s)
end Go.Proofs.Led
namespace Go.Proofs.Led
open Go Go.Proofs Go.Ab
set_option maxRecDepth 100000
set_option maxHeartbeats 4000000
def kZ(id:Int)(g h:ByteArray):Prop:=1<=id/\id<=1000000/\iM g/\iM h
theorem aI6(id:Int)(g h:ByteArray):Sp 91 [.agg [I id,S g,S h]] (DB (kZ id g h)):=by
 refine zsp Tryz.func91 ?_
 have h1:=aG6 g
 have h2:=aG6 h
 have hr:kZ id g h↔1<=id/\id<=1000000/\iM g/\iM h:=Iff.rfl
 generalize kZ id g h=P at*
 generalize iM g=p1 at*
 generalize iM h=p2 at*
 repeat' ((conv=>whnf);first|refine zc h1 ?_|refine zc h2 ?_|refine zg ?_|refine zz (fun _=>?_) fun _=>?_|refine zr ?_)
 all_goals conv=>whnf
 all_goals first
  |exact aA (fQ ⟨fun h=>hr.2 ⟨by omega,by omega,by assumption,h⟩,fun h=>(hr.1 h).2.2.2⟩)
  |exact aA (aC (fun h=>absurd (hr.1 h).2.2.1 (by assumption)))
  |exact aA (aC (fun h=>by have:=hr.1 h;omega))
  |exact aA (le_dec ⟨fun h=>by omega,fun h=>by have:=hr.1 h;omega⟩)
theorem cS6(b:Bar):Sp 90 [barV b] (.agg ([I b.id,S b.grade,S b.heat] ++barC b)):=by
 refine zsp Tryz.func90 ?_
 repeat' ((conv=>whnf);first|refine zg ?_|refine zr ?_)
 all_goals conv=>whnf
 all_goals first|exact aG rfl|exact aK rfl|exact aP rfl|exact zt|exact zu
theorem aK4(s:jL):Sp 92 [zJ s] (.agg ([I s.id,S s.grade,S s.heat] ++aA7 s)):=by
 refine zsp Tryz.func92 ?_
 repeat' ((conv=>whnf);first|refine zg ?_|refine zr ?_)
 all_goals conv=>whnf
 all_goals first|exact aG rfl|exact aK rfl|exact aP rfl|exact zt|exact zu
theorem cT8{r:Rg}(hr:r≠ []):(wL r).length<=r.length+r.length:=by
 unfold wL
 rw[List.length_append,List.length_drop,List.length_take]
 omega
theorem aU5{s:Sh}(h:bG s):gV (qO s):=by
 have hl:∀r∈rings s,(gQ r).length<=1000000:=fun r hr=>by
  obtain⟨h3,h40,_⟩:=h.2.1 r hr
  rw[bJ7 (h.2.1 r hr)]
  have:=cT8 (r:=r) (fun e=>by rw[e]at h3;simp at h3)
  omega
 rw[aN9 h]
 refine⟨hl s.outer (by unfold rings;simp),?_,fun r hr=>?_⟩
 ·unfold wW
  rw[cX8,List.length_map]
  have:=h.1
  omega
 ·unfold wW at hr
  rw[dB0]at hr
  obtain⟨q,hq,rfl⟩:=List.mem_map.1 hr
  exact hl q (by unfold rings;simp[hq])
noncomputable def jV(s:Sh):Prop:=bG s/\s=qO s
theorem aD5(s:Sh)(hs:gV s):Sp 93 [shV s] (DB (jV s)):=by
 refine zsp Tryz.func93 ?_
 have h1:=kK s hs
 have h2:=aU9 s hs
 by_cases h:bG s
 ·have h3:=cQ8 s (qO s) hs (aU5 h)
  have e1:DB (jV s)=DB (s=qO s):=congrArg (fun b=>V.lit (.bool b)) (fQ ⟨fun h=>h.2,fun q=>⟨h,q⟩⟩)
  rw[e1]
  repeat' ((conv=>whnf);first|(exfalso;contradiction)|refine zc h1 ?_|refine zc h2 ?_|refine zc h3 ?_|refine zg ?_|refine zi ?_|refine zz (fun _=>?_) fun _=>?_|refine zr ?_)
  all_goals conv=>whnf
  all_goals first|exact aG rfl|exact aK rfl|exact aP rfl|exact zt|exact zu
 ·have e1:DB (jV s)= .lit (.bool false):=congrArg (fun b=>V.lit (.bool b)) (dW.2 (fun q=>h q.1))
  rw[e1]
  repeat' ((conv=>whnf);first|(exfalso;contradiction)|refine zc h1 ?_|refine zg ?_|refine zi ?_|refine zz (fun _=>?_) fun _=>?_|refine zr ?_)
  all_goals conv=>whnf
  all_goals first|exact aG rfl|exact aK rfl|exact aP rfl|exact zt|exact zu
def dQ(v:Vc):Prop:=0<=min v.1 v.2/\max v.1 v.2<=1900
theorem mJ(v:Vc):Sp 95 [vcV v] (DB (dQ v)):=by
 refine zsp Tryz.func95 ?_
 have hr:dQ v↔0<=min v.1 v.2/\max v.1 v.2<=1900:=Iff.rfl
 generalize dQ v=P at*
 repeat' ((conv=>whnf);first|refine zg ?_|refine zz (fun _=>?_) fun _=>?_|refine zr ?_)
 all_goals conv=>whnf
 all_goals (try simp only[lH,mG]at*)
 all_goals first
  |exact aA (le_dec ⟨fun h=>hr.2 ⟨by omega,by omega⟩,fun h=>by have:=hr.1 h;omega⟩)
  |exact aA (aC (fun h=>by have:=hr.1 h;omega))
def xH(b:Bx):Prop:=b.1.1<b.2.1/\b.1.2<b.2.2
theorem bS8(b:Bx):Sp 297 [bxV b] (DB (xH b)):=by
 refine zsp Tryz.func297 ?_
 have hr:xH b↔b.1.1<b.2.1/\b.1.2<b.2.2:=Iff.rfl
 generalize xH b=P at*
 repeat' ((conv=>whnf);first|refine zg ?_|refine zz (fun _=>?_) fun _=>?_|refine zr ?_)
 all_goals conv=>whnf
 all_goals first
  |exact aA (aS1 ⟨fun h=>hr.2 ⟨by omega,by omega⟩,fun h=>by have:=hr.1 h;omega⟩)
  |exact aA (aC (fun h=>by have:=hr.1 h;omega))
def nV(a b:Bx):Bx:=((max a.1.1 b.1.1,max a.1.2 b.1.2),(min a.2.1 b.2.1,min a.2.2 b.2.2))
theorem cE9(a b:Bx):Sp 299 [bxV a,bxV b] (.tup [bxV (nV a b),DB (xH (nV a b))]):=by
 refine zsp Tryz.func299 ?_
 have h1:=bS8 (nV a b)
 unfold nV at h1⊢
 simp only[<-mG,<-lH]at h1⊢
 repeat' ((conv=>whnf);first|refine zc h1 ?_|refine zg ?_|refine zi ?_|refine zr ?_)
 all_goals conv=>whnf
 all_goals first|exact aG rfl|exact aK rfl|exact aP rfl|exact zt|exact zu
noncomputable def jT(b:Bx)(by_:Vc):Sh:=qO (sV (vsub b.1 by_) (vsub b.2 by_))
theorem cW6(lo hi:Vc):gV (sV lo hi):=by
 unfold sV
 split
 ·exact⟨by simp[sh0],by simp[sh0],fun r hr=>by simp[sh0]at hr⟩
 ·exact⟨by simp,by simp,fun r hr=>by simp at hr⟩
theorem aJ0(b:Bx)(v:Vc):Sp 298 [bxV b,vcV v] (shV (jT b v)):=by
 refine zsp Tryz.func298 ?_
 have h1:=fF b.1 v
 have h2:=fF b.2 v
 have h3:=cX1 (vsub b.1 v) (vsub b.2 v)
 have h4:=aU9 _ (cW6 (vsub b.1 v) (vsub b.2 v))
 unfold jT
 generalize vsub b.1 v=p at*
 generalize vsub b.2 v=q at*
 generalize sV p q=r at*
 generalize qO r=r' at*
 repeat' ((conv=>whnf);first|refine zc h1 ?_|refine zc h2 ?_|refine zc h3 ?_|refine zc h4 ?_|refine zg ?_|refine zi ?_|refine zr ?_)
 all_goals conv=>whnf
 all_goals first|exact aG rfl|exact aK rfl|exact aP rfl|exact zt|exact zu
def sU(len:Int):Int->List Iv->Prop
 |_,[] =>True
 |e,d::R=>e<=d.1/\d.1<d.2/\d.2<=len/\sU len d.2 R
def fM(b:Bar):Prop:=kZ b.id b.grade b.heat/\1<=b.length/\b.length<=2000/\b.defects.length<=6/\sU b.length 0 b.defects
def bV8(D:List Iv):Int:=match D.getLast? with|some d=>d.2|none=>0
theorem bH3(D:List Iv)(d:Iv):bV8 (D++[d])=d.2:=by unfold bV8;simp
theorem qP(b:Bar)(hb:b.defects.length<=1000000):Sp 32 [barV b] (DB (fM b)):=by
 refine zsp Tryz.func32 ?_
 have h1:=cS6 b
 have h2:=aI6 b.id b.grade b.heat
 have hr:fM b↔kZ b.id b.grade b.heat/\1<=b.length/\b.length<=2000/\b.defects.length<=6/\sU b.length 0 b.defects:=Iff.rfl
 have hl:(b.defects.map ivV).length=b.defects.length:=by simp
 generalize fM b=P at*
 generalize kZ b.id b.grade b.heat=p1 at*
 repeat' ((conv=>whnf);first|refine zc h1 ?_|refine zc h2 ?_|refine zg ?_|refine zn ?_|refine zz (fun _=>?_) fun _=>?_|refine zr ?_)
 all_goals conv=>whnf
 all_goals first
  |exact aA (aC (fun h=>absurd (hr.1 h).1 (by assumption)))
  |exact aA (aC (fun h=>by have:=hr.1 h;omega))
  |skip
 have hP:P↔sU b.length 0 b.defects:=⟨fun h=>(hr.1 h).2.2.2.2,fun h=>hr.2 ⟨by assumption,by omega,by omega,by omega,h⟩⟩
 clear hr
 refine aU (A:=List Iv) (B:=List Iv) (fun D R=>mkSt [(1, .box 1 0),(3,I (bV8 D)),(28, .sl (b.defects.map ivV)),(29,I b.defects.length),(30,I D.length)] [(1,barC b)] []) (fun D R=>b.defects=D++R/\(P↔sU b.length (bV8 D) R)) (fun D R=>R.length) [] b.defects ?_ ⟨rfl,hP⟩ (fun D R hp=>?_)
 ·refine dV ?_ ?_ ?_ ?_
  all_goals repeat' (first|exact trivial|refine And.intro ?_ ?_|with_reducible rfl|exact(fun h=>by cases h)|exact Nat.le_refl _|omega|exact rfl)
  all_goals (try rw[hl])
 obtain⟨hp,hq⟩:=hp
 cases R with
 |nil=>
  have hlen:b.defects.length=D.length:=by rw[hp];simp
  repeat' ((conv=>whnf);first|(exfalso;omega)|refine zg ?_|refine zz (fun _=>?_) fun _=>?_|refine zr ?_)
  all_goals conv=>whnf
  exact aA (fE (hq.2 trivial))
 |cons d R=>
  have hlen:=aO hp
  have hq2:P↔bV8 D<=d.1/\d.1<d.2/\d.2<=b.length/\sU b.length d.2 R:=hq
  repeat' ((conv=>whnf);first|(exfalso;omega)|refine aB (l:=b.defects) (by omega) ?_|refine aF (l:=b.defects) (A:=D) (x:=d) (B:=R) hp (by omega) ?_|refine zg ?_|refine za ?_|refine zz (fun _=>?_) fun _=>?_|refine zr ?_)
  all_goals conv=>whnf
  all_goals first
   |exact aA (aC (fun h=>by have:=hq2.1 h;omega))
   |skip
  refine⟨(D++[d],R),?_,⟨by rw[hp];simp,?_⟩,by simp⟩
  ·simp only[bH3,List.length_append,List.length_singleton]
   refine dV ?_ ?_ ?_ ?_
   all_goals repeat' (first|exact trivial|refine And.intro ?_ ?_|with_reducible rfl|exact(fun h=>by cases h)|exact Nat.le_refl _|omega|exact rfl)
  ·show P↔sU b.length (bV8 (D++[d])) R
   rw[bH3,hq2]
   exact⟨fun h=>h.2.2.2,fun h=>⟨by omega,by omega,by omega,h⟩⟩
theorem eY2{g:FuncId}{Q:Int->Prop}(hg:∀m,Sp g (I m:: []) (DB (Q m)))(l:List Int)(hl:l.length<=1000000):fnVC T Tryz.prog Tryz.f370 [.sl (l.map I), .fn g []] (I (fstI Q l)):=by
 have hll:(l.map I).length=l.length:=by simp
 repeat' ((conv=>whnf);first|refine zg ?_)
 refine aU (A:=List Int) (B:=List Int) (fun D R=>mkSt [(0, .sl (l.map I)),(1, .fn g []),(7,I l.length),(8,I D.length)] [] [])
  (fun D R=>l=D++R/\∀m∈D,¬Q m) (fun D R=>R.length) [] l ?_ ⟨rfl,by simp⟩ (fun D R hp=>?_)
 ·exact zj
 ·obtain⟨h1,h2⟩:=hp
  have hlen:l.length=D.length+R.length:=by rw[h1];simp
  have hD:∀y∈D,(!decB (Q y))=true:=fun y hy=>by rw[dW.2 (h2 y hy)];rfl
  cases R with
  |nil=>
   have e:l=D:=by rw[h1];simp
   simp at hlen
   repeat' ((conv=>whnf);first|(exfalso;omega)|refine zg ?_|refine zl (fun hlt=>?_) (fun hlt=>?_)|refine zr ?_)
   conv=>whnf
   refine aG ?_
   unfold fstI
   rw[if_neg (iO.2 (by rw[e];exact h2))]
  |cons x R=>
   rw[List.length_cons]at hlen
   repeat' ((conv=>whnf);first|(exfalso;omega)|refine aF (l:=l) (A:=D) (x:=x) (B:=R) h1 (by omega) ?_|refine zc (hg x) ?_|refine zg ?_|refine za ?_|refine zo ?_|refine zd (fun hd=>?_) (fun hd=>?_)|refine zl (fun hlt=>?_) (fun hlt=>?_)|refine zr ?_)
   ·conv=>whnf
    refine aG ?_
    have e:fst Q l=D.length:=by unfold fst;rw[h1];exact wH hD (by rw[dH.2 hd];rfl)
    unfold fstI
    rw[e,if_pos (by omega)]
   ·conv=>whnf
    refine⟨(D++[x],R),?_,⟨?_,?_⟩,?_⟩
    ·refine dV ?_ ?_ ?_ ?_
     all_goals repeat' (first|exact trivial|refine And.intro ?_ ?_|with_reducible rfl|exact(fun h=>by cases h)|exact Nat.le_refl _|omega|exact rfl)
     ·show(D.length:Int)+1=(D++[x]).length
      simp
    ·show l=D++[x] ++R
     rw[h1];simp
    ·intro m hm
     rcases List.mem_append.1 hm with hm|hm
     ·exact h2 m hm
     ·rw[List.mem_singleton.1 hm];exact hd
    ·show R.length< (x::R).length
     simp
theorem eI6{g:FuncId}{Q:Int->Prop}(hg:∀m,Sp g (I m:: []) (DB (Q m)))(l:List Int)(hl:l.length<=1000000):Sp 370 [.sl (l.map I), .fn g []] (I (fstI Q l)):=zsp Tryz.func370 (eY2 hg l hl)
theorem eW3{g:FuncId}{Q:Int->Prop}(hg:∀m,Sp g (I m:: []) (DB (Q m)))(l:List Int)(hl:l.length<=1000000):fnVC T Tryz.prog Tryz.f345 [.sl (l.map I), .fn g []] (DB (∃m∈l,Q m)):=by
 repeat' ((conv=>whnf);first|refine zc (eI6 hg l hl) ?_|refine zg ?_|refine zr ?_)
 conv=>whnf
 refine aA (le_dec ?_)
 have h:=iO (Q:=Q) (l:=l)
 unfold fstI
 constructor
 ·intro h0
  split at h0
  ·rename_i hlt
   exact Classical.byContradiction fun hn=>(h.2 (fun m hm hq=>hn ⟨m,hm,hq⟩)) hlt
  ·omega
 ·rintro⟨m,hm,hq⟩
  split
  ·omega
  ·rename_i hlt
   exact(h.1 hlt m hm hq).elim
theorem eB1{g:FuncId}{Q:Int->Prop}(hg:∀m,Sp g (I m:: []) (DB (Q m)))(l:List Int)(hl:l.length<=1000000):Sp 345 [.sl (l.map I), .fn g []] (DB (∃m∈l,Q m)):=zsp Tryz.func345 (eW3 hg l hl)
theorem dR5(n:Int):Sp 346 [I n] (DB (n<1\/1000000<n)):=by
 refine zsp Tryz.func346 ?_
 repeat' ((conv=>whnf);first|refine zg ?_|refine zz (fun _=>?_) fun _=>?_|refine zr ?_)
 all_goals conv=>whnf
 all_goals first
  |exact aA (fE (by omega))
  |exact aA (aS1 ⟨fun h=>by omega,fun h=>by omega⟩)
def nC(n:Int):Prop:=1<=n/\n<=1000000
theorem cV8(n:Int):Sp 296 [.sl [I n]] (DB (nC n)):=by
 refine zsp Tryz.func296 ?_
 have h1:=eB1 (g:=346) (Q:=fun n=>n<1\/1000000<n) (fun m=>dR5 m) [n] (by simp)
 have h2:DB (∃m∈[n],m<1\/1000000<m)=DB (n<1\/1000000<n):=congrArg (fun b=>V.lit (.bool b)) (fQ ⟨fun⟨m,h,h'⟩=>by rw[List.mem_singleton.1 h]at h';exact h',fun h=>⟨n,by simp,h⟩⟩)
 rw[h2]at h1
 repeat' ((conv=>whnf);first|refine zc h1 ?_|refine zg ?_|refine zr ?_)
 all_goals conv=>whnf
 all_goals exact aA (aF6 (dW.trans ⟨fun h=>by unfold nC;omega,fun h=>by unfold nC at h;omega⟩))
noncomputable def qQ(s d:Sh):Prop:=jV d/\pO s d=0/\lI s d
noncomputable def dB(s:jL):Prop:=kZ s.id s.grade s.heat/\0<=s.grain/\s.grain<=2/\jV s.shape/\s.defects.length<=6/\dQ (boxS s.shape).1.1/\dQ (boxS s.shape).1.2/\∀d∈s.defects,qQ s.shape d
theorem nU(s:jL)(hs:lK s):Sp 33 [zJ s] (DB (dB s)):=by
 refine zsp Tryz.func33 ?_
 obtain⟨hs1,hs2,hs3⟩:=hs
 have h1:=aK4 s
 have h2:=aI6 s.id s.grade s.heat
 have h3:=aD5 s.shape hs1
 have h4:=aS0 s.shape hs1
 have h5:=mJ (boxS s.shape).1.1
 have h6:=mJ (boxS s.shape).1.2
 have hr:dB s↔kZ s.id s.grade s.heat/\0<=s.grain/\s.grain<=2/\jV s.shape/\s.defects.length<=6/\dQ (boxS s.shape).1.1/\dQ (boxS s.shape).1.2/\∀d∈s.defects,qQ s.shape d:=Iff.rfl
 have hl:(s.defects.map shV).length=s.defects.length:=by simp
 have hdf:∀d,qQ s.shape d↔jV d/\pO s.shape d=0/\lI s.shape d:=fun d=>Iff.rfl
 generalize dB s=P at*
 generalize kZ s.id s.grade s.heat=p1 at*
 generalize jV s.shape=p2 at*
 generalize dQ (boxS s.shape).1.1=p3 at*
 generalize dQ (boxS s.shape).1.2=p4 at*
 repeat' ((conv=>whnf);first|refine zc h1 ?_|refine zc h2 ?_|refine zc h3 ?_|refine zc h4 ?_|refine zc h5 ?_|refine zc h6 ?_|refine zg ?_|refine zn ?_|refine zz (fun _=>?_) fun _=>?_|refine zr ?_)
 all_goals conv=>whnf
 all_goals first
  |exact aA (aC (fun h=>absurd (hr.1 h).1 (by assumption)))
  |exact aA (aC (fun h=>absurd (hr.1 h).2.2.2.1 (by assumption)))
  |exact aA (aC (fun h=>absurd (hr.1 h).2.2.2.2.2.1 (by assumption)))
  |exact aA (aC (fun h=>absurd (hr.1 h).2.2.2.2.2.2.1 (by assumption)))
  |exact aA (aC (fun h=>by have:=(hr.1 h).2.1;have:=(hr.1 h).2.2.1;have:=(hr.1 h).2.2.2.2.1;omega))
  |skip
 have hP:P↔∀d∈s.defects,qQ s.shape d:=⟨fun h=>(hr.1 h).2.2.2.2.2.2.2,fun h=>hr.2 ⟨by assumption,by omega,by omega,by assumption,by omega,by assumption,by assumption,h⟩⟩
 clear hr
 refine aU (A:=List Sh) (B:=List Sh) (fun D R=>mkSt [(1, .box 1 0),(53, .sl (s.defects.map shV)),(54,I s.defects.length),(55,I D.length)] [(1,aA7 s)] []) (fun D R=>s.defects=D++R/\∀d∈D,qQ s.shape d) (fun D R=>R.length) [] s.defects ?_ ⟨rfl,by simp⟩ (fun D R hp=>?_)
 ·refine dV ?_ ?_ ?_ ?_
  all_goals repeat' (first|exact trivial|refine And.intro ?_ ?_|with_reducible rfl|exact(fun h=>by cases h)|exact Nat.le_refl _|omega|exact rfl)
  all_goals (try rw[hl])
 obtain⟨hp,hD⟩:=hp
 cases R with
 |nil=>
  have hlen:s.defects.length=D.length:=by rw[hp];simp
  repeat' ((conv=>whnf);first|(exfalso;omega)|refine zg ?_|refine zz (fun _=>?_) fun _=>?_|refine zr ?_)
  all_goals conv=>whnf
  refine aA (fE (hP.2 fun d h=>?_))
  rw[hp,List.append_nil]at h
  exact hD d h
 |cons d R=>
  have hlen:=aO hp
  have hdm:d∈s.defects:=by rw[hp];simp
  have g1:=aA6 s.shape d hs1 (hs3 d hdm)
  have g2:=aD5 d (hs3 d hdm)
  have hq:=hdf d
  generalize jV d=q1 at*
  generalize pO s.shape d=q2 at*
  generalize lI s.shape d=q3 at*
  repeat' ((conv=>whnf);first|(exfalso;omega)|refine aB (l:=s.defects) (by omega) ?_|refine aF (l:=s.defects) (A:=D) (x:=d) (B:=R) hp (by omega) ?_|refine zc g1 ?_|refine zc g2 ?_|refine zg ?_|refine za ?_|refine zn ?_|refine zz (fun _=>?_) fun _=>?_|refine zr ?_)
  all_goals conv=>whnf
  all_goals first
   |exact aA (aC (fun h=>absurd (hq.1 (hP.1 h d hdm)).1 (by assumption)))
   |exact aA (aC (fun h=>absurd (hq.1 (hP.1 h d hdm)).2.1 (by assumption)))
   |exact aA (aC (fun h=>absurd (hq.1 (hP.1 h d hdm)).2.2 (by assumption)))
   |skip
  refine⟨(D++[d],R),?_,⟨by rw[hp];simp,fun z hz=>?_⟩,by simp⟩
  ·simp only[List.length_append,List.length_singleton]
   exact zj
  ·rcases List.mem_append.1 hz with hz|hz
   ·exact hD z hz
   ·rw[List.mem_singleton.1 hz]
    exact hq.2 ⟨by assumption,by assumption,by assumption⟩
noncomputable def aK2(b:Bx)(d:Sh):List Sh:=open Classical in if xH (nV (boxS d).1 b)then [jT (nV (boxS d).1 b) b.1]else []
noncomputable def kJ(b:Bx)(l:List Sh):List Sh:=l.flatMap (aK2 b)
noncomputable def remE(s:jL)(b:Bx)(id:Int):Int:=open Classical in
 if¬dB s then 1 else if¬(nC id/\xH b/\dQ b.1/\dQ b.2)then 2 else if¬lI s.shape (jT b (0,0))then 13 else 0
noncomputable def remS(s:jL)(b:Bx)(id:Int):jL:=if remE s b id=0 then⟨id,s.grade,s.heat,s.grain,jT b b.1,kJ b s.defects⟩else dN
theorem aD2(b:Bx)(v:Vc):gV (jT b v):=by
 unfold jT
 by_cases h:bG (sV (vsub b.1 v) (vsub b.2 v))
 ·exact aU5 h
 ·rw[bH5 h]
  exact⟨by simp[sh0],by simp[sh0],fun r hr=>by simp[sh0]at hr⟩
theorem bX0(b:Bx)(D:List Sh)(d:Sh):kJ b (D++[d])=kJ b D++aK2 b d:=by unfold kJ;simp
theorem yK(b:Bx):∀D:List Sh,(kJ b D).length<=D.length
 | [] =>Nat.le_refl _
 |d::D=>by
  have h:=yK b D
  have h2:(aK2 b d).length<=1:=by unfold aK2;split<;>simp
  unfold kJ at h⊢
  rw[List.flatMap_cons,List.length_append,List.length_cons]
  omega
noncomputable def aB2(s:jL)(b:Bx)(id:Int)(r:Sh)(X:List Sh)(n:Int):St:=match X with
 | [] =>mkSt [(3, .box 3 0),(4, .box 4 0),(6, .box 6 0),(7,I 0),(10, .box 10 0),(68, .sl (s.defects.map shV)),(69,I s.defects.length),(70,I n)]
  [(3,aA7 s),(4,(bxV b).cells),(6,[I 0,S aI,S aI,I 0,nilV,nilV,nilV]),(10,[I id,S s.grade,S s.heat,I s.grain,rgV r.outer, .sl (r.holes.map rgV),nilV])] []
 |x::X=>mkSt [(3, .box 3 0),(4, .box 4 0),(6, .box 6 0),(7,I 0),(10, .box 10 0),(68, .sl (s.defects.map shV)),(69,I s.defects.length),(70,I n)]
  [(3,aA7 s),(4,(bxV b).cells),(6,[I 0,S aI,S aI,I 0,nilV,nilV,nilV]),(10,[I id,S s.grade,S s.heat,I s.grain,rgV r.outer, .sl (r.holes.map rgV), .arr 93 X.length])] [(93,⟨X.length, .own,42,(x::X).map shV⟩)]
theorem cD5(s:jL)(b:Bx)(id:Int)(hs:lK s):Sp 245 [zJ s,bxV b,I id] (.tup [zJ (remS s b id),I (remE s b id)]):=by
 refine zsp Tryz.func245 ?_
 have h1:=nU s hs
 have h2:=cV8 id
 have h3:=bS8 b
 have h4:=mJ b.1
 have h5:=mJ b.2
 have h6:=aJ0 b (0,0)
 have h7:=aA6 s.shape (jT b (0,0)) hs.1 (aD2 b (0,0))
 have h8:=aJ0 b b.1
 by_cases c1:dB s
 rotate_left
 ·have e1:remE s b id=1:=by unfold remE;rw[if_pos c1]
  have e2:remS s b id=dN:=by unfold remS;rw[if_neg (by rw[e1];decide)]
  rw[e1,e2]
  repeat' ((conv=>whnf);first|(exfalso;contradiction)|refine zc h1 ?_|refine zg ?_|refine zn ?_|refine zz (fun _=>?_) fun _=>?_|refine zr ?_)
  all_goals conv=>whnf
  all_goals first|exact aG rfl|exact aK rfl|exact aP rfl|exact zt|exact zu
 by_cases c2:nC id/\xH b/\dQ b.1/\dQ b.2
 rotate_left
 ·have e1:remE s b id=2:=by unfold remE;rw[if_neg (fun h=>h c1),if_pos c2]
  have e2:remS s b id=dN:=by unfold remS;rw[if_neg (by rw[e1];decide)]
  rw[e1,e2]
  repeat' ((conv=>whnf);first|(exfalso;contradiction)|(exfalso;exact c2 ⟨by assumption,by assumption,by assumption,by assumption⟩)|refine zc h1 ?_|refine zc h2 ?_|refine zc h3 ?_|refine zc h4 ?_|refine zc h5 ?_|refine zg ?_|refine zn ?_|refine zz (fun _=>?_) fun _=>?_|refine zr ?_)
  all_goals conv=>whnf
  all_goals first|exact aG rfl|exact aK rfl|exact aP rfl|exact zt|exact zu
 obtain⟨c21,c22,c23,c24⟩:=c2
 by_cases c3:lI s.shape (jT b (0,0))
 rotate_left
 ·have e1:remE s b id=13:=by unfold remE;rw[if_neg (fun h=>h c1),if_neg (fun h=>h ⟨c21,c22,c23,c24⟩),if_pos c3]
  have e2:remS s b id=dN:=by unfold remS;rw[if_neg (by rw[e1];decide)]
  rw[e1,e2]
  repeat' ((conv=>whnf);first|(exfalso;contradiction)|refine zc h1 ?_|refine zc h2 ?_|refine zc h3 ?_|refine zc h4 ?_|refine zc h5 ?_|refine zc h6 ?_|refine zc h7 ?_|refine zg ?_|refine zi ?_|refine zn ?_|refine zz (fun _=>?_) fun _=>?_|refine zr ?_)
  all_goals conv=>whnf
  all_goals first|exact aG rfl|exact aK rfl|exact aP rfl|exact zt|exact zu
 have e1:remE s b id=0:=by unfold remE;rw[if_neg (fun h=>h c1),if_neg (fun h=>h ⟨c21,c22,c23,c24⟩),if_neg (fun h=>h c3)]
 have e2:remS s b id=⟨id,s.grade,s.heat,s.grain,jT b b.1,kJ b s.defects⟩:=by unfold remS;rw[if_pos e1]
 rw[e1,e2]
 have hl:(s.defects.map shV).length=s.defects.length:=by simp
 generalize jT b b.1=r1 at*
 generalize jT b (0,0)=r0 at*
 repeat' ((conv=>whnf);first|(exfalso;contradiction)|refine zc h1 ?_|refine zc h2 ?_|refine zc h3 ?_|refine zc h4 ?_|refine zc h5 ?_|refine zc h6 ?_|refine zc h7 ?_|refine zc h8 ?_|refine zg ?_|refine zi ?_|refine zn ?_|refine zz (fun _=>?_) fun _=>?_)
 all_goals conv=>whnf
 refine aU (A:=List Sh) (B:=List Sh) (fun D R=>aB2 s b id r1 (kJ b D) D.length) (fun D R=>s.defects=D++R) (fun D R=>R.length) [] s.defects ?_ rfl (fun D R hp=>?_)
 ·show Le T _ (aB2 s b id r1 [] 0)
  refine dV ?_ ?_ ?_ ?_
  all_goals repeat' (first|exact trivial|refine And.intro ?_ ?_|with_reducible rfl|exact(fun h=>by cases h)|exact Nat.le_refl _|omega|exact rfl)
  all_goals (try rw[hl])
 have hXl:=yK b D
 have hdl:=hs.2.1
 cases R with
 |nil=>
  have e:s.defects=D:=by rw[hp];simp
  have hlen:s.defects.length=D.length:=by rw[e]
  rw[e]
  generalize kJ b D=X at*
  cases X with
  |nil=>
   repeat' ((conv=>whnf);first|(exfalso;omega)|refine zg ?_|refine zz (fun _=>?_) fun _=>?_|refine zr ?_)
   all_goals conv=>whnf
   all_goals first|exact aG rfl|exact aK rfl|exact aP rfl|exact zt|exact zu
  |cons x X=>
   repeat' ((conv=>whnf);first|(exfalso;omega)|refine zg ?_|refine zz (fun _=>?_) fun _=>?_|refine zr ?_)
   all_goals conv=>whnf
   all_goals first|exact aG rfl|exact aK rfl|exact aP rfl|exact zt|exact zu
 |cons d R=>
  have hlen:=aO hp
  have hdm:d∈s.defects:=by rw[hp];simp
  have k1:=aS0 d (hs.2.2 d hdm)
  have k2:=cE9 (boxS d).1 b
  have k3:=aJ0 (nV (boxS d).1 b) b.1
  have hsn:=bX0 b D d
  have hlD:((D++[d]).length:Int)=(D.length:Int)+1:=by simp
  have hcd:aK2 b d=(open Classical in if xH (nV (boxS d).1 b)then [jT (nV (boxS d).1 b) b.1]else []):=rfl
  generalize kJ b D=X at*
  generalize nV (boxS d).1 b=cb at*
  generalize jT cb b.1=rr at*
  by_cases hw:xH cb
  ·rw[if_pos hw]at hcd
   rw[hcd]at hsn
   cases X with
   |nil=>
    repeat' ((conv=>whnf);first|(exfalso;contradiction)|(exfalso;omega)|refine aB (l:=s.defects) (by omega) ?_|refine aF (l:=s.defects) (A:=D) (x:=d) (B:=R) hp (by omega) ?_|refine zc k1 ?_|refine zc k2 ?_|refine zc k3 ?_|refine gX (of_decide_eq_true rfl) (dA rfl) (of_decide_eq_true rfl) ?_|refine zg ?_|refine zi ?_|refine za ?_|refine zv ?_|refine zz (fun _=>?_) fun _=>?_)
    all_goals conv=>whnf
    refine⟨(D++[d],R),?_,by rw[hp];simp,by simp⟩
    show Le T _ (aB2 s b id r1 (kJ b (D++[d])) (D++[d]).length)
    rw[hsn,hlD]
    show Le T _ (aB2 s b id r1 [rr] _)
    exact zj
   |cons x X=>
    have hx1:(x::X).length=X.length+1:=rfl
    repeat' ((conv=>whnf);first|(exfalso;contradiction)|(exfalso;omega)|refine aB (l:=s.defects) (by omega) ?_|refine aF (l:=s.defects) (A:=D) (x:=d) (B:=R) hp (by omega) ?_|refine zc k1 ?_|refine zc k2 ?_|refine zc k3 ?_|refine iH rfl (.inl rfl) rfl (of_decide_eq_true rfl) (dA rfl) (show((x::X).map shV).length+1<=1000000000 by rw[List.length_map];omega) ?_|refine zg ?_|refine zi ?_|refine za ?_|refine zv ?_|refine zz (fun _=>?_) fun _=>?_)
    all_goals conv=>whnf
    refine⟨(D++[d],R),?_,by rw[hp];simp,by simp⟩
    show Le T _ (aB2 s b id r1 (kJ b (D++[d])) (D++[d]).length)
    rw[hsn,hlD]
    show Le T _ (aB2 s b id r1 (x::(X++[rr])) _)
    unfold aB2
    simp only[List.length_append,List.length_singleton,List.map_cons,List.map_append,List.map_nil]
    exact zj
  ·rw[if_neg hw]at hcd
   rw[hcd,List.append_nil]at hsn
   cases X with
   |nil=>
    repeat' ((conv=>whnf);first|(exfalso;contradiction)|(exfalso;omega)|refine aB (l:=s.defects) (by omega) ?_|refine aF (l:=s.defects) (A:=D) (x:=d) (B:=R) hp (by omega) ?_|refine zc k1 ?_|refine zc k2 ?_|refine zg ?_|refine za ?_|refine zz (fun _=>?_) fun _=>?_)
    all_goals conv=>whnf
    refine⟨(D++[d],R),?_,by rw[hp];simp,by simp⟩
    show Le T _ (aB2 s b id r1 (kJ b (D++[d])) (D++[d]).length)
    rw[hsn,hlD]
    show Le T _ (aB2 s b id r1 [] _)
    exact zj
   |cons x X=>
    have hx1:(x::X).length=X.length+1:=rfl
    repeat' ((conv=>whnf);first|(exfalso;contradiction)|(exfalso;omega)|refine aB (l:=s.defects) (by omega) ?_|refine aF (l:=s.defects) (A:=D) (x:=d) (B:=R) hp (by omega) ?_|refine zc k1 ?_|refine zc k2 ?_|refine zg ?_|refine za ?_|refine zz (fun _=>?_) fun _=>?_)
    all_goals conv=>whnf
    refine⟨(D++[d],R),?_,by rw[hp];simp,by simp⟩
    show Le T _ (aB2 s b id r1 (kJ b (D++[d])) (D++[d]).length)
    rw[hsn,hlD]
    show Le T _ (aB2 s b id r1 (x::X) _)
    exact zj
def pJ(s:jL):Prop:=s.id=0/\s.grade=aI/\s.heat=aI/\s.grain=0/\s.shape.outer.length=0/\s.shape.holes.length=0/\s.defects.length=0
def yT(b:Bar):Prop:=b.id=0/\b.grade=aI/\b.heat=aI/\b.length=0/\b.defects.length=0
theorem cV3(b:Bar):Sp 75 [barV b] (DB (yT b)):=by
 refine zsp Tryz.func75 ?_
 have hr:yT b↔b.id=0/\b.grade=aI/\b.heat=aI/\b.length=0/\b.defects.length=0:=Iff.rfl
 generalize yT b=P at*
 have l1:(b.defects.map ivV).length=b.defects.length:=by simp
 repeat' ((conv=>whnf);first|refine jI (fun heq=>?_) (fun heq=>?_)|refine zg ?_|refine zz (fun _=>?_) fun _=>?_|refine zr ?_)
 all_goals conv=>whnf
 all_goals first
  |exact aA (sK ⟨fun h=>hr.2 ⟨by omega,by assumption,by assumption,by omega,by omega⟩,fun h=>by have:=(hr.1 h).2.2.2.2;omega⟩)
  |exact aA (aC (fun h=>by have:=(hr.1 h);omega))
  |exact aA (aC (fun h=>absurd (hr.1 h).2.1 (by assumption)))
  |exact aA (aC (fun h=>absurd (hr.1 h).2.2.1 (by assumption)))
theorem aW0(n:Int):Sp 152 [I n] (DB (nC n)):=by
 refine zsp Tryz.func152 ?_
 repeat' ((conv=>whnf);first|refine zg ?_|refine zz (fun _=>?_) fun _=>?_|refine zr ?_)
 all_goals conv=>whnf
 all_goals first
  |exact aA (le_dec ⟨fun h=>⟨by omega,by omega⟩,fun h=>h.2⟩)
  |exact aA (aC (fun h=>by have:=h.1;omega))
def fC6(b:Bool):Int:=if b then 1 else 0
theorem oL(b:Bool):Sp 83 [B b] (I (fC6 b)):=by
 refine zsp Tryz.func83 ?_
 cases b
 ·repeat' ((conv=>whnf);first|refine zg ?_|refine zr ?_)
  all_goals conv=>whnf
  all_goals first|exact aG rfl|exact aK rfl|exact aP rfl|exact zt|exact zu
 ·repeat' ((conv=>whnf);first|refine zg ?_|refine zr ?_)
  all_goals conv=>whnf
  all_goals first|exact aG rfl|exact aK rfl|exact aP rfl|exact zt|exact zu
def sid(x:aN):Int:=if x.isBar then x.bar.id else x.sheet.id
theorem aE2(x:aN):Sp 89 [aQ x] (I (sid x)):=by
 refine zsp Tryz.func89 ?_
 obtain⟨b,s,br,p⟩:=x
 cases b
 ·repeat' ((conv=>whnf);first|refine zg ?_|refine zr ?_)
  all_goals conv=>whnf
  all_goals first|exact aG rfl|exact aK rfl|exact aP rfl|exact zt|exact zu
 ·repeat' ((conv=>whnf);first|refine zg ?_|refine zr ?_)
  all_goals conv=>whnf
  all_goals first|exact aG rfl|exact aK rfl|exact aP rfl|exact zt|exact zu
def eY(x:aN):Prop:=lK x.sheet/\x.bar.defects.length<=1000000
noncomputable def gG(x:aN):Int:=if x.isBar then x.bar.length else uK x.sheet.shape
theorem vF(x:aN)(hx:eY x):Sp 37 [aQ x] (I (gG x)):=by
 refine zsp Tryz.func37 ?_
 have h1:=cG8 x.sheet.shape hx.1.1
 obtain⟨b,s,br,p⟩:=x
 cases b
 ·repeat' ((conv=>whnf);first|refine zc h1 ?_|refine zg ?_|refine zr ?_)
  all_goals conv=>whnf
  all_goals first|exact aG rfl|exact aK rfl|exact aP rfl|exact zt|exact zu
 ·repeat' ((conv=>whnf);first|refine zg ?_|refine zr ?_)
  all_goals conv=>whnf
  all_goals first|exact aG rfl|exact aK rfl|exact aP rfl|exact zt|exact zu
end Go.Proofs.Led
