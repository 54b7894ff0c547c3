/- Lemmas. -/
import Derived.Test.YtecbpikbjfihmaaGreatDoorB2
import Derived.Laws.CopyRow
import Derived.Lib.AppendZerosOnto
import Derived.Lib.Overlaps
import Derived.Laws.Externs
import Derived.Laws.IdiomCopy
import Derived.Shelf.Spec.SlicesInsert
set_option linter.all false
set_option autoImplicit true
set_option relaxedAutoImplicit true
set_option maxRecDepth 1000000
set_option maxHeartbeats 4000000
noncomputable section
namespace Go.Proofs.Led
open Go Go.Proofs Go.Ab Tryz
abbrev eU0(g:FuncId)(Q:Sg->Sg->Prop):Prop:=∀x y,Sp g [sgV x,sgV y] (DB (Q x y))
def touchAt(a b:Sh)(Q:Sg->Sg->Prop)(p:Vc):Prop:=lJ a p=1->lJ b p=1->Q (jE a p) (jE b p)
def bD2(a b:Sh)(Q:Sg->Sg->Prop):Prop:=∀p∈rV a++rV b,touchAt a b Q p
def cZ6{Q}(N:eU0 g Q) a b(m:gV a)(d:a.holes.length<=6)(n:gV b)(e:b.holes.length<=6):Sp 240 [shV a,shV b, .fn g []] (DB (bD2 a b Q)):=by
 refine zsp func240 ?_;have i:=aJ3 a m d;have j:=aJ3 b n e;have O:=cH3 m d;have S:=cH3 n e;change Sp _ _ (.own 70 ((rV a).map vcV))at i;change Sp _ _ (.own 70 ((rV b).map vcV))at j;generalize y:bD2 a b Q=P;have F:P↔∀p∈rV a++rV b,touchAt a b Q p:=by rw[<-y];exact RU
 clear y;generalize rV a=A at*;generalize rV b=B at*;have J:(A.map vcV).length=A.length:=Ad;have K:(B.map vcV).length=B.length:=Ad;repeat' ((conv=>whnf);first|refine zc i ?_|refine zc j ?_|refine iH rfl (.inl rfl) rfl (QV rfl) (aM5 _) (show(A.map vcV).length+(B.map vcV).length<=1000000000 from Aa) ?_|refine zS ?_|fail)
 all_goals conv=>whnf
 have M:(A++B).length=A.length+B.length:=QY;have c:A.map vcV++B.map vcV=(A++B).map vcV:=Ad;generalize T:A++B=C at*;have L:(C.map vcV).length=C.length:=Ad;refine aU (A:=List Vc) (B:=List Vc) (λD R=>mkSt [(2, .fn g []),(3, .box 3 0),(4, .box 4 0),(13, .arr 10 1),(14,I C.length),(15,I D.length)] [(3,(shV a).cells),(4,(shV b).cells)] [(10,⟨1, .own,70,C.map vcV⟩)]) (λD R=>C=D++R/\∀q∈D,touchAt a b Q q) (λD R=>R.length) [] C ?_ ⟨rfl,Ad⟩ (λD R hp=>?_)
 ·rw[<-c]
  refine dV ?_ ?_ ?_ ?_;all_goals repeat' (first|exact trivial|refine And.intro ?_ ?_|with_reducible rfl|exact(λh=>Ah)|exact Rf _|omega|exact rfl)
  all_goals (try rw[c,Rw])
 let⟨hp,w⟩:=hp;cases R with
 |nil=>
  have f:C.length=D.length:=Ae;repeat' ((conv=>whnf);first|omega|refine zS ?_|refine zT ?_ ?_<;>intro _|fail)
  all_goals conv=>whnf
  refine aA (fE (F.2 λq E=>?_));rw[hp,Rq]at E;exact w q E
 |cons q R=>
  have f:=aO hp;have o:=aD4 a q m;have s:=aD4 b q n;have r:=aW8 a q m d;have t:=aW8 b q n e;have u:=N (jE a q) (jE b q);have U:touchAt a b Q q↔(lJ a q=1->lJ b q=1->Q (jE a q) (jE b q)):=RU;have v:q∈C:=Ae;repeat' ((conv=>whnf);first|omega|refine dS rfl rfl (by show 0<=_/\_< ((C.map vcV).length:Int);omega) ?_|refine aF (l:=C) (A:=D) (x:=q) (B:=R) hp Aa ?_|refine zc o ?_|refine zc s ?_|refine zc r ?_|refine zc t ?_|refine zc u ?_|refine zS ?_|refine zT ?_ ?_<;>intro _|fail)
  all_goals conv=>whnf
  all_goals first
   |exact aA (aC (λh=>absurd ((F.1 h) q v Ag Ag) Ag))
   |skip
  all_goals refine⟨(D++[q],R),?_,⟨Ae,λz k=>?_⟩,Ad⟩
  all_goals first
   |(rcases Rh.1 k with k|k
     ·exact w z k
     ·rw[Ri.1 k]
      exact λG H=>by first|assumption|exact absurd G (by assumption)|exact absurd H (by assumption))
   |skip
  all_goals simp[QY,Rj]
  exact zj;exact zj;exact zj
def aO3(c s:Sh):Prop:=¬rJ c s [2]/\¬bL9 s c 0/\¬bL9 c s 2/\bD2 c s (λx y=>¬jH y (x.2,x.1))
def dP2 x y:Sp 241 [sgV x,sgV y] (DB (¬jH y (x.2,x.1))):=by
 refine zsp func241 ?_;have a:=bX9 x;have b:=cT5 y (x.2,x.1);repeat' ((conv=>whnf);first|refine zc a ?_|refine zc b ?_|refine zS ?_|fail)
 all_goals conv=>whnf
 all_goals exact aA (aF6 dW)
def eS8:eU0 241 (λx y=>¬jH y (x.2,x.1)):=λx y=>dP2 x y
def cG3(h:bG s):(rV s).length<=80:=by
 unfold rV;rw[List.length_flatten];exact h.2.2.1
def yB(h:bG s):s.holes.length<=6:=h.1
def iT(h:bG s):gV s:=by
 have a:=λr hr=>(h.2.1 r hr).2.1;refine⟨?_,?_,λr hr=>?_⟩;have:=a s.outer AU;omega;have:=h.1;omega;have:=a r BU;omega
def cO1 c s(a:bG c)(b:bG s):Sp 188 [shV c,shV s] (DB (aO3 c s)):=by
 refine zsp func188 ?_;have n:=cG3 a;have o:=cG3 b;have e:=bX6 c s [2] (iT a) (yB a) (iT b) (yB b) Ai;have f:=bK5 s c 0 (iT b) (yB b) (iT a) Aa;have g:=bK5 c s 2 (iT a) (yB a) (iT b) Aa;have i:=cZ6 eS8 c s (iT a) (yB a) (iT b) (yB b);have d:aO3 c s↔¬rJ c s [2]/\¬bL9 s c 0/\¬bL9 c s 2/\bD2 c s (λx y=>¬jH y (x.2,x.1)):=RU;generalize aO3 c s=P at*;generalize rJ c s [2] =j at*;generalize bL9 s c 0=k at*;generalize bL9 c s 2=l at*;generalize bD2 c s (λx y=>¬jH y (x.2,x.1))=m at*;repeat' ((conv=>whnf);first|refine zc e ?_|refine zc f ?_|refine zc g ?_|refine zc i ?_|refine zS ?_|refine zT ?_ ?_<;>intro _|fail)
 all_goals conv=>whnf
 all_goals first
  |exact aA (aC (λh=>absurd Ag (d.1 h).1))
  |exact aA (aC (λh=>absurd Ag (d.1 h).2.1))
  |exact aA (aC (λh=>absurd Ag (d.1 h).2.2.1))
  |exact aA (fQ ⟨λh=>d.2 ⟨Ag,Ag,Ag,h⟩,λh=>(d.1 h).2.2.2⟩)
  |skip
def lI(c s:Sh):Prop:=bG c/\bG s/\aO3 c s
def pO(c s:Sh):Int:=open Classical in if bG c/\bG s then 0 else 11
def aA6 c s(a:gV c)(d:gV s):Sp 135 [shV c,shV s] (.tup [DB (lI c s),I (pO c s)]):=by
 refine zsp func135 ?_;have m1:=kK c a;have m2:=kK s d;by_cases h1:bG c;by_cases h2:bG s;have e1:DB (lI c s)=DB (aO3 c s):=RI (λb=>V.lit (.bool b)) (fQ ⟨λh=>h.2.2,λh=>⟨h1,h2,h⟩⟩);have e2:pO c s=0:=QU ⟨h1,h2⟩;have m3:=cO1 c s h1 h2;exact O7;exact Ju;exact Jv
def jA(c:Int):Prop:=(97<=c/\c<=122)\/(65<=c/\c<=90)
def isDigit(c:Int):Prop:=48<=c/\c<=57
def fG(c:Int):Prop:=jA c\/isDigit c\/c=95
def iM(s:ByteArray):Prop:=1<=s.size/\s.size<=16/\jA (byteAt s 0)/\∀i,i<s.size->fG (byteAt s i)
def dQ2 c:fnVC T Tryz.prog Tryz.f137 [U c] (.lit (.bool (decB (jA c)))):=by
 repeat' ((conv=>whnf);first|refine zS ?_|refine zT ?_ ?_<;>intro _|fail)
 all_goals conv=>whnf
 all_goals refine aA ?_
 exact fE GK;refine le_dec ?_;unfold jA;omega;exact aC GK;refine le_dec ?_;unfold jA;omega;exact aC GK
def aT4 c:Sp 137 [U c] (.lit (.bool (decB (jA c)))):=zsp func137 (dQ2 c)
def eD7 c:fnVC T Tryz.prog Tryz.f189 [U c] (.lit (.bool (decB (isDigit c)))):=by
 repeat' ((conv=>whnf);first|refine zS ?_|refine zT ?_ ?_<;>intro _|fail)
 all_goals conv=>whnf
 all_goals refine aA ?_
 refine le_dec ?_;unfold isDigit;omega;exact aC (by unfold isDigit;omega)
def cX6 c:Sp 189 [U c] (.lit (.bool (decB (isDigit c)))):=zsp func189 (eD7 c)
def dX8 c:fnVC T Tryz.prog Tryz.f139 [U c] (.lit (.bool (decB (fG c)))):=by
 repeat' ((conv=>whnf);first|refine zc (aT4 c) ?_|refine zc (cX6 c) ?_|refine zS ?_|refine zd (λa=>?_) (λa=>?_))
 all_goals conv=>whnf
 all_goals refine aA ?_
 exact fE (.inl a);exact fE (.inr (.inl a));rename_i b;refine sK ⟨λh=> .inr (.inr h),λh=>?_⟩;rcases h with h|h|h;exact(b h).elim;exact(a h).elim;exact h
def cR8 c:Sp 139 [U c] (.lit (.bool (decB (fG c)))):=zsp func139 (dX8 c)
def wh(p:Nat->Bool):Nat->Nat->Nat
 |0,i=>i
 |f+1,i=>if p i then wh p f (i+1)else i
def dG8(h:p i=true):wh p (f+1) i=wh p f (i+1):=by rw[wh,QU h]
def dE4(h:p i=false):wh p (f+1) i=i:=by rw[wh,Q9 (by simp[h])]
def cV4 p:∀f i,wh p f i=i+f↔∀j,i<=j->j<i+f->p j=true
 |0,i=>by simp[wh];omega
 |f+1,i=>by
  rw[wh];split;rename_i h;have:=cV4 p f (i+1);grind;grind
def whS(K:Int->Prop)(s:ByteArray)(i:Nat):Nat:=wh (λj=>decB (K (byteAt s j))) (s.size-i) i
def dV7{Kd}(d:∀c,Sp g [U c] (.lit (.bool (decB (Kd c))))) s(i:Nat)(l:s.size<=1000000000):
 fnVC T Tryz.prog Tryz.f138 [S s,I i, .fn g []] (I (whS Kd s i)):=by
 repeat' ((conv=>whnf);first|refine zS ?_|fail)
 refine lD (A:=Nat) (λk=>mkSt [(0,S s),(1,I k),(2, .fn g [])] [] []) (λk=>whS Kd s k=whS Kd s i) (λk=>s.size-k) i ?_ rfl (λk hk=>?_)
 ·exact zj
 ·change whS Kd s k=whS Kd s i at hk
  rcases Sj k s.size with hlt|e
  ·obtain⟨f,b⟩:∃f,s.size-k=f+1:=⟨s.size-k-1,Aa⟩
   have hks:whS Kd s k=wh (λj=>decB (Kd (byteAt s j))) (f+1) k:=by unfold whS;rw[b]
   repeat' ((conv=>whnf);first|omega|refine zc (d (byteAt s k)) ?_|refine zS ?_|refine zd (λa=>?_) (λa=>?_)|refine zl (λhlt=>?_) (λhlt=>?_))
   ·conv=>whnf
    refine⟨k+1,?_,?_,Aa⟩
    ·refine dV ?_ ?_ ?_ ?_
     all_goals repeat' (first|exact trivial|refine And.intro ?_ ?_|with_reducible rfl|exact(λh=>Ah)|exact Rf _|omega|exact rfl)
    ·show whS Kd s (k+1)=_
     rw[<-hk,hks,dG8 (dH.2 a)];unfold whS;rw[show s.size- (k+1)=f from Aa]
   ·conv=>whnf
    refine aG ?_;rw[<-hk,hks,dE4 (dW.2 a)]
  ·have hks:whS Kd s k=k:=by unfold whS;rw[show s.size-k=0 from Aa];rfl
   exact OQ
def cQ3{Kd}(a:∀c,Sp g [U c] (.lit (.bool (decB (Kd c))))) s(i:Nat)(b:s.size<=1000000000):
 Sp 138 [S s,I i, .fn g []] (I (whS Kd s i)):=zsp func138 (dV7 a s i b)
def eL8(s:ByteArray):fnVC T Tryz.prog Tryz.f94 [S s] (.lit (.bool (decB (iM s)))):=by
 have c:=dJ7 (s:=s);rcases Sj 16 s.size with d|hsm
 ·repeat' ((conv=>whnf);first|refine jI (λa=>?_) (λa=>?_)|omega|refine zS ?_|refine zk (λb=>?_) (λb=>?_))
  all_goals conv=>whnf
  all_goals refine aA ?_
  all_goals exact aC (λh=>by have:=h.2.1;omega)
 repeat' ((conv=>whnf);first|refine jI (λa=>?_) (λa=>?_)|omega|refine cK2 ⟨Aa,by have:=mt c.1 a;omega⟩ ?_|refine zc (aT4 (byteAt s 0)) ?_|refine zc (cQ3 cR8 s 0 Aa) ?_|refine zS ?_|refine zd (λhd=>?_) (λhd=>?_)|refine zk (λb=>?_) (λb=>?_))
 all_goals conv=>whnf
 all_goals refine aA ?_
 exact aC (λh=>by have:=h.1;have:=c.2 a;omega);refine sK ?_;have hw:=cV4 (λj=>decB (fG (byteAt s j))) s.size 0;have hs0:whS fG s 0=wh (λj=>decB (fG (byteAt s j))) s.size 0:=rfl;have f:=mt c.1 a;exact Ob;exact aC (λh=>hd h.2.2.1)
def aG6 s:Sp 94 [S s] (.lit (.bool (decB (iM s)))):=zsp func94 (eL8 s)
def kZ(id:Int)(g h:ByteArray):Prop:=1<=id/\id<=1000000/\iM g/\iM h
def aI6 id g h:Sp 131 [.agg [I id,S g,S h]] (DB (kZ id g h)):=by
 refine zsp func131 ?_;have b:=aG6 g;have c:=aG6 h;have a:kZ id g h↔1<=id/\id<=1000000/\iM g/\iM h:=RU;generalize kZ id g h=P at*;generalize iM g=d at*;generalize iM h=e at*;repeat' ((conv=>whnf);first|refine zc b ?_|refine zc c ?_|refine zS ?_|refine zT ?_ ?_<;>intro _|fail)
 all_goals conv=>whnf
 all_goals first
  |exact aA (fQ ⟨λh=>a.2 ⟨Aa,Aa,Ag,h⟩,λh=>(a.1 h).2.2.2⟩)
  |exact aA (aC (λh=>absurd (a.1 h).2.2.1 Ag))
  |exact aA (aC (λh=>by have:=a.1 h;omega))
  |exact aA (le_dec ⟨λh=>Aa,λh=>by have:=a.1 h;omega⟩)
def cS6 b:Sp 136 [barV b] (.agg ([I b.id,S b.grade,S b.heat] ++barC b)):=by
 refine zsp func136 ?_;exact O6
def aK4 s:Sp 130 [zJ s] (.agg ([I s.id,S s.grade,S s.heat] ++aA7 s)):=by
 refine zsp func130 ?_;exact O6
def cT8{r:Rg}(a:r≠ []):(wL r).length<=r.length+r.length:=by
 unfold wL;grind
def aU5(h:bG s):gV (qO s):=by
 have d:∀r∈rings s,(gQ r).length<=1000000:=λr a=>by
  let⟨b,c,_⟩:=h.2.1 r a;rw[bJ7 (h.2.1 r a)];have:=cT8 (r:=r) (λe=>by rw[e]at b;simp at b);omega
 rw[aN9 h];refine⟨d s.outer AU,?_,λr a=>?_⟩;unfold wW;rw[cX8,Rw];have:=h.1;omega;grind [dB0,wW,rings]
def jV(s:Sh):Prop:=bG s/\s=qO s
def aD5 s(c:gV s):Sp 132 [shV s] (DB (jV s)):=by
 refine zsp func132 ?_;have h1:=kK s c;have d:=aU9 s c;by_cases h:bG s
 ·have e:=cQ8 s (qO s) c (aU5 h)
  have a:DB (jV s)=DB (s=qO s):=RI (λb=>V.lit (.bool b)) (fQ ⟨λh=>h.2,λq=>⟨h,q⟩⟩);rw[a];repeat' ((conv=>whnf);first|(exfalso;contradiction)|refine zc h1 ?_|refine zc d ?_|refine zc e ?_|refine zS ?_|refine zT ?_ ?_<;>intro _|fail)
  all_goals exact zE
 have a:DB (jV s)= .lit (.bool false):=RI (λb=>V.lit (.bool b)) (dW.2 (λq=>h q.1));rw[a];exact Oi
def dQ(v:Vc):Prop:=0<=min v.1 v.2/\max v.1 v.2<=1900
def mJ v:Sp 134 [vcV v] (DB (dQ v)):=by
 refine zsp func134 ?_;have a:dQ v↔0<=min v.1 v.2/\max v.1 v.2<=1900:=RU;generalize dQ v=P at*;repeat' ((conv=>whnf);first|refine zS ?_|refine zT ?_ ?_<;>intro _|fail)
 all_goals conv=>whnf
 all_goals (try simp only[lH,mG]at*)
 all_goals first
  |exact aA (le_dec ⟨λh=>a.2 ⟨Aa,Aa⟩,λh=>by have:=a.1 h;omega⟩)
  |exact aA (aC (λh=>by have:=a.1 h;omega))
def xH(b:Bx):Prop:=b.1.1<b.2.1/\b.1.2<b.2.2
def bS8 b:Sp 246 [bxV b] (DB (xH b)):=by
 refine zsp func246 ?_;have a:xH b↔b.1.1<b.2.1/\b.1.2<b.2.2:=RU;generalize xH b=P at*;repeat' ((conv=>whnf);first|refine zS ?_|refine zT ?_ ?_<;>intro _|fail)
 all_goals conv=>whnf
 all_goals first
  |exact aA (aS1 ⟨λh=>a.2 ⟨Aa,Aa⟩,λh=>by have:=a.1 h;omega⟩)
  |exact aA (aC (λh=>by have:=a.1 h;omega))
def nV(a b:Bx):Bx:=((max a.1.1 b.1.1,max a.1.2 b.1.2),(min a.2.1 b.2.1,min a.2.2 b.2.2))
def cE9 a b:Sp 248 [bxV a,bxV b] (.tup [bxV (nV a b),DB (xH (nV a b))]):=by
 refine zsp func248 ?_;have c:=bS8 (nV a b);unfold nV at c⊢;simp[<-mG,<-lH]at c⊢;repeat' ((conv=>whnf);first|refine zc c ?_|refine zS ?_|fail)
 all_goals exact zE
def jT(b:Bx)(by_:Vc):Sh:=qO (sV (vsub b.1 by_) (vsub b.2 by_))
def cW6 lo hi:gV (sV lo hi):=by
 unfold sV;split;exact⟨Iy,Iy,λr a=>by simp[sh0]at a⟩;exact⟨Ad,Ad,λr a=>by simp at a⟩
def aJ0 b v:Sp 247 [bxV b,vcV v] (shV (jT b v)):=by
 refine zsp func247 ?_;have a:=fF b.1 v;have c:=fF b.2 v;have d:=cX1 (vsub b.1 v) (vsub b.2 v);have e:=aU9 _ (cW6 (vsub b.1 v) (vsub b.2 v));unfold jT;generalize vsub b.1 v=p at*;generalize vsub b.2 v=q at*;generalize sV p q=r at*;generalize qO r=f at*;repeat' ((conv=>whnf);first|refine zc a ?_|refine zc c ?_|refine zc d ?_|refine zc e ?_|refine zS ?_|fail)
 all_goals exact zE
def sU(len:Int):Int->List Iv->Prop
 |_,[] =>True
 |e,d::R=>e<=d.1/\d.1<d.2/\d.2<=len/\sU len d.2 R
def fM(b:Bar):Prop:=kZ b.id b.grade b.heat/\1<=b.length/\b.length<=2000/\b.defects.length<=6/\sU b.length 0 b.defects
def bV8(D:List Iv):Int:=match D.getLast? with|some d=>d.2|none=>0
theorem bH3 D d:bV8 (D++[d])=d.2:=by unfold bV8;simp
def qP b(k:b.defects.length<=1000000):Sp 93 [barV b] (DB (fM b)):=by
 refine zsp func93 ?_;have i:=cS6 b;have j:=aI6 b.id b.grade b.heat;have e:fM b↔kZ b.id b.grade b.heat/\1<=b.length/\b.length<=2000/\b.defects.length<=6/\sU b.length 0 b.defects:=RU;have hl:(b.defects.map ivV).length=b.defects.length:=Ad;generalize fM b=P at*;generalize kZ b.id b.grade b.heat=l at*;repeat' ((conv=>whnf);first|refine zS ?_|refine zT ?_ ?_<;>intro _|fail)
 all_goals conv=>whnf
 all_goals first
  |exact aA (aC (λh=>absurd (e.1 h).1 Ag))
  |exact aA (aC (λh=>by have:=e.1 h;omega))
  |skip
 have g:P↔sU b.length 0 b.defects:=⟨λh=>(e.1 h).2.2.2.2,λh=>e.2 ⟨Ag,Aa,Aa,Aa,h⟩⟩;clear e;refine aU (A:=List Iv) (B:=List Iv) (λD R=>mkSt [(1, .box 1 0),(3,I (bV8 D)),(28, .sl (b.defects.map ivV)),(29,I b.defects.length),(30,I D.length)] [(1,barC b)] []) (λD R=>b.defects=D++R/\(P↔sU b.length (bV8 D) R)) (λD R=>R.length) [] b.defects ?_ ⟨rfl,g⟩ (λD R hp=>?_);exact JY;let⟨hp,f⟩:=hp;cases R with
 |nil=>
  have a:b.defects.length=D.length:=Ae;repeat' ((conv=>whnf);first|omega|refine zS ?_|refine zT ?_ ?_<;>intro _|fail)
  all_goals conv=>whnf
  exact aA (fE (f.2 trivial))
 |cons d R=>
  have a:=aO hp;have c:P↔bV8 D<=d.1/\d.1<d.2/\d.2<=b.length/\sU b.length d.2 R:=f;repeat' ((conv=>whnf);first|omega|refine zS ?_|refine zT ?_ ?_<;>intro _|fail)
  all_goals conv=>whnf
  all_goals first
   |exact aA (aC (λh=>by have:=c.1 h;omega))
   |skip
  refine⟨(D++[d],R),?_,⟨Ae,?_⟩,Ad⟩;simp[bH3,QY,Rj];exact Nb;show P↔sU b.length (bV8 (D++[d])) R;rw[bH3,c];exact⟨λh=>h.2.2.2,λh=>⟨Aa,Aa,Aa,h⟩⟩
def eY2{Q}(hg:∀m,Sp g (I m:: []) (DB (Q m))) l(b:l.length<=1000000):fnVC T Tryz.prog Tryz.f316 [.sl (l.map I), .fn g []] (I (fstI Q l)):=by
 have a:(l.map I).length=l.length:=Ad;repeat' ((conv=>whnf);first|refine zS ?_|fail)
 refine aU (A:=List Int) (B:=List Int) (λD R=>mkSt [(0, .sl (l.map I)),(1, .fn g []),(7,I l.length),(8,I D.length)] [] [])
  (λD R=>l=D++R/\∀m∈D,¬Q m) (λD R=>R.length) [] l ?_ ⟨rfl,Ad⟩ (λD R hp=>?_)
 exact zj;exact IJ
def eI6{Q}(a:∀m,Sp g (I m:: []) (DB (Q m))) l(b:l.length<=1000000):Sp 316 [.sl (l.map I), .fn g []] (I (fstI Q l)):=zsp func316 (eY2 a l b)
def eW3{Q:Int->Prop}(a:∀m,Sp g (I m:: []) (DB (Q m)))(l:List Int)(b:l.length<=1000000):fnVC T Tryz.prog Tryz.f290 [.sl (l.map I), .fn g []] (DB (∃m∈l,Q m)):=by
 repeat' ((conv=>whnf);first|refine zc (eI6 a l b) ?_|refine zS ?_|fail)
 exact Np
def eB1{Q:Int->Prop}(a:∀m,Sp g (I m:: []) (DB (Q m)))(l:List Int)(b:l.length<=1000000):Sp 290 [.sl (l.map I), .fn g []] (DB (∃m∈l,Q m)):=zsp func290 (eW3 a l b)
def dR5 n:Sp 291 [I n] (DB (n<1\/1000000<n)):=by
 refine zsp func291 ?_;repeat' ((conv=>whnf);first|refine zS ?_|refine zT ?_ ?_<;>intro _|fail)
 all_goals conv=>whnf
 all_goals first
  |exact aA (fE Aa)
  |exact aA (aS1 ⟨λh=>Aa,λh=>Aa⟩)
def nC(n:Int):Prop:=1<=n/\n<=1000000
def cV8 n:Sp 245 [.sl [I n]] (DB (nC n)):=by
 refine zsp func245 ?_;have c:=eB1 (g:=291) (Q:=λn=>n<1\/1000000<n) (λm=>dR5 m) [n] Ad;have d:DB (∃m∈[n],m<1\/1000000<m)=DB (n<1\/1000000<n):=RI (λb=>V.lit (.bool b)) (fQ ⟨λ⟨m,h,a⟩=>by rw[Ri.1 h]at a;exact a,λh=>⟨n,Ad,h⟩⟩);rw[d]at c;repeat' ((conv=>whnf);first|refine zS ?_|fail)
 all_goals conv=>whnf
 all_goals exact aA (aF6 (dW.trans ⟨λh=>by unfold nC;omega,λh=>by unfold nC at h;omega⟩))
def qQ(s d:Sh):Prop:=jV d/\pO s d=0/\lI s d
def dB(s:jL):Prop:=kZ s.id s.grade s.heat/\0<=s.grain/\s.grain<=2/\jV s.shape/\s.defects.length<=6/\dQ (boxS s.shape).1.1/\dQ (boxS s.shape).1.2/\∀d∈s.defects,qQ s.shape d
def tN(s:jL):Prop:=Fits s.shape/\s.defects.length<=1000000/\∀d∈s.defects,Fits d
def fits_sized(h:lK s):tN s:=⟨h.1.fits,h.2.1,λd a=>(h.2.2 d a).fits⟩
def aO1 s(c:Fits s):Sp 132 [shV s] (DB (jV s)):=by
 by_cases h:bG s;exact aD5 s (iT h);have h1:=wQ s c;have a:DB (jV s)= .lit (.bool false):=RI (λb=>V.lit (.bool b)) (dW.2 (λq=>h q.1));rw[a];refine zsp func132 ?_;exact Oi
def cA3 c s(d:bG c)(g:Fits s):Sp 135 [shV c,shV s] (.tup [DB (lI c s),I (pO c s)]):=by
 by_cases a:bG s;exact aA6 c s (iT d) (iT a);have i:=wQ c (iT d).fits;have j:=wQ s g;have e:DB (lI c s)= .lit (.bool false):=RI (λb=>V.lit (.bool b)) (dW.2 (λh=>a h.2.1));have f:pO c s=11:=Q9 (λh=>a h.2);rw[e,f];refine zsp func135 ?_;repeat' ((conv=>whnf);first|(exfalso;contradiction)|refine zc i ?_|refine zc j ?_|refine zS ?_|refine zT ?_ ?_<;>intro _|fail)
 all_goals exact zE
def aR2 s(F:tN s):Sp 92 [zJ s] (DB (dB s)):=by
 refine zsp func92 ?_;let⟨n,G,g⟩:=F;have q:=aK4 s;have r:=aI6 s.id s.grade s.heat;have t:=aO1 s.shape n;by_cases c:jV s.shape;rotate_left
 ·have a:dB s->kZ s.id s.grade s.heat/\0<=s.grain/\s.grain<=2/\jV s.shape:=λh=>⟨h.1,h.2.1,h.2.2.1,h.2.2.2.1⟩
  generalize dB s=P at*;generalize kZ s.id s.grade s.heat=H at*;generalize jV s.shape=J at*;repeat' ((conv=>whnf);first|(exfalso;contradiction)|refine zc q ?_|refine zc r ?_|refine zc t ?_|refine zS ?_|refine zT ?_ ?_<;>intro _|fail)
  all_goals conv=>whnf
  all_goals exact aA (aC (λh=>c (a h).2.2.2))
 have f:=c.1;have o:=iT f;have y:=aS0 s.shape o;have C:=mJ (boxS s.shape).1.1;have E:=mJ (boxS s.shape).1.2;have a:dB s↔kZ s.id s.grade s.heat/\0<=s.grain/\s.grain<=2/\jV s.shape/\s.defects.length<=6/\dQ (boxS s.shape).1.1/\dQ (boxS s.shape).1.2/\∀d∈s.defects,qQ s.shape d:=RU;have hl:(s.defects.map shV).length=s.defects.length:=Ad;have m:∀d,qQ s.shape d↔jV d/\pO s.shape d=0/\lI s.shape d:=λd=>RU;generalize dB s=P at*;generalize kZ s.id s.grade s.heat=H at*;generalize jV s.shape=J at*;generalize dQ (boxS s.shape).1.1=K at*;generalize dQ (boxS s.shape).1.2=L at*;repeat' ((conv=>whnf);first|refine zc q ?_|refine zc r ?_|refine zc t ?_|refine zc y ?_|refine zc C ?_|refine zc E ?_|refine zS ?_|refine zT ?_ ?_<;>intro _|fail)
 all_goals conv=>whnf
 all_goals first
  |exact aA (aC (λh=>absurd (a.1 h).1 Ag))
  |exact aA (aC (λh=>absurd (a.1 h).2.2.2.1 Ag))
  |exact aA (aC (λh=>absurd (a.1 h).2.2.2.2.2.1 Ag))
  |exact aA (aC (λh=>absurd (a.1 h).2.2.2.2.2.2.1 Ag))
  |exact aA (aC (λh=>by have:=(a.1 h).2.1;have:=(a.1 h).2.2.1;have:=(a.1 h).2.2.2.2.1;omega))
  |skip
 have j:P↔∀d∈s.defects,qQ s.shape d:=⟨λh=>(a.1 h).2.2.2.2.2.2.2,λh=>a.2 ⟨Ag,Aa,Aa,Ag,Aa,Ag,Ag,h⟩⟩;clear a;refine aU (A:=List Sh) (B:=List Sh) (λD R=>mkSt [(1, .box 1 0),(53, .sl (s.defects.map shV)),(54,I s.defects.length),(55,I D.length)] [(1,aA7 s)] []) (λD R=>s.defects=D++R/\∀d∈D,qQ s.shape d) (λD R=>R.length) [] s.defects ?_ ⟨rfl,Ad⟩ (λD R hp=>?_);exact JY;let⟨hp,u⟩:=hp;cases R with
 |nil=>
  have e:s.defects.length=D.length:=Ae;repeat' ((conv=>whnf);first|omega|refine zS ?_|refine zT ?_ ?_<;>intro _|fail)
  all_goals conv=>whnf
  refine aA (fE (j.2 λd h=>?_));rw[hp,Rq]at h;exact u d h
 |cons d R=>
  have e:=aO hp;have b:d∈s.defects:=Ae;have v:=cA3 s.shape d f (g d b);have w:=aO1 d (g d b);have k:=m d;generalize jV d=M at*;generalize pO s.shape d=N at*;generalize lI s.shape d=O at*;repeat' ((conv=>whnf);first|omega|refine aB (l:=s.defects) Aa ?_|refine aF (l:=s.defects) (A:=D) (x:=d) (B:=R) hp Aa ?_|refine zc v ?_|refine zc w ?_|refine zS ?_|refine zT ?_ ?_<;>intro _|fail)
  all_goals conv=>whnf
  all_goals first
   |exact aA (aC (λh=>absurd (k.1 (j.1 h d b)).1 Ag))
   |exact aA (aC (λh=>absurd (k.1 (j.1 h d b)).2.1 Ag))
   |exact aA (aC (λh=>absurd (k.1 (j.1 h d b)).2.2 Ag))
   |skip
  refine⟨(D++[d],R),?_,⟨Ae,λz i=>?_⟩,Ad⟩;exact IW;rcases Rh.1 i with i|i;exact u z i;rw[Ri.1 i];exact k.2 ⟨Ag,Ag,Ag⟩
def nU s(a:lK s):Sp 92 [zJ s] (DB (dB s)):=aR2 s (fits_sized a)
def aK2(b:Bx)(d:Sh):List Sh:=open Classical in if xH (nV (boxS d).1 b)then [jT (nV (boxS d).1 b) b.1]else []
def kJ(b:Bx)(l:List Sh):List Sh:=l.flatMap (aK2 b)
def remE(s:jL)(b:Bx)(id:Int):Int:=open Classical in
 if¬dB s then 1 else if¬(nC id/\xH b/\dQ b.1/\dQ b.2)then 2 else if¬lI s.shape (jT b (0,0))then 13 else 0
def remS(s:jL)(b:Bx)(id:Int):jL:=if remE s b id=0 then⟨id,s.grade,s.heat,s.grain,jT b b.1,kJ b s.defects⟩else dN
theorem aD2 b v:gV (jT b v):=by
 unfold jT;by_cases h:bG (sV (vsub b.1 v) (vsub b.2 v));exact aU5 h;rw[bH5 h];exact⟨Iy,Iy,λr a=>by simp[sh0]at a⟩
def bX0 b D d:kJ b (D++[d])=kJ b D++aK2 b d:=by unfold kJ;simp
def yK b:∀D,(kJ b D).length<=D.length
 | [] =>Rf _
 |d::D=>by
  have h:=yK b D;grind [QY,Ro,aK2,kJ]
def aB2(s:jL)(b:Bx)(id:Int)(r:Sh)(X:List Sh)(n:Int):St:=match X with
 | [] =>mkSt [(3, .box 3 0),(4, .box 4 0),(6, .box 6 0),(7,I 0),(10, .box 10 0),(68, .sl (s.defects.map shV)),(69,I s.defects.length),(70,I n)]
   [(3,aA7 s),(4,(bxV b).cells),(6,[I 0,S aI,S aI,I 0,nilV,nilV,nilV]),(10,[I id,S s.grade,S s.heat,I s.grain,rgV r.outer, .sl (r.holes.map rgV),nilV])] []
 |x::X=>mkSt [(3, .box 3 0),(4, .box 4 0),(6, .box 6 0),(7,I 0),(10, .box 10 0),(68, .sl (s.defects.map shV)),(69,I s.defects.length),(70,I n)]
  [(3,aA7 s),(4,(bxV b).cells),(6,[I 0,S aI,S aI,I 0,nilV,nilV,nilV]),(10,[I id,S s.grade,S s.heat,I s.grain,rgV r.outer, .sl (r.holes.map rgV), .arr 93 X.length])] [(93,⟨X.length, .own,49,(x::X).map shV⟩)]
def cD5 s b id(k:lK s):Sp 194 [zJ s,bxV b,I id] (.tup [zJ (remS s b id),I (remE s b id)]):=by
 refine zsp func194 ?_;have h1:=nU s k;have q:=cV8 id;have r:=bS8 b;have t:=mJ b.1;have u:=mJ b.2;have z:=aJ0 b (0,0);have C:=aA6 s.shape (jT b (0,0)) k.1 (aD2 b (0,0));have G:=aJ0 b b.1;by_cases c1:dB s;rotate_left;have e1:remE s b id=1:=by unfold remE;rw[QU c1]
 have i:remS s b id=dN:=Bl;rw[e1,i];exact Oi;by_cases o:nC id/\xH b/\dQ b.1/\dQ b.2;rotate_left
 ·have e1:remE s b id=2:=by unfold remE;rw[Q9 (λh=>h c1),QU o]
  have i:remS s b id=dN:=Bl;rw[e1,i];repeat' ((conv=>whnf);first|(exfalso;contradiction)|(exfalso;exact o ⟨Ag,Ag,Ag,Ag⟩)|refine zc h1 ?_|refine zc q ?_|refine zc r ?_|refine zc t ?_|refine zc u ?_|refine zS ?_|refine zT ?_ ?_<;>intro _|fail)
  all_goals exact zE
 obtain⟨c21,c22,c23,c24⟩:=o;by_cases c3:lI s.shape (jT b (0,0));rotate_left
 ·have e1:remE s b id=13:=by unfold remE;rw[Q9 (λh=>h c1),Q9 (λh=>h ⟨c21,c22,c23,c24⟩),QU c3]
  have i:remS s b id=dN:=Bl;rw[e1,i];repeat' ((conv=>whnf);first|(exfalso;contradiction)|refine zc h1 ?_|refine zc q ?_|refine zc r ?_|refine zc t ?_|refine zc u ?_|refine zc z ?_|refine zc C ?_|refine zS ?_|refine zT ?_ ?_<;>intro _|fail)
  all_goals exact zE
 have e1:remE s b id=0:=BX;have i:remS s b id=⟨id,s.grade,s.heat,s.grain,jT b b.1,kJ b s.defects⟩:=by unfold remS;rw[QU e1]
 rw[e1,i];have hl:(s.defects.map shV).length=s.defects.length:=Ad;generalize jT b b.1=c at*;generalize jT b (0,0)=K at*;repeat' ((conv=>whnf);first|(exfalso;contradiction)|refine zc h1 ?_|refine zc q ?_|refine zc r ?_|refine zc t ?_|refine zc u ?_|refine zc z ?_|refine zc C ?_|refine zc G ?_|refine zS ?_|refine zT ?_ ?_<;>intro _|fail)
 all_goals conv=>whnf
 refine aU (A:=List Sh) (B:=List Sh) (λD R=>aB2 s b id c (kJ b D) D.length) (λD R=>s.defects=D++R) (λD R=>R.length) [] s.defects ?_ rfl (λD R hp=>?_);show Le T _ (aB2 s b id c [] 0);exact NE;have H:=yK b D;have J:=k.2.1;cases R with
 |nil=>
  have e:s.defects=D:=Ae;have j:s.defects.length=D.length:=Io;rw[e];generalize kJ b D=X at*;cases X with
  |nil=>exact KY
  |cons x X=>exact KY
 |cons d R=>
  have j:=aO hp;have v:d∈s.defects:=Ae;have m:=aS0 d (k.2.2 d v);have n:=cE9 (boxS d).1 b;have F:=aJ0 (nV (boxS d).1 b) b.1;have a:=bX0 b D d;have g:((D++[d]).length:Int)=(D.length:Int)+1:=Ad;have f:aK2 b d=(open Classical in if xH (nV (boxS d).1 b)then [jT (nV (boxS d).1 b) b.1]else []):=rfl;generalize kJ b D=X at*;generalize nV (boxS d).1 b=y at*;generalize jT y b.1=rr at*;by_cases E:xH y
  ·rw[QU E]at f
   rw[f]at a;cases X with
   |nil=>
    repeat' ((conv=>whnf);first|(exfalso;contradiction)|omega|refine aB (l:=s.defects) Aa ?_|refine aF (l:=s.defects) (A:=D) (x:=d) (B:=R) hp Aa ?_|refine zc m ?_|refine zc n ?_|refine zc F ?_|refine gX (QV rfl) (dA rfl) (QV rfl) ?_|refine zS ?_|refine zT ?_ ?_<;>intro _|fail)
    all_goals conv=>whnf
    refine⟨(D++[d],R),?_,Ae,Ad⟩;show Le T _ (aB2 s b id c (kJ b (D++[d])) (D++[d]).length);rw[a,g];show Le T _ (aB2 s b id c [rr] _);exact zj
   |cons x X=>
    have w:(x::X).length=X.length+1:=rfl;repeat' ((conv=>whnf);first|(exfalso;contradiction)|omega|refine aB (l:=s.defects) Aa ?_|refine aF (l:=s.defects) (A:=D) (x:=d) (B:=R) hp Aa ?_|refine zc m ?_|refine zc n ?_|refine zc F ?_|refine iH rfl (.inl rfl) rfl (QV rfl) (dA rfl) (show((x::X).map shV).length+1<=1000000000 from D9) ?_|refine zS ?_|refine zT ?_ ?_<;>intro _|fail)
    all_goals conv=>whnf
    refine⟨(D++[d],R),?_,Ae,Ad⟩;show Le T _ (aB2 s b id c (kJ b (D++[d])) (D++[d]).length);rw[a,g];show Le T _ (aB2 s b id c (x::(X++[rr])) _);unfold aB2;exact Nw
  rw[Q9 E]at f;rw[f,Rq]at a;cases X with
  |nil=>
   repeat' ((conv=>whnf);first|(exfalso;contradiction)|omega|refine aB (l:=s.defects) Aa ?_|refine aF (l:=s.defects) (A:=D) (x:=d) (B:=R) hp Aa ?_|refine zc m ?_|refine zc n ?_|refine zS ?_|refine zT ?_ ?_<;>intro _|fail)
   all_goals conv=>whnf
   refine⟨(D++[d],R),?_,Ae,Ad⟩;show Le T _ (aB2 s b id c (kJ b (D++[d])) (D++[d]).length);rw[a,g];show Le T _ (aB2 s b id c [] _);exact zj
  |cons x X=>
   have w:(x::X).length=X.length+1:=rfl;repeat' ((conv=>whnf);first|(exfalso;contradiction)|omega|refine aB (l:=s.defects) Aa ?_|refine aF (l:=s.defects) (A:=D) (x:=d) (B:=R) hp Aa ?_|refine zc m ?_|refine zc n ?_|refine zS ?_|refine zT ?_ ?_<;>intro _|fail)
   all_goals conv=>whnf
   refine⟨(D++[d],R),?_,Ae,Ad⟩;show Le T _ (aB2 s b id c (kJ b (D++[d])) (D++[d]).length);rw[a,g];show Le T _ (aB2 s b id c (x::X) _);exact zj
def pJ(s:jL):Prop:=s.id=0/\s.grade=aI/\s.heat=aI/\s.grain=0/\s.shape.outer.length=0/\s.shape.holes.length=0/\s.defects.length=0
def yT(b:Bar):Prop:=b.id=0/\b.grade=aI/\b.heat=aI/\b.length=0/\b.defects.length=0
def cV3 b:Sp 91 [barV b] (DB (yT b)):=by
 refine zsp func91 ?_;have a:yT b↔b.id=0/\b.grade=aI/\b.heat=aI/\b.length=0/\b.defects.length=0:=RU;generalize yT b=P at*;have d:(b.defects.map ivV).length=b.defects.length:=Ad;repeat' ((conv=>whnf);first|refine jI (λc=>?_) (λc=>?_)|refine zS ?_|refine zT ?_ ?_<;>intro _|fail)
 all_goals conv=>whnf
 all_goals first
  |exact aA (sK ⟨λh=>a.2 ⟨Aa,Ag,Ag,Aa,Aa⟩,λh=>by have:=(a.1 h).2.2.2.2;omega⟩)
  |exact aA (aC (λh=>by have:=(a.1 h);omega))
  |exact aA (aC (λh=>absurd (a.1 h).2.1 Ag))
  |exact aA (aC (λh=>absurd (a.1 h).2.2.1 Ag))
def aW0 n:Sp 140 [I n] (DB (nC n)):=by
 refine zsp func140 ?_;exact Oy
def fC6(b:Bool):Int:=if b then 1 else 0
def oL b:Sp 104 [B b] (I (fC6 b)):=by
 refine zsp func104 ?_;cases b;exact zF;exact zF
def sid(x:aN):Int:=if x.isBar then x.bar.id else x.sheet.id
def aE2 x:Sp 27 [aQ x] (I (sid x)):=by
 refine zsp func27 ?_;exact OH
def eY(x:aN):Prop:=lK x.sheet/\x.bar.defects.length<=1000000
def gG(x:aN):Int:=if x.isBar then x.bar.length else uK x.sheet.shape
def vF x(a:eY x):Sp 11 [aQ x] (I (gG x)):=by
 refine zsp func11 ?_;have c:=cG8 x.sheet.shape a.1.1;exact OH
theorem eqBx a b c d e f g i:eqT T 4 72 [I a,I b,I c,I d] [I e,I f,I g,I i] =some (andB (andB (eqB a e) (andB (eqB b f) true)) (andB (andB (eqB c g) (andB (eqB d i) true)) true)):=Ac
def cC5{a b c d e f g i}(h:K (andB (andB (eqB a e) (andB (eqB b f) true)) (andB (andB (eqB c g) (andB (eqB d i) true)) true))):aL1.match_1 (λ_=>Prop) (eqT T 4 72 [I a,I b,I c,I d] [I e,I f,I g,I i]) K (λ_=>False):=by
 rw[eqBx];exact h
def eV4{a b:Bx}:andB (andB (eqB a.1.1 b.1.1) (andB (eqB a.1.2 b.1.2) true)) (andB (andB (eqB a.2.1 b.2.1) (andB (eqB a.2.2 b.2.2) true)) true)=true↔a=b:=by
 let⟨⟨c,d⟩,⟨e,f⟩⟩:=a;let⟨⟨g,h⟩,⟨i,j⟩⟩:=b;simp_all [Ru,aA1,UJ,andB]
def cA4{a b:Bx}{A B}(c:a=b->A)(d:a≠b->B):branch (andB (andB (eqB a.1.1 b.1.1) (andB (eqB a.1.2 b.1.2) true)) (andB (andB (eqB a.2.1 b.2.1) (andB (eqB a.2.2 b.2.2) true)) true)) A B:=
 jU (λh=>c (eV4.1 h)) (λh=>d (λe=>by rw[eV4.2 e]at h;cases h))
def bx0:Bx:=((0,0),(0,0))
def aH0(r:Rest)(d:Iv):List Iv:=if max d.1 r.lo<min d.2 r.hi then [(W (max d.1 r.lo-r.lo),W (min d.2 r.hi-r.lo))]else []
def kH(r:Rest)(l:List Iv):List Iv:=l.flatMap (aH0 r)
def cK9 r D d:kH r (D++[d])=kH r D++aH0 r d:=by unfold kH;simp
def aG5 r:∀D,(kH r D).length<=D.length
 | [] =>Rf _
 |d::D=>by
  have h:=aG5 r D;grind [QY,Ro,aH0,kH]
def iG(x:aN)(r:Rest):Int:=
 if x.isBar=false then(if r.lo≠0\/r.hi≠0 then 1 else remE x.sheet r.box r.id)
 else if r.box≠bx0 then 1 else if r.lo<0\/r.hi<=r.lo\/x.bar.length<r.hi then 2 else 0
def dZ(x:aN)(r:Rest):aN:=
 if x.isBar=false then(if r.lo≠0\/r.hi≠0 then wS else⟨false,remS x.sheet r.box r.id,bar0,aI⟩)
 else if iG x r=0 then⟨true,dN,⟨r.id,x.bar.grade,x.bar.heat,W (r.hi-r.lo),kH r x.bar.defects⟩,aI⟩else wS
abbrev dA5:List V:=[B false,I 0,S aI,S aI,I 0,nilV,nilV,nilV,I 0,S aI,S aI,I 0,nilV,S aI]
def aB6(c:List V)(br:Bar)(r:Rest)(X:List Iv)(n:Int):St:=match X with
 | [] =>mkSt [(2, .box 2 0),(3, .box 3 0),(4, .box 4 0),(8, .box 8 0),(78, .sl (br.defects.map ivV)),(79,I br.defects.length),(80,I n)]
   [(2,c),(3,(bY r).cells),(4,dA5),(8,[I r.id,S br.grade,S br.heat,I (W (r.hi-r.lo)),nilV])] []
 |y::X=>mkSt [(2, .box 2 0),(3, .box 3 0),(4, .box 4 0),(8, .box 8 0),(78, .sl (br.defects.map ivV)),(79,I br.defects.length),(80,I n)]
  [(2,c),(3,(bY r).cells),(4,dA5),(8,[I r.id,S br.grade,S br.heat,I (W (r.hi-r.lo)), .arr 109 X.length])] [(109,⟨X.length, .own,34,(y::X).map ivV⟩)]
def dL8 x r(m:eY x):Sp 145 [aQ x,bY r] (.tup [aQ (dZ x r),I (iG x r)]):=by
 refine zsp func145 ?_;have n:=cD5 x.sheet r.box r.id m.1;cases hb:x.isBar with
 |false=>exact Jd
 |true=>
  have i:¬x.isBar=false:=by rw[hb];decide
  have c1:¬(x.isBar=false):=i;by_cases c2:r.box=bx0;rotate_left
  ·have e1:iG x r=1:=by unfold iG;rw[Q9 c1,QU c2]
   have e2:dZ x r=wS:=BM;rw[e1,e2];obtain⟨b,s,br,p⟩:=x;cases hb;repeat' ((conv=>whnf);first|(exfalso;contradiction)|refine cC5 ?_|refine cA4 (a:=r.box) (b:=bx0) (λhv=>?_) (λhv=>?_)|refine zS ?_|fail)
   all_goals exact zE
  by_cases c3:r.lo<0\/r.hi<=r.lo\/x.bar.length<r.hi;have e1:iG x r=2:=by unfold iG;rw[Q9 c1,Q9 (λh=>h c2),QU c3]
  have e2:dZ x r=wS:=BM;rw[e1,e2];obtain⟨b,s,br,p⟩:=x;cases hb;exact O0;have e1:iG x r=0:=Ej;have e2:dZ x r=⟨true,dN,⟨r.id,x.bar.grade,x.bar.heat,W (r.hi-r.lo),kH r x.bar.defects⟩,aI⟩:=by unfold dZ;rw[Q9 c1,QU e1]
  rw[e1,e2];have hl:(x.bar.defects.map ivV).length=x.bar.defects.length:=Ad;have j:=m.2;obtain⟨b,s,br,p⟩:=x;cases hb;repeat' ((conv=>whnf);first|(exfalso;contradiction)|omega|refine cC5 ?_|refine cA4 (a:=r.box) (b:=bx0) (λhv=>?_) (λhv=>?_)|refine zS ?_|refine zT ?_ ?_<;>intro _|fail)
  all_goals conv=>whnf
  clear e1 e2 n;simp only at hl j c3;refine aU (A:=List Iv) (B:=List Iv) (λD R=>aB6 (gB ⟨true,s,br,p⟩) br r (kH r D) D.length) (λD R=>br.defects=D++R) (λD R=>R.length) [] br.defects ?_ rfl (λD R hp=>?_);show Le T _ (aB6 (gB ⟨true,s,br,p⟩) br r [] 0);exact NE;have o:=aG5 r D;cases R with
  |nil=>exact Kz
  |cons d R=>
   have hlen:=aO hp;have c:=cK9 r D d;have f:((D++[d]).length:Int)=(D.length:Int)+1:=Ad;generalize kH r D=X at*;by_cases l:max d.1 r.lo<min d.2 r.hi
   ·have g:aH0 r d=[(W (maxI d.1 r.lo-r.lo),W (minI d.2 r.hi-r.lo))] :=by unfold aH0;rw[QU l,mG,lH]
    rw[g]at c;cases X with
    |nil=>
     repeat' ((conv=>whnf);first|omega|(exfalso;simp only[mG,lH]at*;omega)|refine gX (QV rfl) (dA rfl) (QV rfl) ?_|refine zS ?_|refine zT ?_ ?_<;>intro _|fail)
     all_goals conv=>whnf
     refine⟨(D++[d],R),?_,Ae,Ad⟩;show Le T _ (aB6 (gB ⟨true,s,br,p⟩) br r (kH r (D++[d])) (D++[d]).length);rw[c,f];show Le T _ (aB6 (gB ⟨true,s,br,p⟩) br r [_] _);exact zj
    |cons y X=>
     have k:(y::X).length=X.length+1:=rfl;repeat' ((conv=>whnf);first|omega|(exfalso;simp only[mG,lH]at*;omega)|refine iH rfl (.inl rfl) rfl (QV rfl) (dA rfl) (show((y::X).map ivV).length+1<=1000000000 from D9) ?_|refine zS ?_|refine zT ?_ ?_<;>intro _|fail)
     all_goals conv=>whnf
     refine⟨(D++[d],R),?_,Ae,Ad⟩;show Le T _ (aB6 (gB ⟨true,s,br,p⟩) br r (kH r (D++[d])) (D++[d]).length);rw[c,f];show Le T _ (aB6 (gB ⟨true,s,br,p⟩) br r (y::(X++[_])) _);unfold aB6;exact Nw
   have g:aH0 r d=[] :=by unfold aH0;rw[Q9 l]
   rw[g,Rq]at c;cases X with
   |nil=>
    repeat' ((conv=>whnf);first|omega|(exfalso;simp only[mG,lH]at*;omega)|refine zS ?_|refine zT ?_ ?_<;>intro _|fail)
    all_goals conv=>whnf
    refine⟨(D++[d],R),?_,Ae,Ad⟩;show Le T _ (aB6 (gB ⟨true,s,br,p⟩) br r (kH r (D++[d])) (D++[d]).length);rw[c,f];show Le T _ (aB6 (gB ⟨true,s,br,p⟩) br r [] _);exact zj
   |cons y X=>
    have k:(y::X).length=X.length+1:=rfl;repeat' ((conv=>whnf);first|omega|(exfalso;simp only[mG,lH]at*;omega)|refine zS ?_|refine zT ?_ ?_<;>intro _|fail)
    all_goals conv=>whnf
    refine⟨(D++[d],R),?_,Ae,Ad⟩;show Le T _ (aB6 (gB ⟨true,s,br,p⟩) br r (kH r (D++[d])) (D++[d]).length);rw[c,f];show Le T _ (aB6 (gB ⟨true,s,br,p⟩) br r (y::X) _);exact zj
def aO4{a:Type}{f}(h:∀x,(f x).pure)(l:List a):bM (l.map f):=aH.2 λy b=>by
 obtain⟨x,_,rfl⟩:=Rn.1 b;exact h x
def eO3 v:(vcV v).pure:=by simp[vcV,V.pure,V.ok,V.okL,I,and_self]
def bF3 r:(rgV r).pure:=by
 show V.okL _ _ _;exact aO4 eO3 r
def cJ9(l:List Rg):bM (l.map rgV):=aO4 bF3 l
def eR4 s:(shV s).pure:=by
 show V.okL _ _ _;exact⟨bF3 s.outer,by show V.okL _ _ _;exact cJ9 s.holes,trivial⟩
def eS7 d:(ivV d).pure:=by simp[ivV,V.pure,V.ok,V.okL,I,and_self]
def cV5 x:bM (gB x):=by
 unfold gB;refine⟨trivial,trivial,trivial,trivial,trivial,bF3 _,?_,?_,trivial,trivial,trivial,trivial,?_,trivial,trivial⟩;show V.okL _ _ _;exact cJ9 _;show V.okL _ _ _;exact aO4 eR4 _;show V.okL _ _ _;exact aO4 eS7 _
def bZ6(hi:σ.bx i=some cs)(c:i<100000)(b:bM cs):Le T σ ⟨λs=>(σ.env s).frz i cs,frzB i cs σ.bx,σ.ar⟩:=by
 unfold Le;intro Φ a w G inv;exact⟨_,(inv.bV0 hi c b).1⟩
def kP(b:Bool)(p q:Rest):Prop:=
 if b=true then max p.lo q.lo<min p.hi q.hi
 else max p.box.1.1 q.box.1.1<min p.box.2.1 q.box.2.1/\max p.box.1.2 q.box.1.2<min p.box.2.2 q.box.2.2
def bW5 b p q:Sp 148 [B b,bY p,bY q] (DB (kP b p q)):=by
 refine zsp func148 ?_;cases b with
 |true=>exact JD
 |false=>exact Jh
def cO8 x r q:Sp 147 [bY q, .fp (gB x), .fp (bY r).cells] (DB (kP x.isBar q r)):=by
 refine zsp func147 ?_;have a:=bW5 x.isBar q r;repeat' ((conv=>whnf);first|refine zS ?_|fail)
 all_goals conv=>whnf
 all_goals exact aA rfl
def eX4(hg:∀m,Sp g (bY m:: [.fp c, .fp d]) (DB (Q m))) l(b:l.length<=1000000):fnVC T Tryz.prog Tryz.f195 [.sl (l.map bY), .fn g [.fp c, .fp d]] (I (fstI Q l)):=by
 have a:(l.map bY).length=l.length:=Ad;repeat' ((conv=>whnf);first|refine zS ?_|fail)
 refine aU (A:=List Rest) (B:=List Rest) (λD R=>mkSt [(0, .sl (l.map bY)),(1, .fn g [.fp c, .fp d]),(7,I l.length),(8,I D.length)] [] [])
  (λD R=>l=D++R/\∀m∈D,¬Q m) (λD R=>R.length) [] l ?_ ⟨rfl,Ad⟩ (λD R hp=>?_)
 exact zj;exact IJ
def eA8(a:∀m,Sp g (bY m:: [.fp c, .fp d]) (DB (Q m))) l(b:l.length<=1000000):Sp 195 [.sl (l.map bY), .fn g [.fp c, .fp d]] (I (fstI Q l)):=zsp func195 (eX4 a l b)
def fA8{Q:Rest->Prop}(a:∀m,Sp g (bY m:: [.fp c, .fp d]) (DB (Q m)))(l:List Rest)(b:l.length<=1000000):fnVC T Tryz.prog Tryz.f146 [.sl (l.map bY), .fn g [.fp c, .fp d]] (DB (∃m∈l,Q m)):=by
 repeat' ((conv=>whnf);first|refine zc (eA8 a l b) ?_|refine zS ?_|fail)
 exact Np
def dU5{Q:Rest->Prop}(a:∀m,Sp g (bY m:: [.fp c, .fp d]) (DB (Q m)))(l:List Rest)(b:l.length<=1000000):Sp 146 [.sl (l.map bY), .fn g [.fp c, .fp d]] (DB (∃m∈l,Q m)):=zsp func146 (fA8 a l b)
def cZ(x:aN):List Rest->List Rest->Int
 |_,[] =>0
 |D,r::R=>open Classical in if iG x r≠0 then iG x r else if∃q∈D,kP x.isBar q r then 12 else cZ x (D++[r]) R
def eG(x:aN)(l:List Rest):List aN:=if cZ x [] l=0 then l.map (dZ x)else []
def cP9(x:aN)(e:Event)(D:List Rest):St:=match D with
 | [] =>mkSt [(2, .fp (gB x)),(3, .box 3 0),(6,nilV),(12, .sl (e.rests.map bY)),(13,I e.rests.length),(14,I 0)] [(3,iJ e)] []
 |d::D=>mkSt [(2, .fp (gB x)),(3, .box 3 0),(6, .arr 37 D.length),(12, .sl (e.rests.map bY)),(13,I e.rests.length),(14,I ((D.length:Int)+1))] [(3,iJ e)]
  [(37,⟨D.length, .own,57,((d::D).map (dZ x)).map aQ⟩)]
def cU2 x e(K:eY x)(z:e.rests.length<=1000000):Sp 99 [aQ x,aS e] (.tup [.own 57 ((eG x e.rests).map aQ),I (cZ x [] e.rests)]):=by
 refine zsp func99 ?_;have hl:(e.rests.map bY).length=e.rests.length:=Ad;have t:∀n,cZ x [] e.rests=n->n≠0->eG x e.rests=[] :=λn G H=>by unfold eG;rw[Q9 (by rw[G];exact H)]
 have F:cZ x [] e.rests=0->eG x e.rests=e.rests.map (dZ x):=λh=>by unfold eG;rw[QU h]
 generalize eG x e.rests=L at*;generalize v:cZ x [] e.rests=g at*;repeat' ((conv=>whnf);first|refine zS ?_|fail)
 refine aU (A:=List Rest) (B:=List Rest) (λD R=>cP9 x e D) (λD R=>e.rests=D++R/\cZ x D R=g) (λD R=>R.length) [] e.rests ?_ ⟨rfl,v⟩ (λD R hp=>?_);refine Le.trans (bZ6 (i:=2) (cs:=gB x) rfl Ai (cV5 x)) ?_;show Le T _ (cP9 x e []);exact NE;obtain⟨hp,k⟩:=hp
 have u:(e.rests.map bY).take D.length=D.map bY:=by
  have h:(D.map bY).length=D.length:=Ad;rw[hp,RH,<-h];exact List.take_left
 have y:∀(n:Int) (r:Rest),n.toNat=D.length->Sp 146 [.sl (((e.rests.map bY).take n.toNat).drop (0:Int).toNat), .fn 147 [.fp (gB x), .fp (bY r).cells]] (DB (∃q∈D,kP x.isBar q r)):=λn r J=>by
  have h:=dU5 (c:=gB x) (d:=(bY r).cells) (λq=>cO8 x r q) D (by rw[hp]at z;simp at z;omega);rw[J,u];exact h
 cases R with
 |nil=>
  have w:e.rests=D:=Ae;have o:e.rests.length=D.length:=by rw[w]
  have C:g=0:=k.symm;have s:=F C;rw[w]at s;subst C s;cases D with
  |nil=>
   have f:([] :List Rest).length=0:=rfl;repeat' ((conv=>whnf);first|omega|refine zS ?_|refine zT ?_ ?_<;>intro _|fail)
   all_goals conv=>whnf
   exact Oj
  |cons d D=>
   have f:(d::D).length=D.length+1:=rfl;repeat' ((conv=>whnf);first|omega|refine zS ?_|refine zT ?_ ?_<;>intro _|fail)
   all_goals conv=>whnf
   refine⟨_,rfl,⟨⟨rfl,rfl,rfl,rfl⟩,rfl,trivial⟩,rfl⟩
 |cons r R=>
  have o:=aO hp;have M:=dL8 x r K;cases D with
  |nil=>
   have f:([] :List Rest).length=0:=rfl;have E:=y 0 r rfl;by_cases b:iG x r=0;rotate_left
   ·have a:g=iG x r:=by rw[<-k,cZ,QU b]
    have j:=t _ rfl (by rw[a];exact b);subst j a;repeat' ((conv=>whnf);first|(exfalso;contradiction)|omega|refine zS ?_|refine zT ?_ ?_<;>intro _|fail)
    all_goals conv=>whnf
    exact Oj
   by_cases m:∃q∈[],kP x.isBar q r
   ·have a:g=12:=by rw[<-k,cZ,Q9 (λh=>h b),QU m]
    have j:=t _ rfl (by rw[a];decide);subst j a;repeat' ((conv=>whnf);first|(exfalso;contradiction)|omega|refine fU ⟨Aa,Aa,IB, .inl rfl⟩ ?_|refine zS ?_|refine zT ?_ ?_<;>intro _|fail)
    all_goals conv=>whnf
    exact Oj
   have a:g=cZ x ([] ++[r]) R:=by rw[<-k,cZ,Q9 (λh=>h b),Q9 m]
   repeat' ((conv=>whnf);first|(exfalso;contradiction)|omega|refine fU ⟨Aa,Aa,IB, .inl rfl⟩ ?_|refine gX (QV rfl) (dA rfl) (QV rfl) ?_|refine zS ?_|refine zT ?_ ?_<;>intro _|fail)
   all_goals conv=>whnf
   refine⟨([] ++[r],R),?_,⟨by rw[hp];rfl,a.symm⟩,Ad⟩;show Le T _ (cP9 x e [r]);exact zj
  |cons d D=>
   have f:(d::D).length=D.length+1:=rfl;have E:=y ((D.length:Int)+1) r (by rw[f];omega);by_cases b:iG x r=0;rotate_left
   ·have a:g=iG x r:=by rw[<-k,cZ,QU b]
    have j:=t _ rfl (by rw[a];exact b);subst j a;repeat' ((conv=>whnf);first|(exfalso;contradiction)|omega|refine aF (l:=e.rests) (A:=(d::D)) (x:=r) (B:=R) hp Aa ?_|refine zS ?_|refine zT ?_ ?_<;>intro _|fail)
    all_goals conv=>whnf
    exact Oj
   by_cases m:∃q∈(d::D),kP x.isBar q r
   ·have a:g=12:=by rw[<-k,cZ,Q9 (λh=>h b),QU m]
    have j:=t _ rfl (by rw[a];decide);subst j a;repeat' ((conv=>whnf);first|(exfalso;contradiction)|omega|refine aF (l:=e.rests) (A:=(d::D)) (x:=r) (B:=R) hp Aa ?_|refine fU ⟨Aa,Aa,IB, .inl rfl⟩ ?_|refine zS ?_|refine zT ?_ ?_<;>intro _|fail)
    all_goals conv=>whnf
    exact Oj
   have a:g=cZ x ((d::D)++[r]) R:=by rw[<-k,cZ,Q9 (λh=>h b),Q9 m]
   repeat' ((conv=>whnf);first|(exfalso;contradiction)|omega|refine aF (l:=e.rests) (A:=(d::D)) (x:=r) (B:=R) hp Aa ?_|refine fU ⟨Aa,Aa,IB, .inl rfl⟩ ?_|refine iH rfl (.inl rfl) rfl (QV rfl) (dA rfl) (show(((d::D).map (dZ x)).map aQ).length+1<=1000000000 from DI) ?_|refine zS ?_|refine zT ?_ ?_<;>intro _|fail)
   all_goals conv=>whnf
   refine⟨(d::D++[r],R),?_,⟨Ae,a.symm⟩,Ad⟩;show Le T _ (cP9 x e (d::(D++[r])));unfold cP9;exact Nw
def bs{α:Type}(key:α->Int)(l:List α)(t:Int):Nat:=(l.takeWhile λm=>decide (key m<t)).length
def dC0:∀ {l:List c} {i},i<=l.length->(∀k m,k<i->l[k]? =some m->key m<t)->(∀m,l[i]? =some m->t<=key m)->bs key l t=i
 | [],i,h,_,_=>by simp at h;subst h;rfl
 |x::r,0,_,_,h=>by
  have:=h x rfl;unfold bs;simp_all
 |x::r,i+1,hi,b,d=>by
  have g:=b 0 x Aa rfl;have e:=dC0 (l:=r) (i:=i) (by simp at hi;omega) (λk m f a=>b (k+1) m Aa a) (λm a=>d m a);unfold bs at e⊢;simp_all
def cD4(h:0<=n/\n<=2000000):IntKind.u64.wrap n=n:=by
 exact QO
def cK6:cmpI a b<0↔a<b:=DN
def aU8:0<=cmpI a b↔b<=a:=DN
def bP6:cmpI a b=0↔a=b:=DN
def bF1{i j:Nat}(h:i+j<=2000000):IntKind.i64.wrap (shrI .u64 ((i:Int)+(j:Int)) 1)=(((i+j)/2:Nat):Int):=by
 have e:shrI .u64 ((i:Int)+(j:Int)) 1=(((i+j)/2:Nat):Int):=by
  unfold shrI;show Int.fdiv _ 2=_;grind
 rw[e,IntKind.wrap_i64];omega
theorem sorted_at{c:Type}{key:c->Int}{l:List c}(i:(l.map key).Pairwise (·<·)){a b:Nat}{x y}(d:l[a]? =some x)(e:l[b]? =some y)(h:a<b):key x<key y:=by
 obtain⟨f,rfl⟩:=QW.1 d;obtain⟨g,rfl⟩:=QW.1 e;grind [List.pairwise_iff_getElem]
def eC8{c:Type}{key}{t:Int}{l:List c}{i:Nat}(q:(l.map key).Pairwise (·<·))(d:∀k m,k<i->l[k]? =some m->key m<t)(o:∀m,l[i]? =some m->t<=key m):
 (∀m,l[i]? =some m->((∃y∈l,key y=t)↔key m=t))/\(l[i]? =none->¬∃y∈l,key y=t):=by
 refine⟨λm j=>⟨?_,λh=>⟨m,QZ j,h⟩⟩,λn=>?_⟩
 ·rintro⟨y,b,e⟩
  let⟨k,a⟩:=RF b;grind [UN,sorted_at]
 ·rintro⟨y,b,e⟩
  let⟨k,a⟩:=RF b;have g:=(QW.1 a).1;have f:=List.getElem?_eq_none_iff.1 n;have:=d k y Aa a;omega
def eX1(hg:∀m:aN,Sp g [aQ m,I t] (I (cmpI (sid m) t))) l(u:l.length<=1000000)(hs:(l.map sid).Pairwise (·<·)):fnVC T Tryz.prog Tryz.f141 [.sl (l.map aQ),I t, .fn g []] (.tup [I (bs sid l t),DB (∃m∈l,sid m=t)]):=by
 have q:(l.map aQ).length=l.length:=Ad;repeat' ((conv=>whnf);first|refine zS ?_|fail)
 refine aU (A:=Nat) (B:=Nat) (λi j=>mkSt [(0, .sl (l.map aQ)),(1,I t),(2, .fn g []),(8,I l.length),(9,I i),(10,I j)] [] []) (λi j=>i<=j/\j<=l.length/\(∀k m,k<i->l[k]? =some m->sid m<t)/\∀k m,j<=k->l[k]? =some m->t<=sid m) (λi j=>j-i) 0 l.length ?_ ⟨Aa,Aa,λk m hk=>absurd hk Aa,λk m hk hm=>CB⟩ (λi j r=>?_);exact zj;let⟨o,s,h1,h2⟩:=r;have a:i<=l.length:=Aa;by_cases f:i<j;exact IY;have e:j=i:=by omega
 subst e;have c:=dC0 a h1 (λm hm=>h2 j m (Rf _) hm);have hex:=eC8 hs h1 (λm hm=>h2 j m (Rf _) hm);rw[c];generalize (∃m∈l,sid m=t)=P at*;by_cases d:j<l.length;have hm2:=QX d;generalize l[j] =m at hm2;have g1:=hg m;have hP:=hex.1 m hm2;have eP:DB P=V.lit (.bool (eqB (cmpI (sid m) t) 0)):=RI (λb=>V.lit (.bool b)) (sK (bP6.trans hP.symm)).symm;rw[eP];exact zF;exact KE
def eB5(a:∀m:aN,Sp g [aQ m,I t] (I (cmpI (sid m) t))) l(b:l.length<=1000000)(c:(l.map sid).Pairwise (·<·)):Sp 141 [.sl (l.map aQ),I t, .fn g []] (.tup [I (bs sid l t),DB (∃m∈l,sid m=t)]):=zsp func141 (eX1 a l b c)
def eW0(hg:∀m:Piece,Sp g [aZ m,I t] (I (cmpI (Piece.id m) t))) l(u:l.length<=1000000)(hs:(l.map Piece.id).Pairwise (·<·)):fnVC T Tryz.prog Tryz.f150 [.sl (l.map aZ),I t, .fn g []] (.tup [I (bs Piece.id l t),DB (∃m∈l,Piece.id m=t)]):=by
 have q:(l.map aZ).length=l.length:=Ad;repeat' ((conv=>whnf);first|refine zS ?_|fail)
 refine aU (A:=Nat) (B:=Nat) (λi j=>mkSt [(0, .sl (l.map aZ)),(1,I t),(2, .fn g []),(8,I l.length),(9,I i),(10,I j)] [] []) (λi j=>i<=j/\j<=l.length/\(∀k m,k<i->l[k]? =some m->Piece.id m<t)/\∀k m,j<=k->l[k]? =some m->t<=Piece.id m) (λi j=>j-i) 0 l.length ?_ ⟨Aa,Aa,λk m hk=>absurd hk Aa,λk m hk hm=>CB⟩ (λi j r=>?_);exact zj;let⟨o,s,h1,h2⟩:=r;have a:i<=l.length:=Aa;by_cases f:i<j;exact IY;have e:j=i:=by omega
 subst e;have c:=dC0 a h1 (λm hm=>h2 j m (Rf _) hm);have hex:=eC8 hs h1 (λm hm=>h2 j m (Rf _) hm);rw[c];generalize (∃m∈l,Piece.id m=t)=P at*;by_cases d:j<l.length;have hm2:=QX d;generalize l[j] =m at hm2;have g1:=hg m;have hP:=hex.1 m hm2;have eP:DB P=V.lit (.bool (eqB (cmpI (Piece.id m) t) 0)):=RI (λb=>V.lit (.bool b)) (sK (bP6.trans hP.symm)).symm;rw[eP];exact zF;exact KE
def eG9(a:∀m:Piece,Sp g [aZ m,I t] (I (cmpI (Piece.id m) t))) l(b:l.length<=1000000)(c:(l.map Piece.id).Pairwise (·<·)):Sp 150 [.sl (l.map aZ),I t, .fn g []] (.tup [I (bs Piece.id l t),DB (∃m∈l,Piece.id m=t)]):=zsp func150 (eW0 a l b c)
def cR0 x t:Sp 142 [aQ x,I t] (I (cmpI (sid x) t)):=by
 refine zsp func142 ?_;have a:=aE2 x;have b:=aB9 (sid x) t;exact zF
def cG0 x t:Sp 151 [aZ x,I t] (I (cmpI x.id t)):=by
 refine zsp func151 ?_;have a:=aB9 x.id t;exact zF
def dN9 n:Sp 191 [I n] (.lit (.bool false)):=by
 refine zsp func191 ?_;repeat' ((conv=>whnf);first|refine zS ?_|fail)
 all_goals conv=>whnf
 all_goals first|exact aK (by rw[aA1.2 rfl];rfl)|exact aK rfl
def dM1 a b:Sp 190 [I a,I b] (DB (a<b)):=by
 refine zsp func190 ?_;have c:=aN2 a;have d:=aN2 b;repeat' ((conv=>whnf);first|refine zc c ?_|refine zS ?_|fail)
 all_goals conv=>whnf
 all_goals exact aA eU2
def fA5 t l(H:l.length<=1000000)(u:(l.map id).Pairwise (·<·)):fnVC T Tryz.prog Tryz.f143 [.sl (l.map I),I t] (.tup [I (bs id l t),DB (∃m∈l,m=t)]):=by
 have E:(l.map I).length=l.length:=Ad;repeat' ((conv=>whnf);first|refine zS ?_|fail)
 refine aU (A:=Nat) (B:=Nat) (λi j=>mkSt [(0, .sl (l.map I)),(1,I t),(6,I l.length),(7,I i),(8,I j)] [] []) (λi j=>i<=j/\j<=l.length/\(∀k m,k<i->l[k]? =some m->m<t)/\∀k m,j<=k->l[k]? =some m->t<=m) (λi j=>j-i) 0 l.length ?_ ⟨Aa,Aa,λk m hk=>absurd hk Aa,λk m hk hm=>CB⟩ (λi j F=>?_);exact zj;let⟨D,G,o,q⟩:=F;have d:i<=l.length:=Aa;by_cases w:i<j
 ·have C:(i+j)/2<l.length:=by omega
  have hm2:=QX C;generalize l[(i+j)/2] =m at hm2;have z:=dM1 m t;have x:=Aa;repeat' ((conv=>whnf);first|omega|refine fK (k:= .u64) (n:=(i:Int)+(j:Int)) (m:=(i:Int)+(j:Int)) (cD4 Aa) ?_|refine fK (k:= .i64) (n:=shrI .u64 ((i:Int)+(j:Int)) 1) (m:=(((i+j)/2:Nat):Int)) (bF1 Aa) ?_|refine aB (l:=l) Aa ?_|refine gK (l:=l) hm2 Aa ?_|refine zc z ?_|refine zS ?_|refine zT ?_ ?_<;>intro _|fail)
  all_goals conv=>whnf
  have hc:m<t:=by assumption
  refine⟨((i+j)/2+1,j),?_,⟨Aa,Aa,λk y hk hy=>?_,q⟩,Aa⟩;exact zj;rcases Sj k ((i+j)/2)with h|h;exact Int.lt_trans (sorted_at (key:=id) u hy hm2 h) hc;exact Jm;have hc:t<=m:=by omega
  refine⟨(i,(i+j)/2),?_,⟨Aa,Aa,o,λk y hk hy=>?_⟩,Aa⟩;exact zj;rcases Sj ((i+j)/2) k with h|h;exact Int.le_of_lt (Int.lt_of_le_of_lt hc (sorted_at (key:=id) u hm2 hy h));exact Jm
 have e:j=i:=by omega
 subst e;have r:=dC0 (key:=id) d o (λm hm=>q j m (Rf _) hm);have a:=eC8 (key:=id) u o (λm hm=>q j m (Rf _) hm);rw[r];have v:(∃m∈l,m=t)↔(∃y∈l,id y=t):=RU;simp only[id]at a;generalize (∃m∈l,m=t)=P at*;by_cases s:j<l.length
 ·have hm2:=QX s
  generalize l[j] =m at hm2;have g:=a.1 m hm2;by_cases f:m=t
  ·have c:DB P=V.lit (.bool true):=RI (λb=>V.lit (.bool b)) (dH.2 (g.2 f))
   rw[c];repeat' ((conv=>whnf);first|omega|refine aB (l:=l) Aa ?_|refine gK (l:=l) hm2 Aa ?_|refine zS ?_|refine zT ?_ ?_<;>intro _|fail)
   all_goals exact zE
  have c:DB P=V.lit (.bool false):=RI (λb=>V.lit (.bool b)) (dW.2 (λh=>f (g.1 h)));rw[c];repeat' ((conv=>whnf);first|omega|refine aB (l:=l) Aa ?_|refine gK (l:=l) hm2 Aa ?_|refine zc (dN9 m) ?_|refine zS ?_|refine zT ?_ ?_<;>intro _|fail)
  all_goals exact zE
 have g:=a.2 (TG Aa);have c:DB P=V.lit (.bool false):=RI (λb=>V.lit (.bool b)) (dW.2 g);rw[c];exact NV
def cQ0 t l(a:l.length<=1000000)(b:(l.map id).Pairwise (·<·)):Sp 143 [.sl (l.map I),I t] (.tup [I (bs id l t),DB (∃m∈l,m=t)]):=zsp func143 (fA5 t l a b)
def lay(cur:Array Value)(o:Nat)(vs:List Value):Array Value:=(cur.toList.take o++vs++cur.toList.drop (o+vs.length)).toArray
def lay_size(h:o+vs.length<=cur.size):(lay cur o vs).size=cur.size:=by
 unfold lay;simp;omega
def iW w p A ty b g o c e a d k sz n cur t cs
 (z:P.underlying p=some (.slice b))(q:(P.info? b).map (·.size)=some sz)
 (s:w.heap[g]? =some (.cells cur t (0,0)))(x:Nat.min d c=n)(y:cs.length=n*sz)
 (h:∀j v,cs[j]? =some v->w.cell? (a.add j)=some v)(f:o+cs.length<=cur.size)(r:∀v∈cs,v.oneCell'=true):
 (Builtin.copy_ #[p,A] ty #[.slice (some ⟨g,o,none⟩) c e, .slice (some a) d k]).run P w=
  .ok (goInt n) (w.setRow g (lay cur o cs)):=by
 have u:=run_loadCells_list (P:=P) w a cs h;have m:=run_storeCells_at P g o t cs 0 cur w s (by simpa using f) r;unfold lay;cases l:P.info? b with
 |none=>simp[l]at q
 |some i=>
  have hi:i.size=sz:=by simpa [l]using q
  simp[Builtin.copy_,RJ z,Builtin.lenOf,Builtin.firstCells,sizeOf,typeInfo,l,hi,x,<-y,u,m]
theorem xJ cur o vs:(lay cur o vs).toList=cur.toList.take o++vs++cur.toList.drop (o+vs.length):=by
 unfold lay;rfl
theorem uI{a:Type}{A B C:List a}(h:A.length+B.length=n):(A++B++C).take n=A++B:=by
 grind
def layA(h:p+vs.length+a.length<=cur.size):
 (lay (lay cur (p+vs.length) a) p vs).toList.take (p+vs.length+a.length)=cur.toList.take p++vs++a:=by
 have c:cur.toList.length=cur.size:=SB;rw[xJ,xJ];have b:(cur.toList.take (p+vs.length)).length=p+vs.length:=G7;grind [Tn,UH,List.drop_left,uI,QY,Rk]
def layB(h:p+vs.length+a.length<=R.size):
 (lay (lay R p vs) (p+vs.length) a).toList.take (p+vs.length+a.length)=R.toList.take p++vs++a:=by
 have c:R.toList.length=R.size:=SB;rw[xJ,xJ];have b:(R.toList.take p++vs).length=p+vs.length:=by rw[QY,Rk];omega
 grind
def layC(h:p+vs.length<=cur.size):(lay cur p vs).toList.take (p+vs.length)=cur.toList.take p++vs:=by
 have a:cur.toList.length=cur.size:=SB;rw[xJ];exact uI G7
def oH(d:RvL w G a x)(e:RvL w G b y):RvL w G (a++b) (x++y):=by
 refine⟨by rw[QY,QY,d.len,e.len],λv hv=>?_,λi v z hv c=>?_⟩;rcases Rh.1 hv with h|h;exact d.one v h;exact e.one v h;rw[UW]at hv c;rw[<-d.len]at c;split at hv;rename_i hi;rw[QU hi]at c;exact d.rel i v z hv c;rename_i hi;rw[Q9 hi]at c;exact e.rel _ v z hv c
def aM1(h:RvL w G a x) n:RvL w G (a.take n) (x.take n):=by
 refine⟨by rw[Rk,Rk,h.len],λv hv=>h.one v (RP hv),λi v z hv b=>?_⟩;rw[TV]at hv b;split at hv;rename_i hi;rw[QU hi]at b;exact h.rel i v z hv b;cases hv
def aL4(h:RvL w G a x) n:RvL w G (a.drop n) (x.drop n):=by
 refine⟨by rw[Sr,Sr,h.len],λv hv=>h.one v (RQ hv),λi v z hv b=>?_⟩;rw[SA]at hv b;exact h.rel _ v z hv b
def xW{l:List V}(b:∀x∈l,x.cells.length=sz)(hi:i<=l.length):(l.flatMap V.cells).take (i*sz)=(l.take i).flatMap V.cells/\(l.flatMap V.cells).drop (i*sz)=(l.drop i).flatMap V.cells:=by
 have e:l.flatMap V.cells=(l.take i).flatMap V.cells++(l.drop i).flatMap V.cells:=by rw[<-Ub,SG]
 have a:((l.take i).flatMap V.cells).length=i*sz:=by
  grind [Go.Ab.sH,RP,Rk,UH]
 simp_all
def jM(z:E<T.n E)(hp:bM L)(f:L.length=n)(I:∀x∈L,x.cells.length=(T.row E).size)
 (A:RvL w G (X.toList.take (n*(T.row E).size)) (L.flatMap V.cells))(B:w'.heap[b]? =some (.cells X E (0,0)))(H:X.size=c*(T.row E).size)(g:n<=c)(D:c<=maxLen)
 (o:∀b,G.O b≠ .ext->b<w.heap.size)(r:∀b i,G.O b≠ .bx i)(C:G.O b= .ar 0\/w.heap.size<=b)
 (F:∀q,q<w.heap.size->q≠b->w'.heap[q]? =w.heap[q]?)(l:w.heap.size<=w'.heap.size)(s:w'.os=w.os)(t:w'.tape=w.tape)(u:w'.output=w.output):
 ∃v G',Ending.returned (.slice (some ⟨b,0,none⟩) n c)= .returned v/\(Rr T w' G' v (.own E L)/\True)/\
  (∀b,G.O b= .fz->G'.O b= .fz)/\(∀b,G'.O b≠ .ext->b<w'.heap.size)/\(∀b i,G'.O b≠ .bx i)/\
  (∀b,G'.O b≠ .ext->(G.O b= .fz/\G'.O b= .fz)\/w.heap.size<=b\/∃j,G.O b= .ar j)/\
  (∀b,b<w.heap.size->(∀j,G.O b≠ .ar j)->w'.heap[b]? =w.heap[b]?)/\
  w.heap.size<=w'.heap.size/\w'.os=w.os/\w'.tape=w.tape/\w'.output=w.output:=by
 have a:∀q,G.O q= .fz->q≠b:=by
  grind
 have d:Keep w w' G {G with O:=λq=>if q=b then .ar 0 else G.O q}:=⟨λq hq=>by simp[a q hq,hq],λq hq=>F q (o q Au) (a q hq)⟩
 have k:=aH.2 λy hy=>by
  exact QH
 subst f;refine⟨_,{G with O:=λq=>if q=b then .ar 0 else G.O q},rfl,⟨⟨z,hp, .inr ⟨b,c,X,rfl,Ad,B,g,D,H,I,A.keep d k (λ_ h=>h.elim) (λ_ _ h=>h.elim)⟩⟩,trivial⟩,d.fz,λq hq=>?_,λq i hq=>?_,λq hq=>?_,λq J K=>?_,l,s,t,u⟩
 ·grind
 ·grind
 ·by_cases e:q=b
  ·grind
  ·simp only[e,Uu]at hq⊢
   cases m:G.O q with
   |ext=>exact absurd m hq
   |fz=>exact .inl ⟨rfl,rfl⟩
   |bx i=>exact absurd m (r q i)
   |ar j=>exact .inr (.inr ⟨j,rfl⟩)
 ·grind
def bY9(h:gJ T w G k u E [x]):∃ b c  cur,u= .slice (some ⟨b,0,none⟩) 1 c/\G.O b= .ar k/\w.heap[b]? =some (.cells cur E (0,0))/\(T.row E).size<=cur.size/\
 x.cells.length=(T.row E).size/\RvL w G (cur.toList.take (T.row E).size) x.cells:=by
 rcases h with⟨_,h⟩|⟨b,c,cur,a,d,e,f,j,g,i,l⟩
 ·cases h
 ·refine⟨b,c,cur,a,d,e,?_,i x Ad,?_⟩
  ·rw[g]
   exact Nat.le_mul_of_pos_left _ f
  ·simp_all
def aN3(h:Rb T w G j v (.lit u)):v=u:=h.2.bH
def arr3{cs:Array Value}(h:cs.size=3):∃a b c,cs= #[a,b,c] :=by
 let⟨l⟩:=cs;match l,h with
 | [a,b,c],_=>exact⟨a,b,c,rfl⟩
end Go.Proofs.Led
namespace Go.Proofs.Led
open Go Go.Proofs Go.Ab Go.RowKit Go.Lib Tryz
structure ElT(S E Z B:Nat):Prop where
 u:Tryz.prog.underlying S=some (.slice E)
 t:E<T.n E
 s:(T.row E).size=Z
 y:(T.row E).bytes=B
 b:B<=1000
 z:0<Z
section
variable{S E Z B:Nat}
def ElT.info(h:ElT S E Z B):∃i z,Tryz.prog.info? E=some i/\i.size=Z/\i.bytes=B/\i.zero=some z/\z.cells.size=Z:=by
 let⟨i,c,d,e,z,f,a,_,b,_,_⟩:=(uG E h.t).info;exact⟨i,z,c,d.trans h.s,e.trans h.y,f,by rw[<-SB,a,b,h.s]⟩
def cell_seg{w:World}(h:w.heap[b]? =some (.cells X E (0,0)))(a:((X.toList.drop o).take n)[j]? =some v):w.cell? ((⟨b,o,none⟩:Addr).add j)=some v:=by
 rw[Addr.add_lit];rw[TV]at a;split at a;rw[SA,Ud]at a;simp[World.cell?,h];simpa using a;cases a
def cell_take{w:World}(h:w.heap[b]? =some (.cells X E (0,0)))(a:(X.toList.take n)[j]? =some v):w.cell? ((⟨b,0,none⟩:Addr).add j)=some v:=
 cell_seg (o:=0) h a
def mulZ(h:a<=b):a*Z<=b*Z/\(b-a)*Z=b*Z-a*Z:=⟨UX Z h,Nat.sub_mul b a Z⟩
def ElT.cp(h:ElT S E Z B){W}{b d} ty e sc(o:W.heap[b]? =some (.cells X E (0,0)))(n:W.heap[d]? =some (.cells Y E (0,0)))(r:Nat.min c a=k)
 (s:o2+k*Z<=Y.size)(p:o1+k*Z<=X.size)(m:∀v∈(Y.toList.drop o2).take (k*Z),v.oneCell'=true):
 (Builtin.copy_ #[S,S] ty #[.slice (some ⟨b,o1,none⟩) a e, .slice (some ⟨d,o2,none⟩) c sc]).run Tryz.prog W= .ok (goInt k) (W.setRow b (lay X o1 ((Y.toList.drop o2).take (k*Z)))):=by
 let⟨i,z,g,l,_⟩:=h.info;have f:((Y.toList.drop o2).take (k*Z)).length=k*Z:=by rw[Rk,Sr,SB];omega
 exact iW W S S ty E b o1 a e ⟨d,o2,none⟩ c sc Z k X E _ h.u (by rw[g];simp[l]) o r f (λj v q=>cell_seg n q) (by rw[f];exact p) m
def ElT.cp1(h:ElT S E Z B){W}{b vb} ty a vc(f:W.heap[b]? =some (.cells X E (0,0)))(e:W.heap[vb]? =some (.cells Y E (0,0)))(g:1<=c)
 (j:Z<=Y.size)(i:o1+Z<=X.size)(d:∀v∈Y.toList.take Z,v.oneCell'=true):
 (Builtin.copy_ #[S,S] ty #[.slice (some ⟨b,o1,none⟩) c a, .slice (some ⟨vb,0,none⟩) 1 vc]).run Tryz.prog W= .ok (goInt (1:Nat)) (W.setRow b (lay X o1 (Y.toList.take Z))):=by
 have:=h.cp (o1:=o1) (o2:=0) (k:=1) ty a vc f e (UH g) Aa Aa (by rw[Nat.one_mul];exact d);rw[Nat.one_mul]at this;exact this
def ElT.room(h:ElT S E Z B){b n c vb vc}(d:n+1<=c)(l:w.heap[b]? =some (.cells cur E (0,0)))(hv:w.heap[vb]? =some (.cells a E (0,0)))(g:cur.size=c*Z)(q:Z<=a.size)
 (k:∀v∈a.toList.take Z,v.oneCell'=true) ty:
 (Builtin.append_ #[S,S] ty #[.slice (some ⟨b,0,none⟩) n c, .slice (some ⟨vb,0,none⟩) 1 vc]).run Tryz.prog w= .ok (.slice (some ⟨b,0,none⟩) (n+1) c) (w.setRow b (lay cur (n*Z) (a.toList.take Z))):=by
 let⟨s,z,i,e,r,_⟩:=h.info;have f:(a.toList.take Z).length=Z:=Dk;have o:=(mulZ (Z:=Z) d).1;rw[TY]at o;have h:=run_append_room (P:=Tryz.prog) w S ty E s h.u i b n c cur l ⟨vb,0,none⟩ 1 vc (a.toList.take Z) (by rw[f,e,Nat.one_mul]) (λj v m=>cell_take hv m) k d (by rw[f,e,g];omega);rw[e]at h;exact h
def ElT.fits(h:ElT S E Z B) w(a:c<n)(d:n<=1000000001):Builtin.nextslicecap n c*B<=281474976710656/\n<=grownCap w n c E/\grownCap w n c E<=maxLen:=
 ⟨growslice_fits a (Rz (UQ d h.b) Ai),grownCap_ge w n c E,grownCap_le_maxLen w n c E Cj⟩
def ElT.app(h:ElT S E Z B) d n c vb vc(cs:List Value) e w(H:n<=c)(f:c<n+1)(A:n<=1000000000)
 (G:d=none->n=0/\c=0)(F:∀a,d=some a->∀j v,cs[j]? =some v->w.cell? (a.add j)=some v)(g:cs.length=n*Z)
 (hv:w.heap[vb]? =some (.cells e E (0,0)))(I:Z<=e.size):∃ q  z,n+1<=q/\q<=maxLen/\z.size=(q- (n+1))*Z/\∀ty,
 (Builtin.append_ #[S,S] ty #[.slice d n c, .slice (some ⟨vb,0,none⟩) 1 vc]).run Tryz.prog w= .ok (.slice (some ⟨w.heap.size,0,none⟩) (n+1) q) (w.drew.alloc (.cells (cs.toArray++(e.toList.take Z).toArray++z) E)):=by
 let⟨y,z,k,o,m,C,x⟩:=h.info;let⟨i,r,t⟩:=h.fits w f Aa;have J:=h.b;have l:(e.toList.take Z).length=1*y.size:=by rw[o,Rk,SB];omega
 refine⟨grownCap w (n+1) c E,Builtin.zeroCells z.cells (grownCap w (n+1) c E- (n+1)),r,t,by simp[Builtin.zeroCells,x],λty=>?_⟩;cases d with
 |none=>
  obtain⟨rfl,rfl⟩:=G rfl;have D:cs=[] :=RS.1 (by simp[g]);subst D;have h:=run_append_nil (P:=Tryz.prog) w S ty E y z h.u k C ⟨vb,0,none⟩ 1 vc _ l (λj v s=>cell_take hv s) Aa Aa (by rw[m];omega);rw[h];simp
 |some a=>
  exact run_append_grow (P:=Tryz.prog) w S ty E y z h.u k C a n c cs (by rw[o];exact g) (F a rfl) ⟨vb,0,none⟩ 1 vc _ l (λj v s=>cell_take hv s) f Aa (by rw[m];exact i)
def ElT.zeros(h:ElT S E Z B){b n c i}(hi:i<n)(C:n<=c)(a:c<n+1)(t:n<=1000000000)(y:w.heap[b]? =some (.cells cur E (0,0)))(o:cur.size=c*Z):
 ∃ m  R,n+1<=m/\m<=maxLen/\R.size=m*Z/\R.toList.take (i*Z)=cur.toList.take (i*Z)/\∀ty,
  (Builtin.append_ #[S,3] ty #[.slice (some ⟨b,0,none⟩) i c, .int .i64 ((n:Int)+1- (i:Int))]).run Tryz.prog w= .ok (.slice (some ⟨w.heap.size,0,none⟩) (n+1) m) (w.drew.alloc (.cells R E)):=by
 let⟨x,z,q,l,k,D,F⟩:=h.info;let⟨d,e,s⟩:=h.fits w a Aa;have r:(n:Int)+1- (i:Int)=((n+1-i:Nat):Int):=Aa;have f:i+(n+1-i)=n+1:=Aa;have G:=(mulZ (Z:=Z) (show i<=c from Aa)).1
 have g:(Builtin.firstCells x.size i (.slice (some ⟨b,0,none⟩) i c)).run Tryz.prog w.drew= .ok (cur.toList.take (i*Z)).toArray w.drew:=by
  rw[l];exact run_firstCells_some w.drew Z i ⟨b,0,none⟩ i c (cur.toList.take (i*Z)) (by rw[Rk,SB,o];omega) (λj v A=>cell_take (w:=w.drew) y A)
 refine⟨grownCap w (n+1) c E,(cur.toList.take (i*Z)).toArray++Builtin.zeroCells z.cells (n+1-i)++Builtin.zeroCells z.cells (grownCap w (n+1) c E- (n+1)),e,s,?_,?_,λty=>?_⟩
 ·have H:=mulZ (Z:=Z) (show i<=n+1 from Aa)
  have I:=mulZ (Z:=Z) e;grind [UH,Builtin.zeroCells]
 ·simp_all
 ·have h:=Lib.run_append_grow_zeros w S 3 ty E x _ .i64 .i64 h.u SL q D (some ⟨b,0,none⟩) i c (cur.toList.take (i*Z)) g (n+1-i) Aa (by rw[l];exact h.z) Aa Aa (by rw[k];exact Rz (UQ (by omega:n+1-i<=1000000001) h.b) (by decide)) (by rw[k,f];exact d)
  rw[f]at h;rw[r,h]
def seg_mem{cur:Array Value}(hi:i<=n)(hv:v∈(cur.toList.drop (i*Z)).take ((n-i)*Z)):v∈cur.toList.take (n*Z):=by
 have:(cur.toList.drop (i*Z)).take ((n-i)*Z)=(cur.toList.take (n*Z)).drop (i*Z):=by rw[Vf,(mulZ hi).2]
 rw[this]at hv;exact RQ hv
theorem ElT.shift(h:ElT S E Z B){b n c i vb vc}(hi:i<n)(e:n+1<=c)(hbs:cur.size=c*Z)(o:Z<=a.size)
 (s:∀v∈cur.toList.take (n*Z),v.oneCell'=true)(t:∀v∈a.toList.take Z,v.oneCell'=true):
 ∃g,g=lay cur ((i+1)*Z) ((cur.toList.drop (i*Z)).take ((n-i)*Z))/\
 (∀ W  o1 o2 f q ty d sc,W.heap[b]? =some (.cells cur E (0,0))->o1=(i+1)*Z->o2=i*Z->Nat.min q f=n-i->
  (Builtin.copy_ #[S,S] ty #[.slice (some ⟨b,o1,none⟩) f d, .slice (some ⟨b,o2,none⟩) q sc]).run Tryz.prog W= .ok (goInt (n-i:Nat)) (W.setRow b g))/\
 ∀ W  o1 f ty d,W.heap[b]? =some (.cells g E (0,0))->W.heap[vb]? =some (.cells a E (0,0))->o1=i*Z->1<=f->
  (Builtin.copy_ #[S,S] ty #[.slice (some ⟨b,o1,none⟩) f d, .slice (some ⟨vb,0,none⟩) 1 vc]).run Tryz.prog W= .ok (goInt (1:Nat)) (W.setRow b (lay g (i*Z) (a.toList.take Z))):=by
 have m1:=mulZ (Z:=Z) (Uf hi);have y:=(mulZ (Z:=Z) e).1;have z:=(mulZ (Z:=Z) (show i+1<=n+1 from Aa)).1;have w:(i+1)*Z=i*Z+Z:=TY i Z;have x:(n+1)*Z=n*Z+Z:=TY n Z;have u:((cur.toList.drop (i*Z)).take ((n-i)*Z)).length=(n-i)*Z:=by rw[Rk,Sr,SB,hbs,m1.2];omega
 refine⟨_,rfl,λW o1 o2 f q ty d sc j k r m=>?_,λW o1 f ty d j l k m=>?_⟩
 ·subst k r
  exact h.cp ty d sc j j m Iw Iw (λv hv=>s v (seg_mem (Uf hi) hv))
 ·subst k
  exact h.cp1 ty d vc j l m o (by rw[lay_size (by rw[u,hbs,m1.2];omega),hbs];omega) t
def ElT.grow(h:ElT S E Z B){b n c t i vb vc N}(hi:i<n)(q:n<=c)(m:n+1<=t)(hbs:cur.size=c*Z)(e:R.size=t*Z)(r:Z<=a.size)
 (w:∀v∈cur.toList.take (n*Z),v.oneCell'=true)(x:∀v∈a.toList.take Z,v.oneCell'=true):
 ∃j,j=lay R (i*Z) (a.toList.take Z)/\
 (∀ W  o1 g ty d,W.heap[N]? =some (.cells R E (0,0))->W.heap[vb]? =some (.cells a E (0,0))->o1=i*Z->1<=g->
  (Builtin.copy_ #[S,S] ty #[.slice (some ⟨N,o1,none⟩) g d, .slice (some ⟨vb,0,none⟩) 1 vc]).run Tryz.prog W= .ok (goInt (1:Nat)) (W.setRow N j))/\
 ∀ W  o1 o2 g s ty d sc,W.heap[N]? =some (.cells j E (0,0))->W.heap[b]? =some (.cells cur E (0,0))->o1=(i+1)*Z->o2=i*Z->Nat.min s g=n-i->
  (Builtin.copy_ #[S,S] ty #[.slice (some ⟨N,o1,none⟩) g d, .slice (some ⟨b,o2,none⟩) s sc]).run Tryz.prog W= .ok (goInt (n-i:Nat)) (W.setRow N (lay j ((i+1)*Z) ((cur.toList.drop (i*Z)).take ((n-i)*Z)))):=by
 have m1:=mulZ (Z:=Z) (Uf hi);have C:=(mulZ (Z:=Z) m).1;have D:=(mulZ (Z:=Z) (show i+1<=n+1 from Aa)).1;have F:=(mulZ (Z:=Z) q).1;have z:(i+1)*Z=i*Z+Z:=TY i Z;have A:(n+1)*Z=n*Z+Z:=TY n Z;have y:(a.toList.take Z).length=Z:=Dk;refine⟨_,rfl,λW o1 g ty d l f k o=>?_,λW o1 o2 g s ty d sc l f k u o=>?_⟩
 ·subst k
  exact h.cp1 ty d vc l f o r (by rw[e];omega) x
 ·subst k u
  exact h.cp ty d sc l f o Iw (by rw[lay_size (by rw[y,e];omega),e,m1.2];omega) (λv hv=>w v (seg_mem (Uf hi) hv))
end
def OvT(F E:Nat):Prop:=∀(w:World) (b vb ob lb cb vc:Nat) (cur vcur:Array Value),vb≠b->w.heap[b]? =some (.cells cur E (0,0))->w.heap[vb]? =some (.cells vcur E (0,0))->cur.size≠0->
 (callFunc F #[.slice (some ⟨vb,0,none⟩) 1 vc, .slice (some ⟨b,ob,none⟩) lb cb]).run Tryz.prog w= .ok (.value (.bool false)) w
def InsShift(F E Z:Nat):Prop:=∀(b n c i vb vc:Nat) (cur vcur:Array Value) (w:World),i<n->n+1<=c->c<=9223372036854775807->vb≠b->
 w.heap[b]? =some (.cells cur E (0,0))->w.heap[vb]? =some (.cells vcur E (0,0))->cur.size=c*Z->Z<=vcur.size->(∀v∈cur.toList.take (n*Z),v.oneCell'=true)->(∀v∈vcur.toList.take Z,v.oneCell'=true)->
 Calls Tryz.prog F #[.slice (some ⟨b,0,none⟩) n c, .int .i64 i, .slice (some ⟨vb,0,none⟩) 1 vc] w λe w'=>
  e= .returned (.slice (some ⟨b,0,none⟩) (n+1) c)/\w'=(w.drew.setRow b (lay cur ((i+1)*Z) ((cur.toList.drop (i*Z)).take ((n-i)*Z)))).setRow b (lay (lay cur ((i+1)*Z) ((cur.toList.drop (i*Z)).take ((n-i)*Z))) (i*Z) (vcur.toList.take Z))
def InsEnd(F E Z:Nat):Prop:=∀(b n c vb vc:Nat) (cur vcur:Array Value) (w:World),n+1<=c->c<=9223372036854775807->
 w.heap[b]? =some (.cells cur E (0,0))->w.heap[vb]? =some (.cells vcur E (0,0))->cur.size=c*Z->Z<=vcur.size->(∀v∈vcur.toList.take Z,v.oneCell'=true)->
 Calls Tryz.prog F #[.slice (some ⟨b,0,none⟩) n c, .int .i64 n, .slice (some ⟨vb,0,none⟩) 1 vc] w λe w'=>
  e= .returned (.slice (some ⟨b,0,none⟩) (n+1) c)/\w'=w.setRow b (lay cur (n*Z) (vcur.toList.take Z))
def InsEndG(F S E:Nat):Prop:=∀(base:Option Addr) (n c c' vb vc:Nat) (X:Array Value) (w:World),n<=c->c<n+1->n<=1000000000->(base=none->n=0/\c=0)->
 (∀ty,(Builtin.append_ #[S,S] ty #[.slice base n c, .slice (some ⟨vb,0,none⟩) 1 vc]).run Tryz.prog w= .ok (.slice (some ⟨w.heap.size,0,none⟩) (n+1) c') (w.drew.alloc (.cells X E)))->
 Calls Tryz.prog F #[.slice base n c, .int .i64 n, .slice (some ⟨vb,0,none⟩) 1 vc] w λe w'=>e= .returned (.slice (some ⟨w.heap.size,0,none⟩) (n+1) c')/\w'=w.drew.alloc (.cells X E)
def InsGrow(F S E Z:Nat):Prop:=∀(b n c c' i vb vc:Nat) (cur vcur R:Array Value) (w:World),i<n->n<=c->c<n+1->n<=1000000000->n+1<=c'->c'<=maxLen->
 w.heap[b]? =some (.cells cur E (0,0))->w.heap[vb]? =some (.cells vcur E (0,0))->cur.size=c*Z->R.size=c'*Z->Z<=vcur.size->(∀v∈cur.toList.take (n*Z),v.oneCell'=true)->(∀v∈vcur.toList.take Z,v.oneCell'=true)->
 (∀ty,(Builtin.append_ #[S,3] ty #[.slice (some ⟨b,0,none⟩) i c, .int .i64 ((n:Int)+1- (i:Int))]).run Tryz.prog w= .ok (.slice (some ⟨w.heap.size,0,none⟩) (n+1) c') (w.drew.alloc (.cells R E)))->
 Calls Tryz.prog F #[.slice (some ⟨b,0,none⟩) n c, .int .i64 i, .slice (some ⟨vb,0,none⟩) 1 vc] w λe w'=>e= .returned (.slice (some ⟨w.heap.size,0,none⟩) (n+1) c')/\
  w'=(((w.alloc (.cells R E)).drew.setRow w.heap.size (lay R (i*Z) (vcur.toList.take Z))).drew).setRow w.heap.size (lay (lay R (i*Z) (vcur.toList.take Z)) ((i+1)*Z) ((cur.toList.drop (i*Z)).take ((n-i)*Z)))
def ElT.nw{S E Z B}(h:ElT S E Z B)(w:World) R:((w.alloc (.cells R E)).drew).heap[w.heap.size]? =some (.cells R E (0,0))/\∀q,q<w.heap.size->((w.alloc (.cells R E)).drew).heap[q]? =w.heap[q]? :=
 ⟨UA,λq a=>by
  show(w.heap.push _)[q]? =_;rw[Array.getElem?_push_lt a,U4 a]⟩
end Go.Proofs.Led
