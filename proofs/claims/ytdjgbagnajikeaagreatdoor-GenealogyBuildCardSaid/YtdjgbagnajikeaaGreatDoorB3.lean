/-
  Sectors, walked.
-/
import Derived.Test.YtdjgbagnajikeaaGreatDoorB2
set_option linter.unusedVariables false
set_option linter.unusedSimpArgs false
set_option maxRecDepth 100000
set_option maxHeartbeats 4000000
noncomputable section
namespace Go.Proofs.Led
open Go Go.Proofs Go.Ab
def jS(a b:Vc):Int:=if 0<bZ a b then 0 else if bZ a b<0 then 2 else if vdot a b<0 then 1 else 3
theorem eW4{a b:Vc}(h:0<bZ a b):jS a b=0:=QO h
theorem eZ4{a b:Vc}(h:bZ a b<0):jS a b=2:=by unfold jS;rw[Q5 (by omega),QO h]
theorem eW6{a b:Vc}(c:bZ a b<=0)(d:0<=bZ a b)(h:vdot a b<0):jS a b=1:=by unfold jS;rw[Q5 (by omega),Q5 (by omega),QO h]
theorem fB4{a b:Vc}(c:bZ a b<=0)(d:0<=bZ a b)(h:0<=vdot a b):jS a b=3:=by unfold jS;rw[Q5 (by omega),Q5 (by omega),Q5 (by omega)]
theorem aQ6(a b:Vc):Sp 306 [vcV a,vcV b] (I (jS a b)):=by
 refine zsp Tryz.func306 ?_;have f:=eW4 (a:=a) (b:=b);have g:=eW6 (a:=a) (b:=b)
 have i:=eZ4 (a:=a) (b:=b);have j:=fB4 (a:=a) (b:=b)
 generalize jS a b=A at*;have k:=kD a b;have l:=dP6 a b
 generalize bZ a b=c at*;generalize vdot a b=d at*
 repeat' ((conv=>whnf);first|refine zc k ?_|refine zc l ?_|refine zS ?_|refine zl (λe=>?_) (λe=>?_))
 all_goals conv=>whnf
 all_goals first
  |exact aG (f Aa).symm
  |exact aG (i Aa).symm
  |exact aG (g Aa Aa Aa).symm
  |exact aG (j Aa Aa Aa).symm
theorem bX9(s:Sg):Sp 256 [sgV s] (sgV (s.2,s.1)):=by
 refine zsp Tryz.func256 ?_;exact OA
def oG(s:Sg)(d:Vc):Prop:=jS s.1 d<jS s.1 s.2\/(jS s.1 d=jS s.1 s.2/\jS s.1 d≠3/\0<bZ d s.2)
theorem bE0(s:Sg)(d:Vc):Sp 307 [sgV s,vcV d] (DB (oG s d)):=by
 refine zsp Tryz.func307 ?_;have e:=aQ6 s.1 d;have f:=aQ6 s.1 s.2
 have b:=kD d s.2;generalize hP:oG s d=P;have a:P↔oG s d:=GK
 unfold oG at a;clear hP;generalize jS s.1 d=x at*;generalize jS s.1 s.2=y at*;generalize bZ d s.2=c at*
 repeat' ((conv=>whnf);first|refine zc e ?_|refine zc f ?_|refine zc b ?_|refine zS ?_|refine zT ?_ ?_<;>intro _|fail)
 all_goals conv=>whnf
 all_goals refine aA ?_
 all_goals first
  |exact fE (a.2 Aa)
  |exact aC (λh=>by have h:=a.1 h;omega)
  |(refine aS1 ?_;rw[a];omega)
def jH(s t:Sg):Prop:=jS s.1 t.1=3\/oG s t.1\/oG t s.1
theorem cT5(s t:Sg):Sp 255 [sgV s,sgV t] (DB (jH s t)):=by
 refine zsp Tryz.func255 ?_;have d:=aQ6 s.1 t.1;have b:=bE0 s t.1
 have c:=bE0 t s.1;generalize hP:jH s t=P;have a:P↔jH s t:=GK
 unfold jH at a;clear hP;generalize jS s.1 t.1=x at*;generalize oG s t.1=p at*;generalize oG t s.1=q at*
 repeat' ((conv=>whnf);first|refine zc d ?_|refine zc b ?_|refine zc c ?_|refine zS ?_|refine zT ?_ ?_<;>intro _|fail)
 all_goals conv=>whnf
 all_goals refine aA ?_
 all_goals first
  |exact fE (a.2 (by first|exact .inl ‹_› |exact .inr (.inl ‹_›)))
  |(refine fQ ?_;rw[a];exact⟨λh=> .inr (.inr h),λh=>by rcases h with h|h|h<;>first|contradiction|exact h⟩)
theorem fD3{g:FuncId}{c d:List V}{Q:Vc->Prop}(hg:∀m,Sp g (vcV m:: [.fp c, .fp d]) (DB (Q m)))(l:List Vc)(b:l.length<=1000000):fnVC T Tryz.prog Tryz.f285 [.sl (l.map vcV), .fn g [.fp c, .fp d]] (I (fstI Q l)):=by
 have a:(l.map vcV).length=l.length:=Af
 repeat' ((conv=>whnf);first|refine zS ?_|fail)
 refine aU (A:=List Vc) (B:=List Vc) (λD R=>mkSt [(0, .sl (l.map vcV)),(1, .fn g [.fp c, .fp d]),(7,I l.length),(8,I D.length)] [] [])
  (λD R=>l=D++R/\∀m∈D,¬Q m) (λD R=>R.length) [] l ?_ ⟨rfl,Af⟩ (λD R hp=>?_)
 ·exact zj
 ·exact I9
theorem dW6{g:FuncId}{c d:List V}{Q:Vc->Prop}(a:∀m,Sp g (vcV m:: [.fp c, .fp d]) (DB (Q m)))(l:List Vc)(b:l.length<=1000000):Sp 285 [.sl (l.map vcV), .fn g [.fp c, .fp d]] (I (fstI Q l)):=zsp Tryz.func285 (fD3 a l b)
theorem eY5{g:FuncId}{c d:List V}{Q:Vc->Prop}(a:∀m,Sp g (vcV m:: [.fp c, .fp d]) (DB (Q m)))(l:List Vc)(b:l.length<=1000000):fnVC T Tryz.prog Tryz.f236 [.sl (l.map vcV), .fn g [.fp c, .fp d]] (DB (∃m∈l,Q m)):=by
 repeat' ((conv=>whnf);first|refine zc (dW6 a l b) ?_|refine zS ?_|fail)
 exact Nq
theorem dV5{g:FuncId}{c d:List V}{Q:Vc->Prop}(a:∀m,Sp g (vcV m:: [.fp c, .fp d]) (DB (Q m)))(l:List Vc)(b:l.length<=1000000):Sp 236 [.sl (l.map vcV), .fn g [.fp c, .fp d]] (DB (∃m∈l,Q m)):=zsp Tryz.func236 (eY5 a l b)
theorem cY2(b:Sh)(n:Int)(a:gV b)(v:Vc):Sp 303 [vcV v, .fp (shV b).cells, .fp [I n]] (DB (lJ b v=n)):=by
 refine zsp Tryz.func303 ?_
 repeat' ((conv=>whnf);first|refine zc (aD4 b v a) ?_|refine zS ?_|fail)
 all_goals conv=>whnf
 all_goals exact aA eqB_d
def rV(s:Sh):List Vc:=(rings s).flatten
theorem cH3{s:Sh}(b:gV s)(e:s.holes.length<=6):(rV s).length<=7000000:=by
 have c:=dH9 (rings s) (λr a=>b.mem a);have d:(rings s).length=s.holes.length+1:=AQ
 unfold rV;omega
def bL9(a b:Sh)(n:Int):Prop:=∃v∈rV a,lJ b v=n
theorem bK5(a b:Sh)(n:Int)(d:gV a)(c:a.holes.length<=6)(e:gV b)(f:(rV a).length<=1000000):Sp 252 [shV a,shV b,I n] (DB (bL9 a b n)):=by
 refine zsp Tryz.func252 ?_
 repeat' ((conv=>whnf);first|refine zc (aJ3 a d c) ?_|refine zc (dV5 (λv=>cY2 b n e v) (rV a) f) ?_|refine zS ?_|fail)
 all_goals conv=>whnf
 all_goals exact aA rfl
end Go.Proofs.Led
namespace Go.Proofs.Led
open Go Go.Proofs Go.Ab Go.RowKit
structure jL where
 id:Int
 grade:ByteArray
 heat:ByteArray
 grain:Int
 shape:Sh
 defects:List Sh
def aA7(s:jL):List V:=[I s.id,S s.grade,S s.heat,I s.grain,rgV s.shape.outer, .sl (s.shape.holes.map rgV), .sl (s.defects.map shV)]
def zJ(s:jL):V:= .agg (aA7 s)
def dN:jL:=⟨0,aI,aI,0,sh0,[]⟩
abbrev Iv:=Int×Int
def ivV(d:Iv):V:= .agg [I d.1,I d.2]
structure Bar where
 id:Int
 grade:ByteArray
 heat:ByteArray
 length:Int
 defects:List Iv
def barC(b:Bar):List V:=[I b.id,S b.grade,S b.heat,I b.length, .sl (b.defects.map ivV)]
def barV(b:Bar):V:= .agg (barC b)
def bar0:Bar:=⟨0,aI,aI,0,[]⟩
structure aN where
 isBar:Bool
 sheet:jL
 bar:Bar
 program:ByteArray
def gB(x:aN):List V:=[B x.isBar,I x.sheet.id,S x.sheet.grade,S x.sheet.heat,I x.sheet.grain,rgV x.sheet.shape.outer, .sl (x.sheet.shape.holes.map rgV), .sl (x.sheet.defects.map shV),
 I x.bar.id,S x.bar.grade,S x.bar.heat,I x.bar.length, .sl (x.bar.defects.map ivV),S x.program]
def aQ(x:aN):V:= .agg (gB x)
def wS:aN:=⟨false,dN,bar0,aI⟩
structure Piece where
 id:Int
 parent:Int
 part:ByteArray
 grade:ByteArray
 heat:ByteArray
 size:Int
 isBar:Bool
 status:Int
 order:ByteArray
def dZ8(x:Piece):List V:=[I x.id,I x.parent,S x.part,S x.grade,S x.heat,I x.size,B x.isBar,I x.status,S x.order]
def aZ(x:Piece):V:= .agg (dZ8 x)
structure aJ where
 stocks:List aN
 pieces:List Piece
 used:List Int
 received:Iv
 scrap:Iv
def invC(s:aJ):List V:=[.sl (s.stocks.map aQ), .sl (s.pieces.map aZ), .sl (s.used.map I),I s.received.1,I s.received.2,I s.scrap.1,I s.scrap.2]
def invV(s:aJ):V:= .agg (invC s)
def inv0:aJ:=⟨[],[],[],(0,0),(0,0)⟩
structure Made where
 id:Int
 part:ByteArray
 size:Int
def dK(x:Made):V:= .agg [I x.id,S x.part,I x.size]
structure Rest where
 id:Int
 box:Bx
 lo:Int
 hi:Int
def bY(x:Rest):V:= .agg [I x.id,I x.box.1.1,I x.box.1.2,I x.box.2.1,I x.box.2.2,I x.lo,I x.hi]
structure Event where
 kind:Int
 id:Int
 text:ByteArray
 sheet:jL
 bar:Bar
 cuts:List Made
 rests:List Rest
 scrap:Int
def iJ(x:Event):List V:=[I x.kind,I x.id,S x.text,I x.sheet.id,S x.sheet.grade,S x.sheet.heat,I x.sheet.grain,rgV x.sheet.shape.outer, .sl (x.sheet.shape.holes.map rgV), .sl (x.sheet.defects.map shV),
 I x.bar.id,S x.bar.grade,S x.bar.heat,I x.bar.length, .sl (x.bar.defects.map ivV), .sl (x.cuts.map dK), .sl (x.rests.map bY),I x.scrap]
def aS(x:Event):V:= .agg (iJ x)
def lK(s:jL):Prop:=gV s.shape/\s.defects.length<=1000000/\∀d∈s.defects,gV d
end Go.Proofs.Led
namespace Go.Proofs.Led
open Go Go.Proofs Go.Ab
variable{g:FuncId}{c:Rg->Rg->Int}{Q:Rg->Prop}
abbrev cF2(g:FuncId)(c:Rg->Rg->Int)(Q:Rg->Prop):Prop:=∀i j,Q i->Q j->Sp g [rgV i,rgV j] (I (c i j))
theorem fC7(D:cF2 g c Q)(pre xs a:List Rg)(w:∀x∈xs,Q x)(J:pre.length+xs.length+a.length<=100000):
 fnIO T Tryz.prog Tryz.f329 [.own 75 ((pre++xs++a).map rgV),I pre.length,I (pre.length+xs.length), .fn g []] (.tup []) 0 75 ((pre++qA c xs++a).map rgV):=by
 repeat' ((conv=>whnf);first|refine zS ?_|fail)
 refine lD (A:=Nat) (λk=>mkSt [(0, .arr 0 0),(1,I pre.length),(2,I (pre.length+xs.length)),(3, .fn g []),(8,I (pre.length+k))] [] [(0,⟨0, .own,75,(pre++(isR c (xs.take k)).reverse++xs.drop k++a).map rgV⟩)])
  (λk=>1<=k/\(k<=xs.length\/k=1)) (λk=>xs.length-k) 1 ?_ ⟨Aa, .inr rfl⟩ (λk E=>?_)
 ·refine dV ?_ ?_ ?_ ?_
  all_goals repeat' (first|exact trivial|refine And.intro ?_ ?_|with_reducible rfl|exact(λh=>Ah)|exact QV _|omega|exact rfl)
  ·show List.map rgV (pre++xs++a)=List.map rgV (pre++(isR c (List.take 1 xs)).reverse++List.drop 1 xs++a)
   cases xs with
   |nil=>simp[isR]
   |cons x r=>simp[isR,insR]
 ·change 1<=k/\(k<=xs.length\/k=1)at E
  rcases RX k xs.length with e|e
  ·have t:xs.drop k=xs[k] ::xs.drop (k+1):=List.drop_eq_getElem_cons e
   have C:xs.take (k+1)=xs.take k++[xs[k]] :=by rw[Uw,QS e];rfl
   have s:Q xs[k] :=w _ (TA e);generalize xs[k] =x at t C s;obtain⟨b,m⟩:∃b,xs.drop (k+1)=b:=⟨_,rfl⟩;rw[m]at t;have q:(isR c (xs.take k)).length=k:=by rw[dH2,QZ];omega
   have o:∀z∈isR c (xs.take k),Q z:=λz v=>w z (RG (dI0.1 v));have f:isR c (xs.take (k+1))=insR c x (isR c (xs.take k)):=by rw[C,eB2]
   generalize isR c (xs.take k)=j at q o f;rw[t]
   repeat' ((conv=>whnf);first|omega|refine zS ?_|refine zl (λd=>?_) (λd=>?_))
   refine aU (A:=List Rg) (B:=List Rg) (λR M=>mkSt [(0, .arr 0 0),(1,I pre.length),(2,I (pre.length+xs.length)),(3, .fn g []),(8,I (pre.length+k)),(9,I (pre.length+R.length))] [] [(0,⟨0, .own,75,(pre++(R.reverse++x::(M++b))++a).map rgV⟩)])
    (λR M=>R.length<=k/\(∀z∈R,Q z)/\(insR c x j).reverse=(insR c x R).reverse++M) (λR M=>R.length) j [] ?_ ⟨Aa,o,Af⟩ (λR M G=>?_)
   ·refine dV ?_ ?_ ?_ ?_
    all_goals repeat' (first|exact trivial|refine And.intro ?_ ?_|with_reducible rfl|exact(λh=>Ah)|exact QV _|omega|exact rfl)
    ·show List.map rgV (pre++j.reverse++x::b++a)=List.map rgV (pre++(j.reverse++x::([] ++b))++a)
     simp
   ·obtain⟨u,n,i⟩:=G
    change R.length<=k at u;change∀z∈R,Q z at n;change (insR c x j).reverse=(insR c x R).reverse++M at i
    cases R with
    |nil=>
     have K:([] :List Rg).length=0:=rfl
     repeat' ((conv=>whnf);first|omega|refine zS ?_|refine zl (λd=>?_) (λd=>?_))
     refine⟨k+1,?_,⟨Aa, .inl Aa⟩,Aa⟩;rw[f];refine dV ?_ ?_ ?_ ?_;all_goals repeat' (first|exact trivial|refine And.intro ?_ ?_|with_reducible rfl|exact(λh=>Ah)|exact QV _|omega|exact rfl)
     ·show List.map rgV (pre++([].reverse++x::(M++b))++a)=List.map rgV (pre++(insR c x j).reverse++List.drop (k+1) xs++a)
      rw[i,m];simp[insR]
    |cons y r=>
     have H:(pre++((y::r).reverse++x::(M++b))++a).length=pre.length+(r.length+1)+1+(M++b++a).length:=AV;have F:(y::r).length=r.length+1:=rfl
     repeat' ((conv=>whnf);first|omega|(refine dY5 (l:=pre++((y::r).reverse++x::(M++b))++a) rfl (λh=>Ah) rfl ?_ ?_;focus (constructor<;>omega))|refine cQ9 Aa ?_|(refine dX6 (l:=pre++((y::r).reverse++x::(M++b))++a) rfl (λh=>Ah) rfl ?_ ?_;focus (constructor<;>omega))|refine aF (l:=pre++((y::r).reverse++x::(M++b))++a) (A:=pre++(y::r).reverse) (x:=x) (B:=M++b++a) Af AV ?_|refine aF (l:=pre++((y::r).reverse++x::(M++b))++a) (A:=pre++r.reverse) (x:=y) (B:=x::(M++b++a)) Af AV ?_|refine zc (D x y s (n y Af)) ?_|refine dB8 rfl rfl ?_|refine zS ?_|refine zl (λd=>?_) (λd=>?_))
     ·refine⟨(r,y::M),?_,?_,?_⟩
      ·refine dV ?_ ?_ ?_ ?_
       all_goals repeat' (first|exact trivial|refine And.intro ?_ ?_|with_reducible rfl|exact(λh=>Ah)|exact QV _|omega|exact rfl)
       ·show List.set (List.set (List.map rgV (pre++((y::r).reverse++x::(M++b))++a)) _ (rgV y)) _ (rgV x)=List.map rgV (pre++(r.reverse++x::(y::M++b))++a)
        rw[show pre++((y::r).reverse++x::(M++b))++a=(pre++(y::r).reverse)++x::(M++b++a) from Af,RF,Rq,set_mid AV];rw[show(pre++(y::r).reverse:List Rg)=(pre++r.reverse)++[y] from Af,RF,Rq,SE,SC,Ui,Uc,set_mid AV];simp
       ·show(pre.length:Int)+(y::r).length-1=pre.length+r.length
        omega
      ·refine⟨by show r.length<=k;omega,λz v=>n z (by simp[show z∈r from v]),?_⟩
       show(insR c x j).reverse=(insR c x r).reverse++y::M;rw[i];simp[insR,d]
      ·show r.length< (y::r).length
       simp
     ·refine⟨k+1,?_,⟨Aa, .inl Aa⟩,Aa⟩
      rw[f];refine dV ?_ ?_ ?_ ?_;all_goals repeat' (first|exact trivial|refine And.intro ?_ ?_|with_reducible rfl|exact(λh=>Ah)|exact QV _|omega|exact rfl)
      ·show List.map rgV (pre++((y::r).reverse++x::(M++b))++a)=List.map rgV (pre++(insR c x j).reverse++List.drop (k+1) xs++a)
       rw[i,m];simp[insR,show¬c x y<0 from Aa]
  ·rw[Ug e,UB e]
   repeat' ((conv=>whnf);first|omega|refine zS ?_|refine zl (λd=>?_) (λd=>?_))
   refine cA7 ?_
   conv=>whnf
   refine⟨[],rfl,⟨⟨rfl,rfl,rfl,?_⟩,trivial⟩,rfl⟩;show List.map rgV (pre++(isR c xs).reverse++[] ++a)=List.map rgV (pre++qA c xs++a);simp[qA]
theorem eI2(a:cF2 g c Q)(xs:List Rg)(b:∀x∈xs,Q x)(d:xs.length<=100000):
 SpIO 329 [.own 75 (xs.map rgV),I 0,I xs.length, .fn g []] (.tup []) 75 ((qA c xs).map rgV):=by
 have:=eH7 rfl Tryz.func329 Ac Ac (fC7 a [] xs [] b AV);simp only[Uc,Rn,SL]at this;rw[show((0:Nat):Int)+(xs.length:Int)=xs.length from Aa]at this;exact this
def Qr(r:Rg):Prop:=r≠ []/\r.length<=1000000
def cR(a b:Rg):Int:=vcmp (a.getD 0 z0) (b.getD 0 z0)
theorem eR1(a b:Rg)(f:Qr a)(h:Qr b):Sp 248 [rgV a,rgV b] (I (cR a b)):=by
 refine zsp Tryz.func248 ?_;have d:0<a.length:=List.length_pos_iff.2 f.1;have e:0<b.length:=List.length_pos_iff.2 h.1
 repeat' ((conv=>whnf);first|refine aU3 (r:=a) (k:=0) rfl d ?_|refine aU3 (r:=b) (k:=0) rfl e ?_|refine zc (qI (a.getD 0 z0) (b.getD 0 z0)) ?_|refine zS ?_|fail)
 all_goals exact zE
theorem cR_ok:cF2 248 cR Qr:=λi j hi a=>eR1 i j hi a
def U64(n:Int):V:= .lit (.int .u64 n)
theorem eP4:Sp 232 [U64 0] (I 0):=by
 refine zsp U6 ?_
 repeat' ((conv=>whnf);first|omega|refine fK (k:= .u8) (n:=0) (m:=0) Ai ?_|refine fU (Q9 Ac) ?_|refine fK (k:= .i64) (m:=0) Ac ?_|refine zS ?_|refine zT ?_ ?_<;>intro _|fail)
 all_goals conv=>whnf
 all_goals exact aG Ac
theorem eU1:Sp 298 [U64 0] (I 0):=by
 refine zsp UG ?_
 repeat' ((conv=>whnf);first|refine zc eP4 ?_|refine zS ?_|fail)
 all_goals conv=>whnf
 all_goals exact aG rfl
theorem eM6:Sp 232 [U64 1] (I 1):=by
 refine zsp U6 ?_
 repeat' ((conv=>whnf);first|omega|refine fK (k:= .u8) (n:=1) (m:=1) Ai ?_|refine fU (Q9 Ac) ?_|refine fK (k:= .i64) (m:=1) Ac ?_|refine zS ?_|refine zT ?_ ?_<;>intro _|fail)
 all_goals conv=>whnf
 all_goals exact aG Ac
theorem len_1:Sp 298 [U64 1] (I 1):=by
 refine zsp UG ?_
 repeat' ((conv=>whnf);first|refine zc eM6 ?_|refine zS ?_|fail)
 all_goals conv=>whnf
 all_goals exact aG rfl
theorem eR3:Sp 232 [U64 2] (I 2):=by
 refine zsp U6 ?_
 repeat' ((conv=>whnf);first|omega|refine fK (k:= .u8) (n:=2) (m:=2) Ai ?_|refine fU (Q9 Ac) ?_|refine fK (k:= .i64) (m:=2) Ac ?_|refine zS ?_|refine zT ?_ ?_<;>intro _|fail)
 all_goals conv=>whnf
 all_goals exact aG Ac
theorem len_2:Sp 298 [U64 2] (I 2):=by
 refine zsp UG ?_
 repeat' ((conv=>whnf);first|refine zc eR3 ?_|refine zS ?_|fail)
 all_goals conv=>whnf
 all_goals exact aG rfl
theorem eT4:Sp 232 [U64 3] (I 2):=by
 refine zsp U6 ?_
 repeat' ((conv=>whnf);first|omega|refine fK (k:= .u8) (n:=3) (m:=3) Ai ?_|refine fU (Q9 Ac) ?_|refine fK (k:= .i64) (m:=2) Ac ?_|refine zS ?_|refine zT ?_ ?_<;>intro _|fail)
 all_goals conv=>whnf
 all_goals exact aG Ac
theorem len_3:Sp 298 [U64 3] (I 2):=by
 refine zsp UG ?_
 repeat' ((conv=>whnf);first|refine zc eT4 ?_|refine zS ?_|fail)
 all_goals conv=>whnf
 all_goals exact aG rfl
theorem eN1:Sp 232 [U64 4] (I 3):=by
 refine zsp U6 ?_
 repeat' ((conv=>whnf);first|omega|refine fK (k:= .u8) (n:=4) (m:=4) Ai ?_|refine fU (Q9 Ac) ?_|refine fK (k:= .i64) (m:=3) Ac ?_|refine zS ?_|refine zT ?_ ?_<;>intro _|fail)
 all_goals conv=>whnf
 all_goals exact aG Ac
theorem len_4:Sp 298 [U64 4] (I 3):=by
 refine zsp UG ?_
 repeat' ((conv=>whnf);first|refine zc eN1 ?_|refine zS ?_|fail)
 all_goals conv=>whnf
 all_goals exact aG rfl
theorem eM8:Sp 232 [U64 5] (I 3):=by
 refine zsp U6 ?_
 repeat' ((conv=>whnf);first|omega|refine fK (k:= .u8) (n:=5) (m:=5) Ai ?_|refine fU (Q9 Ac) ?_|refine fK (k:= .i64) (m:=3) Ac ?_|refine zS ?_|refine zT ?_ ?_<;>intro _|fail)
 all_goals conv=>whnf
 all_goals exact aG Ac
theorem len_5:Sp 298 [U64 5] (I 3):=by
 refine zsp UG ?_
 repeat' ((conv=>whnf);first|refine zc eM8 ?_|refine zS ?_|fail)
 all_goals conv=>whnf
 all_goals exact aG rfl
theorem eP5:Sp 232 [U64 6] (I 3):=by
 refine zsp U6 ?_
 repeat' ((conv=>whnf);first|omega|refine fK (k:= .u8) (n:=6) (m:=6) Ai ?_|refine fU (Q9 Ac) ?_|refine fK (k:= .i64) (m:=3) Ac ?_|refine zS ?_|refine zT ?_ ?_<;>intro _|fail)
 all_goals conv=>whnf
 all_goals exact aG Ac
theorem len_6:Sp 298 [U64 6] (I 3):=by
 refine zsp UG ?_
 repeat' ((conv=>whnf);first|refine zc eP5 ?_|refine zS ?_|fail)
 all_goals conv=>whnf
 all_goals exact aG rfl
theorem len_any(n:Nat)(h:n<=6):∃b,Sp 298 [U64 (n:Int)] (I b):=by
 match n,h with
 |0,_=>exact⟨_,eU1⟩
 |1,_=>exact⟨_,len_1⟩
 |2,_=>exact⟨_,len_2⟩
 |3,_=>exact⟨_,len_3⟩
 |4,_=>exact⟨_,len_4⟩
 |5,_=>exact⟨_,len_5⟩
 |6,_=>exact⟨_,len_6⟩
theorem dY6{g:FuncId}{c:Rg->Rg->Int}{Q:Rg->Prop}(b:cF2 g c Q)(xs:List Rg)(d:∀x∈xs,Q x)(e:xs.length<=12)(a:Int):
 SpIO 297 [.own 75 (xs.map rgV),I 0,I xs.length,I a, .fn g []] (.tup []) 75 ((qA c xs).map rgV):=by
 refine eH7 rfl Tryz.func297 Ac Ac ?_;have hi:=eI2 b xs d Aa
 repeat' ((conv=>whnf);first|refine zS ?_|fail)
 refine lD (A:=Unit) (λ_=>mkSt [(0, .arr 0 0),(1,I 0),(2,I xs.length),(3,I a),(4, .fn g []),(10, .lit (.bool true)),(11, .lit (.bool true))] [] [(0,⟨0, .own,75,xs.map rgV⟩)]) (λ_=>True) (λ_=>0) () ?_ trivial (λ_ _=>?_)
 ·exact zj
 repeat' ((conv=>whnf);first|omega|(refine aQ2 (hi) rfl rfl ?_ rfl rfl ?_;focus ((repeat' (first|exact trivial|refine And.intro ?_ ?_|with_reducible rfl|exact(λh=>Ah)|exact rfl));done))|refine zS ?_|refine zT ?_ ?_<;>intro _|fail)
 all_goals conv=>whnf
 exact OG
theorem u64_in{n:Int}(h:0<=n/\n<=1000000):IntKind.u64.wrap n=n:=by
 exact QL
theorem cR4{g:FuncId}{c:Rg->Rg->Int}{Q:Rg->Prop}(f:cF2 g c Q)(xs:List Rg)(j:∀x∈xs,Q x)(i:xs.length<=6):
 SpIO 247 [.own 75 (xs.map rgV), .fn g []] (.tup []) 75 ((qA c xs).map rgV):=by
 refine eH7 rfl Tryz.func247 Ac Ac ?_;have a:(xs.map rgV).length=xs.length:=Af;obtain⟨b,d⟩:=len_any xs.length i;have e:=dY6 f xs j Aa b
 rw[<-a]at d e
 repeat' ((conv=>whnf);first|refine fK (k:= .u64) (n:=((xs.map rgV).length:Int)) (m:=((xs.map rgV).length:Int)) (u64_in Aa) ?_|refine zc d ?_|(refine aQ2 (e) rfl rfl ?_ rfl rfl ?_;focus ((repeat' (first|exact trivial|refine And.intro ?_ ?_|with_reducible rfl|exact(λh=>Ah)|exact rfl));done))|refine zS ?_|fail)
 all_goals conv=>whnf
 exact OG
theorem dT5(g:FuncId):Sp 329 [nilV,I 0,I 0, .fn g []] (.tup []):=by
 refine zsp Tryz.func329 ?_
 repeat' ((conv=>whnf);first|refine zS ?_|fail)
 refine lD (A:=Unit) (λ_=>mkSt [(1,I 0),(2,I 0),(8,I 1)] [] []) (λ_=>True) (λ_=>0) () ?_ trivial (λ_ _=>?_)
 ·exact zj
 repeat' ((conv=>whnf);first|omega|refine zS ?_|refine zT ?_ ?_<;>intro _|fail)
 all_goals conv=>whnf
 all_goals exact⟨[],rfl,trivial,rfl⟩
theorem dK0(g:FuncId)(a:Int):Sp 297 [nilV,I 0,I 0,I a, .fn g []] (.tup []):=by
 refine zsp Tryz.func297 ?_
 repeat' ((conv=>whnf);first|refine zS ?_|fail)
 refine lD (A:=Unit) (λ_=>mkSt [(0,nilV),(1,I 0),(2,I 0),(3,I a),(4, .fn g [])] [] []) (λ_=>True) (λ_=>0) () ?_ trivial (λ_ _=>?_)
 ·exact zj
 repeat' ((conv=>whnf);first|omega|refine zc (dT5 g) ?_|refine zS ?_|refine zT ?_ ?_<;>intro _|fail)
 all_goals conv=>whnf
 all_goals exact⟨[],rfl,trivial,rfl⟩
theorem cZ9(g:FuncId):Sp 247 [nilV, .fn g []] (.tup []):=by
 refine zsp Tryz.func247 ?_
 repeat' ((conv=>whnf);first|refine fK (k:= .u64) (n:=0) (m:=0) Ai ?_|refine zc eU1 ?_|refine zc (dK0 g 0) ?_|refine zS ?_|fail)
 all_goals conv=>whnf
 all_goals exact⟨[],rfl,trivial,rfl⟩
theorem dW3{r:Rg}(h:dM r)(b:r.length<=1000000):Qr (gQ r):=by
 rw[bJ7 h];have a:=h.1;have e:(wL r).length=r.length:=by unfold wL;rw[QU,RU,QZ];omega
 refine⟨λq=>?_,Aa⟩;rw[q]at e;simp at e;omega
def wW(s:Sh):List Rg:=qA cR (s.holes.map gQ)
def qO(s:Sh):Sh:=open Classical in if bG s then⟨gQ s.outer,wW s⟩else sh0
theorem aN9{s:Sh}(h:bG s):qO s=⟨gQ s.outer,wW s⟩:=QO h
theorem bH5{s:Sh}(h:¬bG s):qO s=sh0:=Q5 h
def canSt(s:Sh)(D:List Rg):St:=match D with
 | [] =>mkSt [(1, .box 1 0),(2, .box 2 0),(3, .box 3 0),(15, .sl (s.holes.map rgV)),(16,I s.holes.length),(17,I 0)] [(1,(shV s).cells),(2,(shV sh0).cells),(3,[rgV (gQ s.outer),nilV])] []
 |d::D=>mkSt [(1, .box 1 0),(2, .box 2 0),(3, .box 3 0),(15, .sl (s.holes.map rgV)),(16,I s.holes.length),(17,I ((D.length:Int)+1))] [(1,(shV s).cells),(2,(shV sh0).cells),(3,[rgV (gQ s.outer), .arr 26 D.length])] [(26,⟨D.length, .own,75,((d::D).map gQ).map rgV⟩)]
theorem aU9(s:Sh)(k:gV s):Sp 204 [shV s] (shV (qO s)):=by
 refine zsp Tryz.func204 ?_;have u:=aN9 (s:=s);have v:=bH5 (s:=s)
 generalize qO s=A at*;have F:(s.holes.map rgV).length=s.holes.length:=Af
 repeat' ((conv=>whnf);first|refine zc (kK s k) ?_|refine zc (aU6 s.outer k.1) ?_|refine zS ?_|refine zd (λj=>?_) (λj=>?_))
 all_goals conv=>whnf
 ·rw[u j]
  have g:=j;unfold bG at g;obtain⟨H,m,_,_⟩:=g
  have w:∀x∈s.holes.map gQ,Qr x:=λx G=>by
   obtain⟨r,q,rfl⟩:=Ru.1 G;exact dW3 (m r (Tj _ q)) (k.2.2 r q)
  have y:(s.holes.map gQ).length=s.holes.length:=Af;refine aU (A:=List Rg) (B:=List Rg) (λD R=>canSt s D) (λD R=>s.holes=D++R) (λD R=>R.length) [] s.holes ?_ rfl (λD R hp=>?_)
  ·exact IL
  cases R with
  |nil=>
   have e:D=s.holes:=Ae;subst e;clear hp
   cases c:s.holes with
   |nil=>
    have b:wW s=[] :=by unfold wW;rw[c];rfl
    rw[b];have J:s.holes.length=0:=by rw[c];rfl
    repeat' ((conv=>whnf);first|omega|refine zc (cZ9 248) ?_|refine zS ?_|refine zl (λa=>?_) (λa=>?_))
    all_goals conv=>whnf
    exact NE
   |cons d D=>
    have n:(d::D).length=D.length+1:=rfl;have i:=cR4 cR_ok ((d::D).map gQ) (by rw[<-c];exact w) (by rw[<-c];omega)
    have b:wW s=qA cR ((d::D).map gQ):=by unfold wW;rw[c]
    rw[b];generalize qA cR ((d::D).map gQ)=Z at i;have C:s.holes.length=D.length+1:=by rw[c];rfl
    repeat' ((conv=>whnf);first|omega|(refine aQ2 (i) rfl rfl ?_ rfl rfl ?_;focus ((repeat' (first|exact trivial|refine And.intro ?_ ?_|with_reducible rfl|exact(λh=>Ah)|exact rfl));done))|refine zS ?_|refine zl (λa=>?_) (λa=>?_))
    all_goals conv=>whnf
    exact NE
  |cons h R=>
   have o:=aO hp;have E:h.length<=1000000:=k.2.2 h Ae
   have f:=aU6 h E
   cases D with
   |nil=>
    have t:([] :List Rg).length=0:=rfl
    repeat' ((conv=>whnf);first|omega|refine aF (l:=s.holes) (A:=[]) (x:=h) (B:=R) hp Aa ?_|refine zc f ?_|refine gX (Q9 rfl) (dA rfl) (Q9 rfl) ?_|refine zS ?_|refine zl (λa=>?_) (λa=>?_))
    all_goals conv=>whnf
    refine⟨([h],R),?_,hp,Af⟩;show Le T _ (mkSt [(1, .box 1 0),(2, .box 2 0),(3, .box 3 0),(15, .sl (s.holes.map rgV)),(16,I s.holes.length),(17,I (0+1))] [(1,(shV s).cells),(2,(shV sh0).cells),(3,[rgV (gQ s.outer), .arr 26 0])] [(26,⟨0, .own,75,[rgV (gQ h)]⟩)]);exact zj
   |cons d D=>
    have t:(d::D).length=D.length+1:=rfl;have z:(((d::D).map gQ).map rgV).length=D.length+1:=Af
    repeat' ((conv=>whnf);first|omega|refine aF (l:=s.holes) (A:=d::D) (x:=h) (B:=R) hp Aa ?_|refine zc f ?_|refine iH rfl (.inl rfl) rfl (Q9 rfl) (dA rfl) (show(((d::D).map gQ).map rgV).length+1<=1000000000 from Aa) ?_|refine zS ?_|refine zl (λa=>?_) (λa=>?_))
    all_goals conv=>whnf
    refine⟨(d::D++[h],R),?_,Ae,Af⟩;show Le T _ (mkSt [(1, .box 1 0),(2, .box 2 0),(3, .box 3 0),(15, .sl (s.holes.map rgV)),(16,I s.holes.length),(17,I (((D++[h]).length:Int)+1))] [(1,(shV s).cells),(2,(shV sh0).cells),(3,[rgV (gQ s.outer), .arr 26 (D++[h]).length])] [(26,⟨(D++[h]).length, .own,75,(((d::D)++[h]).map gQ).map rgV⟩)]);rw[show(((d::D)++[h]).map gQ).map rgV=((d::D).map gQ).map rgV++[rgV (gQ h)] from Af,QU,QY];exact zj
 ·rw[v j]
  exact NE
theorem fst_eq{n:Int}{D R:List Int}(h:∀y∈D,¬n=y):fst (λy=>n=y) (D++n::R)=D.length:=wH (λy a=>by rw[dW.2 (h y a)];rfl) (by rw[dH.2 rfl];rfl)
theorem bM4(l:List Int)(n:Int)(f:l.length<=1000000):Sp 338 [.sl (l.map I),I n] (I (fstI (λy=>n=y) l)):=by
 refine zsp Tryz.func338 ?_;have e:(l.map I).length=l.length:=Af
 repeat' ((conv=>whnf);first|refine zS ?_|fail)
 refine aU (A:=List Int) (B:=List Int) (λD R=>mkSt [(0, .sl (l.map I)),(1,I n),(6, .sl (l.map I)),(7,I l.length),(8,I D.length)] [] []) (λD R=>l=D++R/\∀y∈D,¬n=y) (λD R=>R.length) [] l ?_ ⟨rfl,Af⟩ (λD R hp=>?_)
 ·exact zj
 obtain⟨hp,hD⟩:=hp
 cases R with
 |nil=>
  have c:l.length=D.length:=Ae
  repeat' ((conv=>whnf);first|omega|refine zS ?_|refine zl (λa=>?_) (λa=>?_))
  all_goals conv=>whnf
  refine aG ?_;unfold fstI;rw[Q5 (iO.2 DT)]
 |cons y R=>
  have c:=aO hp
  repeat' ((conv=>whnf);first|omega|refine zS ?_|refine zl (λa=>?_) (λa=>?_)|refine ze (λb=>?_) (λb=>?_))
  all_goals conv=>whnf
  ·subst b
   refine aG ?_;unfold fstI;rw[hp,fst_eq hD,QO Af]
  ·refine⟨(D++[y],R),?_,⟨Ae,λz d=>?_⟩,Af⟩
   ·exact IE
   ·rcases QX.1 d with d|d
    ·exact hD z d
    ·rw[QW.1 d];assumption
theorem dK5(l:List Int)(n:Int)(d:l.length<=1000000):Sp 301 [.sl (l.map I),I n] (DB (n∈l)):=by
 refine zsp Tryz.func301 ?_
 repeat' ((conv=>whnf);first|refine zc (bM4 l n d) ?_|refine zS ?_|fail)
 all_goals conv=>whnf
 all_goals refine aA (le_dec ?_)
 have h:=iO (Q:=λy=>n=y) (l:=l);unfold fstI;constructor
 ·intro c
  split at c
  ·rename_i a
   exact U1 λe=>(h.2 (λm b f=>e (by rw[f];exact b))) a
  ·omega
 ·intro b
  split
  ·omega
  ·rename_i a
   exact(h.1 a n b rfl).elim
theorem bV2{s:Sh}(b:gV s)(a:s.holes.length<=6):(aC0 s).length<=7000000:=bC1 b a (D:=rings s) (R:=[]) Af
def rJ(a b:Sh)(ways:List Int):Prop:=∃x∈aC0 a,∃y∈aC0 b,dG x y∈ways
theorem bX6(a b:Sh)(c:List Int)(i:gV a)(d:a.holes.length<=6)(j:gV b)(e:b.holes.length<=6)(n:c.length<=1000000):Sp 251 [shV a,shV b, .sl (c.map I)] (DB (rJ a b c)):=by
 refine zsp Tryz.func251 ?_;have f:=aV8 a i d;have g:=aV8 b j e
 have k:=bV2 i d;have m:=bV2 j e
 generalize hP:rJ a b c=P;have hr:P↔rJ a b c:=GK;clear hP;unfold rJ at hr;generalize aC0 a=A at*;generalize aC0 b=B at*
 repeat' ((conv=>whnf);first|refine zc g ?_|refine zc f ?_|refine zS ?_|fail)
 conv=>whnf
 refine aU (A:=List Sg) (B:=List Sg) (λD R=>mkSt [(2, .sl (c.map I)),(7, .lit (.bool false)),(8, .arr 14 0),(16, .arr 16 0),(17,I A.length),(18,I D.length)] [] [(14,⟨0, .own,270,B.map sgV⟩),(16,⟨0, .own,270,A.map sgV⟩)]) (λD R=>A=D++R/\∀x∈D,∀y∈B,¬dG x y∈c) (λD R=>R.length) [] A ?_ ⟨rfl,Af⟩ (λD R hp=>?_)
 ·exact IU
 obtain⟨hp,hD⟩:=hp
 cases R with
 |nil=>exact JG
 |cons x R=>
  have hlen:=aO hp
  repeat' ((conv=>whnf);first|omega|refine dS rfl rfl DI ?_|refine aF (l:=A) (A:=D) (x:=x) (B:=R) hp Aa ?_|refine zS ?_|refine zT ?_ ?_<;>intro _|fail)
  refine aU (A:=List Sg) (B:=List Sg) (λE S=>mkSt [(2, .sl (c.map I)),(7, .lit (.bool false)),(8, .arr 14 0),(10, .box 10 0),(16, .arr 16 0),(17,I A.length),(18,I D.length),(22, .arr 14 0),(23,I B.length),(24,I E.length)] [(10,(sgV x).cells)] [(14,⟨0, .own,270,B.map sgV⟩),(16,⟨0, .own,270,A.map sgV⟩)]) (λE S=>B=E++S/\∀y∈E,¬dG x y∈c) (λE S=>S.length) [] B ?_ ⟨rfl,Af⟩ (λE S hq=>?_)
  ·exact IU
  obtain⟨hq,hE⟩:=hq
  cases S with
  |nil=>exact Nb
  |cons y S=>
   have hlen2:=aO hq
   repeat' ((conv=>whnf);first|omega|refine dS rfl rfl DJ ?_|refine aF (l:=B) (A:=E) (x:=y) (B:=S) hq Aa ?_|refine zc (aS9 x y) ?_|refine zc (dK5 c (dG x y) n) ?_|refine zS ?_|refine zT ?_ ?_<;>intro _|fail)
   all_goals conv=>whnf
   all_goals first
    |exact aA (fE (hr.2 ⟨x,Ae,y,Aq,Ag⟩))
    |skip
   exact Qh
def arN(i:Nat)(r:Rg)(k:Nat):Vc:=if 0<i then mY r k else iU r k
def arL(i:Nat)(r:Rg)(k:Nat):Vc:=if 0<i then iU r k else mY r k
def dJ(i:Nat)(r:Rg)(p:Vc)(k:Nat):Option Sg:=
 open Classical in if r.getD k z0=p then some (vsub (arN i r k) p,vsub (arL i r k) p)
 else if arN i r k≠p/\eX (r.getD k z0,arN i r k) p then some (vsub (arN i r k) p,vsub (r.getD k z0) p)else none
def qY(i:Nat)(r:Rg)(p:Vc):Option Sg:=(List.range r.length).findSome? (dJ i r p)
def nR(p:Vc):Nat->List Rg->Option Sg
 |_,[] =>none
 |i,r::R=>(qY i r p).or (nR p (i+1) R)
def jE(s:Sh)(p:Vc):Sg:=(nR p 0 (rings s)).getD ((0,0),(0,0))
theorem bZ2{i:Nat}{r:Rg}{p:Vc}(h:∀k,k<r.length->dJ i r p k=none):qY i r p=none:=by
 unfold qY;simp_all
theorem range_split{n k:Nat}(h:k<n):List.range n=List.range k++k::(List.range n).drop (k+1):=by
 apply List.ext_getElem?;grind
theorem bZ8{i:Nat}{r:Rg}{p:Vc}{k:Nat}{x:Sg}(hk:k<r.length)(h:∀j,j<k->dJ i r p j=none)(hx:dJ i r p k=some x):qY i r p=some x:=by
 unfold qY;exact OZ
theorem cU6{p:Vc}{i:Nat}{r:Rg}{R:List Rg}{x:Sg}(h:qY i r p=some x):nR p i (r::R)=some x:=by
 rw[nR,h];rfl
theorem cR6{p:Vc}{i:Nat}{r:Rg}{R:List Rg}(h:qY i r p=none):nR p i (r::R)=nR p (i+1) R:=by
 rw[nR,h];rfl
theorem aW8(s:Sh)(p:Vc)(v:gV s)(G:s.holes.length<=6):Sp 305 [shV s,vcV p] (sgV (jE s p)):=by
 refine zsp Tryz.func305 ?_;have F:=aW6 s v;have i:∀r∈rings s,r.length<=1000000:=λr z=>v.mem z
 have w:(rings s).length<=7:=Fj;have o:∀x:Sg,nR p 0 (rings s)=some x->sgV (jE s p)=sgV x:=λx h=>by unfold jE;rw[h];rfl
 have t:nR p 0 (rings s)=none->sgV (jE s p)=sgV ((0,0),(0,0)):=λh=>by unfold jE;rw[h];rfl
 generalize sgV (jE s p)=X at*;generalize rings s=rs at*;have y:(rs.map rgV).length=rs.length:=Af
 repeat' ((conv=>whnf);first|refine zS ?_|fail)
 refine aU (A:=List Rg) (B:=List Rg) (λD R=>mkSt [(2, .box 2 0),(3, .box 3 0),(4, .box 4 0),(13, .arr 13 0),(14,I rs.length),(15,I D.length)] [(2,(shV s).cells),(3,(vcV p).cells),(4,[I 0,I 0,I 0,I 0])] [(13,⟨0, .own,75,rs.map rgV⟩)]) (λD R=>rs=D++R/\nR p 0 rs=nR p D.length R) (λD R=>R.length) [] rs ?_ ⟨rfl,rfl⟩ (λD R hp=>?_)
 ·exact IL
 obtain⟨hp,q⟩:=hp
 cases R with
 |nil=>
  have d:rs.length=D.length:=Ae;have b:=t (by rw[q];rfl)
  subst b
  repeat' ((conv=>whnf);first|omega|refine zS ?_|refine zT ?_ ?_<;>intro _|fail)
  all_goals conv=>whnf
  all_goals exact zE
 |cons r R=>
  have d:=aO hp;have C:=i r Ae
  have E:(r.map vcV).length=r.length:=Af
  repeat' ((conv=>whnf);first|omega|refine dS rfl rfl D5 ?_|refine zS ?_|refine zT ?_ ?_<;>intro _|fail)
  refine lD (A:=Nat) (λk=>mkSt [(2, .box 2 0),(3, .box 3 0),(4, .box 4 0),(5,I D.length),(6,rgV r),(13, .arr 13 0),(14,I rs.length),(15,I D.length),(20,rgV r),(21,I r.length),(22,I k)] [(2,(shV s).cells),(3,(vcV p).cells),(4,[I 0,I 0,I 0,I 0])] [(13,⟨0, .own,75,rs.map rgV⟩)]) (λk=>k<=r.length/\∀j,j<k->dJ D.length r p j=none) (λk=>r.length-k) 0 ?_ ⟨Aa,λj hj=>absurd hj Aa⟩ (λk u=>?_)
  ·exact zj
  obtain⟨u,hN⟩:=u;by_cases c:k<r.length
  ·have f:(k+1)% r.length<r.length:=SA _ Aa
   have g:(k+r.length-1)% r.length<r.length:=SA _ Aa;have n:∀x,dJ D.length r p k=some x->nR p 0 rs=some x:=λx b=>by rw[q];exact cU6 (bZ8 c hN b)
   by_cases m:0<D.length
   ·have eN:arN D.length r k=mY r k:=QO m
    have eL:arL D.length r k=iU r k:=QO m
    repeat' ((conv=>whnf);first|omega|refine cC0 [(6,999),(27,999),(30,999),(32,999),(33,999),(35,999),(37,999),(41,999),(43,999),(44,999),(9,9),(10,10)] Ad Ac ?_|refine uM Aa ?_|refine aB (l:=r) BP ?_|refine aB (l:=r) FY ?_|refine sW (k:=(k+1)% r.length) (kS Aa) f ?_|refine sW (k:=(k+r.length-1)% r.length) (kS Aa) g ?_|refine sW (k:=k) Aa c ?_|refine aT1 ?_|refine aB4 (λhv=>?_) (λhv=>?_)|refine zc (fF (mY r k) p) ?_|refine zc (fF (iU r k) p) ?_|refine zc (fF (r.getD k z0) p) ?_|refine zc (yS (r.getD k z0,mY r k) p) ?_|refine zS ?_|refine zT ?_ ?_<;>intro _|fail)
    all_goals conv=>whnf
    ·have b:=o (vsub (mY r k) p,vsub (iU r k) p) (n _ FQ)
     subst b;all_goals exact zE
    ·exact JK
    ·have b:=o (vsub (mY r k) p,vsub (r.getD k z0) p) (n _ Di)
     subst b;all_goals exact zE
    ·exact JI
   ·have eN:arN D.length r k=iU r k:=Q5 m
    have eL:arL D.length r k=mY r k:=Q5 m
    repeat' ((conv=>whnf);first|omega|refine cC0 [(6,999),(27,999),(30,999),(32,999),(33,999),(35,999),(37,999),(41,999),(43,999),(44,999),(9,9),(10,10)] Ad Ac ?_|refine uM Aa ?_|refine aB (l:=r) BP ?_|refine aB (l:=r) FY ?_|refine sW (k:=(k+1)% r.length) (kS Aa) f ?_|refine sW (k:=(k+r.length-1)% r.length) (kS Aa) g ?_|refine sW (k:=k) Aa c ?_|refine aT1 ?_|refine aB4 (λhv=>?_) (λhv=>?_)|refine zc (fF (iU r k) p) ?_|refine zc (fF (mY r k) p) ?_|refine zc (fF (r.getD k z0) p) ?_|refine zc (yS (r.getD k z0,iU r k) p) ?_|refine zS ?_|refine zT ?_ ?_<;>intro _|fail)
    all_goals conv=>whnf
    ·have b:=o (vsub (iU r k) p,vsub (mY r k) p) (n _ FQ)
     subst b;all_goals exact zE
    ·exact JK
    ·have b:=o (vsub (iU r k) p,vsub (r.getD k z0) p) (n _ Di)
     subst b;all_goals exact zE
    ·exact JI
  ·have e:k=r.length:=by omega
   subst e
   repeat' ((conv=>whnf);first|omega|refine zS ?_|refine zT ?_ ?_<;>intro _|fail)
   all_goals conv=>whnf
   refine⟨(D++[r],R),?_,⟨Ae,by rw[q,cR6 (bZ2 hN)];simp⟩,Af⟩
   exact Nj
abbrev eU0(g:FuncId)(Q:Sg->Sg->Prop):Prop:=∀x y,Sp g [sgV x,sgV y] (DB (Q x y))
def touchAt(a b:Sh)(Q:Sg->Sg->Prop)(p:Vc):Prop:=lJ a p=1->lJ b p=1->Q (jE a p) (jE b p)
def bD2(a b:Sh)(Q:Sg->Sg->Prop):Prop:=∀p∈rV a++rV b,touchAt a b Q p
theorem cZ6{g:FuncId}{Q:Sg->Sg->Prop}(N:eU0 g Q)(a b:Sh)(m:gV a)(d:a.holes.length<=6)(n:gV b)(e:b.holes.length<=6):Sp 253 [shV a,shV b, .fn g []] (DB (bD2 a b Q)):=by
 refine zsp Tryz.func253 ?_;have i:=aJ3 a m d;have j:=aJ3 b n e
 have O:=cH3 m d;have S:=cH3 n e
 change Sp _ _ (.own 97 ((rV a).map vcV))at i;change Sp _ _ (.own 97 ((rV b).map vcV))at j;generalize y:bD2 a b Q=P;have F:P↔∀p∈rV a++rV b,touchAt a b Q p:=by rw[<-y];exact RN
 clear y;generalize rV a=A at*;generalize rV b=B at*;have J:(A.map vcV).length=A.length:=Af;have K:(B.map vcV).length=B.length:=Af
 repeat' ((conv=>whnf);first|refine zc i ?_|refine zc j ?_|refine iH rfl (.inl rfl) rfl (Q9 rfl) (aM5 _) (show(A.map vcV).length+(B.map vcV).length<=1000000000 from Aa) ?_|refine zS ?_|fail)
 all_goals conv=>whnf
 have M:(A++B).length=A.length+B.length:=QU;have c:A.map vcV++B.map vcV=(A++B).map vcV:=Af
 generalize T:A++B=C at*;have L:(C.map vcV).length=C.length:=Af;refine aU (A:=List Vc) (B:=List Vc) (λD R=>mkSt [(2, .fn g []),(3, .box 3 0),(4, .box 4 0),(13, .arr 10 1),(14,I C.length),(15,I D.length)] [(3,(shV a).cells),(4,(shV b).cells)] [(10,⟨1, .own,97,C.map vcV⟩)]) (λD R=>C=D++R/\∀q∈D,touchAt a b Q q) (λD R=>R.length) [] C ?_ ⟨rfl,Af⟩ (λD R hp=>?_)
 ·rw[<-c]
  refine dV ?_ ?_ ?_ ?_;all_goals repeat' (first|exact trivial|refine And.intro ?_ ?_|with_reducible rfl|exact(λh=>Ah)|exact QV _|omega|exact rfl)
  all_goals (try rw[c,Rl])
 obtain⟨hp,w⟩:=hp
 cases R with
 |nil=>
  have f:C.length=D.length:=Ae
  repeat' ((conv=>whnf);first|omega|refine zS ?_|refine zT ?_ ?_<;>intro _|fail)
  all_goals conv=>whnf
  refine aA (fE (F.2 λq E=>?_));rw[hp,Rn]at E;exact w q E
 |cons q R=>
  have f:=aO hp;have o:=aD4 a q m
  have s:=aD4 b q n;have r:=aW8 a q m d
  have t:=aW8 b q n e;have u:=N (jE a q) (jE b q)
  have U:touchAt a b Q q↔(lJ a q=1->lJ b q=1->Q (jE a q) (jE b q)):=RN;have v:q∈C:=Ae
  repeat' ((conv=>whnf);first|omega|refine dS rfl rfl (by show 0<=_/\_< ((C.map vcV).length:Int);omega) ?_|refine aF (l:=C) (A:=D) (x:=q) (B:=R) hp Aa ?_|refine zc o ?_|refine zc s ?_|refine zc r ?_|refine zc t ?_|refine zc u ?_|refine zS ?_|refine zT ?_ ?_<;>intro _|fail)
  all_goals conv=>whnf
  all_goals first
   |exact aA (aC (λh=>absurd ((F.1 h) q v Ag Ag) Ag))
   |skip
  all_goals refine⟨(D++[q],R),?_,⟨Ae,λz k=>?_⟩,Af⟩
  all_goals first
   |(rcases QX.1 k with k|k
     ·exact w z k
     ·rw[QW.1 k]
      exact λG H=>by first|assumption|exact absurd G (by assumption)|exact absurd H (by assumption))
   |skip
  all_goals simp only[QU,QY]
  ·exact zj
  ·exact zj
  ·exact zj
def aO3(c s:Sh):Prop:=¬rJ c s [2]/\¬bL9 s c 0/\¬bL9 c s 2/\bD2 c s (λx y=>¬jH y (x.2,x.1))
theorem dP2(x y:Sg):Sp 254 [sgV x,sgV y] (DB (¬jH y (x.2,x.1))):=by
 refine zsp Tryz.func254 ?_;have a:=bX9 x;have b:=cT5 y (x.2,x.1)
 repeat' ((conv=>whnf);first|refine zc a ?_|refine zc b ?_|refine zS ?_|fail)
 all_goals conv=>whnf
 all_goals exact aA (aF6 dW)
theorem eS8:eU0 254 (λx y=>¬jH y (x.2,x.1)):=λx y=>dP2 x y
theorem cG3{s:Sh}(h:bG s):(rV s).length<=80:=by
 unfold rV;rw[List.length_flatten];exact h.2.2.1
theorem yB{s:Sh}(h:bG s):s.holes.length<=6:=h.1
theorem iT{s:Sh}(h:bG s):gV s:=by
 have a:∀r∈rings s,r.length<=40:=λr hr=>(h.2.1 r hr).2.1;refine⟨?_,?_,λr hr=>?_⟩
 ·have:=a s.outer AQ
  omega
 ·have:=h.1
  omega
 ·have:=a r Dn
  omega
theorem cO1(c s:Sh)(a:bG c)(b:bG s):Sp 206 [shV c,shV s] (DB (aO3 c s)):=by
 refine zsp Tryz.func206 ?_;have n:=cG3 a;have o:=cG3 b
 have e:=bX6 c s [2] (iT a) (yB a) (iT b) (yB b) Ai;have f:=bK5 s c 0 (iT b) (yB b) (iT a) Aa
 have g:=bK5 c s 2 (iT a) (yB a) (iT b) Aa;have i:=cZ6 eS8 c s (iT a) (yB a) (iT b) (yB b)
 have d:aO3 c s↔¬rJ c s [2]/\¬bL9 s c 0/\¬bL9 c s 2/\bD2 c s (λx y=>¬jH y (x.2,x.1)):=RN;generalize aO3 c s=P at*;generalize rJ c s [2] =j at*;generalize bL9 s c 0=k at*;generalize bL9 c s 2=l at*;generalize bD2 c s (λx y=>¬jH y (x.2,x.1))=m at*
 repeat' ((conv=>whnf);first|refine zc e ?_|refine zc f ?_|refine zc g ?_|refine zc i ?_|refine zS ?_|refine zT ?_ ?_<;>intro _|fail)
 all_goals conv=>whnf
 all_goals first
  |exact aA (aC (λh=>absurd Ag (d.1 h).1))
  |exact aA (aC (λh=>absurd Ag (d.1 h).2.1))
  |exact aA (aC (λh=>absurd Ag (d.1 h).2.2.1))
  |exact aA (fQ ⟨λh=>d.2 ⟨Ag,Ag,Ag,h⟩,λh=>(d.1 h).2.2.2⟩)
  |skip
def lI(c s:Sh):Prop:=bG c/\bG s/\aO3 c s
def pO(c s:Sh):Int:=open Classical in if bG c/\bG s then 0 else 11
theorem aA6(c s:Sh)(a:gV c)(d:gV s):Sp 158 [shV c,shV s] (.tup [DB (lI c s),I (pO c s)]):=by
 refine zsp Tryz.func158 ?_;have m1:=kK c a;have m2:=kK s d
 by_cases h1:bG c
 ·by_cases h2:bG s
  ·have e1:DB (lI c s)=DB (aO3 c s):=Ry (λb=>V.lit (.bool b)) (fQ ⟨λh=>h.2.2,λh=>⟨h1,h2,h⟩⟩)
   have e2:pO c s=0:=QO ⟨h1,h2⟩;have m3:=cO1 c s h1 h2
   exact OB
  ·exact Js
 ·exact Jt
def jA(c:Int):Prop:=(97<=c/\c<=122)\/(65<=c/\c<=90)
def isDigit(c:Int):Prop:=48<=c/\c<=57
def fG(c:Int):Prop:=jA c\/isDigit c\/c=95
def iM(s:ByteArray):Prop:=1<=s.size/\s.size<=16/\jA (byteAt s 0)/\∀i,i<s.size->fG (byteAt s i)
theorem dQ2(c:Int):fnVC T Tryz.prog Tryz.f141 [U c] (.lit (.bool (decB (jA c)))):=by
 repeat' ((conv=>whnf);first|refine zS ?_|refine zT ?_ ?_<;>intro _|fail)
 all_goals conv=>whnf
 all_goals refine aA ?_
 ·exact fE G7
 ·refine le_dec ?_
  unfold jA;omega
 ·exact aC G7
 ·refine le_dec ?_
  unfold jA;omega
 ·exact aC G7
theorem aT4(c:Int):Sp 141 [U c] (.lit (.bool (decB (jA c)))):=zsp Tryz.func141 (dQ2 c)
theorem eD7(c:Int):fnVC T Tryz.prog Tryz.f187 [U c] (.lit (.bool (decB (isDigit c)))):=by
 repeat' ((conv=>whnf);first|refine zS ?_|refine zT ?_ ?_<;>intro _|fail)
 all_goals conv=>whnf
 all_goals refine aA ?_
 ·refine le_dec ?_
  unfold isDigit;omega
 ·exact aC (by unfold isDigit;omega)
theorem cX6(c:Int):Sp 187 [U c] (.lit (.bool (decB (isDigit c)))):=zsp Tryz.func187 (eD7 c)
theorem dX8(c:Int):fnVC T Tryz.prog Tryz.f143 [U c] (.lit (.bool (decB (fG c)))):=by
 repeat' ((conv=>whnf);first|refine zc (aT4 c) ?_|refine zc (cX6 c) ?_|refine zS ?_|refine zd (λa=>?_) (λa=>?_))
 all_goals conv=>whnf
 all_goals refine aA ?_
 ·exact fE (.inl a)
 ·exact fE (.inr (.inl a))
 ·rename_i b
  refine sK ⟨λh=> .inr (.inr h),λh=>?_⟩;rcases h with h|h|h
  ·exact(b h).elim
  ·exact(a h).elim
  ·exact h
theorem cR8(c:Int):Sp 143 [U c] (.lit (.bool (decB (fG c)))):=zsp Tryz.func143 (dX8 c)
def wh(p:Nat->Bool):Nat->Nat->Nat
 |0,i=>i
 |f+1,i=>if p i then wh p f (i+1)else i
theorem dG8{p:Nat->Bool}{f i:Nat}(h:p i=true):wh p (f+1) i=wh p f (i+1):=by rw[wh,QO h]
theorem dE4{p:Nat->Bool}{f i:Nat}(h:p i=false):wh p (f+1) i=i:=by rw[wh,Q5 (by simp[h])]
theorem cV4(p:Nat->Bool):∀f i,wh p f i=i+f↔∀j,i<=j->j<i+f->p j=true
 |0,i=>by simp[wh];omega
 |f+1,i=>by
  rw[wh];split
  ·rename_i h
   have:=cV4 p f (i+1);grind
  ·grind
def whS(K:Int->Prop)(s:ByteArray)(i:Nat):Nat:=wh (λj=>decB (K (byteAt s j))) (s.size-i) i
theorem dV7{g:FuncId}{Kd:Int->Prop}(d:∀c,Sp g [U c] (.lit (.bool (decB (Kd c)))))(s:ByteArray)(i:Nat)(l:s.size<=1000000000):
 fnVC T Tryz.prog Tryz.f142 [S s,I i, .fn g []] (I (whS Kd s i)):=by
 repeat' ((conv=>whnf);first|refine zS ?_|fail)
 refine lD (A:=Nat) (λk=>mkSt [(0,S s),(1,I k),(2, .fn g [])] [] []) (λk=>whS Kd s k=whS Kd s i) (λk=>s.size-k) i ?_ rfl (λk hk=>?_)
 ·exact zj
 ·change whS Kd s k=whS Kd s i at hk
  rcases RX k s.size with hlt|e
  ·obtain⟨f,b⟩:∃f,s.size-k=f+1:=⟨s.size-k-1,Aa⟩
   have hks:whS Kd s k=wh (λj=>decB (Kd (byteAt s j))) (f+1) k:=by unfold whS;rw[b]
   repeat' ((conv=>whnf);first|omega|refine zc (d (byteAt s k)) ?_|refine zS ?_|refine zd (λa=>?_) (λa=>?_)|refine zl (λhlt=>?_) (λhlt=>?_))
   ·conv=>whnf
    refine⟨k+1,?_,?_,Aa⟩
    ·refine dV ?_ ?_ ?_ ?_
     all_goals repeat' (first|exact trivial|refine And.intro ?_ ?_|with_reducible rfl|exact(λh=>Ah)|exact QV _|omega|exact rfl)
    ·show whS Kd s (k+1)=_
     rw[<-hk,hks,dG8 (dH.2 a)];unfold whS;rw[show s.size- (k+1)=f from Aa]
   ·conv=>whnf
    refine aG ?_;rw[<-hk,hks,dE4 (dW.2 a)]
  ·have hks:whS Kd s k=k:=by unfold whS;rw[show s.size-k=0 from Aa];rfl
   exact Pe
theorem cQ3{g:FuncId}{Kd:Int->Prop}(a:∀c,Sp g [U c] (.lit (.bool (decB (Kd c)))))(s:ByteArray)(i:Nat)(b:s.size<=1000000000):
 Sp 142 [S s,I i, .fn g []] (I (whS Kd s i)):=zsp Tryz.func142 (dV7 a s i b)
theorem eL8(s:ByteArray):fnVC T Tryz.prog Tryz.f103 [S s] (.lit (.bool (decB (iM s)))):=by
 have c:=dJ7 (s:=s);rcases RX 16 s.size with d|hsm
 ·repeat' ((conv=>whnf);first|refine jI (λa=>?_) (λa=>?_)|omega|refine zS ?_|refine zk (λb=>?_) (λb=>?_))
  all_goals conv=>whnf
  all_goals refine aA ?_
  all_goals exact aC (λh=>by have:=h.2.1;omega)
 ·repeat' ((conv=>whnf);first|refine jI (λa=>?_) (λa=>?_)|omega|refine cK2 ⟨Aa,by have:=mt c.1 a;omega⟩ ?_|refine zc (aT4 (byteAt s 0)) ?_|refine zc (cQ3 cR8 s 0 Aa) ?_|refine zS ?_|refine zd (λhd=>?_) (λhd=>?_)|refine zk (λb=>?_) (λb=>?_))
  all_goals conv=>whnf
  all_goals refine aA ?_
  ·exact aC (λh=>by have:=h.1;have:=c.2 a;omega)
  ·refine sK ?_
   have hw:=cV4 (λj=>decB (fG (byteAt s j))) s.size 0;have hs0:whS fG s 0=wh (λj=>decB (fG (byteAt s j))) s.size 0:=rfl
   have f:=mt c.1 a;exact Oh
  ·exact aC (λh=>hd h.2.2.1)
theorem aG6(s:ByteArray):Sp 103 [S s] (.lit (.bool (decB (iM s)))):=zsp Tryz.func103 (eL8 s)
def kZ(id:Int)(g h:ByteArray):Prop:=1<=id/\id<=1000000/\iM g/\iM h
theorem aI6(id:Int)(g h:ByteArray):Sp 154 [.agg [I id,S g,S h]] (DB (kZ id g h)):=by
 refine zsp Tryz.func154 ?_;have b:=aG6 g;have c:=aG6 h
 have a:kZ id g h↔1<=id/\id<=1000000/\iM g/\iM h:=RN;generalize kZ id g h=P at*;generalize iM g=d at*;generalize iM h=e at*
 repeat' ((conv=>whnf);first|refine zc b ?_|refine zc c ?_|refine zS ?_|refine zT ?_ ?_<;>intro _|fail)
 all_goals conv=>whnf
 all_goals first
  |exact aA (fQ ⟨λh=>a.2 ⟨Aa,Aa,Ag,h⟩,λh=>(a.1 h).2.2.2⟩)
  |exact aA (aC (λh=>absurd (a.1 h).2.2.1 Ag))
  |exact aA (aC (λh=>by have:=a.1 h;omega))
  |exact aA (le_dec ⟨λh=>Aa,λh=>by have:=a.1 h;omega⟩)
theorem cS6(b:Bar):Sp 159 [barV b] (.agg ([I b.id,S b.grade,S b.heat] ++barC b)):=by
 refine zsp Tryz.func159 ?_;exact OA
theorem aK4(s:jL):Sp 153 [zJ s] (.agg ([I s.id,S s.grade,S s.heat] ++aA7 s)):=by
 refine zsp Tryz.func153 ?_;exact OA
theorem cT8{r:Rg}(a:r≠ []):(wL r).length<=r.length+r.length:=by
 unfold wL;grind
theorem aU5{s:Sh}(h:bG s):gV (qO s):=by
 have d:∀r∈rings s,(gQ r).length<=1000000:=λr a=>by
  obtain⟨b,c,_⟩:=h.2.1 r a;rw[bJ7 (h.2.1 r a)];have:=cT8 (r:=r) (λe=>by rw[e]at b;simp at b)
  omega
 rw[aN9 h];refine⟨d s.outer AQ,?_,λr a=>?_⟩
 ·unfold wW
  rw[cX8,Rl];have:=h.1;omega
 ·grind [dB0,wW,rings]
def jV(s:Sh):Prop:=bG s/\s=qO s
theorem aD5(s:Sh)(c:gV s):Sp 155 [shV s] (DB (jV s)):=by
 refine zsp Tryz.func155 ?_;have h1:=kK s c;have d:=aU9 s c
 by_cases h:bG s
 ·have e:=cQ8 s (qO s) c (aU5 h)
  have a:DB (jV s)=DB (s=qO s):=Ry (λb=>V.lit (.bool b)) (fQ ⟨λh=>h.2,λq=>⟨h,q⟩⟩);rw[a]
  repeat' ((conv=>whnf);first|(exfalso;contradiction)|refine zc h1 ?_|refine zc d ?_|refine zc e ?_|refine zS ?_|refine zT ?_ ?_<;>intro _|fail)
  all_goals exact zE
 ·have a:DB (jV s)= .lit (.bool false):=Ry (λb=>V.lit (.bool b)) (dW.2 (λq=>h q.1))
  rw[a];exact Om
def dQ(v:Vc):Prop:=0<=min v.1 v.2/\max v.1 v.2<=1900
theorem mJ(v:Vc):Sp 157 [vcV v] (DB (dQ v)):=by
 refine zsp Tryz.func157 ?_;have a:dQ v↔0<=min v.1 v.2/\max v.1 v.2<=1900:=RN;generalize dQ v=P at*
 repeat' ((conv=>whnf);first|refine zS ?_|refine zT ?_ ?_<;>intro _|fail)
 all_goals conv=>whnf
 all_goals (try simp only[lH,mG]at*)
 all_goals first
  |exact aA (le_dec ⟨λh=>a.2 ⟨Aa,Aa⟩,λh=>by have:=a.1 h;omega⟩)
  |exact aA (aC (λh=>by have:=a.1 h;omega))
def xH(b:Bx):Prop:=b.1.1<b.2.1/\b.1.2<b.2.2
theorem bS8(b:Bx):Sp 259 [bxV b] (DB (xH b)):=by
 refine zsp Tryz.func259 ?_;have a:xH b↔b.1.1<b.2.1/\b.1.2<b.2.2:=RN;generalize xH b=P at*
 repeat' ((conv=>whnf);first|refine zS ?_|refine zT ?_ ?_<;>intro _|fail)
 all_goals conv=>whnf
 all_goals first
  |exact aA (aS1 ⟨λh=>a.2 ⟨Aa,Aa⟩,λh=>by have:=a.1 h;omega⟩)
  |exact aA (aC (λh=>by have:=a.1 h;omega))
def nV(a b:Bx):Bx:=((max a.1.1 b.1.1,max a.1.2 b.1.2),(min a.2.1 b.2.1,min a.2.2 b.2.2))
theorem cE9(a b:Bx):Sp 261 [bxV a,bxV b] (.tup [bxV (nV a b),DB (xH (nV a b))]):=by
 refine zsp Tryz.func261 ?_;have c:=bS8 (nV a b);unfold nV at c⊢;simp only[<-mG,<-lH]at c⊢
 repeat' ((conv=>whnf);first|refine zc c ?_|refine zS ?_|fail)
 all_goals exact zE
def jT(b:Bx)(by_:Vc):Sh:=qO (sV (vsub b.1 by_) (vsub b.2 by_))
theorem cW6(lo hi:Vc):gV (sV lo hi):=by
 unfold sV;split
 ·exact⟨Il,Il,λr a=>by simp[sh0]at a⟩
 ·exact⟨Af,Af,λr a=>by simp at a⟩
theorem aJ0(b:Bx)(v:Vc):Sp 260 [bxV b,vcV v] (shV (jT b v)):=by
 refine zsp Tryz.func260 ?_;have a:=fF b.1 v;have c:=fF b.2 v
 have d:=cX1 (vsub b.1 v) (vsub b.2 v);have e:=aU9 _ (cW6 (vsub b.1 v) (vsub b.2 v))
 unfold jT;generalize vsub b.1 v=p at*;generalize vsub b.2 v=q at*;generalize sV p q=r at*;generalize qO r=f at*
 repeat' ((conv=>whnf);first|refine zc a ?_|refine zc c ?_|refine zc d ?_|refine zc e ?_|refine zS ?_|fail)
 all_goals exact zE
def sU(len:Int):Int->List Iv->Prop
 |_,[] =>True
 |e,d::R=>e<=d.1/\d.1<d.2/\d.2<=len/\sU len d.2 R
def fM(b:Bar):Prop:=kZ b.id b.grade b.heat/\1<=b.length/\b.length<=2000/\b.defects.length<=6/\sU b.length 0 b.defects
def bV8(D:List Iv):Int:=match D.getLast? with|some d=>d.2|none=>0
theorem bH3(D:List Iv)(d:Iv):bV8 (D++[d])=d.2:=by unfold bV8;simp
theorem qP(b:Bar)(k:b.defects.length<=1000000):Sp 115 [barV b] (DB (fM b)):=by
 refine zsp Tryz.func115 ?_;have i:=cS6 b;have j:=aI6 b.id b.grade b.heat
 have e:fM b↔kZ b.id b.grade b.heat/\1<=b.length/\b.length<=2000/\b.defects.length<=6/\sU b.length 0 b.defects:=RN;have hl:(b.defects.map ivV).length=b.defects.length:=Af
 generalize fM b=P at*;generalize kZ b.id b.grade b.heat=l at*
 repeat' ((conv=>whnf);first|refine zS ?_|refine zT ?_ ?_<;>intro _|fail)
 all_goals conv=>whnf
 all_goals first
  |exact aA (aC (λh=>absurd (e.1 h).1 Ag))
  |exact aA (aC (λh=>by have:=e.1 h;omega))
  |skip
 have g:P↔sU b.length 0 b.defects:=⟨λh=>(e.1 h).2.2.2.2,λh=>e.2 ⟨Ag,Aa,Aa,Aa,h⟩⟩;clear e;refine aU (A:=List Iv) (B:=List Iv) (λD R=>mkSt [(1, .box 1 0),(3,I (bV8 D)),(28, .sl (b.defects.map ivV)),(29,I b.defects.length),(30,I D.length)] [(1,barC b)] []) (λD R=>b.defects=D++R/\(P↔sU b.length (bV8 D) R)) (λD R=>R.length) [] b.defects ?_ ⟨rfl,g⟩ (λD R hp=>?_)
 ·exact Ko
 obtain⟨hp,f⟩:=hp
 cases R with
 |nil=>
  have a:b.defects.length=D.length:=Ae
  repeat' ((conv=>whnf);first|omega|refine zS ?_|refine zT ?_ ?_<;>intro _|fail)
  all_goals conv=>whnf
  exact aA (fE (f.2 trivial))
 |cons d R=>
  have a:=aO hp;have c:P↔bV8 D<=d.1/\d.1<d.2/\d.2<=b.length/\sU b.length d.2 R:=f
  repeat' ((conv=>whnf);first|omega|refine zS ?_|refine zT ?_ ?_<;>intro _|fail)
  all_goals conv=>whnf
  all_goals first
   |exact aA (aC (λh=>by have:=c.1 h;omega))
   |skip
  refine⟨(D++[d],R),?_,⟨Ae,?_⟩,Af⟩
  ·simp only[bH3,QU,QY]
   exact NY
  ·show P↔sU b.length (bV8 (D++[d])) R
   rw[bH3,c];exact⟨λh=>h.2.2.2,λh=>⟨Aa,Aa,Aa,h⟩⟩
theorem eY2{g:FuncId}{Q:Int->Prop}(hg:∀m,Sp g (I m:: []) (DB (Q m)))(l:List Int)(b:l.length<=1000000):fnVC T Tryz.prog Tryz.f342 [.sl (l.map I), .fn g []] (I (fstI Q l)):=by
 have a:(l.map I).length=l.length:=Af
 repeat' ((conv=>whnf);first|refine zS ?_|fail)
 refine aU (A:=List Int) (B:=List Int) (λD R=>mkSt [(0, .sl (l.map I)),(1, .fn g []),(7,I l.length),(8,I D.length)] [] [])
  (λD R=>l=D++R/\∀m∈D,¬Q m) (λD R=>R.length) [] l ?_ ⟨rfl,Af⟩ (λD R hp=>?_)
 ·exact zj
 ·exact I9
theorem eI6{g:FuncId}{Q:Int->Prop}(a:∀m,Sp g (I m:: []) (DB (Q m)))(l:List Int)(b:l.length<=1000000):Sp 342 [.sl (l.map I), .fn g []] (I (fstI Q l)):=zsp Tryz.func342 (eY2 a l b)
theorem eW3{g:FuncId}{Q:Int->Prop}(a:∀m,Sp g (I m:: []) (DB (Q m)))(l:List Int)(b:l.length<=1000000):fnVC T Tryz.prog Tryz.f308 [.sl (l.map I), .fn g []] (DB (∃m∈l,Q m)):=by
 repeat' ((conv=>whnf);first|refine zc (eI6 a l b) ?_|refine zS ?_|fail)
 exact Nq
theorem eB1{g:FuncId}{Q:Int->Prop}(a:∀m,Sp g (I m:: []) (DB (Q m)))(l:List Int)(b:l.length<=1000000):Sp 308 [.sl (l.map I), .fn g []] (DB (∃m∈l,Q m)):=zsp Tryz.func308 (eW3 a l b)
theorem dR5(n:Int):Sp 309 [I n] (DB (n<1\/1000000<n)):=by
 refine zsp Tryz.func309 ?_
 repeat' ((conv=>whnf);first|refine zS ?_|refine zT ?_ ?_<;>intro _|fail)
 all_goals conv=>whnf
 all_goals first
  |exact aA (fE Aa)
  |exact aA (aS1 ⟨λh=>Aa,λh=>Aa⟩)
def nC(n:Int):Prop:=1<=n/\n<=1000000
theorem cV8(n:Int):Sp 258 [.sl [I n]] (DB (nC n)):=by
 refine zsp Tryz.func258 ?_;have c:=eB1 (g:=309) (Q:=λn=>n<1\/1000000<n) (λm=>dR5 m) [n] Af;have d:DB (∃m∈[n],m<1\/1000000<m)=DB (n<1\/1000000<n):=Ry (λb=>V.lit (.bool b)) (fQ ⟨λ⟨m,h,a⟩=>by rw[QW.1 h]at a;exact a,λh=>⟨n,Af,h⟩⟩)
 rw[d]at c
 repeat' ((conv=>whnf);first|refine zS ?_|fail)
 all_goals conv=>whnf
 all_goals exact aA (aF6 (dW.trans ⟨λh=>by unfold nC;omega,λh=>by unfold nC at h;omega⟩))
def qQ(s d:Sh):Prop:=jV d/\pO s d=0/\lI s d
def dB(s:jL):Prop:=kZ s.id s.grade s.heat/\0<=s.grain/\s.grain<=2/\jV s.shape/\s.defects.length<=6/\dQ (boxS s.shape).1.1/\dQ (boxS s.shape).1.2/\∀d∈s.defects,qQ s.shape d
def tN(s:jL):Prop:=Fits s.shape/\s.defects.length<=1000000/\∀d∈s.defects,Fits d
theorem fits_sized{s:jL}(h:lK s):tN s:=⟨h.1.fits,h.2.1,λd a=>(h.2.2 d a).fits⟩
theorem aO1(s:Sh)(c:Fits s):Sp 155 [shV s] (DB (jV s)):=by
 by_cases h:bG s
 ·exact aD5 s (iT h)
 ·have h1:=wQ s c
  have a:DB (jV s)= .lit (.bool false):=Ry (λb=>V.lit (.bool b)) (dW.2 (λq=>h q.1));rw[a];refine zsp Tryz.func155 ?_;exact Om
theorem cA3(c s:Sh)(d:bG c)(g:Fits s):Sp 158 [shV c,shV s] (.tup [DB (lI c s),I (pO c s)]):=by
 by_cases a:bG s
 ·exact aA6 c s (iT d) (iT a)
 ·have i:=wQ c (iT d).fits
  have j:=wQ s g;have e:DB (lI c s)= .lit (.bool false):=Ry (λb=>V.lit (.bool b)) (dW.2 (λh=>a h.2.1))
  have f:pO c s=11:=Q5 (λh=>a h.2);rw[e,f];refine zsp Tryz.func158 ?_
  repeat' ((conv=>whnf);first|(exfalso;contradiction)|refine zc i ?_|refine zc j ?_|refine zS ?_|refine zT ?_ ?_<;>intro _|fail)
  all_goals exact zE
theorem aR2(s:jL)(F:tN s):Sp 114 [zJ s] (DB (dB s)):=by
 refine zsp Tryz.func114 ?_;obtain⟨n,G,g⟩:=F;have q:=aK4 s;have r:=aI6 s.id s.grade s.heat
 have t:=aO1 s.shape n;by_cases c:jV s.shape;rotate_left
 ·have a:dB s->kZ s.id s.grade s.heat/\0<=s.grain/\s.grain<=2/\jV s.shape:=λh=>⟨h.1,h.2.1,h.2.2.1,h.2.2.2.1⟩
  generalize dB s=P at*;generalize kZ s.id s.grade s.heat=H at*;generalize jV s.shape=J at*
  repeat' ((conv=>whnf);first|(exfalso;contradiction)|refine zc q ?_|refine zc r ?_|refine zc t ?_|refine zS ?_|refine zT ?_ ?_<;>intro _|fail)
  all_goals conv=>whnf
  all_goals exact aA (aC (λh=>c (a h).2.2.2))
 have f:=c.1;have o:=iT f
 have y:=aS0 s.shape o;have C:=mJ (boxS s.shape).1.1
 have E:=mJ (boxS s.shape).1.2;have a:dB s↔kZ s.id s.grade s.heat/\0<=s.grain/\s.grain<=2/\jV s.shape/\s.defects.length<=6/\dQ (boxS s.shape).1.1/\dQ (boxS s.shape).1.2/\∀d∈s.defects,qQ s.shape d:=RN
 have hl:(s.defects.map shV).length=s.defects.length:=Af;have m:∀d,qQ s.shape d↔jV d/\pO s.shape d=0/\lI s.shape d:=λd=>RN
 generalize dB s=P at*;generalize kZ s.id s.grade s.heat=H at*;generalize jV s.shape=J at*;generalize dQ (boxS s.shape).1.1=K at*;generalize dQ (boxS s.shape).1.2=L at*
 repeat' ((conv=>whnf);first|refine zc q ?_|refine zc r ?_|refine zc t ?_|refine zc y ?_|refine zc C ?_|refine zc E ?_|refine zS ?_|refine zT ?_ ?_<;>intro _|fail)
 all_goals conv=>whnf
 all_goals first
  |exact aA (aC (λh=>absurd (a.1 h).1 Ag))
  |exact aA (aC (λh=>absurd (a.1 h).2.2.2.1 Ag))
  |exact aA (aC (λh=>absurd (a.1 h).2.2.2.2.2.1 Ag))
  |exact aA (aC (λh=>absurd (a.1 h).2.2.2.2.2.2.1 Ag))
  |exact aA (aC (λh=>by have:=(a.1 h).2.1;have:=(a.1 h).2.2.1;have:=(a.1 h).2.2.2.2.1;omega))
  |skip
 have j:P↔∀d∈s.defects,qQ s.shape d:=⟨λh=>(a.1 h).2.2.2.2.2.2.2,λh=>a.2 ⟨Ag,Aa,Aa,Ag,Aa,Ag,Ag,h⟩⟩;clear a;refine aU (A:=List Sh) (B:=List Sh) (λD R=>mkSt [(1, .box 1 0),(53, .sl (s.defects.map shV)),(54,I s.defects.length),(55,I D.length)] [(1,aA7 s)] []) (λD R=>s.defects=D++R/\∀d∈D,qQ s.shape d) (λD R=>R.length) [] s.defects ?_ ⟨rfl,Af⟩ (λD R hp=>?_)
 ·exact Ko
 obtain⟨hp,u⟩:=hp
 cases R with
 |nil=>
  have e:s.defects.length=D.length:=Ae
  repeat' ((conv=>whnf);first|omega|refine zS ?_|refine zT ?_ ?_<;>intro _|fail)
  all_goals conv=>whnf
  refine aA (fE (j.2 λd h=>?_));rw[hp,Rn]at h;exact u d h
 |cons d R=>
  have e:=aO hp;have b:d∈s.defects:=Ae
  have v:=cA3 s.shape d f (g d b);have w:=aO1 d (g d b)
  have k:=m d;generalize jV d=M at*;generalize pO s.shape d=N at*;generalize lI s.shape d=O at*
  repeat' ((conv=>whnf);first|omega|refine aB (l:=s.defects) Aa ?_|refine aF (l:=s.defects) (A:=D) (x:=d) (B:=R) hp Aa ?_|refine zc v ?_|refine zc w ?_|refine zS ?_|refine zT ?_ ?_<;>intro _|fail)
  all_goals conv=>whnf
  all_goals first
   |exact aA (aC (λh=>absurd (k.1 (j.1 h d b)).1 Ag))
   |exact aA (aC (λh=>absurd (k.1 (j.1 h d b)).2.1 Ag))
   |exact aA (aC (λh=>absurd (k.1 (j.1 h d b)).2.2 Ag))
   |skip
  refine⟨(D++[d],R),?_,⟨Ae,λz i=>?_⟩,Af⟩
  ·exact IE
  ·rcases QX.1 i with i|i
   ·exact u z i
   ·rw[QW.1 i]
    exact k.2 ⟨Ag,Ag,Ag⟩
theorem nU(s:jL)(a:lK s):Sp 114 [zJ s] (DB (dB s)):=aR2 s (fits_sized a)
def aK2(b:Bx)(d:Sh):List Sh:=open Classical in if xH (nV (boxS d).1 b)then [jT (nV (boxS d).1 b) b.1]else []
def kJ(b:Bx)(l:List Sh):List Sh:=l.flatMap (aK2 b)
def remE(s:jL)(b:Bx)(id:Int):Int:=open Classical in
 if¬dB s then 1 else if¬(nC id/\xH b/\dQ b.1/\dQ b.2)then 2 else if¬lI s.shape (jT b (0,0))then 13 else 0
def remS(s:jL)(b:Bx)(id:Int):jL:=if remE s b id=0 then⟨id,s.grade,s.heat,s.grain,jT b b.1,kJ b s.defects⟩else dN
theorem aD2(b:Bx)(v:Vc):gV (jT b v):=by
 unfold jT;by_cases h:bG (sV (vsub b.1 v) (vsub b.2 v))
 ·exact aU5 h
 ·rw[bH5 h]
  exact⟨Il,Il,λr a=>by simp[sh0]at a⟩
theorem bX0(b:Bx)(D:List Sh)(d:Sh):kJ b (D++[d])=kJ b D++aK2 b d:=by unfold kJ;simp
theorem yK(b:Bx):∀D:List Sh,(kJ b D).length<=D.length
 | [] =>QV _
 |d::D=>by
  have h:=yK b D;grind [QU,Rf,aK2,kJ]
def aB2(s:jL)(b:Bx)(id:Int)(r:Sh)(X:List Sh)(n:Int):St:=match X with
 | [] =>mkSt [(3, .box 3 0),(4, .box 4 0),(6, .box 6 0),(7,I 0),(10, .box 10 0),(68, .sl (s.defects.map shV)),(69,I s.defects.length),(70,I n)]
   [(3,aA7 s),(4,(bxV b).cells),(6,[I 0,S aI,S aI,I 0,nilV,nilV,nilV]),(10,[I id,S s.grade,S s.heat,I s.grain,rgV r.outer, .sl (r.holes.map rgV),nilV])] []
 |x::X=>mkSt [(3, .box 3 0),(4, .box 4 0),(6, .box 6 0),(7,I 0),(10, .box 10 0),(68, .sl (s.defects.map shV)),(69,I s.defects.length),(70,I n)]
  [(3,aA7 s),(4,(bxV b).cells),(6,[I 0,S aI,S aI,I 0,nilV,nilV,nilV]),(10,[I id,S s.grade,S s.heat,I s.grain,rgV r.outer, .sl (r.holes.map rgV), .arr 93 X.length])] [(93,⟨X.length, .own,78,(x::X).map shV⟩)]
theorem cD5(s:jL)(b:Bx)(id:Int)(k:lK s):Sp 211 [zJ s,bxV b,I id] (.tup [zJ (remS s b id),I (remE s b id)]):=by
 refine zsp Tryz.func211 ?_;have h1:=nU s k;have q:=cV8 id
 have r:=bS8 b;have t:=mJ b.1
 have u:=mJ b.2;have z:=aJ0 b (0,0)
 have C:=aA6 s.shape (jT b (0,0)) k.1 (aD2 b (0,0));have G:=aJ0 b b.1
 by_cases c1:dB s;rotate_left
 ·have e1:remE s b id=1:=by unfold remE;rw[QO c1]
  have i:remS s b id=dN:=Bg;rw[e1,i];exact Om
 by_cases o:nC id/\xH b/\dQ b.1/\dQ b.2;rotate_left
 ·have e1:remE s b id=2:=by unfold remE;rw[Q5 (λh=>h c1),QO o]
  have i:remS s b id=dN:=Bg;rw[e1,i]
  repeat' ((conv=>whnf);first|(exfalso;contradiction)|(exfalso;exact o ⟨Ag,Ag,Ag,Ag⟩)|refine zc h1 ?_|refine zc q ?_|refine zc r ?_|refine zc t ?_|refine zc u ?_|refine zS ?_|refine zT ?_ ?_<;>intro _|fail)
  all_goals exact zE
 obtain⟨c21,c22,c23,c24⟩:=o;by_cases c3:lI s.shape (jT b (0,0));rotate_left
 ·have e1:remE s b id=13:=by unfold remE;rw[Q5 (λh=>h c1),Q5 (λh=>h ⟨c21,c22,c23,c24⟩),QO c3]
  have i:remS s b id=dN:=Bg;rw[e1,i]
  repeat' ((conv=>whnf);first|(exfalso;contradiction)|refine zc h1 ?_|refine zc q ?_|refine zc r ?_|refine zc t ?_|refine zc u ?_|refine zc z ?_|refine zc C ?_|refine zS ?_|refine zT ?_ ?_<;>intro _|fail)
  all_goals exact zE
 have e1:remE s b id=0:=BR;have i:remS s b id=⟨id,s.grade,s.heat,s.grain,jT b b.1,kJ b s.defects⟩:=by unfold remS;rw[QO e1]
 rw[e1,i];have hl:(s.defects.map shV).length=s.defects.length:=Af;generalize jT b b.1=c at*;generalize jT b (0,0)=K at*
 repeat' ((conv=>whnf);first|(exfalso;contradiction)|refine zc h1 ?_|refine zc q ?_|refine zc r ?_|refine zc t ?_|refine zc u ?_|refine zc z ?_|refine zc C ?_|refine zc G ?_|refine zS ?_|refine zT ?_ ?_<;>intro _|fail)
 all_goals conv=>whnf
 refine aU (A:=List Sh) (B:=List Sh) (λD R=>aB2 s b id c (kJ b D) D.length) (λD R=>s.defects=D++R) (λD R=>R.length) [] s.defects ?_ rfl (λD R hp=>?_)
 ·show Le T _ (aB2 s b id c [] 0)
  exact NI
 have H:=yK b D;have J:=k.2.1
 cases R with
 |nil=>
  have e:s.defects=D:=Ae;have j:s.defects.length=D.length:=Iu
  rw[e];generalize kJ b D=X at*
  cases X with
  |nil=>exact Lj
  |cons x X=>exact Lj
 |cons d R=>
  have j:=aO hp;have v:d∈s.defects:=Ae
  have m:=aS0 d (k.2.2 d v);have n:=cE9 (boxS d).1 b
  have F:=aJ0 (nV (boxS d).1 b) b.1;have a:=bX0 b D d
  have g:((D++[d]).length:Int)=(D.length:Int)+1:=Af;have f:aK2 b d=(open Classical in if xH (nV (boxS d).1 b)then [jT (nV (boxS d).1 b) b.1]else []):=rfl
  generalize kJ b D=X at*;generalize nV (boxS d).1 b=y at*;generalize jT y b.1=rr at*;by_cases E:xH y
  ·rw[QO E]at f
   rw[f]at a
   cases X with
   |nil=>
    repeat' ((conv=>whnf);first|(exfalso;contradiction)|omega|refine aB (l:=s.defects) Aa ?_|refine aF (l:=s.defects) (A:=D) (x:=d) (B:=R) hp Aa ?_|refine zc m ?_|refine zc n ?_|refine zc F ?_|refine gX (Q9 rfl) (dA rfl) (Q9 rfl) ?_|refine zS ?_|refine zT ?_ ?_<;>intro _|fail)
    all_goals conv=>whnf
    refine⟨(D++[d],R),?_,Ae,Af⟩;show Le T _ (aB2 s b id c (kJ b (D++[d])) (D++[d]).length);rw[a,g];show Le T _ (aB2 s b id c [rr] _);exact zj
   |cons x X=>
    have w:(x::X).length=X.length+1:=rfl
    repeat' ((conv=>whnf);first|(exfalso;contradiction)|omega|refine aB (l:=s.defects) Aa ?_|refine aF (l:=s.defects) (A:=D) (x:=d) (B:=R) hp Aa ?_|refine zc m ?_|refine zc n ?_|refine zc F ?_|refine iH rfl (.inl rfl) rfl (Q9 rfl) (dA rfl) (show((x::X).map shV).length+1<=1000000000 from DN) ?_|refine zS ?_|refine zT ?_ ?_<;>intro _|fail)
    all_goals conv=>whnf
    refine⟨(D++[d],R),?_,Ae,Af⟩;show Le T _ (aB2 s b id c (kJ b (D++[d])) (D++[d]).length);rw[a,g];show Le T _ (aB2 s b id c (x::(X++[rr])) _);unfold aB2;exact Ny
  ·rw[Q5 E]at f
   rw[f,Rn]at a
   cases X with
   |nil=>
    repeat' ((conv=>whnf);first|(exfalso;contradiction)|omega|refine aB (l:=s.defects) Aa ?_|refine aF (l:=s.defects) (A:=D) (x:=d) (B:=R) hp Aa ?_|refine zc m ?_|refine zc n ?_|refine zS ?_|refine zT ?_ ?_<;>intro _|fail)
    all_goals conv=>whnf
    refine⟨(D++[d],R),?_,Ae,Af⟩;show Le T _ (aB2 s b id c (kJ b (D++[d])) (D++[d]).length);rw[a,g];show Le T _ (aB2 s b id c [] _);exact zj
   |cons x X=>
    have w:(x::X).length=X.length+1:=rfl
    repeat' ((conv=>whnf);first|(exfalso;contradiction)|omega|refine aB (l:=s.defects) Aa ?_|refine aF (l:=s.defects) (A:=D) (x:=d) (B:=R) hp Aa ?_|refine zc m ?_|refine zc n ?_|refine zS ?_|refine zT ?_ ?_<;>intro _|fail)
    all_goals conv=>whnf
    refine⟨(D++[d],R),?_,Ae,Af⟩;show Le T _ (aB2 s b id c (kJ b (D++[d])) (D++[d]).length);rw[a,g];show Le T _ (aB2 s b id c (x::X) _);exact zj
end Go.Proofs.Led
