/-
  Sheets, bars, the inventory and its events: what they are as values of the executor.
-/
import Derived.Test.YtkhhdojgbkophaaGreatDoorBB3
set_option linter.unusedVariables false
set_option linter.unusedSimpArgs false
set_option maxRecDepth 100000
set_option maxHeartbeats 4000000
noncomputable section
namespace Go.Proofs.Led
open Go Go.Proofs Go.Ab Go.RowKit
structure jL where
 id:Int
 grade:ByteArray
 heat:ByteArray
 grain:Int
 shape:Sh
 defects:List Sh
def shC(s:Sh):List V:=[rgV s.outer, .sl (s.holes.map rgV)]
def aA7(s:jL):List V:=[I s.id,S s.grade,S s.heat,I s.grain,rgV s.shape.outer, .sl (s.shape.holes.map rgV), .sl (s.defects.map shV)]
def zJ(s:jL):V:= .agg (aA7 s)
def dN:jL:=⟨0,aI,aI,0,sh0,[]⟩
abbrev Iv:=Int×Int
def ivV(d:Iv):V:= .agg [I d.1,I d.2]
structure Bar where
 id:Int
 grade:ByteArray
 heat:ByteArray
 length:Int
 defects:List Iv
def barC(b:Bar):List V:=[I b.id,S b.grade,S b.heat,I b.length, .sl (b.defects.map ivV)]
def barV(b:Bar):V:= .agg (barC b)
def bar0:Bar:=⟨0,aI,aI,0,[]⟩
structure aN where
 isBar:Bool
 sheet:jL
 bar:Bar
 program:ByteArray
def gB(x:aN):List V:=[B x.isBar,I x.sheet.id,S x.sheet.grade,S x.sheet.heat,I x.sheet.grain,rgV x.sheet.shape.outer, .sl (x.sheet.shape.holes.map rgV), .sl (x.sheet.defects.map shV),
 I x.bar.id,S x.bar.grade,S x.bar.heat,I x.bar.length, .sl (x.bar.defects.map ivV),S x.program]
def aQ(x:aN):V:= .agg (gB x)
def wS:aN:=⟨false,dN,bar0,aI⟩
structure Piece where
 id:Int
 parent:Int
 part:ByteArray
 grade:ByteArray
 heat:ByteArray
 size:Int
 isBar:Bool
 status:Int
 order:ByteArray
def dZ8(x:Piece):List V:=[I x.id,I x.parent,S x.part,S x.grade,S x.heat,I x.size,B x.isBar,I x.status,S x.order]
def aZ(x:Piece):V:= .agg (dZ8 x)
structure aJ where
 stocks:List aN
 pieces:List Piece
 used:List Int
 received:Iv
 scrap:Iv
def invC(s:aJ):List V:=[.sl (s.stocks.map aQ), .sl (s.pieces.map aZ), .sl (s.used.map I),I s.received.1,I s.received.2,I s.scrap.1,I s.scrap.2]
def invV(s:aJ):V:= .agg (invC s)
def inv0:aJ:=⟨[],[],[],(0,0),(0,0)⟩
structure Made where
 id:Int
 part:ByteArray
 size:Int
def dK(x:Made):V:= .agg [I x.id,S x.part,I x.size]
structure Rest where
 id:Int
 box:Bx
 lo:Int
 hi:Int
def bY(x:Rest):V:= .agg [I x.id,I x.box.1.1,I x.box.1.2,I x.box.2.1,I x.box.2.2,I x.lo,I x.hi]
structure Event where
 kind:Int
 id:Int
 text:ByteArray
 sheet:jL
 bar:Bar
 cuts:List Made
 rests:List Rest
 scrap:Int
def iJ(x:Event):List V:=[I x.kind,I x.id,S x.text,I x.sheet.id,S x.sheet.grade,S x.sheet.heat,I x.sheet.grain,rgV x.sheet.shape.outer, .sl (x.sheet.shape.holes.map rgV), .sl (x.sheet.defects.map shV),
 I x.bar.id,S x.bar.grade,S x.bar.heat,I x.bar.length, .sl (x.bar.defects.map ivV), .sl (x.cuts.map dK), .sl (x.rests.map bY),I x.scrap]
def aS(x:Event):V:= .agg (iJ x)
def lK(s:jL):Prop:=gV s.shape/\s.defects.length<=1000000/\∀d∈s.defects,gV d
end Go.Proofs.Led
namespace Go.Proofs.Led
open Go Go.Proofs Go.Ab
variable{g:FuncId}{c:Rg->Rg->Int}{Q:Rg->Prop}
abbrev cF2(g:FuncId)(c:Rg->Rg->Int)(Q:Rg->Prop):Prop:=∀i j,Q i->Q j->Sp g [rgV i,rgV j] (I (c i j))
theorem fC7(hc:cF2 g c Q)(pre xs post:List Rg)(hq:∀x∈xs,Q x)(hl:pre.length+xs.length+post.length<=100000):
 fnIO T Tryz.prog Tryz.f256 [.own 56 ((pre++xs++post).map rgV),I pre.length,I (pre.length+xs.length), .fn g []] (.tup []) 0 56 ((pre++qA c xs++post).map rgV):=by
 repeat' ((conv=>whnf);first|refine zS ?_|fail)
 refine lD (A:=Nat) (fun k=>mkSt [(0, .arr 0 0),(1,I pre.length),(2,I (pre.length+xs.length)),(3, .fn g []),(8,I (pre.length+k))] [] [(0,⟨0, .own,56,(pre++(isR c (xs.take k)).reverse++xs.drop k++post).map rgV⟩)])
  (fun k=>1<=k/\(k<=xs.length\/k=1)) (fun k=>xs.length-k) 1 ?_ ⟨Aa, .inr rfl⟩ (fun k hk=>?_)
 ·refine dV ?_ ?_ ?_ ?_
  all_goals repeat' (first|exact trivial|refine And.intro ?_ ?_|with_reducible rfl|exact(fun h=>Ad)|exact Nat.le_refl _|omega|exact rfl)
  ·show List.map rgV (pre++xs++post)=List.map rgV (pre++(isR c (List.take 1 xs)).reverse++List.drop 1 xs++post)
   exact P7
 ·change 1<=k/\(k<=xs.length\/k=1)at hk
  rcases Nat.lt_or_ge k xs.length with hkl|hkl
  ·have hd:xs.drop k=xs[k] ::xs.drop (k+1):=List.drop_eq_getElem_cons hkl
   have ht:xs.take (k+1)=xs.take k++[xs[k]] :=BI;have hx0:Q xs[k] :=hq _ (List.getElem_mem hkl)
   generalize xs[k] =x at hd ht hx0;obtain⟨tl,hd'⟩:∃tl,xs.drop (k+1)=tl:=⟨_,rfl⟩;rw[hd']at hd;have hlen:(isR c (xs.take k)).length=k:=by rw[dH2,List.length_take];omega
   have hR0:∀z∈isR c (xs.take k),Q z:=fun z hz=>hq z (List.mem_of_mem_take (dI0.1 hz));have hnew:isR c (xs.take (k+1))=insR c x (isR c (xs.take k)):=by rw[ht,eB2]
   generalize isR c (xs.take k)=R0 at hlen hR0 hnew;rw[hd]
   repeat' ((conv=>whnf);first|(exfalso;omega)|refine zS ?_|refine zl (fun hlt=>?_) (fun hlt=>?_))
   refine aU (A:=List Rg) (B:=List Rg) (fun R M=>mkSt [(0, .arr 0 0),(1,I pre.length),(2,I (pre.length+xs.length)),(3, .fn g []),(8,I (pre.length+k)),(9,I (pre.length+R.length))] [] [(0,⟨0, .own,56,(pre++(R.reverse++x::(M++tl))++post).map rgV⟩)])
    (fun R M=>R.length<=k/\(∀z∈R,Q z)/\(insR c x R0).reverse=(insR c x R).reverse++M) (fun R M=>R.length) R0 [] ?_ ⟨Aa,hR0,Ae⟩ (fun R M hp=>?_)
   ·refine dV ?_ ?_ ?_ ?_
    all_goals repeat' (first|exact trivial|refine And.intro ?_ ?_|with_reducible rfl|exact(fun h=>Ad)|exact Nat.le_refl _|omega|exact rfl)
    ·show List.map rgV (pre++R0.reverse++x::tl++post)=List.map rgV (pre++(R0.reverse++x::([] ++tl))++post)
     simp
   ·obtain⟨hp1,hp2,hp3⟩:=hp
    change R.length<=k at hp1;change∀z∈R,Q z at hp2;change (insR c x R0).reverse=(insR c x R).reverse++M at hp3
    cases R with
    |nil=>
     have hn:([] :List Rg).length=0:=rfl
     repeat' ((conv=>whnf);first|(exfalso;omega)|refine zS ?_|refine zl (fun hlt=>?_) (fun hlt=>?_))
     refine⟨k+1,?_,⟨Aa, .inl Aa⟩,Aa⟩;rw[hnew];refine dV ?_ ?_ ?_ ?_;all_goals repeat' (first|exact trivial|refine And.intro ?_ ?_|with_reducible rfl|exact(fun h=>Ad)|exact Nat.le_refl _|omega|exact rfl)
     ·show List.map rgV (pre++([].reverse++x::(M++tl))++post)=List.map rgV (pre++(insR c x R0).reverse++List.drop (k+1) xs++post)
      rw[hp3,hd'];simp[insR]
    |cons y r=>
     have hsz:(pre++((y::r).reverse++x::(M++tl))++post).length=pre.length+(r.length+1)+1+(M++tl++post).length:=Ai;have hlc:(y::r).length=r.length+1:=rfl
     repeat' ((conv=>whnf);first|(exfalso;omega)|(refine dY5 (l:=pre++((y::r).reverse++x::(M++tl))++post) rfl (fun h=>Ad) rfl ?_ ?_;focus (constructor<;>omega))|refine cQ9 Aa ?_|(refine dX6 (l:=pre++((y::r).reverse++x::(M++tl))++post) rfl (fun h=>Ad) rfl ?_ ?_;focus (constructor<;>omega))|refine aF (l:=pre++((y::r).reverse++x::(M++tl))++post) (A:=pre++(y::r).reverse) (x:=x) (B:=M++tl++post) Ae Ai ?_|refine aF (l:=pre++((y::r).reverse++x::(M++tl))++post) (A:=pre++r.reverse) (x:=y) (B:=x::(M++tl++post)) Ae Ai ?_|refine zc (hc x y hx0 (hp2 y Ae)) ?_|refine dB8 rfl rfl ?_|refine zS ?_|refine zl (fun hlt=>?_) (fun hlt=>?_))
     ·refine⟨(r,y::M),?_,?_,?_⟩
      ·refine dV ?_ ?_ ?_ ?_
       all_goals repeat' (first|exact trivial|refine And.intro ?_ ?_|with_reducible rfl|exact(fun h=>Ad)|exact Nat.le_refl _|omega|exact rfl)
       ·show List.set (List.set (List.map rgV (pre++((y::r).reverse++x::(M++tl))++post)) _ (rgV y)) _ (rgV x)=List.map rgV (pre++(r.reverse++x::(y::M++tl))++post)
        rw[show pre++((y::r).reverse++x::(M++tl))++post=(pre++(y::r).reverse)++x::(M++tl++post) from Ae,List.map_append,List.map_cons,set_mid Ai];rw[show(pre++(y::r).reverse:List Rg)=(pre++r.reverse)++[y] from Ae,List.map_append,List.map_cons,List.append_assoc,List.map_nil,List.cons_append,List.nil_append,set_mid Ai];simp
       ·show(pre.length:Int)+(y::r).length-1=pre.length+r.length
        omega
      ·exact JE
      ·show r.length< (y::r).length
       simp
     ·refine⟨k+1,?_,⟨Aa, .inl Aa⟩,Aa⟩
      rw[hnew];refine dV ?_ ?_ ?_ ?_;all_goals repeat' (first|exact trivial|refine And.intro ?_ ?_|with_reducible rfl|exact(fun h=>Ad)|exact Nat.le_refl _|omega|exact rfl)
      ·show List.map rgV (pre++((y::r).reverse++x::(M++tl))++post)=List.map rgV (pre++(insR c x R0).reverse++List.drop (k+1) xs++post)
       rw[hp3,hd'];simp[insR,show¬c x y<0 from Aa]
  ·rw[List.take_of_length_le hkl,List.drop_eq_nil_of_le hkl]
   repeat' ((conv=>whnf);first|(exfalso;omega)|refine zS ?_|refine zl (fun hlt=>?_) (fun hlt=>?_))
   refine cA7 ?_
   conv=>whnf
   refine⟨[],rfl,⟨⟨rfl,rfl,rfl,?_⟩,trivial⟩,rfl⟩;show List.map rgV (pre++(isR c xs).reverse++[] ++post)=List.map rgV (pre++qA c xs++post);simp[qA]
theorem eI2(hc:cF2 g c Q)(xs:List Rg)(hq:∀x∈xs,Q x)(hl:xs.length<=100000):
 SpIO 256 [.own 56 (xs.map rgV),I 0,I xs.length, .fn g []] (.tup []) 56 ((qA c xs).map rgV):=by
 have:=eH7 rfl Tryz.func256 Ac Ac (fC7 hc [] xs [] hq Ai);simp only[List.nil_append,List.append_nil,List.length_nil]at this;rw[show((0:Nat):Int)+(xs.length:Int)=xs.length from Aa]at this;exact this
def Qr(r:Rg):Prop:=r≠ []/\r.length<=1000000
def cR(a b:Rg):Int:=vcmp (a.getD 0 z0) (b.getD 0 z0)
theorem eR1(a b:Rg)(ha:Qr a)(hb:Qr b):Sp 188 [rgV a,rgV b] (I (cR a b)):=by
 refine zsp Tryz.func188 ?_;have hpa:0<a.length:=List.length_pos_iff.2 ha.1;have hpb:0<b.length:=List.length_pos_iff.2 hb.1
 repeat' ((conv=>whnf);first|refine aU3 (r:=a) (k:=0) rfl hpa ?_|refine aU3 (r:=b) (k:=0) rfl hpb ?_|refine zc (qI (a.getD 0 z0) (b.getD 0 z0)) ?_|refine zS ?_|fail)
 all_goals exact zE
theorem cR_ok:cF2 188 cR Qr:=fun i j hi hj=>eR1 i j hi hj
def U64(n:Int):V:= .lit (.int .u64 n)
def lenT(n:Nat):Int:=match n with
 |0=>0
 |1=>1
 |2=>2
 |3=>2
 |_=>3
theorem eP4:Sp 100 [U64 0] (I 0):=by
 refine zsp Tryz.func100 ?_
 repeat' ((conv=>whnf);first|(exfalso;omega)|refine fK (k:= .u8) (n:=0) (m:=0) Ak ?_|refine fU (of_decide_eq_true Ac) ?_|refine fK (k:= .i64) (m:=0) Ac ?_|refine zS ?_|refine zT ?_ ?_<;>intro _|fail)
 all_goals conv=>whnf
 all_goals exact aG Ac
theorem eU1:Sp 58 [U64 0] (I 0):=by
 refine zsp Tryz.func58 ?_
 repeat' ((conv=>whnf);first|refine zc eP4 ?_|refine zS ?_|fail)
 all_goals conv=>whnf
 all_goals exact aG rfl
theorem eM6:Sp 100 [U64 1] (I 1):=by
 refine zsp Tryz.func100 ?_
 repeat' ((conv=>whnf);first|(exfalso;omega)|refine fK (k:= .u8) (n:=1) (m:=1) Ak ?_|refine fU (of_decide_eq_true Ac) ?_|refine fK (k:= .i64) (m:=1) Ac ?_|refine zS ?_|refine zT ?_ ?_<;>intro _|fail)
 all_goals conv=>whnf
 all_goals exact aG Ac
theorem len_1:Sp 58 [U64 1] (I 1):=by
 refine zsp Tryz.func58 ?_
 repeat' ((conv=>whnf);first|refine zc eM6 ?_|refine zS ?_|fail)
 all_goals conv=>whnf
 all_goals exact aG rfl
theorem eR3:Sp 100 [U64 2] (I 2):=by
 refine zsp Tryz.func100 ?_
 repeat' ((conv=>whnf);first|(exfalso;omega)|refine fK (k:= .u8) (n:=2) (m:=2) Ak ?_|refine fU (of_decide_eq_true Ac) ?_|refine fK (k:= .i64) (m:=2) Ac ?_|refine zS ?_|refine zT ?_ ?_<;>intro _|fail)
 all_goals conv=>whnf
 all_goals exact aG Ac
theorem len_2:Sp 58 [U64 2] (I 2):=by
 refine zsp Tryz.func58 ?_
 repeat' ((conv=>whnf);first|refine zc eR3 ?_|refine zS ?_|fail)
 all_goals conv=>whnf
 all_goals exact aG rfl
theorem eT4:Sp 100 [U64 3] (I 2):=by
 refine zsp Tryz.func100 ?_
 repeat' ((conv=>whnf);first|(exfalso;omega)|refine fK (k:= .u8) (n:=3) (m:=3) Ak ?_|refine fU (of_decide_eq_true Ac) ?_|refine fK (k:= .i64) (m:=2) Ac ?_|refine zS ?_|refine zT ?_ ?_<;>intro _|fail)
 all_goals conv=>whnf
 all_goals exact aG Ac
theorem len_3:Sp 58 [U64 3] (I 2):=by
 refine zsp Tryz.func58 ?_
 repeat' ((conv=>whnf);first|refine zc eT4 ?_|refine zS ?_|fail)
 all_goals conv=>whnf
 all_goals exact aG rfl
theorem eN1:Sp 100 [U64 4] (I 3):=by
 refine zsp Tryz.func100 ?_
 repeat' ((conv=>whnf);first|(exfalso;omega)|refine fK (k:= .u8) (n:=4) (m:=4) Ak ?_|refine fU (of_decide_eq_true Ac) ?_|refine fK (k:= .i64) (m:=3) Ac ?_|refine zS ?_|refine zT ?_ ?_<;>intro _|fail)
 all_goals conv=>whnf
 all_goals exact aG Ac
theorem len_4:Sp 58 [U64 4] (I 3):=by
 refine zsp Tryz.func58 ?_
 repeat' ((conv=>whnf);first|refine zc eN1 ?_|refine zS ?_|fail)
 all_goals conv=>whnf
 all_goals exact aG rfl
theorem eM8:Sp 100 [U64 5] (I 3):=by
 refine zsp Tryz.func100 ?_
 repeat' ((conv=>whnf);first|(exfalso;omega)|refine fK (k:= .u8) (n:=5) (m:=5) Ak ?_|refine fU (of_decide_eq_true Ac) ?_|refine fK (k:= .i64) (m:=3) Ac ?_|refine zS ?_|refine zT ?_ ?_<;>intro _|fail)
 all_goals conv=>whnf
 all_goals exact aG Ac
theorem len_5:Sp 58 [U64 5] (I 3):=by
 refine zsp Tryz.func58 ?_
 repeat' ((conv=>whnf);first|refine zc eM8 ?_|refine zS ?_|fail)
 all_goals conv=>whnf
 all_goals exact aG rfl
theorem eP5:Sp 100 [U64 6] (I 3):=by
 refine zsp Tryz.func100 ?_
 repeat' ((conv=>whnf);first|(exfalso;omega)|refine fK (k:= .u8) (n:=6) (m:=6) Ak ?_|refine fU (of_decide_eq_true Ac) ?_|refine fK (k:= .i64) (m:=3) Ac ?_|refine zS ?_|refine zT ?_ ?_<;>intro _|fail)
 all_goals conv=>whnf
 all_goals exact aG Ac
theorem len_6:Sp 58 [U64 6] (I 3):=by
 refine zsp Tryz.func58 ?_
 repeat' ((conv=>whnf);first|refine zc eP5 ?_|refine zS ?_|fail)
 all_goals conv=>whnf
 all_goals exact aG rfl
theorem len_any(n:Nat)(h:n<=6):∃b,Sp 58 [U64 (n:Int)] (I b):=by
 match n,h with
 |0,_=>exact⟨_,eU1⟩
 |1,_=>exact⟨_,len_1⟩
 |2,_=>exact⟨_,len_2⟩
 |3,_=>exact⟨_,len_3⟩
 |4,_=>exact⟨_,len_4⟩
 |5,_=>exact⟨_,len_5⟩
 |6,_=>exact⟨_,len_6⟩
theorem dY6{g:FuncId}{c:Rg->Rg->Int}{Q:Rg->Prop}(hc:cF2 g c Q)(xs:List Rg)(hq:∀x∈xs,Q x)(hl:xs.length<=12)(lim:Int):
 SpIO 227 [.own 56 (xs.map rgV),I 0,I xs.length,I lim, .fn g []] (.tup []) 56 ((qA c xs).map rgV):=by
 refine eH7 rfl Tryz.func227 Ac Ac ?_;have hi:=eI2 hc xs hq Aa
 repeat' ((conv=>whnf);first|refine zS ?_|fail)
 refine lD (A:=Unit) (fun _=>mkSt [(0, .arr 0 0),(1,I 0),(2,I xs.length),(3,I lim),(4, .fn g []),(10, .lit (.bool true)),(11, .lit (.bool true))] [] [(0,⟨0, .own,56,xs.map rgV⟩)]) (fun _=>True) (fun _=>0) () ?_ trivial (fun _ _=>?_)
 ·exact zj
 repeat' ((conv=>whnf);first|(exfalso;omega)|(refine aQ2 (hi) rfl rfl ?_ rfl rfl ?_;focus ((repeat' (first|exact trivial|refine And.intro ?_ ?_|with_reducible rfl|exact(fun h=>Ad)|exact rfl));done))|refine zS ?_|refine zT ?_ ?_<;>intro _|fail)
 all_goals conv=>whnf
 refine cA7 ?_;exact NG
theorem u64_in{n:Int}(h:0<=n/\n<=1000000):IntKind.u64.wrap n=n:=by
 exact PI
theorem cR4{g:FuncId}{c:Rg->Rg->Int}{Q:Rg->Prop}(hc:cF2 g c Q)(xs:List Rg)(hq:∀x∈xs,Q x)(hl:xs.length<=6):
 SpIO 187 [.own 56 (xs.map rgV), .fn g []] (.tup []) 56 ((qA c xs).map rgV):=by
 refine eH7 rfl Tryz.func187 Ac Ac ?_;have hmm:(xs.map rgV).length=xs.length:=Ae;obtain⟨b,hb⟩:=len_any xs.length hl;have hp:=dY6 hc xs hq Aa b
 rw[<-hmm]at hb hp
 repeat' ((conv=>whnf);first|refine fK (k:= .u64) (n:=((xs.map rgV).length:Int)) (m:=((xs.map rgV).length:Int)) (u64_in Aa) ?_|refine zc hb ?_|(refine aQ2 (hp) rfl rfl ?_ rfl rfl ?_;focus ((repeat' (first|exact trivial|refine And.intro ?_ ?_|with_reducible rfl|exact(fun h=>Ad)|exact rfl));done))|refine zS ?_|fail)
 all_goals conv=>whnf
 refine cA7 ?_;exact NG
theorem dT5(g:FuncId):Sp 256 [nilV,I 0,I 0, .fn g []] (.tup []):=by
 refine zsp Tryz.func256 ?_
 repeat' ((conv=>whnf);first|refine zS ?_|fail)
 refine lD (A:=Unit) (fun _=>mkSt [(1,I 0),(2,I 0),(8,I 1)] [] []) (fun _=>True) (fun _=>0) () ?_ trivial (fun _ _=>?_)
 ·exact zj
 repeat' ((conv=>whnf);first|(exfalso;omega)|refine zS ?_|refine zT ?_ ?_<;>intro _|fail)
 all_goals conv=>whnf
 all_goals exact⟨[],rfl,trivial,rfl⟩
theorem dK0(g:FuncId)(lim:Int):Sp 227 [nilV,I 0,I 0,I lim, .fn g []] (.tup []):=by
 refine zsp Tryz.func227 ?_
 repeat' ((conv=>whnf);first|refine zS ?_|fail)
 refine lD (A:=Unit) (fun _=>mkSt [(0,nilV),(1,I 0),(2,I 0),(3,I lim),(4, .fn g [])] [] []) (fun _=>True) (fun _=>0) () ?_ trivial (fun _ _=>?_)
 ·exact zj
 repeat' ((conv=>whnf);first|(exfalso;omega)|refine zc (dT5 g) ?_|refine zS ?_|refine zT ?_ ?_<;>intro _|fail)
 all_goals conv=>whnf
 all_goals exact⟨[],rfl,trivial,rfl⟩
theorem cZ9(g:FuncId):Sp 187 [nilV, .fn g []] (.tup []):=by
 refine zsp Tryz.func187 ?_
 repeat' ((conv=>whnf);first|refine fK (k:= .u64) (n:=0) (m:=0) Ak ?_|refine zc eU1 ?_|refine zc (dK0 g 0) ?_|refine zS ?_|fail)
 all_goals conv=>whnf
 all_goals exact⟨[],rfl,trivial,rfl⟩
theorem dW3{r:Rg}(h:dM r)(hl:r.length<=1000000):Qr (gQ r):=by
 rw[bJ7 h];have h3:=h.1;have e:(wL r).length=r.length:=by unfold wL;rw[List.length_append,List.length_drop,List.length_take];omega
 refine⟨fun q=>?_,Aa⟩;rw[q]at e;simp at e;omega
def wW(s:Sh):List Rg:=qA cR (s.holes.map gQ)
def qO(s:Sh):Sh:=open Classical in if bG s then⟨gQ s.outer,wW s⟩else sh0
theorem aN9{s:Sh}(h:bG s):qO s=⟨gQ s.outer,wW s⟩:=if_pos h
theorem bH5{s:Sh}(h:¬bG s):qO s=sh0:=if_neg h
def canSt(s:Sh)(D:List Rg):St:=match D with
 | [] =>mkSt [(1, .box 1 0),(2, .box 2 0),(3, .box 3 0),(15, .sl (s.holes.map rgV)),(16,I s.holes.length),(17,I 0)] [(1,(shV s).cells),(2,(shV sh0).cells),(3,[rgV (gQ s.outer),nilV])] []
 |d::D=>mkSt [(1, .box 1 0),(2, .box 2 0),(3, .box 3 0),(15, .sl (s.holes.map rgV)),(16,I s.holes.length),(17,I ((D.length:Int)+1))] [(1,(shV s).cells),(2,(shV sh0).cells),(3,[rgV (gQ s.outer), .arr 26 D.length])] [(26,⟨D.length, .own,56,((d::D).map gQ).map rgV⟩)]
theorem aU9(s:Sh)(hs:gV s):Sp 149 [shV s] (shV (qO s)):=by
 refine zsp Tryz.func149 ?_;have h1:=aN9 (s:=s);have h2:=bH5 (s:=s)
 generalize qO s=A at*;have hmm:(s.holes.map rgV).length=s.holes.length:=Ae
 repeat' ((conv=>whnf);first|refine zc (kK s hs) ?_|refine zc (aU6 s.outer hs.1) ?_|refine zS ?_|refine zd (fun hd=>?_) (fun hd=>?_))
 all_goals conv=>whnf
 ·rw[h1 hd]
  have hok:=hd;unfold bG at hok;obtain⟨h6,hro,_,_⟩:=hok
  have hQ:∀x∈s.holes.map gQ,Qr x:=fun x hx=>by
   obtain⟨r,hr,rfl⟩:=List.mem_map.1 hx;exact dW3 (hro r (List.mem_cons_of_mem _ hr)) (hs.2.2 r hr)
  have hcl:(s.holes.map gQ).length=s.holes.length:=Ae;refine aU (A:=List Rg) (B:=List Rg) (fun D R=>canSt s D) (fun D R=>s.holes=D++R) (fun D R=>R.length) [] s.holes ?_ rfl (fun D R hp=>?_)
  ·exact Ip
  cases R with
  |nil=>
   have e:D=s.holes:=Af;subst e;clear hp
   cases hh:s.holes with
   |nil=>
    have hcn:wW s=[] :=by unfold wW;rw[hh];rfl
    rw[hcn];have hz:s.holes.length=0:=by rw[hh];rfl
    repeat' ((conv=>whnf);first|(exfalso;omega)|refine zc (cZ9 188) ?_|refine zS ?_|refine zl (fun hlt=>?_) (fun hlt=>?_))
    all_goals conv=>whnf
    exact MZ
   |cons d D=>
    have hcl2:(d::D).length=D.length+1:=rfl;have hso:=cR4 cR_ok ((d::D).map gQ) (by rw[<-hh];exact hQ) (by rw[<-hh];omega)
    have hcn:wW s=qA cR ((d::D).map gQ):=by unfold wW;rw[hh]
    rw[hcn];generalize qA cR ((d::D).map gQ)=Z at hso;have hhl:s.holes.length=D.length+1:=by rw[hh];rfl
    repeat' ((conv=>whnf);first|(exfalso;omega)|(refine aQ2 (hso) rfl rfl ?_ rfl rfl ?_;focus ((repeat' (first|exact trivial|refine And.intro ?_ ?_|with_reducible rfl|exact(fun h=>Ad)|exact rfl));done))|refine zS ?_|refine zl (fun hlt=>?_) (fun hlt=>?_))
    all_goals conv=>whnf
    exact MZ
  |cons h R=>
   have hlen:=aO hp;have hl:h.length<=1000000:=hs.2.2 h Af
   have hcs:=aU6 h hl
   cases D with
   |nil=>
    have h0:([] :List Rg).length=0:=rfl
    repeat' ((conv=>whnf);first|(exfalso;omega)|refine aF (l:=s.holes) (A:=[]) (x:=h) (B:=R) hp Aa ?_|refine zc hcs ?_|refine gX (of_decide_eq_true rfl) (dA rfl) (of_decide_eq_true rfl) ?_|refine zS ?_|refine zl (fun hlt=>?_) (fun hlt=>?_))
    all_goals conv=>whnf
    refine⟨([h],R),?_,hp,Ae⟩;show Le T _ (mkSt [(1, .box 1 0),(2, .box 2 0),(3, .box 3 0),(15, .sl (s.holes.map rgV)),(16,I s.holes.length),(17,I (0+1))] [(1,(shV s).cells),(2,(shV sh0).cells),(3,[rgV (gQ s.outer), .arr 26 0])] [(26,⟨0, .own,56,[rgV (gQ h)]⟩)]);exact zj
   |cons d D=>
    have h0:(d::D).length=D.length+1:=rfl;have hfl:(((d::D).map gQ).map rgV).length=D.length+1:=Ae
    repeat' ((conv=>whnf);first|(exfalso;omega)|refine aF (l:=s.holes) (A:=d::D) (x:=h) (B:=R) hp Aa ?_|refine zc hcs ?_|refine iH rfl (.inl rfl) rfl (of_decide_eq_true rfl) (dA rfl) (show(((d::D).map gQ).map rgV).length+1<=1000000000 from Aa) ?_|refine zS ?_|refine zl (fun hlt=>?_) (fun hlt=>?_))
    all_goals conv=>whnf
    refine⟨(d::D++[h],R),?_,Af,Ae⟩;show Le T _ (mkSt [(1, .box 1 0),(2, .box 2 0),(3, .box 3 0),(15, .sl (s.holes.map rgV)),(16,I s.holes.length),(17,I (((D++[h]).length:Int)+1))] [(1,(shV s).cells),(2,(shV sh0).cells),(3,[rgV (gQ s.outer), .arr 26 (D++[h]).length])] [(26,⟨(D++[h]).length, .own,56,(((d::D)++[h]).map gQ).map rgV⟩)]);rw[show(((d::D)++[h]).map gQ).map rgV=((d::D).map gQ).map rgV++[rgV (gQ h)] from Ae,List.length_append,List.length_singleton];exact zj
 ·rw[h2 hd]
  exact MZ
theorem fst_eq{n:Int}{D R:List Int}(h:∀y∈D,¬n=y):fst (fun y=>n=y) (D++n::R)=D.length:=wH (fun y hy=>by rw[dW.2 (h y hy)];rfl) (by rw[dH.2 rfl];rfl)
theorem bM4(l:List Int)(n:Int)(hl:l.length<=1000000):Sp 264 [.sl (l.map I),I n] (I (fstI (fun y=>n=y) l)):=by
 refine zsp Tryz.func264 ?_;have hll:(l.map I).length=l.length:=Ae
 repeat' ((conv=>whnf);first|refine zS ?_|fail)
 refine aU (A:=List Int) (B:=List Int) (fun D R=>mkSt [(0, .sl (l.map I)),(1,I n),(6, .sl (l.map I)),(7,I l.length),(8,I D.length)] [] []) (fun D R=>l=D++R/\∀y∈D,¬n=y) (fun D R=>R.length) [] l ?_ ⟨rfl,Ae⟩ (fun D R hp=>?_)
 ·exact zj
 obtain⟨hp,hD⟩:=hp
 cases R with
 |nil=>
  have hlen:l.length=D.length:=Af
  repeat' ((conv=>whnf);first|(exfalso;omega)|refine zS ?_|refine zl (fun hlt=>?_) (fun hlt=>?_))
  all_goals conv=>whnf
  refine aG ?_;unfold fstI;rw[if_neg (iO.2 (by rw[hp,List.append_nil];exact hD))]
 |cons y R=>
  have hlen:=aO hp
  repeat' ((conv=>whnf);first|(exfalso;omega)|refine zS ?_|refine zl (fun hlt=>?_) (fun hlt=>?_)|refine ze (fun heq=>?_) (fun heq=>?_))
  all_goals conv=>whnf
  ·subst heq
   refine aG ?_;unfold fstI;rw[hp,fst_eq hD,if_pos Ae]
  ·refine⟨(D++[y],R),?_,⟨Af,fun z hz=>?_⟩,Ae⟩
   ·exact IA
   ·rcases List.mem_append.1 hz with hz|hz
    ·exact hD z hz
    ·rw[List.mem_singleton.1 hz];assumption
theorem dK5(l:List Int)(n:Int)(hl:l.length<=1000000):Sp 230 [.sl (l.map I),I n] (DB (n∈l)):=by
 refine zsp Tryz.func230 ?_
 repeat' ((conv=>whnf);first|refine zc (bM4 l n hl) ?_|refine zS ?_|fail)
 all_goals conv=>whnf
 all_goals refine aA (le_dec ?_)
 have h:=iO (Q:=fun y=>n=y) (l:=l);unfold fstI;constructor
 ·intro h0
  split at h0
  ·rename_i hlt
   exact Classical.byContradiction fun hn=>(h.2 (fun m hm hq=>hn (by rw[hq];exact hm))) hlt
  ·omega
 ·intro hm
  split
  ·omega
  ·rename_i hlt
   exact(h.1 hlt n hm rfl).elim
theorem bV2{s:Sh}(hs:gV s)(h7:s.holes.length<=6):(aC0 s).length<=7000000:=bC1 hs h7 (D:=rings s) (R:=[]) Ae
def rJ(a b:Sh)(ways:List Int):Prop:=∃x∈aC0 a,∃y∈aC0 b,dG x y∈ways
theorem bX6(a b:Sh)(ways:List Int)(ha:gV a)(ha7:a.holes.length<=6)(hb:gV b)(hb7:b.holes.length<=6)(hw:ways.length<=1000000):Sp 191 [shV a,shV b, .sl (ways.map I)] (DB (rJ a b ways)):=by
 refine zsp Tryz.func191 ?_;have hea:=aV8 a ha ha7;have heb:=aV8 b hb hb7
 have hla:=bV2 ha ha7;have hlb:=bV2 hb hb7
 generalize hP:rJ a b ways=P;have hr:P↔rJ a b ways:=Ik;clear hP;unfold rJ at hr;generalize aC0 a=A at*;generalize aC0 b=B at*
 repeat' ((conv=>whnf);first|refine zc heb ?_|refine zc hea ?_|refine zS ?_|fail)
 conv=>whnf
 refine aU (A:=List Sg) (B:=List Sg) (fun D R=>mkSt [(2, .sl (ways.map I)),(7, .lit (.bool false)),(8, .arr 14 0),(16, .arr 16 0),(17,I A.length),(18,I D.length)] [] [(14,⟨0, .own,238,B.map sgV⟩),(16,⟨0, .own,238,A.map sgV⟩)]) (fun D R=>A=D++R/\∀x∈D,∀y∈B,¬dG x y∈ways) (fun D R=>R.length) [] A ?_ ⟨rfl,Ae⟩ (fun D R hp=>?_)
 ·exact Iw
 obtain⟨hp,hD⟩:=hp
 cases R with
 |nil=>
  have hlen:A.length=D.length:=Af
  repeat' ((conv=>whnf);first|(exfalso;omega)|refine zS ?_|refine zT ?_ ?_<;>intro _|fail)
  all_goals conv=>whnf
  refine aA (aC ?_);rw[hr,hp,List.append_nil];rintro⟨x,hx,y,hy,hm⟩;exact hD x hx y hy hm
 |cons x R=>
  have hlen:=aO hp
  repeat' ((conv=>whnf);first|(exfalso;omega)|refine dS rfl rfl CU ?_|refine aF (l:=A) (A:=D) (x:=x) (B:=R) hp Aa ?_|refine zS ?_|refine zT ?_ ?_<;>intro _|fail)
  refine aU (A:=List Sg) (B:=List Sg) (fun E S=>mkSt [(2, .sl (ways.map I)),(7, .lit (.bool false)),(8, .arr 14 0),(10, .box 10 0),(16, .arr 16 0),(17,I A.length),(18,I D.length),(22, .arr 14 0),(23,I B.length),(24,I E.length)] [(10,(sgV x).cells)] [(14,⟨0, .own,238,B.map sgV⟩),(16,⟨0, .own,238,A.map sgV⟩)]) (fun E S=>B=E++S/\∀y∈E,¬dG x y∈ways) (fun E S=>S.length) [] B ?_ ⟨rfl,Ae⟩ (fun E S hq=>?_)
  ·exact Iw
  obtain⟨hq,hE⟩:=hq
  cases S with
  |nil=>exact ML
  |cons y S=>
   have hlen2:=aO hq
   repeat' ((conv=>whnf);first|(exfalso;omega)|refine dS rfl rfl CV ?_|refine aF (l:=B) (A:=E) (x:=y) (B:=S) hq Aa ?_|refine zc (aS9 x y) ?_|refine zc (dK5 ways (dG x y) hw) ?_|refine zS ?_|refine zT ?_ ?_<;>intro _|fail)
   all_goals conv=>whnf
   all_goals first
    |exact aA (fE (hr.2 ⟨x,Af,y,AL,Ag⟩))
    |skip
   exact OL
def arN(i:Nat)(r:Rg)(k:Nat):Vc:=if 0<i then mY r k else iU r k
def arL(i:Nat)(r:Rg)(k:Nat):Vc:=if 0<i then iU r k else mY r k
def dJ(i:Nat)(r:Rg)(p:Vc)(k:Nat):Option Sg:=
 open Classical in if r.getD k z0=p then some (vsub (arN i r k) p,vsub (arL i r k) p)
 else if arN i r k≠p/\eX (r.getD k z0,arN i r k) p then some (vsub (arN i r k) p,vsub (r.getD k z0) p)else none
def qY(i:Nat)(r:Rg)(p:Vc):Option Sg:=(List.range r.length).findSome? (dJ i r p)
def nR(p:Vc):Nat->List Rg->Option Sg
 |_,[] =>none
 |i,r::R=>(qY i r p).or (nR p (i+1) R)
def jE(s:Sh)(p:Vc):Sg:=(nR p 0 (rings s)).getD ((0,0),(0,0))
theorem bZ2{i:Nat}{r:Rg}{p:Vc}(h:∀k,k<r.length->dJ i r p k=none):qY i r p=none:=by
 unfold qY;rw[List.findSome?_eq_none_iff];intro k hk;exact h k (List.mem_range.1 hk)
theorem range_split{n k:Nat}(h:k<n):List.range n=List.range k++k::(List.range n).drop (k+1):=by
 apply List.ext_getElem?;intro j;by_cases h1:j<k
 ·rw[List.getElem?_append_left (by simpa using h1),List.getElem?_range Aa,List.getElem?_range h1]
 ·rw[List.getElem?_append_right Ai,List.length_range]
  by_cases h2:j=k
  ·subst h2;simp[h]
  ·obtain⟨t,ht⟩:∃t,j-k=t+1:=⟨j-k-1,Aa⟩
   rw[ht,List.getElem?_cons_succ,List.getElem?_drop];congr 1;omega
theorem bZ8{i:Nat}{r:Rg}{p:Vc}{k:Nat}{x:Sg}(hk:k<r.length)(h:∀j,j<k->dJ i r p j=none)(hx:dJ i r p k=some x):qY i r p=some x:=by
 unfold qY;rw[range_split hk,List.findSome?_append,List.findSome?_eq_none_iff.2 (fun j hj=>h j (List.mem_range.1 hj)),List.findSome?_cons,hx];rfl
theorem cU6{p:Vc}{i:Nat}{r:Rg}{R:List Rg}{x:Sg}(h:qY i r p=some x):nR p i (r::R)=some x:=by
 rw[nR,h];rfl
theorem cR6{p:Vc}{i:Nat}{r:Rg}{R:List Rg}(h:qY i r p=none):nR p i (r::R)=nR p (i+1) R:=by
 rw[nR,h];rfl
theorem aW8(s:Sh)(p:Vc)(hs:gV s)(h7:s.holes.length<=6):Sp 234 [shV s,vcV p] (sgV (jE s p)):=by
 refine zsp Tryz.func234 ?_;have hrs:=aW6 s hs;have hmem:∀r∈rings s,r.length<=1000000:=fun r hr=>hs.mem hr
 have hlr:(rings s).length<=7:=by unfold rings;simp;omega
 have hX:∀x:Sg,nR p 0 (rings s)=some x->sgV (jE s p)=sgV x:=fun x h=>by unfold jE;rw[h];rfl
 have hX0:nR p 0 (rings s)=none->sgV (jE s p)=sgV ((0,0),(0,0)):=fun h=>by unfold jE;rw[h];rfl
 generalize sgV (jE s p)=X at*;generalize rings s=rs at*;have hmm:(rs.map rgV).length=rs.length:=Ae
 repeat' ((conv=>whnf);first|refine zS ?_|fail)
 refine aU (A:=List Rg) (B:=List Rg) (fun D R=>mkSt [(2, .box 2 0),(3, .box 3 0),(4, .box 4 0),(13, .arr 13 0),(14,I rs.length),(15,I D.length)] [(2,(shV s).cells),(3,(vcV p).cells),(4,[I 0,I 0,I 0,I 0])] [(13,⟨0, .own,56,rs.map rgV⟩)]) (fun D R=>rs=D++R/\nR p 0 rs=nR p D.length R) (fun D R=>R.length) [] rs ?_ ⟨rfl,rfl⟩ (fun D R hp=>?_)
 ·exact Ip
 obtain⟨hp,hL⟩:=hp
 cases R with
 |nil=>
  have hlen:rs.length=D.length:=Af;have hx:=hX0 (by rw[hL];rfl)
  subst hx
  repeat' ((conv=>whnf);first|(exfalso;omega)|refine zS ?_|refine zT ?_ ?_<;>intro _|fail)
  all_goals conv=>whnf
  all_goals exact zE
 |cons r R=>
  have hlen:=aO hp;have hrl:=hmem r Af
  have hrm:(r.map vcV).length=r.length:=Ae
  repeat' ((conv=>whnf);first|(exfalso;omega)|refine dS rfl rfl Cj ?_|refine zS ?_|refine zT ?_ ?_<;>intro _|fail)
  refine lD (A:=Nat) (fun k=>mkSt [(2, .box 2 0),(3, .box 3 0),(4, .box 4 0),(5,I D.length),(6,rgV r),(13, .arr 13 0),(14,I rs.length),(15,I D.length),(20,rgV r),(21,I r.length),(22,I k)] [(2,(shV s).cells),(3,(vcV p).cells),(4,[I 0,I 0,I 0,I 0])] [(13,⟨0, .own,56,rs.map rgV⟩)]) (fun k=>k<=r.length/\∀j,j<k->dJ D.length r p j=none) (fun k=>r.length-k) 0 ?_ ⟨Aa,fun j hj=>absurd hj Aa⟩ (fun k hk=>?_)
  ·exact zj
  obtain⟨hk,hN⟩:=hk;by_cases hkr:k<r.length
  ·have hm1:(k+1)% r.length<r.length:=Nat.mod_lt _ Aa
   have hm2:(k+r.length-1)% r.length<r.length:=Nat.mod_lt _ Aa;have hF:∀x,dJ D.length r p k=some x->nR p 0 rs=some x:=fun x hx=>by rw[hL];exact cU6 (bZ8 hkr hN hx)
   by_cases h0:0<D.length
   ·have eN:arN D.length r k=mY r k:=if_pos h0
    have eL:arL D.length r k=iU r k:=if_pos h0
    repeat' ((conv=>whnf);first|(exfalso;omega)|refine cC0 [(6,999),(27,999),(30,999),(32,999),(33,999),(35,999),(37,999),(41,999),(43,999),(44,999),(9,9),(10,10)] AX Ac ?_|refine uM Aa ?_|refine aB (l:=r) (by rw[kS (a:=k+1) (by omega)];omega) ?_|refine aB (l:=r) Ff ?_|refine sW (k:=(k+1)% r.length) (kS Aa) hm1 ?_|refine sW (k:=(k+r.length-1)% r.length) (kS Aa) hm2 ?_|refine sW (k:=k) Aa hkr ?_|refine aT1 ?_|refine aB4 (fun hv=>?_) (fun hv=>?_)|refine zc (fF (mY r k) p) ?_|refine zc (fF (iU r k) p) ?_|refine zc (fF (r.getD k z0) p) ?_|refine zc (yS (r.getD k z0,mY r k) p) ?_|refine zS ?_|refine zT ?_ ?_<;>intro _|fail)
    all_goals conv=>whnf
    ·have hx:=hX (vsub (mY r k) p,vsub (iU r k) p) (hF _ EZ)
     subst hx;all_goals exact zE
    ·exact Jv
    ·have hx:=hX (vsub (mY r k) p,vsub (r.getD k z0) p) (hF _ BN)
     subst hx;all_goals exact zE
    ·exact Jr
   ·have eN:arN D.length r k=iU r k:=if_neg h0
    have eL:arL D.length r k=mY r k:=if_neg h0
    repeat' ((conv=>whnf);first|(exfalso;omega)|refine cC0 [(6,999),(27,999),(30,999),(32,999),(33,999),(35,999),(37,999),(41,999),(43,999),(44,999),(9,9),(10,10)] AX Ac ?_|refine uM Aa ?_|refine aB (l:=r) (by rw[kS (a:=k+1) (by omega)];omega) ?_|refine aB (l:=r) Ff ?_|refine sW (k:=(k+1)% r.length) (kS Aa) hm1 ?_|refine sW (k:=(k+r.length-1)% r.length) (kS Aa) hm2 ?_|refine sW (k:=k) Aa hkr ?_|refine aT1 ?_|refine aB4 (fun hv=>?_) (fun hv=>?_)|refine zc (fF (iU r k) p) ?_|refine zc (fF (mY r k) p) ?_|refine zc (fF (r.getD k z0) p) ?_|refine zc (yS (r.getD k z0,iU r k) p) ?_|refine zS ?_|refine zT ?_ ?_<;>intro _|fail)
    all_goals conv=>whnf
    ·have hx:=hX (vsub (iU r k) p,vsub (mY r k) p) (hF _ EZ)
     subst hx;all_goals exact zE
    ·exact Jv
    ·have hx:=hX (vsub (iU r k) p,vsub (r.getD k z0) p) (hF _ BN)
     subst hx;all_goals exact zE
    ·exact Jr
  ·have e:k=r.length:=by omega
   subst e
   repeat' ((conv=>whnf);first|(exfalso;omega)|refine zS ?_|refine zT ?_ ?_<;>intro _|fail)
   all_goals conv=>whnf
   refine⟨(D++[r],R),?_,⟨Af,by rw[hL,cR6 (bZ2 hN)];simp⟩,Ae⟩
   exact Nh
end Go.Proofs.Led
