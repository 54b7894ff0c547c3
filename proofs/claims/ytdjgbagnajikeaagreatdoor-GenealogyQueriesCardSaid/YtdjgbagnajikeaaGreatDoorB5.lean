/-
  Shapes: copies of their rings, their corners, walked.
-/
import Derived.Test.YtdjgbagnajikeaaGreatDoorB4
set_option linter.unusedVariables false
set_option linter.unusedSimpArgs false
set_option maxRecDepth 100000
set_option maxHeartbeats 4000000
noncomputable section
namespace Go.Proofs.Led
open Go Go.Proofs Go.Ab
def rinSt(s:Sh)(D:List Rg):St:=match D with
 | [] =>mkSt [(1, .box 1 0),(3, .box 3 0),(6, .fn 152 [.fp (shV s).cells])] [(1,(shV s).cells),(3,[nilV])] []
 |d::D=>mkSt [(1, .box 1 0),(3, .box 3 0),(6, .fn 152 [.fp (shV s).cells])] [(1,(shV s).cells),(3,[.arr 12 D.length])] [(12,⟨D.length, .own,75,(d::D).map rgV⟩)]
theorem dV3{s:Sh}(hs:gV s){D R:List Rg}(hp:rings s=D++R):D.length<=1000001:=by
 have h3:(rings s).length=D.length+R.length:=Af;have h4:(rings s).length=s.holes.length+1:=Be
 have:=hs.2.1;omega
theorem aW6(s:Sh)(hs:gV s):Sp 339 [shV s] (.own 75 ((rings s).map rgV)):=by
 refine zsp Tryz.func339 ?_
 repeat' ((conv=>whnf);first|refine zc (rQ s) ?_|refine zS ?_|fail)
 all_goals conv=>whnf
 refine aM3 (iI s) (vJ s hs.2.1) (vC s) (A:=List Rg) (B:=List Rg) (fun D R=>rinSt s D)
  (fun k D R=>rings s=D++R/\D.length=k) [] (rings s) ?_ ⟨rfl,rfl⟩ rfl ?_ ?_
 ·exact zj
 ·rintro k D R it ⟨hp,hk⟩ hit
  subst hk;obtain⟨r,R',rfl,rfl⟩:=aE4 hp hit;have hrl:r.length<=1000000:=hs.mem Af;have hfb:=dV3 hs hp
  cases D with
  |nil=>
   repeat' ((conv=>whnf);first|refine zc (aY2 r hrl) ?_|refine gX (of_decide_eq_true rfl) (dA rfl) (of_decide_eq_true rfl) ?_|refine zS ?_|fail)
   all_goals conv=>whnf
   refine⟨([r],R'),?_,Gw,rfl⟩;show Le T _ (mkSt [(1, .box 1 0),(3, .box 3 0),(6, .fn 152 [.fp (shV s).cells])] [(1,(shV s).cells),(3,[.arr 12 0])] [(12,⟨0, .own,75,[rgV r]⟩)]);exact zj
  |cons d D=>
   have hfl:((d::D).map rgV).length=(d::D).length:=List.length_map ..
   repeat' ((conv=>whnf);first|refine zc (aY2 r hrl) ?_|refine iH rfl (.inl rfl) rfl (of_decide_eq_true rfl) (dA rfl) (show((d::D).map rgV).length+1<=1000000000 from Aa) ?_|refine zS ?_|fail)
   all_goals conv=>whnf
   refine⟨(d::D++[r],R'),?_,Af,Ae⟩;show Le T _ (mkSt [(1, .box 1 0),(3, .box 3 0),(6, .fn 152 [.fp (shV s).cells])] [(1,(shV s).cells),(3,[.arr 12 (D++[r]).length])] [(12,⟨(D++[r]).length, .own,75,((d::D)++[r]).map rgV⟩)]);rw[show((d::D)++[r]).map rgV=(d::D).map rgV++[rgV r] from Ae,List.length_append,List.length_singleton];exact zj
 ·rintro D R ⟨hp,hk⟩
  have hRn:R=[] :=Hu;subst hRn;rw[List.append_nil]at hp;exact O3
def verSt(rs:List Rg)(D:List Rg):St:=match D with
 | [] =>mkSt [(3,nilV),(7, .arr 7 0),(8,I rs.length),(9,I 0)] [] [(7,⟨0, .own,75,rs.map rgV⟩)]
 |d::D=>mkSt [(3, .arr 15 D.length),(7, .arr 7 0),(8,I rs.length),(9,I ((D.length:Int)+1))] [] [(7,⟨0, .own,75,rs.map rgV⟩),(15,⟨D.length, .own,97,(d::D).flatten.map vcV⟩)]
theorem dH9(D:List Rg)(h:∀r∈D,r.length<=1000000):D.flatten.length<=1000000*D.length:=by
 induction D with
 |nil=>simp
 |cons d D ih=>
  have h1:=h d Ae;have h2:=ih (fun r hr=>h r (by simp[hr]))
  rw[List.flatten_cons,List.length_append,List.length_cons];omega
theorem aJ3(s:Sh)(hs:gV s)(h7:s.holes.length<=6):Sp 302 [shV s] (.own 97 ((rings s).flatten.map vcV)):=by
 refine zsp Tryz.func302 ?_;have hrs:=aW6 s hs;have hne:rings s≠ [] :=Be
 have hlr:(rings s).length<=7:=by unfold rings;simp;omega
 have hmem:∀r∈rings s,r.length<=1000000:=fun r hr=>hs.mem hr;generalize rings s=rs at*;have hmm:(rs.map rgV).length=rs.length:=Ae
 repeat' ((conv=>whnf);first|refine zS ?_|fail)
 refine aU (A:=List Rg) (B:=List Rg) (fun D R=>verSt rs D) (fun D R=>rs=D++R) (fun D R=>R.length) [] rs ?_ rfl (fun D R hp=>?_)
 ·exact GV
 have hD:=dH9 D (fun r hr=>hmem r (by rw[hp];simp[hr]))
 cases R with
 |nil=>
  have e:rs=D:=Af;subst e
  cases rs with
  |nil=>exact absurd rfl hne
  |cons d D=>
   have h0:(d::D).length=D.length+1:=rfl;exact MF
 |cons r R=>
  have hlen:=aO hp;have hrl:=hmem r Af
  have hrm:(r.map vcV).length=r.length:=Ae
  cases D with
  |nil=>
   have h0:([] :List Rg).length=0:=rfl
   repeat' ((conv=>whnf);first|(exfalso;omega)|refine dS rfl rfl Cf ?_|refine gX (of_decide_eq_true rfl) (aM5 _) (show(r.map vcV).length<=1000000000 from Aa) ?_|refine zS ?_|refine zT ?_ ?_<;>intro _|fail)
   all_goals conv=>whnf
   refine⟨([r],R),?_,hp,Ae⟩;show Le T _ (mkSt [(3, .arr 15 0),(7, .arr 7 0),(8,I rs.length),(9,I (0+1))] [] [(7,⟨0, .own,75,rs.map rgV⟩),(15,⟨0, .own,97,([r] :List Rg).flatten.map vcV⟩)]);rw[show([r] :List Rg).flatten=r from Ae];exact zj
  |cons d D=>
   have h0:(d::D).length=D.length+1:=rfl;have hfl:((d::D).flatten.map vcV).length=(d::D).flatten.length:=List.length_map ..
   repeat' ((conv=>whnf);first|(exfalso;omega)|refine dS rfl rfl Cf ?_|refine iH rfl (.inl rfl) rfl (of_decide_eq_true rfl) (aM5 _) (show((d::D).flatten.map vcV).length+(r.map vcV).length<=1000000000 from Aa) ?_|refine zS ?_|refine zT ?_ ?_<;>intro _|fail)
   all_goals conv=>whnf
   refine⟨(d::D++[r],R),?_,Af,Ae⟩;show Le T _ (mkSt [(3, .arr 15 (D++[r]).length),(7, .arr 7 0),(8,I rs.length),(9,I (((D++[r]).length:Int)+1))] [] [(7,⟨0, .own,75,rs.map rgV⟩),(15,⟨(D++[r]).length, .own,97,((d::D)++[r]).flatten.map vcV⟩)]);rw[show((d::D)++[r]).flatten.map vcV=(d::D).flatten.map vcV++r.map vcV from Ae,List.length_append,List.length_singleton];exact zj
def jS(a b:Vc):Int:=if 0<bZ a b then 0 else if bZ a b<0 then 2 else if vdot a b<0 then 1 else 3
theorem eW4{a b:Vc}(h:0<bZ a b):jS a b=0:=if_pos h
theorem eZ4{a b:Vc}(h:bZ a b<0):jS a b=2:=by unfold jS;rw[if_neg (by omega),if_pos h]
theorem eW6{a b:Vc}(h0:bZ a b<=0)(h1:0<=bZ a b)(h:vdot a b<0):jS a b=1:=by unfold jS;rw[if_neg (by omega),if_neg (by omega),if_pos h]
theorem fB4{a b:Vc}(h0:bZ a b<=0)(h1:0<=bZ a b)(h:0<=vdot a b):jS a b=3:=by unfold jS;rw[if_neg (by omega),if_neg (by omega),if_neg (by omega)]
theorem aQ6(a b:Vc):Sp 306 [vcV a,vcV b] (I (jS a b)):=by
 refine zsp Tryz.func306 ?_;have h0:=eW4 (a:=a) (b:=b);have h1:=eW6 (a:=a) (b:=b)
 have h2:=eZ4 (a:=a) (b:=b);have h3:=fB4 (a:=a) (b:=b)
 generalize jS a b=A at*;have hc:=kD a b;have hd:=dP6 a b
 generalize bZ a b=c at*;generalize vdot a b=d at*
 repeat' ((conv=>whnf);first|refine zc hc ?_|refine zc hd ?_|refine zS ?_|refine zl (fun hlt=>?_) (fun hlt=>?_))
 all_goals conv=>whnf
 all_goals first
  |exact aG (h0 Aa).symm
  |exact aG (h2 Aa).symm
  |exact aG (h1 Aa Aa Aa).symm
  |exact aG (h3 Aa Aa Aa).symm
theorem bX9(s:Sg):Sp 256 [sgV s] (sgV (s.2,s.1)):=by
 refine zsp Tryz.func256 ?_;exact Nj
def oG(s:Sg)(d:Vc):Prop:=jS s.1 d<jS s.1 s.2\/(jS s.1 d=jS s.1 s.2/\jS s.1 d≠3/\0<bZ d s.2)
theorem bE0(s:Sg)(d:Vc):Sp 307 [sgV s,vcV d] (DB (oG s d)):=by
 refine zsp Tryz.func307 ?_;have hx:=aQ6 s.1 d;have hy:=aQ6 s.1 s.2
 have hc:=kD d s.2;generalize hP:oG s d=P;have hr:P↔oG s d:=G7
 unfold oG at hr;clear hP;generalize jS s.1 d=x at*;generalize jS s.1 s.2=y at*;generalize bZ d s.2=c at*
 repeat' ((conv=>whnf);first|refine zc hx ?_|refine zc hy ?_|refine zc hc ?_|refine zS ?_|refine zT ?_ ?_<;>intro _|fail)
 all_goals conv=>whnf
 all_goals refine aA ?_
 all_goals first
  |exact fE (hr.2 Aa)
  |exact aC (fun h=>by have h:=hr.1 h;omega)
  |(refine aS1 ?_;rw[hr];omega)
def jH(s t:Sg):Prop:=jS s.1 t.1=3\/oG s t.1\/oG t s.1
theorem cT5(s t:Sg):Sp 255 [sgV s,sgV t] (DB (jH s t)):=by
 refine zsp Tryz.func255 ?_;have hx:=aQ6 s.1 t.1;have h1:=bE0 s t.1
 have h2:=bE0 t s.1;generalize hP:jH s t=P;have hr:P↔jH s t:=G7
 unfold jH at hr;clear hP;generalize jS s.1 t.1=x at*;generalize oG s t.1=p at*;generalize oG t s.1=q at*
 repeat' ((conv=>whnf);first|refine zc hx ?_|refine zc h1 ?_|refine zc h2 ?_|refine zS ?_|refine zT ?_ ?_<;>intro _|fail)
 all_goals conv=>whnf
 all_goals refine aA ?_
 all_goals first
  |exact fE (hr.2 (by first|exact .inl ‹_› |exact .inr (.inl ‹_›)))
  |(refine fQ ?_;rw[hr];exact⟨fun h=> .inr (.inr h),fun h=>by rcases h with h|h|h<;>first|contradiction|exact h⟩)
theorem fD3{g:FuncId}{c d:List V}{Q:Vc->Prop}(hg:∀m,Sp g (vcV m:: [.fp c, .fp d]) (DB (Q m)))(l:List Vc)(hl:l.length<=1000000):fnVC T Tryz.prog Tryz.f285 [.sl (l.map vcV), .fn g [.fp c, .fp d]] (I (fstI Q l)):=by
 have hll:(l.map vcV).length=l.length:=Ae
 repeat' ((conv=>whnf);first|refine zS ?_|fail)
 refine aU (A:=List Vc) (B:=List Vc) (fun D R=>mkSt [(0, .sl (l.map vcV)),(1, .fn g [.fp c, .fp d]),(7,I l.length),(8,I D.length)] [] [])
  (fun D R=>l=D++R/\∀m∈D,¬Q m) (fun D R=>R.length) [] l ?_ ⟨rfl,Ae⟩ (fun D R hp=>?_)
 ·exact zj
 ·exact GL
theorem dW6{g:FuncId}{c d:List V}{Q:Vc->Prop}(hg:∀m,Sp g (vcV m:: [.fp c, .fp d]) (DB (Q m)))(l:List Vc)(hl:l.length<=1000000):Sp 285 [.sl (l.map vcV), .fn g [.fp c, .fp d]] (I (fstI Q l)):=zsp Tryz.func285 (fD3 hg l hl)
theorem eY5{g:FuncId}{c d:List V}{Q:Vc->Prop}(hg:∀m,Sp g (vcV m:: [.fp c, .fp d]) (DB (Q m)))(l:List Vc)(hl:l.length<=1000000):fnVC T Tryz.prog Tryz.f236 [.sl (l.map vcV), .fn g [.fp c, .fp d]] (DB (∃m∈l,Q m)):=by
 repeat' ((conv=>whnf);first|refine zc (dW6 hg l hl) ?_|refine zS ?_|fail)
 exact KR
theorem dV5{g:FuncId}{c d:List V}{Q:Vc->Prop}(hg:∀m,Sp g (vcV m:: [.fp c, .fp d]) (DB (Q m)))(l:List Vc)(hl:l.length<=1000000):Sp 236 [.sl (l.map vcV), .fn g [.fp c, .fp d]] (DB (∃m∈l,Q m)):=zsp Tryz.func236 (eY5 hg l hl)
theorem cY2(b:Sh)(n:Int)(hb:gV b)(v:Vc):Sp 303 [vcV v, .fp (shV b).cells, .fp [I n]] (DB (lJ b v=n)):=by
 refine zsp Tryz.func303 ?_
 repeat' ((conv=>whnf);first|refine zc (aD4 b v hb) ?_|refine zS ?_|fail)
 all_goals conv=>whnf
 all_goals exact aA eqB_d
def rV(s:Sh):List Vc:=(rings s).flatten
theorem cH3{s:Sh}(hs:gV s)(h7:s.holes.length<=6):(rV s).length<=7000000:=by
 have h1:=dH9 (rings s) (fun r hr=>hs.mem hr);have h4:(rings s).length=s.holes.length+1:=Be
 unfold rV;omega
def bL9(a b:Sh)(n:Int):Prop:=∃v∈rV a,lJ b v=n
theorem bK5(a b:Sh)(n:Int)(ha:gV a)(h7:a.holes.length<=6)(hb:gV b)(hl:(rV a).length<=1000000):Sp 252 [shV a,shV b,I n] (DB (bL9 a b n)):=by
 refine zsp Tryz.func252 ?_
 repeat' ((conv=>whnf);first|refine zc (aJ3 a ha h7) ?_|refine zc (dV5 (fun v=>cY2 b n hb v) (rV a) hl) ?_|refine zS ?_|fail)
 all_goals conv=>whnf
 all_goals exact aA rfl
end Go.Proofs.Led
namespace Go.Proofs.Led
open Go Go.Proofs Go.Ab Go.RowKit
structure jL where
 id:Int
 grade:ByteArray
 heat:ByteArray
 grain:Int
 shape:Sh
 defects:List Sh
def shC(s:Sh):List V:=[rgV s.outer, .sl (s.holes.map rgV)]
def aA7(s:jL):List V:=[I s.id,S s.grade,S s.heat,I s.grain,rgV s.shape.outer, .sl (s.shape.holes.map rgV), .sl (s.defects.map shV)]
def zJ(s:jL):V:= .agg (aA7 s)
def dN:jL:=⟨0,aI,aI,0,sh0,[]⟩
abbrev Iv:=Int×Int
def ivV(d:Iv):V:= .agg [I d.1,I d.2]
structure Bar where
 id:Int
 grade:ByteArray
 heat:ByteArray
 length:Int
 defects:List Iv
def barC(b:Bar):List V:=[I b.id,S b.grade,S b.heat,I b.length, .sl (b.defects.map ivV)]
def barV(b:Bar):V:= .agg (barC b)
def bar0:Bar:=⟨0,aI,aI,0,[]⟩
structure aN where
 isBar:Bool
 sheet:jL
 bar:Bar
 program:ByteArray
def gB(x:aN):List V:=[B x.isBar,I x.sheet.id,S x.sheet.grade,S x.sheet.heat,I x.sheet.grain,rgV x.sheet.shape.outer, .sl (x.sheet.shape.holes.map rgV), .sl (x.sheet.defects.map shV),
 I x.bar.id,S x.bar.grade,S x.bar.heat,I x.bar.length, .sl (x.bar.defects.map ivV),S x.program]
def aQ(x:aN):V:= .agg (gB x)
def wS:aN:=⟨false,dN,bar0,aI⟩
structure Piece where
 id:Int
 parent:Int
 part:ByteArray
 grade:ByteArray
 heat:ByteArray
 size:Int
 isBar:Bool
 status:Int
 order:ByteArray
def dZ8(x:Piece):List V:=[I x.id,I x.parent,S x.part,S x.grade,S x.heat,I x.size,B x.isBar,I x.status,S x.order]
def aZ(x:Piece):V:= .agg (dZ8 x)
structure aJ where
 stocks:List aN
 pieces:List Piece
 used:List Int
 received:Iv
 scrap:Iv
def invC(s:aJ):List V:=[.sl (s.stocks.map aQ), .sl (s.pieces.map aZ), .sl (s.used.map I),I s.received.1,I s.received.2,I s.scrap.1,I s.scrap.2]
def invV(s:aJ):V:= .agg (invC s)
def inv0:aJ:=⟨[],[],[],(0,0),(0,0)⟩
structure Made where
 id:Int
 part:ByteArray
 size:Int
def dK(x:Made):V:= .agg [I x.id,S x.part,I x.size]
structure Rest where
 id:Int
 box:Bx
 lo:Int
 hi:Int
def bY(x:Rest):V:= .agg [I x.id,I x.box.1.1,I x.box.1.2,I x.box.2.1,I x.box.2.2,I x.lo,I x.hi]
structure Event where
 kind:Int
 id:Int
 text:ByteArray
 sheet:jL
 bar:Bar
 cuts:List Made
 rests:List Rest
 scrap:Int
def iJ(x:Event):List V:=[I x.kind,I x.id,S x.text,I x.sheet.id,S x.sheet.grade,S x.sheet.heat,I x.sheet.grain,rgV x.sheet.shape.outer, .sl (x.sheet.shape.holes.map rgV), .sl (x.sheet.defects.map shV),
 I x.bar.id,S x.bar.grade,S x.bar.heat,I x.bar.length, .sl (x.bar.defects.map ivV), .sl (x.cuts.map dK), .sl (x.rests.map bY),I x.scrap]
def aS(x:Event):V:= .agg (iJ x)
def lK(s:jL):Prop:=gV s.shape/\s.defects.length<=1000000/\∀d∈s.defects,gV d
end Go.Proofs.Led
namespace Go.Proofs.Led
open Go Go.Proofs Go.Ab
variable{g:FuncId}{c:Rg->Rg->Int}{Q:Rg->Prop}
abbrev cF2(g:FuncId)(c:Rg->Rg->Int)(Q:Rg->Prop):Prop:=∀i j,Q i->Q j->Sp g [rgV i,rgV j] (I (c i j))
theorem fC7(hc:cF2 g c Q)(pre xs post:List Rg)(hq:∀x∈xs,Q x)(hl:pre.length+xs.length+post.length<=100000):
 fnIO T Tryz.prog Tryz.f329 [.own 75 ((pre++xs++post).map rgV),I pre.length,I (pre.length+xs.length), .fn g []] (.tup []) 0 75 ((pre++qA c xs++post).map rgV):=by
 repeat' ((conv=>whnf);first|refine zS ?_|fail)
 refine lD (A:=Nat) (fun k=>mkSt [(0, .arr 0 0),(1,I pre.length),(2,I (pre.length+xs.length)),(3, .fn g []),(8,I (pre.length+k))] [] [(0,⟨0, .own,75,(pre++(isR c (xs.take k)).reverse++xs.drop k++post).map rgV⟩)])
  (fun k=>1<=k/\(k<=xs.length\/k=1)) (fun k=>xs.length-k) 1 ?_ ⟨Aa, .inr rfl⟩ (fun k hk=>?_)
 ·refine dV ?_ ?_ ?_ ?_
  all_goals repeat' (first|exact trivial|refine And.intro ?_ ?_|with_reducible rfl|exact(fun h=>Ag)|exact Nat.le_refl _|omega|exact rfl)
  ·show List.map rgV (pre++xs++post)=List.map rgV (pre++(isR c (List.take 1 xs)).reverse++List.drop 1 xs++post)
   cases xs with
   |nil=>simp[isR]
   |cons x r=>simp[isR,insR]
 ·change 1<=k/\(k<=xs.length\/k=1)at hk
  rcases Nat.lt_or_ge k xs.length with hkl|hkl
  ·have hd:xs.drop k=xs[k] ::xs.drop (k+1):=List.drop_eq_getElem_cons hkl
   have ht:xs.take (k+1)=xs.take k++[xs[k]] :=by rw[List.take_add_one,List.getElem?_eq_getElem hkl];rfl
   have hx0:Q xs[k] :=hq _ (List.getElem_mem hkl);generalize xs[k] =x at hd ht hx0;obtain⟨tl,hd'⟩:∃tl,xs.drop (k+1)=tl:=⟨_,rfl⟩;rw[hd']at hd;have hlen:(isR c (xs.take k)).length=k:=by rw[dH2,List.length_take];omega
   have hR0:∀z∈isR c (xs.take k),Q z:=fun z hz=>hq z (List.mem_of_mem_take (dI0.1 hz));have hnew:isR c (xs.take (k+1))=insR c x (isR c (xs.take k)):=by rw[ht,eB2]
   generalize isR c (xs.take k)=R0 at hlen hR0 hnew;rw[hd]
   repeat' ((conv=>whnf);first|(exfalso;omega)|refine zS ?_|refine zl (fun hlt=>?_) (fun hlt=>?_))
   refine aU (A:=List Rg) (B:=List Rg) (fun R M=>mkSt [(0, .arr 0 0),(1,I pre.length),(2,I (pre.length+xs.length)),(3, .fn g []),(8,I (pre.length+k)),(9,I (pre.length+R.length))] [] [(0,⟨0, .own,75,(pre++(R.reverse++x::(M++tl))++post).map rgV⟩)])
    (fun R M=>R.length<=k/\(∀z∈R,Q z)/\(insR c x R0).reverse=(insR c x R).reverse++M) (fun R M=>R.length) R0 [] ?_ ⟨Aa,hR0,Ae⟩ (fun R M hp=>?_)
   ·refine dV ?_ ?_ ?_ ?_
    all_goals repeat' (first|exact trivial|refine And.intro ?_ ?_|with_reducible rfl|exact(fun h=>Ag)|exact Nat.le_refl _|omega|exact rfl)
    ·show List.map rgV (pre++R0.reverse++x::tl++post)=List.map rgV (pre++(R0.reverse++x::([] ++tl))++post)
     simp
   ·obtain⟨hp1,hp2,hp3⟩:=hp
    change R.length<=k at hp1;change∀z∈R,Q z at hp2;change (insR c x R0).reverse=(insR c x R).reverse++M at hp3
    cases R with
    |nil=>
     have hn:([] :List Rg).length=0:=rfl
     repeat' ((conv=>whnf);first|(exfalso;omega)|refine zS ?_|refine zl (fun hlt=>?_) (fun hlt=>?_))
     refine⟨k+1,?_,⟨Aa, .inl Aa⟩,Aa⟩;rw[hnew];refine dV ?_ ?_ ?_ ?_;all_goals repeat' (first|exact trivial|refine And.intro ?_ ?_|with_reducible rfl|exact(fun h=>Ag)|exact Nat.le_refl _|omega|exact rfl)
     ·show List.map rgV (pre++([].reverse++x::(M++tl))++post)=List.map rgV (pre++(insR c x R0).reverse++List.drop (k+1) xs++post)
      rw[hp3,hd'];simp[insR]
    |cons y r=>
     have hsz:(pre++((y::r).reverse++x::(M++tl))++post).length=pre.length+(r.length+1)+1+(M++tl++post).length:=A8;have hlc:(y::r).length=r.length+1:=rfl
     repeat' ((conv=>whnf);first|(exfalso;omega)|(refine dY5 (l:=pre++((y::r).reverse++x::(M++tl))++post) rfl (fun h=>Ag) rfl ?_ ?_;focus (constructor<;>omega))|refine cQ9 Aa ?_|(refine dX6 (l:=pre++((y::r).reverse++x::(M++tl))++post) rfl (fun h=>Ag) rfl ?_ ?_;focus (constructor<;>omega))|refine aF (l:=pre++((y::r).reverse++x::(M++tl))++post) (A:=pre++(y::r).reverse) (x:=x) (B:=M++tl++post) Ae A8 ?_|refine aF (l:=pre++((y::r).reverse++x::(M++tl))++post) (A:=pre++r.reverse) (x:=y) (B:=x::(M++tl++post)) Ae A8 ?_|refine zc (hc x y hx0 (hp2 y Ae)) ?_|refine dB8 rfl rfl ?_|refine zS ?_|refine zl (fun hlt=>?_) (fun hlt=>?_))
     ·refine⟨(r,y::M),?_,?_,?_⟩
      ·refine dV ?_ ?_ ?_ ?_
       all_goals repeat' (first|exact trivial|refine And.intro ?_ ?_|with_reducible rfl|exact(fun h=>Ag)|exact Nat.le_refl _|omega|exact rfl)
       ·show List.set (List.set (List.map rgV (pre++((y::r).reverse++x::(M++tl))++post)) _ (rgV y)) _ (rgV x)=List.map rgV (pre++(r.reverse++x::(y::M++tl))++post)
        rw[show pre++((y::r).reverse++x::(M++tl))++post=(pre++(y::r).reverse)++x::(M++tl++post) from Ae,List.map_append,List.map_cons,set_mid A8];rw[show(pre++(y::r).reverse:List Rg)=(pre++r.reverse)++[y] from Ae,List.map_append,List.map_cons,List.append_assoc,List.map_nil,List.cons_append,List.nil_append,set_mid A8];simp
       ·show(pre.length:Int)+(y::r).length-1=pre.length+r.length
        omega
      ·refine⟨by show r.length<=k;omega,fun z hz=>hp2 z (by simp[show z∈r from hz]),?_⟩
       show(insR c x R0).reverse=(insR c x r).reverse++y::M;rw[hp3];simp[insR,hlt]
      ·show r.length< (y::r).length
       simp
     ·refine⟨k+1,?_,⟨Aa, .inl Aa⟩,Aa⟩
      rw[hnew];refine dV ?_ ?_ ?_ ?_;all_goals repeat' (first|exact trivial|refine And.intro ?_ ?_|with_reducible rfl|exact(fun h=>Ag)|exact Nat.le_refl _|omega|exact rfl)
      ·show List.map rgV (pre++((y::r).reverse++x::(M++tl))++post)=List.map rgV (pre++(insR c x R0).reverse++List.drop (k+1) xs++post)
       rw[hp3,hd'];simp[insR,show¬c x y<0 from Aa]
  ·rw[List.take_of_length_le hkl,List.drop_eq_nil_of_le hkl]
   repeat' ((conv=>whnf);first|(exfalso;omega)|refine zS ?_|refine zl (fun hlt=>?_) (fun hlt=>?_))
   refine cA7 ?_
   conv=>whnf
   refine⟨[],rfl,⟨⟨rfl,rfl,rfl,?_⟩,trivial⟩,rfl⟩;show List.map rgV (pre++(isR c xs).reverse++[] ++post)=List.map rgV (pre++qA c xs++post);simp[qA]
theorem eI2(hc:cF2 g c Q)(xs:List Rg)(hq:∀x∈xs,Q x)(hl:xs.length<=100000):
 SpIO 329 [.own 75 (xs.map rgV),I 0,I xs.length, .fn g []] (.tup []) 75 ((qA c xs).map rgV):=by
 have:=eH7 rfl Tryz.func329 Ac Ac (fC7 hc [] xs [] hq A8);simp only[List.nil_append,List.append_nil,List.length_nil]at this;rw[show((0:Nat):Int)+(xs.length:Int)=xs.length from Aa]at this;exact this
def Qr(r:Rg):Prop:=r≠ []/\r.length<=1000000
def cR(a b:Rg):Int:=vcmp (a.getD 0 z0) (b.getD 0 z0)
theorem eR1(a b:Rg)(ha:Qr a)(hb:Qr b):Sp 248 [rgV a,rgV b] (I (cR a b)):=by
 refine zsp Tryz.func248 ?_;have hpa:0<a.length:=List.length_pos_iff.2 ha.1;have hpb:0<b.length:=List.length_pos_iff.2 hb.1
 repeat' ((conv=>whnf);first|refine aU3 (r:=a) (k:=0) rfl hpa ?_|refine aU3 (r:=b) (k:=0) rfl hpb ?_|refine zc (qI (a.getD 0 z0) (b.getD 0 z0)) ?_|refine zS ?_|fail)
 all_goals exact zE
theorem cR_ok:cF2 248 cR Qr:=fun i j hi hj=>eR1 i j hi hj
def U64(n:Int):V:= .lit (.int .u64 n)
def lenT(n:Nat):Int:=match n with
 |0=>0
 |1=>1
 |2=>2
 |3=>2
 |_=>3
theorem eP4:Sp 232 [U64 0] (I 0):=by
 refine zsp Tryz.func232 ?_
 repeat' ((conv=>whnf);first|(exfalso;omega)|refine fK (k:= .u8) (n:=0) (m:=0) Ah ?_|refine fU (of_decide_eq_true Ac) ?_|refine fK (k:= .i64) (m:=0) Ac ?_|refine zS ?_|refine zT ?_ ?_<;>intro _|fail)
 all_goals conv=>whnf
 all_goals exact aG Ac
theorem eU1:Sp 298 [U64 0] (I 0):=by
 refine zsp Tryz.func298 ?_
 repeat' ((conv=>whnf);first|refine zc eP4 ?_|refine zS ?_|fail)
 all_goals conv=>whnf
 all_goals exact aG rfl
theorem eM6:Sp 232 [U64 1] (I 1):=by
 refine zsp Tryz.func232 ?_
 repeat' ((conv=>whnf);first|(exfalso;omega)|refine fK (k:= .u8) (n:=1) (m:=1) Ah ?_|refine fU (of_decide_eq_true Ac) ?_|refine fK (k:= .i64) (m:=1) Ac ?_|refine zS ?_|refine zT ?_ ?_<;>intro _|fail)
 all_goals conv=>whnf
 all_goals exact aG Ac
theorem len_1:Sp 298 [U64 1] (I 1):=by
 refine zsp Tryz.func298 ?_
 repeat' ((conv=>whnf);first|refine zc eM6 ?_|refine zS ?_|fail)
 all_goals conv=>whnf
 all_goals exact aG rfl
theorem eR3:Sp 232 [U64 2] (I 2):=by
 refine zsp Tryz.func232 ?_
 repeat' ((conv=>whnf);first|(exfalso;omega)|refine fK (k:= .u8) (n:=2) (m:=2) Ah ?_|refine fU (of_decide_eq_true Ac) ?_|refine fK (k:= .i64) (m:=2) Ac ?_|refine zS ?_|refine zT ?_ ?_<;>intro _|fail)
 all_goals conv=>whnf
 all_goals exact aG Ac
theorem len_2:Sp 298 [U64 2] (I 2):=by
 refine zsp Tryz.func298 ?_
 repeat' ((conv=>whnf);first|refine zc eR3 ?_|refine zS ?_|fail)
 all_goals conv=>whnf
 all_goals exact aG rfl
theorem eT4:Sp 232 [U64 3] (I 2):=by
 refine zsp Tryz.func232 ?_
 repeat' ((conv=>whnf);first|(exfalso;omega)|refine fK (k:= .u8) (n:=3) (m:=3) Ah ?_|refine fU (of_decide_eq_true Ac) ?_|refine fK (k:= .i64) (m:=2) Ac ?_|refine zS ?_|refine zT ?_ ?_<;>intro _|fail)
 all_goals conv=>whnf
 all_goals exact aG Ac
theorem len_3:Sp 298 [U64 3] (I 2):=by
 refine zsp Tryz.func298 ?_
 repeat' ((conv=>whnf);first|refine zc eT4 ?_|refine zS ?_|fail)
 all_goals conv=>whnf
 all_goals exact aG rfl
theorem eN1:Sp 232 [U64 4] (I 3):=by
 refine zsp Tryz.func232 ?_
 repeat' ((conv=>whnf);first|(exfalso;omega)|refine fK (k:= .u8) (n:=4) (m:=4) Ah ?_|refine fU (of_decide_eq_true Ac) ?_|refine fK (k:= .i64) (m:=3) Ac ?_|refine zS ?_|refine zT ?_ ?_<;>intro _|fail)
 all_goals conv=>whnf
 all_goals exact aG Ac
theorem len_4:Sp 298 [U64 4] (I 3):=by
 refine zsp Tryz.func298 ?_
 repeat' ((conv=>whnf);first|refine zc eN1 ?_|refine zS ?_|fail)
 all_goals conv=>whnf
 all_goals exact aG rfl
theorem eM8:Sp 232 [U64 5] (I 3):=by
 refine zsp Tryz.func232 ?_
 repeat' ((conv=>whnf);first|(exfalso;omega)|refine fK (k:= .u8) (n:=5) (m:=5) Ah ?_|refine fU (of_decide_eq_true Ac) ?_|refine fK (k:= .i64) (m:=3) Ac ?_|refine zS ?_|refine zT ?_ ?_<;>intro _|fail)
 all_goals conv=>whnf
 all_goals exact aG Ac
theorem len_5:Sp 298 [U64 5] (I 3):=by
 refine zsp Tryz.func298 ?_
 repeat' ((conv=>whnf);first|refine zc eM8 ?_|refine zS ?_|fail)
 all_goals conv=>whnf
 all_goals exact aG rfl
theorem eP5:Sp 232 [U64 6] (I 3):=by
 refine zsp Tryz.func232 ?_
 repeat' ((conv=>whnf);first|(exfalso;omega)|refine fK (k:= .u8) (n:=6) (m:=6) Ah ?_|refine fU (of_decide_eq_true Ac) ?_|refine fK (k:= .i64) (m:=3) Ac ?_|refine zS ?_|refine zT ?_ ?_<;>intro _|fail)
 all_goals conv=>whnf
 all_goals exact aG Ac
theorem len_6:Sp 298 [U64 6] (I 3):=by
 refine zsp Tryz.func298 ?_
 repeat' ((conv=>whnf);first|refine zc eP5 ?_|refine zS ?_|fail)
 all_goals conv=>whnf
 all_goals exact aG rfl
theorem len_any(n:Nat)(h:n<=6):∃b,Sp 298 [U64 (n:Int)] (I b):=by
 match n,h with
 |0,_=>exact⟨_,eU1⟩
 |1,_=>exact⟨_,len_1⟩
 |2,_=>exact⟨_,len_2⟩
 |3,_=>exact⟨_,len_3⟩
 |4,_=>exact⟨_,len_4⟩
 |5,_=>exact⟨_,len_5⟩
 |6,_=>exact⟨_,len_6⟩
theorem dY6{g:FuncId}{c:Rg->Rg->Int}{Q:Rg->Prop}(hc:cF2 g c Q)(xs:List Rg)(hq:∀x∈xs,Q x)(hl:xs.length<=12)(lim:Int):
 SpIO 297 [.own 75 (xs.map rgV),I 0,I xs.length,I lim, .fn g []] (.tup []) 75 ((qA c xs).map rgV):=by
 refine eH7 rfl Tryz.func297 Ac Ac ?_;have hi:=eI2 hc xs hq Aa
 repeat' ((conv=>whnf);first|refine zS ?_|fail)
 refine lD (A:=Unit) (fun _=>mkSt [(0, .arr 0 0),(1,I 0),(2,I xs.length),(3,I lim),(4, .fn g []),(10, .lit (.bool true)),(11, .lit (.bool true))] [] [(0,⟨0, .own,75,xs.map rgV⟩)]) (fun _=>True) (fun _=>0) () ?_ trivial (fun _ _=>?_)
 ·exact zj
 repeat' ((conv=>whnf);first|(exfalso;omega)|(refine aQ2 (hi) rfl rfl ?_ rfl rfl ?_;focus ((repeat' (first|exact trivial|refine And.intro ?_ ?_|with_reducible rfl|exact(fun h=>Ag)|exact rfl));done))|refine zS ?_|refine zT ?_ ?_<;>intro _|fail)
 all_goals conv=>whnf
 exact MK
theorem u64_in{n:Int}(h:0<=n/\n<=1000000):IntKind.u64.wrap n=n:=by
 exact OE
theorem cR4{g:FuncId}{c:Rg->Rg->Int}{Q:Rg->Prop}(hc:cF2 g c Q)(xs:List Rg)(hq:∀x∈xs,Q x)(hl:xs.length<=6):
 SpIO 247 [.own 75 (xs.map rgV), .fn g []] (.tup []) 75 ((qA c xs).map rgV):=by
 refine eH7 rfl Tryz.func247 Ac Ac ?_;have hmm:(xs.map rgV).length=xs.length:=Ae;obtain⟨b,hb⟩:=len_any xs.length hl;have hp:=dY6 hc xs hq Aa b
 rw[<-hmm]at hb hp
 repeat' ((conv=>whnf);first|refine fK (k:= .u64) (n:=((xs.map rgV).length:Int)) (m:=((xs.map rgV).length:Int)) (u64_in Aa) ?_|refine zc hb ?_|(refine aQ2 (hp) rfl rfl ?_ rfl rfl ?_;focus ((repeat' (first|exact trivial|refine And.intro ?_ ?_|with_reducible rfl|exact(fun h=>Ag)|exact rfl));done))|refine zS ?_|fail)
 all_goals conv=>whnf
 exact MK
theorem dT5(g:FuncId):Sp 329 [nilV,I 0,I 0, .fn g []] (.tup []):=by
 refine zsp Tryz.func329 ?_
 repeat' ((conv=>whnf);first|refine zS ?_|fail)
 refine lD (A:=Unit) (fun _=>mkSt [(1,I 0),(2,I 0),(8,I 1)] [] []) (fun _=>True) (fun _=>0) () ?_ trivial (fun _ _=>?_)
 ·exact zj
 repeat' ((conv=>whnf);first|(exfalso;omega)|refine zS ?_|refine zT ?_ ?_<;>intro _|fail)
 all_goals conv=>whnf
 all_goals exact⟨[],rfl,trivial,rfl⟩
theorem dK0(g:FuncId)(lim:Int):Sp 297 [nilV,I 0,I 0,I lim, .fn g []] (.tup []):=by
 refine zsp Tryz.func297 ?_
 repeat' ((conv=>whnf);first|refine zS ?_|fail)
 refine lD (A:=Unit) (fun _=>mkSt [(0,nilV),(1,I 0),(2,I 0),(3,I lim),(4, .fn g [])] [] []) (fun _=>True) (fun _=>0) () ?_ trivial (fun _ _=>?_)
 ·exact zj
 repeat' ((conv=>whnf);first|(exfalso;omega)|refine zc (dT5 g) ?_|refine zS ?_|refine zT ?_ ?_<;>intro _|fail)
 all_goals conv=>whnf
 all_goals exact⟨[],rfl,trivial,rfl⟩
theorem cZ9(g:FuncId):Sp 247 [nilV, .fn g []] (.tup []):=by
 refine zsp Tryz.func247 ?_
 repeat' ((conv=>whnf);first|refine fK (k:= .u64) (n:=0) (m:=0) Ah ?_|refine zc eU1 ?_|refine zc (dK0 g 0) ?_|refine zS ?_|fail)
 all_goals conv=>whnf
 all_goals exact⟨[],rfl,trivial,rfl⟩
theorem dW3{r:Rg}(h:dM r)(hl:r.length<=1000000):Qr (gQ r):=by
 rw[bJ7 h];have h3:=h.1;have e:(wL r).length=r.length:=by unfold wL;rw[List.length_append,List.length_drop,List.length_take];omega
 refine⟨fun q=>?_,Aa⟩;rw[q]at e;simp at e;omega
def wW(s:Sh):List Rg:=qA cR (s.holes.map gQ)
def qO(s:Sh):Sh:=open Classical in if bG s then⟨gQ s.outer,wW s⟩else sh0
theorem aN9{s:Sh}(h:bG s):qO s=⟨gQ s.outer,wW s⟩:=if_pos h
theorem bH5{s:Sh}(h:¬bG s):qO s=sh0:=if_neg h
def canSt(s:Sh)(D:List Rg):St:=match D with
 | [] =>mkSt [(1, .box 1 0),(2, .box 2 0),(3, .box 3 0),(15, .sl (s.holes.map rgV)),(16,I s.holes.length),(17,I 0)] [(1,(shV s).cells),(2,(shV sh0).cells),(3,[rgV (gQ s.outer),nilV])] []
 |d::D=>mkSt [(1, .box 1 0),(2, .box 2 0),(3, .box 3 0),(15, .sl (s.holes.map rgV)),(16,I s.holes.length),(17,I ((D.length:Int)+1))] [(1,(shV s).cells),(2,(shV sh0).cells),(3,[rgV (gQ s.outer), .arr 26 D.length])] [(26,⟨D.length, .own,75,((d::D).map gQ).map rgV⟩)]
theorem aU9(s:Sh)(hs:gV s):Sp 204 [shV s] (shV (qO s)):=by
 refine zsp Tryz.func204 ?_;have h1:=aN9 (s:=s);have h2:=bH5 (s:=s)
 generalize qO s=A at*;have hmm:(s.holes.map rgV).length=s.holes.length:=Ae
 repeat' ((conv=>whnf);first|refine zc (kK s hs) ?_|refine zc (aU6 s.outer hs.1) ?_|refine zS ?_|refine zd (fun hd=>?_) (fun hd=>?_))
 all_goals conv=>whnf
 ·rw[h1 hd]
  have hok:=hd;unfold bG at hok;obtain⟨h6,hro,_,_⟩:=hok
  have hQ:∀x∈s.holes.map gQ,Qr x:=fun x hx=>by
   obtain⟨r,hr,rfl⟩:=List.mem_map.1 hx;exact dW3 (hro r (List.mem_cons_of_mem _ hr)) (hs.2.2 r hr)
  have hcl:(s.holes.map gQ).length=s.holes.length:=Ae;refine aU (A:=List Rg) (B:=List Rg) (fun D R=>canSt s D) (fun D R=>s.holes=D++R) (fun D R=>R.length) [] s.holes ?_ rfl (fun D R hp=>?_)
  ·exact GV
  cases R with
  |nil=>
   have e:D=s.holes:=Af;subst e;clear hp
   cases hh:s.holes with
   |nil=>
    have hcn:wW s=[] :=by unfold wW;rw[hh];rfl
    rw[hcn];have hz:s.holes.length=0:=by rw[hh];rfl
    repeat' ((conv=>whnf);first|(exfalso;omega)|refine zc (cZ9 248) ?_|refine zS ?_|refine zl (fun hlt=>?_) (fun hlt=>?_))
    all_goals conv=>whnf
    exact Lj
   |cons d D=>
    have hcl2:(d::D).length=D.length+1:=rfl;have hso:=cR4 cR_ok ((d::D).map gQ) (by rw[<-hh];exact hQ) (by rw[<-hh];omega)
    have hcn:wW s=qA cR ((d::D).map gQ):=by unfold wW;rw[hh]
    rw[hcn];generalize qA cR ((d::D).map gQ)=Z at hso;have hhl:s.holes.length=D.length+1:=by rw[hh];rfl
    repeat' ((conv=>whnf);first|(exfalso;omega)|(refine aQ2 (hso) rfl rfl ?_ rfl rfl ?_;focus ((repeat' (first|exact trivial|refine And.intro ?_ ?_|with_reducible rfl|exact(fun h=>Ag)|exact rfl));done))|refine zS ?_|refine zl (fun hlt=>?_) (fun hlt=>?_))
    all_goals conv=>whnf
    exact Lj
  |cons h R=>
   have hlen:=aO hp;have hl:h.length<=1000000:=hs.2.2 h Af
   have hcs:=aU6 h hl
   cases D with
   |nil=>
    have h0:([] :List Rg).length=0:=rfl
    repeat' ((conv=>whnf);first|(exfalso;omega)|refine aF (l:=s.holes) (A:=[]) (x:=h) (B:=R) hp Aa ?_|refine zc hcs ?_|refine gX (of_decide_eq_true rfl) (dA rfl) (of_decide_eq_true rfl) ?_|refine zS ?_|refine zl (fun hlt=>?_) (fun hlt=>?_))
    all_goals conv=>whnf
    refine⟨([h],R),?_,hp,Ae⟩;show Le T _ (mkSt [(1, .box 1 0),(2, .box 2 0),(3, .box 3 0),(15, .sl (s.holes.map rgV)),(16,I s.holes.length),(17,I (0+1))] [(1,(shV s).cells),(2,(shV sh0).cells),(3,[rgV (gQ s.outer), .arr 26 0])] [(26,⟨0, .own,75,[rgV (gQ h)]⟩)]);exact zj
   |cons d D=>
    have h0:(d::D).length=D.length+1:=rfl;have hfl:(((d::D).map gQ).map rgV).length=D.length+1:=Ae
    repeat' ((conv=>whnf);first|(exfalso;omega)|refine aF (l:=s.holes) (A:=d::D) (x:=h) (B:=R) hp Aa ?_|refine zc hcs ?_|refine iH rfl (.inl rfl) rfl (of_decide_eq_true rfl) (dA rfl) (show(((d::D).map gQ).map rgV).length+1<=1000000000 from Aa) ?_|refine zS ?_|refine zl (fun hlt=>?_) (fun hlt=>?_))
    all_goals conv=>whnf
    refine⟨(d::D++[h],R),?_,Af,Ae⟩;show Le T _ (mkSt [(1, .box 1 0),(2, .box 2 0),(3, .box 3 0),(15, .sl (s.holes.map rgV)),(16,I s.holes.length),(17,I (((D++[h]).length:Int)+1))] [(1,(shV s).cells),(2,(shV sh0).cells),(3,[rgV (gQ s.outer), .arr 26 (D++[h]).length])] [(26,⟨(D++[h]).length, .own,75,(((d::D)++[h]).map gQ).map rgV⟩)]);rw[show(((d::D)++[h]).map gQ).map rgV=((d::D).map gQ).map rgV++[rgV (gQ h)] from Ae,List.length_append,List.length_singleton];exact zj
 ·rw[h2 hd]
  exact Lj
end Go.Proofs.Led
