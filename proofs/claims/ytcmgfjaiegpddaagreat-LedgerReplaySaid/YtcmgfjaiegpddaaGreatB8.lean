/- Lemmas. -/
import Derived.Test.YtcmgfjaiegpddaaGreatB6
import Derived.Test.YtcmgfjaiegpddaaGreatB7
set_option linter.all false
set_option maxRecDepth 100000
set_option maxHeartbeats 4000000
noncomputable section
namespace Go.Proofs.Led
open Go Go.Proofs Go.Ab Tryz
def fD3{g:FuncId}{c d:List V}{Q:Vc->Prop}(hg:∀m,Sp g (vcV m:: [.fp c, .fp d]) (DB (Q m)))(l:List Vc)(b:l.length<=1000000):fnVC T Tryz.prog Tryz.f290 [.sl (l.map vcV), .fn g [.fp c, .fp d]] (I (fstI Q l)):=by
 have a:(l.map vcV).length=l.length:=Af;repeat' ((conv=>whnf);first|refine zS ?_|fail)
 refine aU (A:=List Vc) (B:=List Vc) (λD R=>mkSt [(0, .sl (l.map vcV)),(1, .fn g [.fp c, .fp d]),(7,I l.length),(8,I D.length)] [] [])
  (λD R=>l=D++R/\∀m∈D,¬Q m) (λD R=>R.length) [] l ?_ ⟨rfl,Af⟩ (λD R hp=>?_)
 exact zj;exact Hz
def dW6{g:FuncId}{c d:List V}{Q:Vc->Prop}(a:∀m,Sp g (vcV m:: [.fp c, .fp d]) (DB (Q m)))(l:List Vc)(b:l.length<=1000000):Sp 290 [.sl (l.map vcV), .fn g [.fp c, .fp d]] (I (fstI Q l)):=zsp func290 (fD3 a l b)
def eY5{g:FuncId}{c d:List V}{Q:Vc->Prop}(a:∀m,Sp g (vcV m:: [.fp c, .fp d]) (DB (Q m)))(l:List Vc)(b:l.length<=1000000):fnVC T Tryz.prog Tryz.f241 [.sl (l.map vcV), .fn g [.fp c, .fp d]] (DB (∃m∈l,Q m)):=by
 repeat' ((conv=>whnf);first|refine zc (dW6 a l b) ?_|refine zS ?_|fail)
 exact Lp
def dV5{g:FuncId}{c d:List V}{Q:Vc->Prop}(a:∀m,Sp g (vcV m:: [.fp c, .fp d]) (DB (Q m)))(l:List Vc)(b:l.length<=1000000):Sp 241 [.sl (l.map vcV), .fn g [.fp c, .fp d]] (DB (∃m∈l,Q m)):=zsp func241 (eY5 a l b)
def cY2(b:Sh)(n:Int)(a:gV b)(v:Vc):Sp 243 [vcV v, .fp (shV b).cells, .fp [I n]] (DB (lJ b v=n)):=by
 refine zsp func243 ?_;repeat' ((conv=>whnf);first|refine zc (aD4 b v a) ?_|refine zS ?_|fail)
 all_goals conv=>whnf
 all_goals exact aA eqB_d
def rV(s:Sh):List Vc:=(rings s).flatten
def cH3{s:Sh}(b:gV s)(e:s.holes.length<=6):(rV s).length<=7000000:=by
 have c:=dH9 (rings s) (λr a=>b.mem a);have d:(rings s).length=s.holes.length+1:=BF;unfold rV;omega
def bL9(a b:Sh)(n:Int):Prop:=∃v∈rV a,lJ b v=n
def bK5(a b:Sh)(n:Int)(d:gV a)(c:a.holes.length<=6)(e:gV b)(f:(rV a).length<=1000000):Sp 193 [shV a,shV b,I n] (DB (bL9 a b n)):=by
 refine zsp func193 ?_;repeat' ((conv=>whnf);first|refine zc (aJ3 a d c) ?_|refine zc (dV5 (λv=>cY2 b n e v) (rV a) f) ?_|refine zS ?_|fail)
 all_goals conv=>whnf
 all_goals exact aA rfl
end Go.Proofs.Led
namespace Go.Proofs.Led
open Go Go.Proofs Go.Ab Go.RowKit Tryz
structure jL where
 id:Int
 grade:ByteArray
 heat:ByteArray
 grain:Int
 shape:Sh
 defects:List Sh
def aA7(s:jL):List V:=[I s.id,S s.grade,S s.heat,I s.grain,rgV s.shape.outer, .sl (s.shape.holes.map rgV), .sl (s.defects.map shV)]
def zJ(s:jL):V:= .agg (aA7 s)
def dN:jL:=⟨0,aI,aI,0,sh0,[]⟩
abbrev Iv:=Int×Int
def ivV(d:Iv):V:= .agg [I d.1,I d.2]
structure Bar where
 id:Int
 grade:ByteArray
 heat:ByteArray
 length:Int
 defects:List Iv
def barC(b:Bar):List V:=[I b.id,S b.grade,S b.heat,I b.length, .sl (b.defects.map ivV)]
def barV(b:Bar):V:= .agg (barC b)
def bar0:Bar:=⟨0,aI,aI,0,[]⟩
structure aN where
 isBar:Bool
 sheet:jL
 bar:Bar
 program:ByteArray
def gB(x:aN):List V:=[B x.isBar,I x.sheet.id,S x.sheet.grade,S x.sheet.heat,I x.sheet.grain,rgV x.sheet.shape.outer, .sl (x.sheet.shape.holes.map rgV), .sl (x.sheet.defects.map shV),
 I x.bar.id,S x.bar.grade,S x.bar.heat,I x.bar.length, .sl (x.bar.defects.map ivV),S x.program]
def aQ(x:aN):V:= .agg (gB x)
def wS:aN:=⟨false,dN,bar0,aI⟩
structure Piece where
 id:Int
 parent:Int
 part:ByteArray
 grade:ByteArray
 heat:ByteArray
 size:Int
 isBar:Bool
 status:Int
 order:ByteArray
def dZ8(x:Piece):List V:=[I x.id,I x.parent,S x.part,S x.grade,S x.heat,I x.size,B x.isBar,I x.status,S x.order]
def aZ(x:Piece):V:= .agg (dZ8 x)
structure aJ where
 stocks:List aN
 pieces:List Piece
 used:List Int
 received:Iv
 scrap:Iv
def invC(s:aJ):List V:=[.sl (s.stocks.map aQ), .sl (s.pieces.map aZ), .sl (s.used.map I),I s.received.1,I s.received.2,I s.scrap.1,I s.scrap.2]
def invV(s:aJ):V:= .agg (invC s)
def inv0:aJ:=⟨[],[],[],(0,0),(0,0)⟩
structure Made where
 id:Int
 part:ByteArray
 size:Int
def dK(x:Made):V:= .agg [I x.id,S x.part,I x.size]
structure Rest where
 id:Int
 box:Bx
 lo:Int
 hi:Int
def bY(x:Rest):V:= .agg [I x.id,I x.box.1.1,I x.box.1.2,I x.box.2.1,I x.box.2.2,I x.lo,I x.hi]
structure Event where
 kind:Int
 id:Int
 text:ByteArray
 sheet:jL
 bar:Bar
 cuts:List Made
 rests:List Rest
 scrap:Int
def iJ(x:Event):List V:=[I x.kind,I x.id,S x.text,I x.sheet.id,S x.sheet.grade,S x.sheet.heat,I x.sheet.grain,rgV x.sheet.shape.outer, .sl (x.sheet.shape.holes.map rgV), .sl (x.sheet.defects.map shV),
 I x.bar.id,S x.bar.grade,S x.bar.heat,I x.bar.length, .sl (x.bar.defects.map ivV), .sl (x.cuts.map dK), .sl (x.rests.map bY),I x.scrap]
def aS(x:Event):V:= .agg (iJ x)
def lK(s:jL):Prop:=gV s.shape/\s.defects.length<=1000000/\∀d∈s.defects,gV d
end Go.Proofs.Led
namespace Go.Proofs.Led
open Go Go.Proofs Go.Ab Tryz
structure Cod(α:Type)where
 enc:α->List Int
 rng:α->Prop
 ok:α->Prop
 uni:∀ {x y r s},rng x->rng y->enc x++r=enc y++s->x=y/\r=s
variable{α β:Type}
def Cod.D(c:Cod α)(l:List Int)(x:α)(r:List Int):Prop:=l=c.enc x++r/\c.rng x/\c.ok x
@[irreducible] def Cod.dec(c:Cod α)(l:List Int):Option (α×List Int):=
  @dite _ (∃p:α×List Int,c.D l p.1 p.2) (Classical.propDecidable _) (λh=>some h.choose) λ_=>none
def Cod.dec_iff(c:Cod α){l r:List Int}{x:α}:c.dec l=some (x,r)↔c.D l x r:=by
 unfold Cod.dec;split;rename_i h;have a:=h.choose_spec;constructor;intro e;rw[Q5 e]at a;exact a;intro e;have b:=c.uni a.2.1 e.2.1 (a.1.symm.trans e.1);rw[Ql];exact Prod.ext b.1 b.2;rename_i h;constructor;intro e;cases e;intro e;exact absurd ⟨(x,r),e⟩ h
def Cod.dec_none(c:Cod α){l:List Int}:c.dec l=none↔∀x r,¬c.D l x r:=by
 cases h:c.dec l with
 |none=>exact⟨λ_ x r a=>(by rw[c.dec_iff.2 a]at h;cases h),λ_=>rfl⟩
 |some p=>exact⟨λh=>Ag,λk=>absurd (c.dec_iff.1 h) (k p.1 p.2)⟩
def Cod.D_len{c:Cod α}{l r:List Int}{x:α}(h:c.D l x r):l.length=(c.enc x).length+r.length:=by rw[h.1,OY]
def encI_uni{x y:Int}{r s:List Int}(b:R64 x)(c:R64 y)(h:encI x++r=encI y++s):x=y/\r=s:=by
 have a:=dec_enc b r;rw[h,dec_enc c s]at a;cases a;exact⟨rfl,rfl⟩
def cI:Cod Int:=⟨encI,R64,λ_=>True,encI_uni⟩
def cI_dec{l:List Int}(d:∀c∈l,isB c):cI.dec l=decI l:=by
 cases h:cI.dec l with
 |some p=>
  obtain⟨a,b,_⟩:=cI.dec_iff.1 h;have:=dec_enc b p.2;rw[a];exact this.symm
 |none=>
  cases k:decI l with
  |none=>rfl
  |some p=>
   obtain⟨a,b⟩:=enc_dec d k;exact absurd ⟨a,b,trivial⟩ (cI.dec_none.1 h p.1 p.2)
def Cod.res(c:Cod α)(p:α->Prop):Cod α:=⟨c.enc,c.rng,λx=>c.ok x/\p x,c.uni⟩
def cBd(lo hi:Int):Cod Int:=cI.res λn=>lo<=n/\n<=hi
def Cod.pair(a:Cod α)(b:Cod β):Cod (α×β)where
 enc x:=a.enc x.1++b.enc x.2
 rng x:=a.rng x.1/\b.rng x.2
 ok x:=a.ok x.1/\b.ok x.2
 uni:=by
  intro x y r s hx hy h;rw[Pq,Pq]at h;obtain⟨h1,h2⟩:=a.uni hx.1 hy.1 h;obtain⟨h3,h4⟩:=b.uni hx.2 hy.2 h2;exact⟨Prod.ext h1 h3,h4⟩
def Cod.iso(c:Cod α)(f:β->α)(g:α->β)(h:∀x,g (f x)=x):Cod β where
 enc x:=c.enc (f x)
 rng x:=c.rng (f x)
 ok x:=c.ok (f x)
 uni:=by
  intro x y r s hx hy e;obtain⟨h1,h2⟩:=c.uni hx hy e;exact⟨by rw[<-h x,<-h y,h1],h2⟩
def Cod.many(c:Cod α)(l:List α):List Int:=l.flatMap c.enc
def many_uni(c:Cod α):∀ {x y:List α} {r s:List Int},(∀z∈x,c.rng z)->(∀z∈y,c.rng z)->x.length=y.length->c.many x++r=c.many y++s->x=y/\r=s
 | [],[],_,_,_,_,_,h=>⟨rfl,h⟩
 |a::x,b::y,r,s,d,e,hl,h=>by
  unfold Cod.many at h;rw[Qk,Qk,Pq,Pq]at h;obtain⟨f,g⟩:=c.uni (d a Af) (e b Af) h;obtain⟨i,j⟩:=many_uni c (λz hz=>d z GK) (λz hz=>e z GK) AQ g;exact⟨by rw[f,i],j⟩
 | [],_::_,_,_,_,_,hl,_=>by cases hl
 |_::_,[],_,_,_,_,hl,_=>by cases hl
def Cod.list(c:Cod α)(m:Int):Cod (List α)where
 enc l:=encI l.length++c.many l
 rng l:=l.length<=1000000000000/\∀z∈l,c.rng z
 ok l:=(l.length:Int)<=m/\∀z∈l,c.ok z
 uni:=by
  intro x y r s hx hy h;rw[Pq,Pq]at h;obtain⟨h1,h2⟩:=encI_uni Fe Fe h;exact many_uni c hx.2 hy.2 Aa h2
def cByte:Cod Int where
 enc x:=[x]
 rng _:=True
 ok _:=True
 uni:=by
  intro x y r s _ _ h;exact List.cons.inj h
theorem many_byte(l:List Int):cByte.many l=l:=by
 induction l with
 |nil=>rfl
 |cons x l a=>unfold Cod.many at*;rw[Qk,a];rfl
def cBytes(m:Int):Cod (List Int):=cByte.list m
theorem cBytes_enc(m:Int)(l:List Int):(cBytes m).enc l=encI l.length++l:=by show encI _++_=_;rw[many_byte]
def fst_eq{n:Int}{D R:List Int}(h:∀y∈D,¬n=y):fst (λy=>n=y) (D++n::R)=D.length:=wH (λy a=>by rw[dW.2 (h y a)];rfl) (by rw[dH.2 rfl];rfl)
def bM4(l:List Int)(n:Int)(g:l.length<=1000000):Sp 289 [.sl (l.map I),I n] (I (fstI (λy=>n=y) l)):=by
 refine zsp func289 ?_;have f:(l.map I).length=l.length:=Af;repeat' ((conv=>whnf);first|refine zS ?_|fail)
 refine aU (A:=List Int) (B:=List Int) (λD R=>mkSt [(0, .sl (l.map I)),(1,I n),(6, .sl (l.map I)),(7,I l.length),(8,I D.length)] [] []) (λD R=>l=D++R/\∀y∈D,¬n=y) (λD R=>R.length) [] l ?_ ⟨rfl,Af⟩ (λD R hp=>?_);exact zj;obtain⟨hp,e⟩:=hp;cases R with
 |nil=>
  have c:l.length=D.length:=Ad;repeat' ((conv=>whnf);first|omega|refine zS ?_|refine zl (λa=>?_) (λa=>?_))
  all_goals conv=>whnf
  refine aG ?_;unfold fstI;rw[Ph (iO.2 (by rw[hp,Pz];exact e))]
 |cons y R=>
  have c:=aO hp;repeat' ((conv=>whnf);first|omega|refine zS ?_|refine zl (λa=>?_) (λa=>?_)|refine ze (λb=>?_) (λb=>?_))
  all_goals conv=>whnf
  subst b;refine aG ?_;unfold fstI;rw[hp,fst_eq e,Pm Af];refine⟨(D++[y],R),?_,⟨Ad,λz d=>?_⟩,Af⟩;exact Ih;rcases Pv.1 d with d|d;exact e z d;rw[Py.1 d];assumption
def dK5(l:List Int)(n:Int)(d:l.length<=1000000):Sp 240 [.sl (l.map I),I n] (DB (n∈l)):=by
 refine zsp func240 ?_;repeat' ((conv=>whnf);first|refine zc (bM4 l n d) ?_|refine zS ?_|fail)
 all_goals conv=>whnf
 all_goals refine aA (le_dec ?_)
 have h:=iO (Q:=λy=>n=y) (l:=l);unfold fstI;constructor;intro c;split at c;rename_i a;exact Classical.byContradiction λe=>(h.2 (λm b f=>e (by rw[f];exact b))) a;omega;intro b;split;omega;rename_i a;exact(h.1 a n b rfl).elim
def bV2{s:Sh}(b:gV s)(a:s.holes.length<=6):(aC0 s).length<=7000000:=bC1 b a (D:=rings s) (R:=[]) Af
def rJ(a b:Sh)(ways:List Int):Prop:=∃x∈aC0 a,∃y∈aC0 b,dG x y∈ways
def bX6(a b:Sh)(c:List Int)(k:gV a)(d:a.holes.length<=6)(m:gV b)(e:b.holes.length<=6)(r:c.length<=1000000):Sp 192 [shV a,shV b, .sl (c.map I)] (DB (rJ a b c)):=by
 refine zsp func192 ?_;have g:=aV8 a k d;have i:=aV8 b m e;have n:=bV2 k d;have o:=bV2 m e;generalize hP:rJ a b c=P;have j:P↔rJ a b c:=FX;clear hP;unfold rJ at j;generalize aC0 a=A at*;generalize aC0 b=B at*;repeat' ((conv=>whnf);first|refine zc i ?_|refine zc g ?_|refine zS ?_|fail)
 conv=>whnf
 refine aU (A:=List Sg) (B:=List Sg) (λD R=>mkSt [(2, .sl (c.map I)),(7, .lit (.bool false)),(8, .arr 14 0),(16, .arr 16 0),(17,I A.length),(18,I D.length)] [] [(14,⟨0, .own,275,B.map sgV⟩),(16,⟨0, .own,275,A.map sgV⟩)]) (λD R=>A=D++R/\∀x∈D,∀y∈B,¬dG x y∈c) (λD R=>R.length) [] A ?_ ⟨rfl,Af⟩ (λD R hp=>?_);exact Ij;obtain⟨hp,hD⟩:=hp;cases R with
 |nil=>
  have f:A.length=D.length:=Ad;repeat' ((conv=>whnf);first|omega|refine zS ?_|refine zT ?_ ?_<;>intro _|fail)
  all_goals conv=>whnf
  refine aA (aC ?_);rw[j,hp,Pz];rintro⟨x,s,y,t,q⟩;exact hD x s y t q
 |cons x R=>
  have f:=aO hp;repeat' ((conv=>whnf);first|omega|refine dS rfl rfl CJ ?_|refine aF (l:=A) (A:=D) (x:=x) (B:=R) hp Aa ?_|refine zS ?_|refine zT ?_ ?_<;>intro _|fail)
  refine aU (A:=List Sg) (B:=List Sg) (λE S=>mkSt [(2, .sl (c.map I)),(7, .lit (.bool false)),(8, .arr 14 0),(10, .box 10 0),(16, .arr 16 0),(17,I A.length),(18,I D.length),(22, .arr 14 0),(23,I B.length),(24,I E.length)] [(10,(sgV x).cells)] [(14,⟨0, .own,275,B.map sgV⟩),(16,⟨0, .own,275,A.map sgV⟩)]) (λE S=>B=E++S/\∀y∈E,¬dG x y∈c) (λE S=>S.length) [] B ?_ ⟨rfl,Af⟩ (λE S hq=>?_);exact Ij;obtain⟨hq,hE⟩:=hq;cases S with
  |nil=>exact Lc
  |cons y S=>
   have hlen2:=aO hq;repeat' ((conv=>whnf);first|omega|refine dS rfl rfl CO ?_|refine aF (l:=B) (A:=E) (x:=y) (B:=S) hq Aa ?_|refine zc (aS9 x y) ?_|refine zc (dK5 c (dG x y) r) ?_|refine zS ?_|refine zT ?_ ?_<;>intro _|fail)
   all_goals conv=>whnf
   all_goals first
    |exact aA (fE (j.2 ⟨x,Ad,y,Az,Ah⟩))
    |skip
   exact Om
def arN(i:Nat)(r:Rg)(k:Nat):Vc:=if 0<i then mY r k else iU r k
def arL(i:Nat)(r:Rg)(k:Nat):Vc:=if 0<i then iU r k else mY r k
def dJ(i:Nat)(r:Rg)(p:Vc)(k:Nat):Option Sg:=
 open Classical in if r.getD k z0=p then some (vsub (arN i r k) p,vsub (arL i r k) p)
 else if arN i r k≠p/\eX (r.getD k z0,arN i r k) p then some (vsub (arN i r k) p,vsub (r.getD k z0) p)else none
def qY(i:Nat)(r:Rg)(p:Vc):Option Sg:=(List.range r.length).findSome? (dJ i r p)
def nR(p:Vc):Nat->List Rg->Option Sg
 |_,[] =>none
 |i,r::R=>(qY i r p).or (nR p (i+1) R)
def jE(s:Sh)(p:Vc):Sg:=(nR p 0 (rings s)).getD ((0,0),(0,0))
def bZ2{i:Nat}{r:Rg}{p:Vc}(h:∀k,k<r.length->dJ i r p k=none):qY i r p=none:=by
 unfold qY;simp_all
def range_split{n k:Nat}(h:k<n):List.range n=List.range k++k::(List.range n).drop (k+1):=by
 apply List.ext_getElem?;grind
def bZ8{i:Nat}{r:Rg}{p:Vc}{k:Nat}{x:Sg}(b:k<r.length)(h:∀j,j<k->dJ i r p j=none)(c:dJ i r p k=some x):qY i r p=some x:=by
 unfold qY;rw[range_split b,List.findSome?_append,List.findSome?_eq_none_iff.2 (λj a=>h j (Qh.1 a)),List.findSome?_cons,c];rfl
def cU6{p:Vc}{i:Nat}{r:Rg}{R:List Rg}{x:Sg}(h:qY i r p=some x):nR p i (r::R)=some x:=by
 rw[nR,h];rfl
def cR6{p:Vc}{i:Nat}{r:Rg}{R:List Rg}(h:qY i r p=none):nR p i (r::R)=nR p (i+1) R:=by
 rw[nR,h];rfl
def aW8(s:Sh)(p:Vc)(v:gV s)(G:s.holes.length<=6):Sp 245 [shV s,vcV p] (sgV (jE s p)):=by
 refine zsp func245 ?_;have F:=aW6 s v;have i:∀r∈rings s,r.length<=1000000:=λr z=>v.mem z;have w:(rings s).length<=7:=by unfold rings;simp;omega
 have o:∀x:Sg,nR p 0 (rings s)=some x->sgV (jE s p)=sgV x:=λx h=>by unfold jE;rw[h];rfl
 have t:nR p 0 (rings s)=none->sgV (jE s p)=sgV ((0,0),(0,0)):=λh=>by unfold jE;rw[h];rfl
 generalize sgV (jE s p)=X at*;generalize rings s=rs at*;have y:(rs.map rgV).length=rs.length:=Af;repeat' ((conv=>whnf);first|refine zS ?_|fail)
 refine aU (A:=List Rg) (B:=List Rg) (λD R=>mkSt [(2, .box 2 0),(3, .box 3 0),(4, .box 4 0),(13, .arr 13 0),(14,I rs.length),(15,I D.length)] [(2,(shV s).cells),(3,(vcV p).cells),(4,[I 0,I 0,I 0,I 0])] [(13,⟨0, .own,23,rs.map rgV⟩)]) (λD R=>rs=D++R/\nR p 0 rs=nR p D.length R) (λD R=>R.length) [] rs ?_ ⟨rfl,rfl⟩ (λD R hp=>?_);exact Ie;obtain⟨hp,q⟩:=hp;cases R with
 |nil=>
  have d:rs.length=D.length:=Ad;have b:=t (by rw[q];rfl);subst b;repeat' ((conv=>whnf);first|omega|refine zS ?_|refine zT ?_ ?_<;>intro _|fail)
  all_goals conv=>whnf
  all_goals exact zE
 |cons r R=>
  have d:=aO hp;have C:=i r Ad;have E:(r.map vcV).length=r.length:=Af;repeat' ((conv=>whnf);first|omega|refine dS rfl rfl Ce ?_|refine zS ?_|refine zT ?_ ?_<;>intro _|fail)
  refine lD (A:=Nat) (λk=>mkSt [(2, .box 2 0),(3, .box 3 0),(4, .box 4 0),(5,I D.length),(6,rgV r),(13, .arr 13 0),(14,I rs.length),(15,I D.length),(20,rgV r),(21,I r.length),(22,I k)] [(2,(shV s).cells),(3,(vcV p).cells),(4,[I 0,I 0,I 0,I 0])] [(13,⟨0, .own,23,rs.map rgV⟩)]) (λk=>k<=r.length/\∀j,j<k->dJ D.length r p j=none) (λk=>r.length-k) 0 ?_ ⟨Aa,λj hj=>absurd hj Aa⟩ (λk u=>?_);exact zj;obtain⟨u,hN⟩:=u;by_cases c:k<r.length
  ·have f:(k+1)% r.length<r.length:=QE _ Aa
   have g:(k+r.length-1)% r.length<r.length:=QE _ Aa;have n:∀x,dJ D.length r p k=some x->nR p 0 rs=some x:=λx b=>by rw[q];exact cU6 (bZ8 c hN b)
   by_cases m:0<D.length
   ·have eN:arN D.length r k=mY r k:=Pm m
    have eL:arL D.length r k=iU r k:=Pm m;repeat' ((conv=>whnf);first|omega|refine cC0 [(6,999),(27,999),(30,999),(32,999),(33,999),(35,999),(37,999),(41,999),(43,999),(44,999),(9,9),(10,10)] Ae Ac ?_|refine uM Aa ?_|refine aB (l:=r) (by rw[kS (a:=k+1) (by omega)];omega) ?_|refine aB (l:=r) EU ?_|refine sW (k:=(k+1)% r.length) (kS Aa) f ?_|refine sW (k:=(k+r.length-1)% r.length) (kS Aa) g ?_|refine sW (k:=k) Aa c ?_|refine aT1 ?_|refine aB4 (λhv=>?_) (λhv=>?_)|refine zc (fF (mY r k) p) ?_|refine zc (fF (iU r k) p) ?_|refine zc (fF (r.getD k z0) p) ?_|refine zc (yS (r.getD k z0,mY r k) p) ?_|refine zS ?_|refine zT ?_ ?_<;>intro _|fail)
    all_goals conv=>whnf
    ·have b:=o (vsub (mY r k) p,vsub (iU r k) p) (n _ EQ)
     subst b;all_goals exact zE
    exact Jg
    ·have b:=o (vsub (mY r k) p,vsub (r.getD k z0) p) (n _ BQ)
     subst b;all_goals exact zE
    exact Jd
   have eN:arN D.length r k=iU r k:=Ph m;have eL:arL D.length r k=mY r k:=Ph m;repeat' ((conv=>whnf);first|omega|refine cC0 [(6,999),(27,999),(30,999),(32,999),(33,999),(35,999),(37,999),(41,999),(43,999),(44,999),(9,9),(10,10)] Ae Ac ?_|refine uM Aa ?_|refine aB (l:=r) (by rw[kS (a:=k+1) (by omega)];omega) ?_|refine aB (l:=r) EU ?_|refine sW (k:=(k+1)% r.length) (kS Aa) f ?_|refine sW (k:=(k+r.length-1)% r.length) (kS Aa) g ?_|refine sW (k:=k) Aa c ?_|refine aT1 ?_|refine aB4 (λhv=>?_) (λhv=>?_)|refine zc (fF (iU r k) p) ?_|refine zc (fF (mY r k) p) ?_|refine zc (fF (r.getD k z0) p) ?_|refine zc (yS (r.getD k z0,iU r k) p) ?_|refine zS ?_|refine zT ?_ ?_<;>intro _|fail)
   all_goals conv=>whnf
   ·have b:=o (vsub (iU r k) p,vsub (mY r k) p) (n _ EQ)
    subst b;all_goals exact zE
   exact Jg
   ·have b:=o (vsub (iU r k) p,vsub (r.getD k z0) p) (n _ BQ)
    subst b;all_goals exact zE
   exact Jd
  have e:k=r.length:=by omega
  subst e;repeat' ((conv=>whnf);first|omega|refine zS ?_|refine zT ?_ ?_<;>intro _|fail)
  all_goals conv=>whnf
  refine⟨(D++[r],R),?_,⟨Ad,by rw[q,cR6 (bZ2 hN)];simp⟩,Af⟩;exact L8
abbrev eU0(g:FuncId)(Q:Sg->Sg->Prop):Prop:=∀x y,Sp g [sgV x,sgV y] (DB (Q x y))
def touchAt(a b:Sh)(Q:Sg->Sg->Prop)(p:Vc):Prop:=lJ a p=1->lJ b p=1->Q (jE a p) (jE b p)
def bD2(a b:Sh)(Q:Sg->Sg->Prop):Prop:=∀p∈rV a++rV b,touchAt a b Q p
def cZ6{g:FuncId}{Q:Sg->Sg->Prop}(N:eU0 g Q)(a b:Sh)(m:gV a)(d:a.holes.length<=6)(n:gV b)(e:b.holes.length<=6):Sp 194 [shV a,shV b, .fn g []] (DB (bD2 a b Q)):=by
 refine zsp func194 ?_;have i:=aJ3 a m d;have j:=aJ3 b n e;have O:=cH3 m d;have S:=cH3 n e;change Sp _ _ (.own 84 ((rV a).map vcV))at i;change Sp _ _ (.own 84 ((rV b).map vcV))at j;generalize y:bD2 a b Q=P;have F:P↔∀p∈rV a++rV b,touchAt a b Q p:=by rw[<-y];exact Qn
 clear y;generalize rV a=A at*;generalize rV b=B at*;have J:(A.map vcV).length=A.length:=Af;have K:(B.map vcV).length=B.length:=Af;repeat' ((conv=>whnf);first|refine zc i ?_|refine zc j ?_|refine iH rfl (.inl rfl) rfl (OZ rfl) (aM5 _) (show(A.map vcV).length+(B.map vcV).length<=1000000000 from Aa) ?_|refine zS ?_|fail)
 all_goals conv=>whnf
 have M:(A++B).length=A.length+B.length:=OY;have c:A.map vcV++B.map vcV=(A++B).map vcV:=Af;generalize T:A++B=C at*;have L:(C.map vcV).length=C.length:=Af;refine aU (A:=List Vc) (B:=List Vc) (λD R=>mkSt [(2, .fn g []),(3, .box 3 0),(4, .box 4 0),(13, .arr 10 1),(14,I C.length),(15,I D.length)] [(3,(shV a).cells),(4,(shV b).cells)] [(10,⟨1, .own,84,C.map vcV⟩)]) (λD R=>C=D++R/\∀q∈D,touchAt a b Q q) (λD R=>R.length) [] C ?_ ⟨rfl,Af⟩ (λD R hp=>?_)
 ·rw[<-c]
  refine dV ?_ ?_ ?_ ?_;all_goals repeat' (first|exact trivial|refine And.intro ?_ ?_|with_reducible rfl|exact(λh=>Ag)|exact Po _|omega|exact rfl)
  all_goals (try rw[c,P6])
 obtain⟨hp,w⟩:=hp;cases R with
 |nil=>
  have f:C.length=D.length:=Ad;repeat' ((conv=>whnf);first|omega|refine zS ?_|refine zT ?_ ?_<;>intro _|fail)
  all_goals conv=>whnf
  refine aA (fE (F.2 λq E=>?_));rw[hp,Pz]at E;exact w q E
 |cons q R=>
  have f:=aO hp;have o:=aD4 a q m;have s:=aD4 b q n;have r:=aW8 a q m d;have t:=aW8 b q n e;have u:=N (jE a q) (jE b q);have U:touchAt a b Q q↔(lJ a q=1->lJ b q=1->Q (jE a q) (jE b q)):=Qn;have v:q∈C:=Ad;repeat' ((conv=>whnf);first|omega|refine dS rfl rfl (by show 0<=_/\_< ((C.map vcV).length:Int);omega) ?_|refine aF (l:=C) (A:=D) (x:=q) (B:=R) hp Aa ?_|refine zc o ?_|refine zc s ?_|refine zc r ?_|refine zc t ?_|refine zc u ?_|refine zS ?_|refine zT ?_ ?_<;>intro _|fail)
  all_goals conv=>whnf
  all_goals first
   |exact aA (aC (λh=>absurd ((F.1 h) q v Ah Ah) Ah))
   |skip
  all_goals refine⟨(D++[q],R),?_,⟨Ad,λz k=>?_⟩,Af⟩
  all_goals first
   |(rcases Pv.1 k with k|k
     ·exact w z k
     ·rw[Py.1 k]
      exact λG H=>by first|assumption|exact absurd G (by assumption)|exact absurd H (by assumption))
   |skip
  all_goals simp only[OY,PL]
  exact zj;exact zj;exact zj
def aO3(c s:Sh):Prop:=¬rJ c s [2]/\¬bL9 s c 0/\¬bL9 c s 2/\bD2 c s (λx y=>¬jH y (x.2,x.1))
def dP2(x y:Sg):Sp 195 [sgV x,sgV y] (DB (¬jH y (x.2,x.1))):=by
 refine zsp func195 ?_;have a:=bX9 x;have b:=cT5 y (x.2,x.1);repeat' ((conv=>whnf);first|refine zc a ?_|refine zc b ?_|refine zS ?_|fail)
 all_goals conv=>whnf
 all_goals exact aA (aF6 dW)
def eS8:eU0 195 (λx y=>¬jH y (x.2,x.1)):=λx y=>dP2 x y
def cG3{s:Sh}(h:bG s):(rV s).length<=80:=by
 unfold rV;rw[List.length_flatten];exact h.2.2.1
def yB{s:Sh}(h:bG s):s.holes.length<=6:=h.1
def iT{s:Sh}(h:bG s):gV s:=by
 have b:∀r∈rings s,r.length<=40:=λr a=>(h.2.1 r a).2.1;refine⟨?_,?_,λr a=>?_⟩;have:=b s.outer BF;omega;have:=h.1;omega;have:=b r (by unfold rings;simp[a]);omega
def cO1(c s:Sh)(a:bG c)(b:bG s):Sp 154 [shV c,shV s] (DB (aO3 c s)):=by
 refine zsp func154 ?_;have n:=cG3 a;have o:=cG3 b;have e:=bX6 c s [2] (iT a) (yB a) (iT b) (yB b) Ai;have f:=bK5 s c 0 (iT b) (yB b) (iT a) Aa;have g:=bK5 c s 2 (iT a) (yB a) (iT b) Aa;have i:=cZ6 eS8 c s (iT a) (yB a) (iT b) (yB b);have d:aO3 c s↔¬rJ c s [2]/\¬bL9 s c 0/\¬bL9 c s 2/\bD2 c s (λx y=>¬jH y (x.2,x.1)):=Qn;generalize aO3 c s=P at*;generalize rJ c s [2] =j at*;generalize bL9 s c 0=k at*;generalize bL9 c s 2=l at*;generalize bD2 c s (λx y=>¬jH y (x.2,x.1))=m at*;repeat' ((conv=>whnf);first|refine zc e ?_|refine zc f ?_|refine zc g ?_|refine zc i ?_|refine zS ?_|refine zT ?_ ?_<;>intro _|fail)
 all_goals conv=>whnf
 all_goals first
  |exact aA (aC (λh=>absurd Ah (d.1 h).1))
  |exact aA (aC (λh=>absurd Ah (d.1 h).2.1))
  |exact aA (aC (λh=>absurd Ah (d.1 h).2.2.1))
  |exact aA (fQ ⟨λh=>d.2 ⟨Ah,Ah,Ah,h⟩,λh=>(d.1 h).2.2.2⟩)
  |skip
def lI(c s:Sh):Prop:=bG c/\bG s/\aO3 c s
def pO(c s:Sh):Int:=open Classical in if bG c/\bG s then 0 else 11
def aA6(c s:Sh)(g:gV c)(i:gV s):Sp 114 [shV c,shV s] (.tup [DB (lI c s),I (pO c s)]):=by
 refine zsp func114 ?_;have m1:=kK c g;have m2:=kK s i;by_cases e:bG c
 ·by_cases f:bG s
  ·have a:DB (lI c s)=DB (aO3 c s):=PN (λb=>V.lit (.bool b)) (fQ ⟨λh=>h.2.2,λh=>⟨e,f,h⟩⟩)
   have d:pO c s=0:=Pm ⟨e,f⟩;have j:=cO1 c s e f;rw[a,d];repeat' ((conv=>whnf);first|(exfalso;contradiction)|refine zc m1 ?_|refine zc m2 ?_|refine zc j ?_|refine zS ?_|refine zT ?_ ?_<;>intro _|fail)
   all_goals exact zE
  have a:DB (lI c s)= .lit (.bool false):=PN (λb=>V.lit (.bool b)) (dW.2 (λh=>f h.2.1));have d:pO c s=11:=Ph (λh=>f h.2);rw[a,d];exact Nj
 have a:DB (lI c s)= .lit (.bool false):=PN (λb=>V.lit (.bool b)) (dW.2 (λh=>e h.1));have d:pO c s=11:=Ph (λh=>e h.1);rw[a,d];repeat' ((conv=>whnf);first|(exfalso;contradiction)|refine zc m1 ?_|refine zS ?_|refine zT ?_ ?_<;>intro _|fail)
 all_goals exact zE
end Go.Proofs.Led
