/-
  The inventory: sizes add up, and identities are different, behind each event.
-/
import Derived.Test.YtkhhdojgbkophaaGreatDoorBB9
set_option linter.unusedVariables false
set_option linter.unusedSimpArgs false
set_option maxRecDepth 100000
set_option maxHeartbeats 8000000
noncomputable section
namespace Go.Proofs.Led
open Go Go.Proofs Go.Ab
structure Bal(s:aJ):Prop where
 sc:inR s.scrap
 eq:∀b,W (cls b s.scrap+totS b s.stocks+totP b s.pieces)=cls b s.received
 ps:∀p∈s.pieces,1<=p.size/\p.size<=9223372036854775807
 br:∀x∈s.stocks,R6 (gG x)
theorem bal0:Bal inv0:=⟨fun b=>by cases b<;>decide,fun b=>by cases b<;>decide,F6,F6⟩
theorem cW8{α:Type}(p:α->Bool)(f:α->Int)(c b:Bool):∀(l:List α),(∀x∈l,p x=c)->(l.map fun x=>if p x=b then f x else 0).sum=if c=b then(l.map f).sum else 0
 | [],_=>Ae
 |x::l,h=>by
  rw[List.map_cons,List.sum_cons,cW8 p f c b l (fun y hy=>h y FT),h x Ae,List.map_cons,List.sum_cons];split
  ·rfl
  ·rfl
theorem bK7:∀(l:List Int) (n:Int),R6 n->R6 (subL n l)
 | [],n,h=>h
 |c::l,n,h=>bK7 l (sub1 n c) (bK0 n c)
theorem bH6{e:Event}{x:aN}(hx:(e.kind=1/\x=⟨false,e.sheet,bar0,aI⟩/\dB e.sheet)\/(e.kind=2/\x=⟨true,dN,e.bar,aI⟩/\fM e.bar)):R6 (gG x)/\nC (sid x):=by
 rcases hx with⟨_,rfl,h⟩|⟨_,rfl,h⟩
 ·exact⟨aJ5 _,h.1.1,h.1.2.1⟩
 ·refine⟨?_,h.1.1,h.1.2.1⟩
  show R6 e.bar.length;have h1:=h.2.1;have h2:=h.2.2.1
  unfold R6;omega
theorem aG4(s:aJ)(e:Event)(k:Nat)(m:aN):(cut5 s e k m).pieces=(e.cuts.map (fZ e m)).foldl (putK Piece.id) s.pieces:=by
 show e.cuts.foldl (fun p x=>putP p (fZ e m x)) s.pieces=_;rw[List.foldl_map];rfl
theorem aF7(s:aJ)(e:Event)(k:Nat)(m:aN):(cut5 s e k m).stocks=(eG m e.rests).foldl (putK sid) (nN s.stocks k):=rfl
theorem yU{m:aN}{l:List Rest}(hr:cZ m [] l=0){x:aN}(hx:x∈eG m l):∃r∈l,x=dZ m r/\iG m r=0:=by
 rw[mV hr]at hx;obtain⟨r,h1,h2⟩:=List.mem_map.1 hx;exact⟨r,h1,h2.symm,tZ hr r h1⟩
theorem cM1{x:aN}(h:R6 (gG x)):x.isBar=true->R6 x.bar.length:=fun hb=>by unfold gG at h;rw[if_pos hb]at h;exact h
theorem dN1{m:aN}{r:Rest}(h:iG m r=0):R6 (gG (dZ m r)):=by
 unfold dZ;split
 ·split
  ·exact aJ5 _
  ·exact aJ5 _
 ·exact nT _
theorem eE0{s s':aJ}{e:Event}(hb:Bal s)(hs:Step s e s'):Bal s':=by
 cases hs with
 |recv x hx hn=>
  obtain⟨v1,v2⟩:=bH6 hx;refine⟨hb.sc,fun b=>?_,hb.ps,fun y hy=>?_⟩
  ·show W (cls b s.scrap+totS b (putAt s.stocks _ x)+totP b s.pieces)=cls b (plus x.isBar s.received (gG x))
   have h1:totS b (putAt s.stocks (bs sid s.stocks (sid x)) x)=totS b s.stocks+if x.isBar=b then gG x else 0:=bU2 _ _ _ _
   rw[h1,rX,<-hb.eq b];split
   ·rw[bF8];congr 1;omega
   ·congr 1;omega
  ·rcases fH.1 hy with rfl|hy
   ·exact v1
   ·exact hb.br y hy
 |setK k m p hk hm hid=>
  refine⟨hb.sc,fun b=>?_,hb.ps,fun y hy=>?_⟩
  ·have h1:totS b (s.stocks.set k (prog m p))=totS b s.stocks:=dF7 _ hm rfl
   show W (cls b s.scrap+totS b (s.stocks.set k (prog m p))+totP b s.pieces)=cls b s.received;rw[h1];exact hb.eq b
  ·rcases mem_set hy with rfl|hy
   ·exact hb.br m (fC hm)
   ·exact hb.br y hy
 |disc k m hk hm hid=>
  refine⟨cK5 hb.sc,fun b=>?_,hb.ps,fun y hy=>hb.br y ((kM _ _).subset hy)⟩;show W (cls b (plus m.isBar s.scrap (gG m))+totS b (nN s.stocks k)+totP b s.pieces)=cls b s.received;have h1:totS b (nN s.stocks k)=totS b s.stocks-if m.isBar=b then gG m else 0:=bP1 _ hm
  rw[h1,rX,<-hb.eq b];exact Pn
 |setP k m st o hk hm hst hid=>
  refine⟨hb.sc,fun b=>?_,fun y hy=>?_,hb.br⟩
  ·have h1:totP b (s.pieces.set k (marked m st o))=totP b s.pieces:=dF7 _ hm rfl
   show W (cls b s.scrap+totS b s.stocks+totP b (s.pieces.set k (marked m st o)))=cls b s.received;rw[h1];exact hb.eq b
  ·rcases mem_set hy with rfl|hy
   ·exact hb.ps m (fC hm)
   ·exact hb.ps y hy
 |cut k m hk hf hfr hm hid hp hr hl=>
  have hm6:=hb.br m (fC hm);have hsc:0<=e.scrap:=hf.2.2.2.2.1
  unfold nJ at hl;have a1:R6 (subL (gG m) (e.cuts.map Made.size)):=bK7 _ _ hm6
  obtain⟨p1,p2,p3⟩:=bY2 _ _ a1 (fun c hc=>by
   obtain⟨x,hx,rfl⟩:=List.mem_map.1 hc;obtain⟨r,h1,rfl,h3⟩:=yU hr hx;exact(yP h3 (cM1 hm6)).1) Aa
  obtain⟨q1,q2,q3⟩:=bY2 _ _ hm6 (fun c hc=>by
   obtain⟨x,hx,rfl⟩:=List.mem_map.1 hc;have:=(hf.1 x hx).2.2;omega) p2
  refine⟨cK5 hb.sc,fun b=>?_,fun y hy=>?_,fun y hy=>?_⟩
  ·have h1:totS b (cut5 s e k m).stocks=totS b s.stocks- (if m.isBar=b then gG m else 0)+if m.isBar=b then((eG m e.rests).map gG).sum else 0:=by
    rw[aF7];unfold totS
    rw[bB7,bP1 _ hm,cW8 (fun x:aN=>x.isBar) gG m.isBar b (eG m e.rests) (fun x hx=>by
     obtain⟨r,h1,rfl,h3⟩:=yU hr hx;exact(yP h3 (cM1 hm6)).2)]
   have h2:totP b (cut5 s e k m).pieces=totP b s.pieces+if m.isBar=b then(e.cuts.map Made.size).sum else 0:=by
    rw[aG4];unfold totP
    rw[bB7,cW8 (fun x:Piece=>x.isBar) Piece.size m.isBar b (e.cuts.map (fZ e m)) (fun x hx=>by
     obtain⟨c,h1,rfl⟩:=List.mem_map.1 hx;rfl),List.map_map]
    rfl
   rw[h1,h2];show W (cls b (plus m.isBar s.scrap e.scrap)+_+_)=cls b s.received;rw[rX,<-hb.eq b];exact Pn
  ·rw[aG4]at hy
   have hy2:y∈s.pieces\/y∈e.cuts.map (fZ e m):=Jc;rcases hy2 with hy|hy
   ·exact hb.ps y hy
   ·obtain⟨c,hc,rfl⟩:=List.mem_map.1 hy
    have h1:=(hf.1 c hc).2.2;have h2:=q3 c.size (List.mem_map_of_mem hc)
    unfold R6 at hm6;exact⟨h1,by show c.size<=_;omega⟩
  ·rw[aF7]at hy
   have hy2:y∈nN s.stocks k\/y∈eG m e.rests:=by
    have key:∀(xs l:List aN),y∈xs.foldl (putK sid) l->y∈l\/y∈xs:=by
     intro xs
     induction xs with
     |nil=>exact fun l h=> .inl h
     |cons x xs ih=>
      intro l h;rcases ih _ h with h|h
      ·rcases fH.1 h with rfl|h
       ·exact .inr Ae
       ·exact .inl h
      ·exact .inr Ie
    exact key _ _ hy
   rcases hy2 with hy|hy
   ·exact hb.br y ((kM _ _).subset hy)
   ·obtain⟨r,h1,rfl,h3⟩:=yU hr hy
    exact dN1 h3
structure Ids(s:aJ):Prop where
 dj:∀x∈s.stocks,∀p∈s.pieces,sid x≠p.id
 par:∀p∈s.pieces,p.parent∈s.used
 rng:∀n∈s.used,nC n
theorem ids0:Ids inv0:=⟨F6,F6,F6⟩
theorem cG6{s s':aJ}{e:Event}{n:Nat}(h:Ok s n)(hi:Ids s)(hs:Step s e s'):Ids s'/\∀y∈s.used,y∈s'.used:=by
 cases hs with
 |recv x hx hn=>
  obtain⟨v1,v2⟩:=bH6 hx;have hmu:∀y,y∈putN s.used (sid x)↔y=sid x\/y∈s.used:=fun y=>fH;refine⟨⟨fun y hy p hp=>?_,fun p hp=>(hmu _).2 (.inr (hi.par p hp)),fun y hy=>?_⟩,fun y hy=>(hmu _).2 (.inr hy)⟩
  ·rcases fH.1 hy with rfl|hy
   ·intro e;exact hn (by rw[e];exact h.up p hp)
   ·exact hi.dj y hy p hp
  ·rcases(hmu _).1 hy with rfl|hy
   ·exact v2
   ·exact hi.rng y hy
 |setK k m p hk hm hid=>
  refine⟨⟨fun y hy q hq=>?_,hi.par,hi.rng⟩,fun y hy=>hy⟩;rcases mem_set hy with rfl|hy
  ·exact hi.dj m (fC hm) q hq
  ·exact hi.dj y hy q hq
 |disc k m hk hm hid=>exact⟨⟨fun y hy q hq=>hi.dj y ((kM _ _).subset hy) q hq,hi.par,hi.rng⟩,fun y hy=>hy⟩
 |setP k m st o hk hm hst hid=>
  refine⟨⟨fun y hy q hq=>?_,fun q hq=>?_,hi.rng⟩,fun y hy=>hy⟩
  ·rcases mem_set hq with rfl|hq
   ·exact hi.dj y hy m (fC hm)
   ·exact hi.dj y hy q hq
  ·rcases mem_set hq with rfl|hq
   ·exact hi.par m (fC hm)
   ·exact hi.par q hq
 |cut k m hk hf hfr hm hid hp hr hl=>
  obtain⟨a1,a2,a3⟩:=bJ9 (k:=k) h hfr hr (List.append_nil _).symm;obtain⟨b1,b2,b3⟩:=bC5 (m:=m) h hfr (List.append_nil _).symm;obtain⟨f1,f2⟩:=qJ.1 hfr;have hidm:∀x∈eG m e.rests,sid x∈e.rests.map Rest.id:=fun x hx=>by rw[<-aG9 hr];exact List.mem_map_of_mem hx
  have hu:∀y,y∈cO s.used (fO e)↔y∈s.used\/y∈fO e:=fun y=>tY;unfold fO at f1 f2;rw[List.pairwise_append]at f2;refine⟨⟨fun y hy q hq=>?_,fun q hq=>?_,fun y hy=>?_⟩,fun y hy=>(hu y).2 (.inl hy)⟩
  ·rcases(a2 y).1 hy with hy|hy<;>rcases(b2 q).1 hq with hq|hq
   ·exact hi.dj y ((kM _ _).subset hy) q hq
   ·obtain⟨c,hc,rfl⟩:=List.mem_map.1 hq
    intro e2;have e3:sid y=c.id:=e2;exact f1 c.id (by simp only[List.mem_append];exact .inl (List.mem_map_of_mem hc)) (by rw[<-e3];exact h.us y ((kM _ _).subset hy))
   ·intro e2
    exact f1 (sid y) (by simp only[List.mem_append];exact .inr (hidm y hy)) (by rw[e2];exact h.up q hq)
   ·obtain⟨c,hc,rfl⟩:=List.mem_map.1 hq
    intro e2;exact f2.2.2 c.id (List.mem_map_of_mem hc) (sid y) (hidm y hy) e2.symm
  ·refine(hu _).2 (.inl ?_)
   rcases(b2 q).1 hq with hq|hq
   ·exact hi.par q hq
   ·obtain⟨c,hc,rfl⟩:=List.mem_map.1 hq
    show e.id∈_;rw[<-hid];exact h.us m (fC hm)
  ·rcases(hu y).1 hy with hy|hy
   ·exact hi.rng y hy
   ·unfold fO at hy
    rcases List.mem_append.1 hy with hy|hy
    ·obtain⟨c,hc,rfl⟩:=List.mem_map.1 hy
     exact(hf.1 c hc).1
    ·obtain⟨r,hr',rfl⟩:=List.mem_map.1 hy
     exact(hf.2.1 r hr').1
theorem bT0{s:aJ}{n:Int}{m:aN}{f:aN->aJ×Int}(h1:∃m∈s.stocks,sid m=n)(h2:s.stocks[bs sid s.stocks n]? =some m):aD6 s n f=f m:=by unfold aD6;rw[if_pos h1,h2]
theorem dR0{s:aJ}{n:Int}{f:aN->aJ×Int}(h1:¬∃m∈s.stocks,sid m=n):aD6 s n f=(inv0,8):=by unfold aD6;rw[if_neg h1]
theorem aY8{s:aJ}{e:Event}(hf:iD e)(hk:e.kind=5):appR s e=cutR s e:=by
 unfold appR bP2;rw[if_pos hf,if_neg Aa,if_neg Aa,if_neg Aa,if_neg Aa,if_pos hk]
theorem dF5{s:aJ}{e:Event}(h:¬dP s.used (fO e)):cutR s e=(inv0,7):=by unfold cutR;rw[if_pos h]
theorem cF5{s:aJ}{e:Event}(h:dP s.used (fO e))(h1:¬∃m∈s.stocks,sid m=e.id):cutR s e=(inv0,8):=by unfold cutR;rw[if_neg (Classical.not_not.2 h),dR0 h1]
theorem bG4{s:aJ}{e:Event}{m:aN}(h:dP s.used (fO e))(h1:∃m∈s.stocks,sid m=e.id)(h2:s.stocks[bs sid s.stocks e.id]? =some m):
 cutR s e=open Classical in if m.program=aI then(inv0,10)else if cZ m [] e.rests≠0 then(inv0,cZ m [] e.rests)else if nJ m e≠e.scrap then(inv0,29)else(cut5 s e (bs sid s.stocks e.id) m,0):=by
 unfold cutR;rw[if_neg (Classical.not_not.2 h),bT0 h1 h2]
def kV(e:Event)(c:Int):Event:={e with scrap:=c}
theorem refused{s:aJ}{e:Event}{n:Nat}{c:Int}(h:Ok s n)(h0:(appR s e).2=0)(hk:e.kind=5)(hc:c≠e.scrap):
 appR s (kV e c)=(inv0,29)\/appR s (kV e c)=(inv0,1):=by
 by_cases hf:iD (kV e c);rotate_left
 ·right
  unfold appR;rw[if_neg hf]
 left;have hfe:=(aZ6 h h0).1;rw[aY8 hfe hk]at h0;rw[aY8 hf hk];by_cases c1:dP s.used (fO e);rotate_left
 ·rw[dF5 c1]at h0;cases h0
 by_cases h1:∃m∈s.stocks,sid m=e.id;rotate_left
 ·rw[cF5 c1 h1]at h0;cases h0
 obtain⟨m,h2,h3⟩:=aB8 h.ss h1;rw[bG4 c1 h1 h2]at h0;rw[bG4 (e:=kV e c) (m:=m) c1 h1 h2];by_cases c2:m.program=aI
 ·rw[if_pos c2]at h0;cases h0
 rw[if_neg c2]at h0⊢;have er:(kV e c).rests=e.rests:=rfl;rw[er];by_cases c3:cZ m [] e.rests≠0
 ·rw[if_pos c3]at h0;exact absurd h0 c3
 rw[if_neg c3]at h0⊢;by_cases c4:nJ m e≠e.scrap
 ·rw[if_pos c4]at h0;cases h0
 have c5:nJ m (kV e c)≠(kV e c).scrap:=fun hh=>hc (hh.symm.trans (Classical.not_not.1 c4));rw[if_pos c5]
def nD(b:Bar):Event:=⟨2,0,aI,dN,b,[],[],0⟩
def uX(n:Int)(t:ByteArray):Event:=⟨3,n,t,dN,bar0,[],[],0⟩
def xC(n:Int)(c:List Made)(r:List Rest)(z:Int):Event:=⟨5,n,aI,dN,bar0,c,r,z⟩
def chB(c:UInt8):ByteArray:=⟨#[c]⟩
theorem eR5{s s':aJ}{e:Event}{n:Nat}(h:Ok s n)(hs:Step s e s'):Ok s' (n+more e):=by
 have hm:1<=more e:=Gq
 cases hs with
 |recv x hx hn=>
  refine(dD4 h ?_ hn).mono Aa;rcases hx with⟨_,rfl,h⟩|⟨_,rfl,h⟩
  ·exact⟨aX9 h,Nat.zero_le _⟩
  ·exact⟨xZ,Nat.le_trans h.2.2.2.1 Ak⟩
 |setK k m p hk hm hid=>exact(bW3 h hm p).mono Aa
 |disc k m hk hm hid=>exact(dD6 h k m).mono Aa
 |setP k m st o hk hm hst hid=>exact(dE1 h hm st o).mono Aa
 |cut k m hk hf hfr hm hid hp hr hl=>exact cP7 ((aZ7 (R:=[]) (Q:=[]) h hm hfr hr (List.append_nil _).symm (List.append_nil _).symm).mono Gq) _
structure Good(s:aJ)(n:Nat):Prop where
 ok:Ok s n
 bal:Bal s
 ids:Ids s
theorem cN2:Good inv0 0:=⟨ok0,bal0,ids0⟩
theorem good_step{s:aJ}{e:Event}{n:Nat}(h:Good s n)(h0:(appR s e).2=0):Good (appR s e).1 (n+more e):=by
 have hs:=(aZ6 h.ok h0).2;exact⟨eR5 h.ok hs,eE0 h.bal hs,(cG6 h.ok h.ids hs).1⟩
theorem Good.mono{s:aJ}{n m:Nat}(h:Good s n)(hn:n<=m):Good s m:=⟨h.ok.mono hn,h.bal,h.ids⟩
def kL(s:aJ)(i:Int):List Event->aJ×Int×Int
 | [] =>(s,i,0)
 |x::l=>if(appR s x).2=0 then kL (appR s x).1 (i+1) l else(s,i,(appR s x).2)
def barS(b:Bar)(p:ByteArray):aN:=⟨true,dN,b,p⟩
def st1(b:Bar):aJ:=aX7 inv0 (barS b aI)
def st2(b:Bar)(p:ByteArray):aJ:=⟨[barS b p],[],[b.id],(0,W (0+b.length)),(0,0)⟩
def moreL(l:List Event):Nat:=(l.map more).sum
abbrev Len6{α:Type}(l:List α):Prop:=l.length<=9223372036854775807
def ownC(x:Event)(c r:V):List V:=[I x.kind,I x.id,S x.text,I x.sheet.id,S x.sheet.grade,S x.sheet.heat,I x.sheet.grain,rgV x.sheet.shape.outer, .sl (x.sheet.shape.holes.map rgV), .sl (x.sheet.defects.map shV),
 I x.bar.id,S x.bar.grade,S x.bar.heat,I x.bar.length, .sl (x.bar.defects.map ivV),c,r,I x.scrap]
abbrev zSheet:List V:=[I 0,S aI,S aI,I 0,nilV,nilV,nilV]
abbrev zQ:List V:=[I 0,I 0,S aI,I 0,S aI,S aI,I 0,nilV,nilV,nilV,I 0,S aI,S aI,I 0,nilV,nilV,nilV,I 0]
def bV(k:Nat):List V->V
 | [] =>nilV
 |_::l=> .arr k l.length
def bA(k:Nat)(ty:TypeId):List V->List (Nat×AE)
 | [] => []
 |x::l=> [(k,⟨l.length, .own,ty,x::l⟩)]
def eI9(x:Event):List Made->Int->St
 | [],n=>mkSt [(1, .box 1 0),(2, .box 2 0),(3, .box 3 0),(4,I n)] [(1,iJ x),(2,zQ),(3,ownC x nilV nilV)] []
 |c::C,n=>mkSt [(1, .box 1 0),(2, .box 2 0),(3, .box 3 0),(4,I n)] [(1,iJ x),(2,zQ),(3,ownC x (.arr 34 C.length) nilV)] [(34,⟨C.length, .own,110,(c::C).map dK⟩)]
def bO5(x:Event):List Made->List Rest->Int->St
 | [],[],n=>mkSt [(1, .box 1 0),(2, .box 2 0),(3, .box 3 0),(5,I n)] [(1,iJ x),(2,zQ),(3,ownC x nilV nilV)] []
 |c::C,[],n=>mkSt [(1, .box 1 0),(2, .box 2 0),(3, .box 3 0),(5,I n)] [(1,iJ x),(2,zQ),(3,ownC x (.arr 34 C.length) nilV)] [(34,⟨C.length, .own,110,(c::C).map dK⟩)]
 | [],r::R,n=>mkSt [(1, .box 1 0),(2, .box 2 0),(3, .box 3 0),(5,I n)] [(1,iJ x),(2,zQ),(3,ownC x nilV (.arr 51 R.length))] [(51,⟨R.length, .own,116,(r::R).map bY⟩)]
 |c::C,r::R,n=>mkSt [(1, .box 1 0),(2, .box 2 0),(3, .box 3 0),(5,I n)] [(1,iJ x),(2,zQ),(3,ownC x (.arr 34 C.length) (.arr 51 R.length))] [(34,⟨C.length, .own,110,(c::C).map dK⟩),(51,⟨R.length, .own,116,(r::R).map bY⟩)]
theorem bB8(x:Event)(hc:x.cuts.length<=1000000)(hr:x.rests.length<=1000000):Sp 16 [aS x] (aS x):=by
 refine zsp Tryz.func16 ?_;have hm1:(x.cuts.map dK).length=x.cuts.length:=Ae;have hm2:(x.rests.map bY).length=x.rests.length:=Ae
 repeat' ((conv=>whnf);first|refine zS ?_|fail)
 refine aU (A:=List Made) (B:=List Made) (fun D R=>eI9 x D D.length) (fun D R=>x.cuts=D++R) (fun D R=>R.length) [] x.cuts ?_ rfl (fun D R hp=>?_)
 ·show Le T _ (eI9 x [] 0)
  exact zj
 cases R with
 |cons c R=>
  have hlen:=aO hp;have hlD:((D++[c]).length:Int)=(D.length:Int)+1:=Ae
  cases D with
  |nil=>
   have h00:([] :List Made).length=0:=rfl
   repeat' ((conv=>whnf);first|(exfalso;omega)|refine gX (of_decide_eq_true rfl) (dA rfl) (show(1:Nat)<=1000000000 from Ak) ?_|refine zS ?_|refine zT ?_ ?_<;>intro _|fail)
   all_goals conv=>whnf
   refine⟨([c],R),?_,hp,Ae⟩;show Le T _ (eI9 x [c] 1);exact zj
  |cons d D=>
   have h00:(d::D).length=D.length+1:=rfl
   repeat' ((conv=>whnf);first|(exfalso;omega)|refine mX (l:=d::D) rfl rfl (.inl rfl) rfl (of_decide_eq_true rfl) rfl Aa ?_|refine zS ?_|refine zT ?_ ?_<;>intro _|fail)
   all_goals conv=>whnf
   refine⟨(d::(D++[c]),R),?_,Af,Ae⟩;have e1:(d::(D++[c])).map dK=(d::D).map dK++[dK c] :=Ae;have e2:(D++[c]).length=D.length+1:=Ae
   show Le T _ (mkSt [(1, .box 1 0),(2, .box 2 0),(3, .box 3 0),(4,I ((d::(D++[c])).length:Nat))] [(1,iJ x),(2,zQ),(3,ownC x (.arr 34 (D++[c]).length) nilV)] [(34,⟨(D++[c]).length, .own,110,(d::(D++[c])).map dK⟩)]);rw[e1,e2];have e3:((d::(D++[c])).length:Int)=((d::D).length:Int)+1:=Ae;rw[e3];exact zj
 |nil=>
  have hlen:x.cuts.length=D.length:=Af;have e:x.cuts=D:=Af
  cases D with
  |nil=>
  ·have hcc:(([] :List Made)).length<=1000000:=by rw[<-e];exact hc
   repeat' ((conv=>whnf);first|(exfalso;omega)|refine zS ?_|refine zT ?_ ?_<;>intro _|fail)
   refine aU (A:=List Rest) (B:=List Rest) (fun D R=>bO5 x [] D D.length) (fun D R=>x.rests=D++R) (fun D R=>R.length) [] x.rests ?_ rfl (fun E R hp=>?_)
   ·show Le T _ (bO5 x [] [] 0)
    exact zj
   cases R with
   |cons r R=>
    have hlen2:=aO hp
    cases E with
    |nil=>
     have h00:([] :List Rest).length=0:=rfl
     repeat' ((conv=>whnf);first|(exfalso;omega)|refine gX (of_decide_eq_true rfl) (dA rfl) (show(1:Nat)<=1000000000 from Ak) ?_|refine zS ?_|refine zT ?_ ?_<;>intro _|fail)
     all_goals conv=>whnf
     refine⟨([r],R),?_,hp,Ae⟩;show Le T _ (bO5 x [] [r] 1);exact zj
    |cons d E=>
     have h00:(d::E).length=E.length+1:=rfl
     repeat' ((conv=>whnf);first|(exfalso;omega)|refine mX (l:=d::E) rfl rfl (.inl rfl) rfl (of_decide_eq_true rfl) rfl Aa ?_|refine zS ?_|refine zT ?_ ?_<;>intro _|fail)
     all_goals conv=>whnf
     refine⟨(d::(E++[r]),R),?_,Af,Ae⟩;have e1:(d::(E++[r])).map bY=(d::E).map bY++[bY r] :=Ae;have e2:(E++[r]).length=E.length+1:=Ae
     have e3:((d::(E++[r])).length:Int)=((d::E).length:Int)+1:=Ae;show Le T _ (mkSt [(1, .box 1 0),(2, .box 2 0),(3, .box 3 0),(5,I ((d::(E++[r])).length:Nat))] [(1,iJ x),(2,zQ),(3,ownC x nilV (.arr 51 (E++[r]).length))] ((51,⟨(E++[r]).length, .own,116,(d::(E++[r])).map bY⟩):: []));rw[e1,e2,e3];exact zj
   |nil=>
    have hlen2:x.rests.length=E.length:=Af;have e4:x.rests=E:=Af
    have ev:aS x= .agg (ownC x (.sl (([] :List Made).map dK)) (.sl (E.map bY))):=by rw[<-e,<-e4];rfl
    exact NZ
  |cons c C=>
  ·have hcc:(((c::C):List Made)).length<=1000000:=by rw[<-e];exact hc
   repeat' ((conv=>whnf);first|(exfalso;omega)|refine zS ?_|refine zT ?_ ?_<;>intro _|fail)
   refine aU (A:=List Rest) (B:=List Rest) (fun D R=>bO5 x (c::C) D D.length) (fun D R=>x.rests=D++R) (fun D R=>R.length) [] x.rests ?_ rfl (fun E R hp=>?_)
   ·show Le T _ (bO5 x (c::C) [] 0)
    exact zj
   cases R with
   |cons r R=>
    have hlen2:=aO hp
    cases E with
    |nil=>
     have h00:([] :List Rest).length=0:=rfl
     repeat' ((conv=>whnf);first|(exfalso;omega)|refine gX (of_decide_eq_true rfl) (dA rfl) (show(1:Nat)<=1000000000 from Ak) ?_|refine zS ?_|refine zT ?_ ?_<;>intro _|fail)
     all_goals conv=>whnf
     refine⟨([r],R),?_,hp,Ae⟩;show Le T _ (bO5 x (c::C) [r] 1);exact zj
    |cons d E=>
     have h00:(d::E).length=E.length+1:=rfl
     repeat' ((conv=>whnf);first|(exfalso;omega)|refine mX (l:=d::E) rfl rfl (.inl rfl) rfl (of_decide_eq_true rfl) rfl Aa ?_|refine zS ?_|refine zT ?_ ?_<;>intro _|fail)
     all_goals conv=>whnf
     refine⟨(d::(E++[r]),R),?_,Af,Ae⟩;have e1:(d::(E++[r])).map bY=(d::E).map bY++[bY r] :=Ae;have e2:(E++[r]).length=E.length+1:=Ae
     have e3:((d::(E++[r])).length:Int)=((d::E).length:Int)+1:=Ae;show Le T _ (mkSt [(1, .box 1 0),(2, .box 2 0),(3, .box 3 0),(5,I ((d::(E++[r])).length:Nat))] [(1,iJ x),(2,zQ),(3,ownC x (.arr 34 C.length) (.arr 51 (E++[r]).length))] ((34,⟨C.length, .own,110,(c::C).map dK⟩)::(51,⟨(E++[r]).length, .own,116,(d::(E++[r])).map bY⟩):: []));rw[e1,e2,e3];exact zj
   |nil=>
    have hlen2:x.rests.length=E.length:=Af;have e4:x.rests=E:=Af
    have ev:aS x= .agg (ownC x (.sl (((c::C):List Made).map dK)) (.sl (E.map bY))):=by rw[<-e,<-e4];rfl
    exact NZ
def aV5(s:Sh):Prop:=s.outer.length<=9223372036854775807/\s.holes.length<=9223372036854775807/\∀h∈s.holes,h.length<=9223372036854775807
def aA4(s:jL):Prop:=aV5 s.shape/\s.defects.length<=9223372036854775807/\∀d∈s.defects,aV5 d
structure bI1(e:Event):Prop where
 sh:aA4 e.sheet
 br:e.bar.defects.length<=9223372036854775807
 ct:e.cuts.length<=9223372036854775807
 rs:e.rests.length<=9223372036854775807
def cntS(n:Int)(l:List Rg):Int:=l.foldl (fun n h=>W (n+(h.length:Int))) n
theorem dP1(n:Int)(D:List Rg)(h:Rg):cntS n (D++[h])=W (cntS n D+(h.length:Int)):=by unfold cntS;simp
def fewS(s:Sh):Prop:=s.holes.length<=3/\cntS s.outer.length s.holes<=24
def xY(s:jL):Prop:=(∀d∈s.defects,fewS d)/\s.grade.size<=40/\s.heat.size<=40/\s.defects.length<=8/\fewS s.shape
def aJ9(b:Bar):Prop:=b.grade.size<=40/\b.heat.size<=40/\b.defects.length<=10
def fewE(e:Event):Prop:=(e.cuts.length<=12/\e.rests.length<=8/\e.text.size<=40/\xY e.sheet/\aJ9 e.bar)/\∀c∈e.cuts,c.part.size<=40
def fewL(l:List Event)(n:Int):Prop:=(∀e∈l,fewE e)/\(l.length:Int)<=n
theorem bR9(s:Sh)(hs:aV5 s):Sp 62 [shV s] (DB (fewS s)):=by
 refine zsp Tryz.func62 ?_;obtain⟨hs1,hs2,hs3⟩:=hs;have hm1:(s.outer.map vcV).length=s.outer.length:=Ae;have hm2:(s.holes.map rgV).length=s.holes.length:=Ae
 have hr:fewS s↔s.holes.length<=3/\cntS s.outer.length s.holes<=24:=Iff.rfl;generalize fewS s=P at*
 repeat' ((conv=>whnf);first|refine zS ?_|fail)
 refine aU (A:=List Rg) (B:=List Rg) (fun D R=>mkSt [(1, .box 1 0),(3,I (cntS s.outer.length D)),(4,I D.length)] [(1,(shV s).cells)] []) (fun D R=>s.holes=D++R) (fun D R=>R.length) [] s.holes ?_ rfl (fun D R hp=>?_)
 ·show Le _ _ (mkSt [(1, .box 1 0),(3,I (s.outer.length:Int)),(4,I 0)] [(1,(shV s).cells)] [])
  rw[<-hm1];exact zj
 cases R with
 |cons h R=>
  have e0:=dP1 s.outer.length D;generalize cntS (s.outer.length:Int) D=n at*;have hlen:=aO hp
  have hhl:h.length<=9223372036854775807:=hs3 h Af;have hhm:(h.map vcV).length=h.length:=Ae
  have e1:=e0 h
  repeat' ((conv=>whnf);first|(exfalso;omega)|refine zS ?_|refine zT ?_ ?_<;>intro _|fail)
  all_goals conv=>whnf
  refine⟨(D++[h],R),?_,Af,Ae⟩;simp only[List.length_append,List.length_singleton,e1];rw[<-hhm];show Le _ _ (mkSt [(1, .box 1 0),(3,I (W (n+((h.map vcV).length:Int)))),(4,I ((D.length:Int)+1))] [(1,(shV s).cells)] []);exact zj
 |nil=>
  have hlen:s.holes.length=D.length:=Af;have e:s.holes=D:=Af
  have hc:cntS (s.outer.length:Int) s.holes=cntS (s.outer.length:Int) D:=by rw[e]
  rw[hc]at hr;generalize cntS (s.outer.length:Int) D=n at*;clear hp e hc
  repeat' ((conv=>whnf);first|(exfalso;omega)|refine zS ?_|refine zT ?_ ?_<;>intro _|fail)
  all_goals conv=>whnf
  ·exact aA (le_dec ⟨fun h=>hr.2 ⟨Aa,h⟩,fun h=>(hr.1 h).2⟩)
  ·exact aA (aC fun h=>by have:=(hr.1 h).1;omega)
theorem bM5(s:jL)(hs:aA4 s):Sp 30 [zJ s] (DB (xY s)):=by
 refine zsp Tryz.func30 ?_;obtain⟨hs1,hs2,hs3⟩:=hs;have hm1:(s.defects.map shV).length=s.defects.length:=Ae;have hr:xY s↔(∀d∈s.defects,fewS d)/\s.grade.size<=40/\s.heat.size<=40/\s.defects.length<=8/\fewS s.shape:=Iff.rfl
 have h1:=bR9 s.shape hs1;generalize xY s=P at*;generalize fewS s.shape=p1 at*
 repeat' ((conv=>whnf);first|refine zS ?_|fail)
 refine aU (A:=List Sh) (B:=List Sh) (fun D R=>mkSt [(1, .box 1 0),(3,I D.length)] [(1,aA7 s)] []) (fun D R=>s.defects=D++R/\∀d∈D,fewS d) (fun D R=>R.length) [] s.defects ?_ ⟨rfl,Ae⟩ (fun D R hp=>?_)
 ·exact zj
 obtain⟨hp,hD⟩:=hp
 cases R with
 |cons d R=>
  have hlen:=aO hp;have hdm:d∈s.defects:=Af
  have g1:=bR9 d (hs3 d hdm);have hq:fewS d↔fewS d:=Iff.rfl
  generalize hQ:fewS d=q1 at*
  repeat' ((conv=>whnf);first|(exfalso;omega)|refine zS ?_|refine zT ?_ ?_<;>intro _|fail)
  all_goals conv=>whnf
  all_goals first
   |exact aA (aC fun h=>absurd ((hr.1 h).1 d hdm) (by rw[hQ];assumption))
   |skip
  refine⟨(D++[d],R),?_,⟨Af,fun z hz=>?_⟩,Ae⟩
  ·exact IA
  ·rcases List.mem_append.1 hz with hz|hz
   ·exact hD z hz
   ·rw[List.mem_singleton.1 hz,hQ];assumption
 |nil=>
  have hlen:s.defects.length=D.length:=Af;have hA:∀d∈s.defects,fewS d:=fun d h=>hD d Ci
  clear hp hD
  repeat' ((conv=>whnf);first|(exfalso;omega)|refine zS ?_|refine zT ?_ ?_<;>intro _|fail)
  all_goals conv=>whnf
  all_goals first
   |exact aA (aC fun h=>by have:=(hr.1 h).2;omega)
   |exact aA (fQ ⟨fun h=>hr.2 ⟨hA,Aa,Aa,Aa,h⟩,fun h=>(hr.1 h).2.2.2.2⟩)
theorem aT9(b:Bar):Sp 31 [barV b] (DB (aJ9 b)):=by
 refine zsp Tryz.func31 ?_;have hm1:(b.defects.map ivV).length=b.defects.length:=Ae;have hr:aJ9 b↔b.grade.size<=40/\b.heat.size<=40/\b.defects.length<=10:=Iff.rfl
 generalize aJ9 b=P at*
 repeat' ((conv=>whnf);first|refine zS ?_|refine zT ?_ ?_<;>intro _|fail)
 all_goals conv=>whnf
 all_goals first
  |exact aA (aC fun h=>GV)
  |exact aA (le_dec ⟨fun h=>hr.2 ⟨Aa,Aa,Aa⟩,fun h=>by have:=(hr.1 h).2.2;omega⟩)
theorem aS2(l:List Event)(n:Int)(hl:l.length<=9223372036854775807)(hb:∀e∈l,bI1 e):Sp 13 [.sl (l.map aS),I n] (DB (fewL l n)):=by
 refine zsp Tryz.func13 ?_;have hm:(l.map aS).length=l.length:=Ae;have hr:fewL l n↔(∀e∈l,fewE e)/\(l.length:Int)<=n:=Iff.rfl
 generalize fewL l n=P at*
 repeat' ((conv=>whnf);first|refine zS ?_|fail)
 refine aU (A:=List Event) (B:=List Event) (fun D R=>mkSt [(0, .sl (l.map aS)),(1,I n),(5,I D.length)] [] []) (fun D R=>l=D++R/\∀d∈D,fewE d) (fun D R=>R.length) [] l ?_ ⟨rfl,Ae⟩ (fun D R hp=>?_)
 ·exact zj
 obtain⟨hp,hD⟩:=hp
 cases R with
 |cons e R=>
  have hlen:=aO hp;have hdm:e∈l:=Af
  obtain⟨b1,b2,b3,b4⟩:=hb e hdm;have g1:=bM5 e.sheet b1;have g2:=aT9 e.bar
  have hc1:(e.cuts.map dK).length=e.cuts.length:=Ae;have hc2:(e.rests.map bY).length=e.rests.length:=Ae
  have hq:fewE e↔(e.cuts.length<=12/\e.rests.length<=8/\e.text.size<=40/\xY e.sheet/\aJ9 e.bar)/\∀c∈e.cuts,c.part.size<=40:=Iff.rfl;have hPe:P->fewE e:=fun h=>(hr.1 h).1 e hdm
  have hD2:fewE e->∀d∈D++[e],fewE d:=fun h d hd=>by
   rcases List.mem_append.1 hd with hd|hd
   ·exact hD d hd
   ·rw[List.mem_singleton.1 hd];exact h
  generalize fewE e=Q at*;generalize xY e.sheet=q1 at*;generalize aJ9 e.bar=q2 at*
  repeat' ((conv=>whnf);first|(exfalso;omega)|refine zS ?_|refine zd (fun hd=>?_) (fun hd=>?_)|refine zl (fun hlt=>?_) (fun hlt=>?_))
  all_goals conv=>whnf
  all_goals first
   |exact aA (aC fun h=>by have:=(hq.1 (hPe h)).1;omega)
   |exact aA (aC fun h=>absurd (hq.1 (hPe h)).1.2.2.2.1 Ag)
   |exact aA (aC fun h=>absurd (hq.1 (hPe h)).1.2.2.2.2 Ag)
   |skip
  refine aU (A:=List Made) (B:=List Made) (fun E S=>mkSt [(0, .sl (l.map aS)),(1,I n),(5,I D.length),(6,I E.length)] [] []) (fun E S=>e.cuts=E++S/\∀c∈E,c.part.size<=40) (fun E S=>S.length) [] e.cuts ?_ ⟨rfl,Ae⟩ (fun E S hs=>?_)
  ·exact zj
  obtain⟨hs,hE⟩:=hs
  cases S with
  |cons c S=>
   have hlen2:=aO hs;have hcm:c∈e.cuts:=by rw[hs];simp
   repeat' ((conv=>whnf);first|(exfalso;omega)|refine zS ?_|refine zl (fun hlt=>?_) (fun hlt=>?_))
   all_goals conv=>whnf
   all_goals first
    |exact aA (aC fun h=>by have:=(hq.1 (hPe h)).2 c hcm;omega)
    |skip
   refine⟨(E++[c],S),?_,⟨by rw[hs];simp,fun z hz=>?_⟩,Ae⟩
   ·exact IA
   ·rcases List.mem_append.1 hz with hz|hz
    ·exact hE z hz
    ·rw[List.mem_singleton.1 hz];omega
  |nil=>
   have hlen2:e.cuts.length=E.length:=by rw[hs];simp
   have hA:∀c∈e.cuts,c.part.size<=40:=fun c h=>hE c (by rw[hs,List.append_nil]at h;exact h)
   clear hs hE
   repeat' ((conv=>whnf);first|(exfalso;omega)|refine zS ?_|refine zl (fun hlt=>?_) (fun hlt=>?_))
   all_goals conv=>whnf
   refine⟨(D++[e],R),?_,⟨Af,hD2 (hq.2 ⟨⟨Aa,Aa,Aa,Ag,Ag⟩,hA⟩)⟩,Ae⟩;exact Nh
 |nil=>
  have hlen:l.length=D.length:=Af;have hA:∀d∈l,fewE d:=fun d h=>hD d Ci
  clear hp hD
  repeat' ((conv=>whnf);first|(exfalso;omega)|refine zS ?_|refine zl (fun hlt=>?_) (fun hlt=>?_))
  all_goals conv=>whnf
  exact aA (le_dec ⟨fun h=>hr.2 ⟨hA,Aa⟩,fun h=>by have:=(hr.1 h).2;omega⟩)
theorem dpT{p:Prop}(h:p):DB p= .lit (.bool true):=congrArg (fun b=>V.lit (.bool b)) (dH.2 h)
theorem dpF{p:Prop}(h:¬p):DB p= .lit (.bool false):=congrArg (fun b=>V.lit (.bool b)) (dW.2 h)
abbrev Len7{α:Type}(l:List α):Prop:=l.length<=9223372036854775807
def shBg(s:Sh):Prop:=s.outer.length<=9223372036854775807/\s.holes.length<=9223372036854775807/\∀h∈s.holes,h.length<=9223372036854775807
theorem big_fits{s:Sh}(h:shBg s)(k:s.holes.length<=1000000):Fits s:=⟨h.1,k,h.2.2⟩
theorem many_no{s:Sh}(k:¬s.holes.length<=1000000):¬bG s:=fun q=>k (by have:=q.1;omega)
theorem shapeOkG_spec(s:Sh)(hs:shBg s):Sp 84 [shV s] (DB (bG s)):=by
 by_cases h:s.holes.length<=1000000
 ·exact wQ s (big_fits hs h)
 ·rw[dpF (many_no h)]
  refine zsp Tryz.func84 ?_;have hll:(s.holes.map rgV).length=s.holes.length:=Ae;have hl2:=hs.2.1
  exact MR
theorem ok_szd{s:Sh}(h:bG s):gV s:=by
 obtain⟨h1,h2,h3,h4⟩:=h;have h40:∀r∈rings s,r.length<=40:=fun r hr=>(h2 r hr).2.1;exact⟨ED,Aa,fun r hr=>ER⟩
theorem area2G_spec(s:Sh)(hs:shBg s):Sp 52 [shV s] (I (uK s)):=by
 by_cases h:bG s
 ·exact cG8 s (ok_szd h)
 ·rw[eC2 h]
  have g:=shapeOkG_spec s hs;rw[dpF h]at g;refine zsp Tryz.func52 ?_
  repeat' ((conv=>whnf);first
   |(refine aS5 (g) false ?_ rfl ?_;focus ((repeat' (first|exact trivial|refine And.intro ?_ ?_|with_reducible rfl|exact(fun h=>Ad)|exact rfl));done))
   |refine eY7 ?_
   |refine eZ1 Ac ?_
   |refine eH4 Aa ?_
   |refine bW7 ?_
   |refine fU (p:=(T.row _).eq=true) Ac ?_
   |refine fU Aa ?_
   |refine fU rfl ?_
   |refine eZ2 ?_
   |refine eZ0 (fun hd=>?_) (fun hd=>?_)
   |refine br_lt (fun hlt=>?_) (fun hlt=>?_)
   |refine br_le (fun hle=>?_) (fun hle=>?_)
   |refine eV7 (fun heq=>?_) (fun heq=>?_)
   |refine eQ9 Aa (fun x hx=>?_)
   |refine eY0 rfl (fun h=>Ad) ?_
   |refine jU (fun hbb=>?_) (fun hbb=>?_)
   |refine ret_i ?_
   |refine fA7 ?_)
  all_goals conv=>whnf
  all_goals first
   |exact aG rfl
   |exact aK rfl
   |exact aP rfl
   |(refine⟨?_,rfl,fun rs h=>V.noConfusion h⟩;(repeat' (first|exact trivial|refine And.intro ?_ ?_|with_reducible rfl|exact(fun h=>Ad)|exact rfl));done)
   |(refine⟨_,rfl,?_⟩;(repeat' (first|exact trivial|refine And.intro ?_ ?_|with_reducible rfl|exact(fun h=>Ad)|exact rfl));done)
def sizeA(x:aN):Int:=if x.isBar then x.bar.length else uK x.sheet.shape
theorem sizeG_vc(x:aN)(hx:shBg x.sheet.shape):fnVC T Tryz.prog Tryz.f22 [aQ x] (I (sizeA x)):=by
 have h1:=area2G_spec x.sheet.shape hx;obtain⟨b,s,br,p⟩:=x;cases b
 ·repeat' ((conv=>whnf);first
   |(refine aS5 (h1) false ?_ rfl ?_;focus ((repeat' (first|exact trivial|refine And.intro ?_ ?_|with_reducible rfl|exact(fun h=>Ad)|exact rfl));done))
   |refine eY7 ?_
   |refine eZ1 Ac ?_
   |refine eH4 Aa ?_
   |refine bW7 ?_
   |refine fU (p:=(T.row _).eq=true) Ac ?_
   |refine fU Aa ?_
   |refine fU rfl ?_
   |refine eZ2 ?_
   |refine eZ0 (fun hd=>?_) (fun hd=>?_)
   |refine br_lt (fun hlt=>?_) (fun hlt=>?_)
   |refine br_le (fun hle=>?_) (fun hle=>?_)
   |refine eV7 (fun heq=>?_) (fun heq=>?_)
   |refine eQ9 Aa (fun x hx=>?_)
   |refine eY0 rfl (fun h=>Ad) ?_
   |refine jU (fun hbb=>?_) (fun hbb=>?_)
   |refine ret_i ?_
   |refine fA7 ?_)
  all_goals conv=>whnf
  all_goals first
   |exact aG rfl
   |exact aK rfl
   |exact aP rfl
   |(refine⟨?_,rfl,fun rs h=>V.noConfusion h⟩;(repeat' (first|exact trivial|refine And.intro ?_ ?_|with_reducible rfl|exact(fun h=>Ad)|exact rfl));done)
   |(refine⟨_,rfl,?_⟩;(repeat' (first|exact trivial|refine And.intro ?_ ?_|with_reducible rfl|exact(fun h=>Ad)|exact rfl));done)
 ·repeat' ((conv=>whnf);first
   |refine eY7 ?_
   |refine eZ1 Ac ?_
   |refine eH4 Aa ?_
   |refine bW7 ?_
   |refine fU (p:=(T.row _).eq=true) Ac ?_
   |refine fU Aa ?_
   |refine fU rfl ?_
   |refine eZ2 ?_
   |refine eZ0 (fun hd=>?_) (fun hd=>?_)
   |refine br_lt (fun hlt=>?_) (fun hlt=>?_)
   |refine br_le (fun hle=>?_) (fun hle=>?_)
   |refine eV7 (fun heq=>?_) (fun heq=>?_)
   |refine eQ9 Aa (fun x hx=>?_)
   |refine eY0 rfl (fun h=>Ad) ?_
   |refine jU (fun hbb=>?_) (fun hbb=>?_)
   |refine ret_i ?_
   |refine fA7 ?_)
  all_goals conv=>whnf
  all_goals first
   |exact aG rfl
   |exact aK rfl
   |exact aP rfl
   |(refine⟨?_,rfl,fun rs h=>V.noConfusion h⟩;(repeat' (first|exact trivial|refine And.intro ?_ ?_|with_reducible rfl|exact(fun h=>Ad)|exact rfl));done)
   |(refine⟨_,rfl,?_⟩;(repeat' (first|exact trivial|refine And.intro ?_ ?_|with_reducible rfl|exact(fun h=>Ad)|exact rfl));done)
theorem sizeG_spec(x:aN)(hx:shBg x.sheet.shape):Sp 22 [aQ x] (I (sizeA x)):=zsp Tryz.func22 (sizeG_vc x hx)
end Go.Proofs.Led
