/-
  The inventory: sizes add up, and identities are different, behind each event.
-/
import Derived.Test.YtkhhdojgbkophaaGreatB39
set_option linter.unusedVariables false
set_option linter.unusedSimpArgs false
namespace Go.Proofs.Led
open Go Go.Proofs Go.Ab
set_option maxRecDepth 100000
set_option maxHeartbeats 4000000
structure Bal(s:aJ):Prop where
 sc:inR s.scrap
 eq:∀b,W (cls b s.scrap+totS b s.stocks+totP b s.pieces)=cls b s.received
 ps:∀p∈s.pieces,1<=p.size/\p.size<=9223372036854775807
 br:∀x∈s.stocks,R6 (gG x)
theorem bal0:Bal inv0:=⟨fun b=>by cases b<;>decide,fun b=>by cases b<;>decide,by simp[inv0],by simp[inv0]⟩
theorem eZ9{s:aJ}(h:Bal s):tK s:=(cD1 h.sc).2 h.eq
theorem cW8{α:Type}(p:α->Bool)(f:α->Int)(c b:Bool):∀(l:List α),(∀x∈l,p x=c)->(l.map fun x=>if p x=b then f x else 0).sum=if c=b then(l.map f).sum else 0
 | [],_=>by simp
 |x::l,h=>by
  rw[List.map_cons,List.sum_cons,cW8 p f c b l (fun y hy=>h y (by simp[hy])),h x (by simp),List.map_cons,List.sum_cons]
  split
  ·rfl
  ·rfl
theorem bK7:∀(l:List Int) (n:Int),R6 n->R6 (subL n l)
 | [],n,h=>h
 |c::l,n,h=>bK7 l (sub1 n c) (bK0 n c)
theorem bH6{e:Event}{x:aN}(hx:(e.kind=1/\x=⟨false,e.sheet,bar0,aI⟩/\dB e.sheet)\/(e.kind=2/\x=⟨true,dN,e.bar,aI⟩/\fM e.bar)):R6 (gG x)/\nC (sid x):=by
 rcases hx with⟨_,rfl,h⟩|⟨_,rfl,h⟩
 ·exact⟨aJ5 _,h.1.1,h.1.2.1⟩
 ·refine⟨?_,h.1.1,h.1.2.1⟩
  show R6 e.bar.length
  have h1:=h.2.1
  have h2:=h.2.2.1
  unfold R6
  omega
theorem aG4(s:aJ)(e:Event)(k:Nat)(m:aN):(cut5 s e k m).pieces=(e.cuts.map (fZ e m)).foldl (putK Piece.id) s.pieces:=by
 show e.cuts.foldl (fun p x=>putP p (fZ e m x)) s.pieces=_
 rw[List.foldl_map];rfl
theorem aF7(s:aJ)(e:Event)(k:Nat)(m:aN):(cut5 s e k m).stocks=(eG m e.rests).foldl (putK sid) (nN s.stocks k):=rfl
theorem yU{m:aN}{l:List Rest}(hr:cZ m [] l=0){x:aN}(hx:x∈eG m l):∃r∈l,x=dZ m r/\iG m r=0:=by
 rw[mV hr]at hx
 obtain⟨r,h1,h2⟩:=List.mem_map.1 hx
 exact⟨r,h1,h2.symm,tZ hr r h1⟩
theorem cM1{x:aN}(h:R6 (gG x)):x.isBar=true->R6 x.bar.length:=fun hb=>by unfold gG at h;rw[if_pos hb]at h;exact h
theorem dN1{m:aN}{r:Rest}(h:iG m r=0):R6 (gG (dZ m r)):=by
 unfold dZ
 split
 ·split
  ·exact aJ5 _
  ·exact aJ5 _
 ·exact nT _
theorem eE0{s s':aJ}{e:Event}(hb:Bal s)(hs:Step s e s'):Bal s':=by
 cases hs with
 |recv x hx hn=>
  obtain⟨v1,v2⟩:=bH6 hx
  refine⟨hb.sc,fun b=>?_,hb.ps,fun y hy=>?_⟩
  ·show W (cls b s.scrap+totS b (putAt s.stocks _ x)+totP b s.pieces)=cls b (plus x.isBar s.received (gG x))
   have h1:totS b (putAt s.stocks (bs sid s.stocks (sid x)) x)=totS b s.stocks+if x.isBar=b then gG x else 0:=bU2 _ _ _ _
   rw[h1,rX,<-hb.eq b]
   split
   ·rw[bF8];congr 1;omega
   ·congr 1;omega
  ·rcases fH.1 hy with rfl|hy
   ·exact v1
   ·exact hb.br y hy
 |setK k m p hk hm hid=>
  refine⟨hb.sc,fun b=>?_,hb.ps,fun y hy=>?_⟩
  ·have h1:totS b (s.stocks.set k (prog m p))=totS b s.stocks:=dF7 _ hm rfl
   show W (cls b s.scrap+totS b (s.stocks.set k (prog m p))+totP b s.pieces)=cls b s.received
   rw[h1];exact hb.eq b
  ·rcases mem_set hy with rfl|hy
   ·exact hb.br m (fC hm)
   ·exact hb.br y hy
 |disc k m hk hm hid=>
  refine⟨cK5 hb.sc,fun b=>?_,hb.ps,fun y hy=>hb.br y ((kM _ _).subset hy)⟩
  show W (cls b (plus m.isBar s.scrap (gG m))+totS b (nN s.stocks k)+totP b s.pieces)=cls b s.received
  have h1:totS b (nN s.stocks k)=totS b s.stocks-if m.isBar=b then gG m else 0:=bP1 _ hm
  rw[h1,rX,<-hb.eq b]
  split
  ·rw[Int.add_assoc,bF8];congr 1;omega
  ·congr 1;omega
 |setP k m st o hk hm hst hid=>
  refine⟨hb.sc,fun b=>?_,fun y hy=>?_,hb.br⟩
  ·have h1:totP b (s.pieces.set k (marked m st o))=totP b s.pieces:=dF7 _ hm rfl
   show W (cls b s.scrap+totS b s.stocks+totP b (s.pieces.set k (marked m st o)))=cls b s.received
   rw[h1];exact hb.eq b
  ·rcases mem_set hy with rfl|hy
   ·exact hb.ps m (fC hm)
   ·exact hb.ps y hy
 |cut k m hk hf hfr hm hid hp hr hl=>
  have hm6:=hb.br m (fC hm)
  have hsc:0<=e.scrap:=hf.2.2.2.2.1
  unfold nJ at hl
  have a1:R6 (subL (gG m) (e.cuts.map Made.size)):=bK7 _ _ hm6
  obtain⟨p1,p2,p3⟩:=bY2 _ _ a1 (fun c hc=>by
   obtain⟨x,hx,rfl⟩:=List.mem_map.1 hc
   obtain⟨r,h1,rfl,h3⟩:=yU hr hx
   exact(yP h3 (cM1 hm6)).1) (by omega)
  obtain⟨q1,q2,q3⟩:=bY2 _ _ hm6 (fun c hc=>by
   obtain⟨x,hx,rfl⟩:=List.mem_map.1 hc
   have:=(hf.1 x hx).2.2
   omega) p2
  refine⟨cK5 hb.sc,fun b=>?_,fun y hy=>?_,fun y hy=>?_⟩
  ·have h1:totS b (cut5 s e k m).stocks=totS b s.stocks- (if m.isBar=b then gG m else 0)+if m.isBar=b then((eG m e.rests).map gG).sum else 0:=by
    rw[aF7]
    unfold totS
    rw[bB7,bP1 _ hm,cW8 (fun x:aN=>x.isBar) gG m.isBar b (eG m e.rests) (fun x hx=>by
     obtain⟨r,h1,rfl,h3⟩:=yU hr hx
     exact(yP h3 (cM1 hm6)).2)]
   have h2:totP b (cut5 s e k m).pieces=totP b s.pieces+if m.isBar=b then(e.cuts.map Made.size).sum else 0:=by
    rw[aG4]
    unfold totP
    rw[bB7,cW8 (fun x:Piece=>x.isBar) Piece.size m.isBar b (e.cuts.map (fZ e m)) (fun x hx=>by
     obtain⟨c,h1,rfl⟩:=List.mem_map.1 hx
     rfl),List.map_map]
    rfl
   rw[h1,h2]
   show W (cls b (plus m.isBar s.scrap e.scrap)+_+_)=cls b s.received
   rw[rX,<-hb.eq b]
   split
   ·rw[Int.add_assoc,bF8];congr 1;omega
   ·congr 1;omega
  ·rw[aG4]at hy
   have hy2:y∈s.pieces\/y∈e.cuts.map (fZ e m):=by
    have key:∀(xs l:List Piece),y∈xs.foldl (putK Piece.id) l->y∈l\/y∈xs:=by
     intro xs
     induction xs with
     |nil=>exact fun l h=> .inl h
     |cons x xs ih=>
      intro l h
      rcases ih _ h with h|h
      ·rcases fH.1 h with rfl|h
       ·exact .inr (by simp)
       ·exact .inl h
      ·exact .inr (by simp[h])
    exact key _ _ hy
   rcases hy2 with hy|hy
   ·exact hb.ps y hy
   ·obtain⟨c,hc,rfl⟩:=List.mem_map.1 hy
    have h1:=(hf.1 c hc).2.2
    have h2:=q3 c.size (List.mem_map_of_mem hc)
    unfold R6 at hm6
    exact⟨h1,by show c.size<=_;omega⟩
  ·rw[aF7]at hy
   have hy2:y∈nN s.stocks k\/y∈eG m e.rests:=by
    have key:∀(xs l:List aN),y∈xs.foldl (putK sid) l->y∈l\/y∈xs:=by
     intro xs
     induction xs with
     |nil=>exact fun l h=> .inl h
     |cons x xs ih=>
      intro l h
      rcases ih _ h with h|h
      ·rcases fH.1 h with rfl|h
       ·exact .inr (by simp)
       ·exact .inl h
      ·exact .inr (by simp[h])
    exact key _ _ hy
   rcases hy2 with hy|hy
   ·exact hb.br y ((kM _ _).subset hy)
   ·obtain⟨r,h1,rfl,h3⟩:=yU hr hy
    exact dN1 h3
structure Ids(s:aJ):Prop where
 dj:∀x∈s.stocks,∀p∈s.pieces,sid x≠p.id
 par:∀p∈s.pieces,p.parent∈s.used
 rng:∀n∈s.used,nC n
theorem ids0:Ids inv0:=⟨by simp[inv0],by simp[inv0],by simp[inv0]⟩
theorem cG6{s s':aJ}{e:Event}{n:Nat}(h:Ok s n)(hi:Ids s)(hs:Step s e s'):Ids s'/\∀y∈s.used,y∈s'.used:=by
 cases hs with
 |recv x hx hn=>
  obtain⟨v1,v2⟩:=bH6 hx
  have hmu:∀y,y∈putN s.used (sid x)↔y=sid x\/y∈s.used:=fun y=>fH
  refine⟨⟨fun y hy p hp=>?_,fun p hp=>(hmu _).2 (.inr (hi.par p hp)),fun y hy=>?_⟩,fun y hy=>(hmu _).2 (.inr hy)⟩
  ·rcases fH.1 hy with rfl|hy
   ·intro e;exact hn (by rw[e];exact h.up p hp)
   ·exact hi.dj y hy p hp
  ·rcases(hmu _).1 hy with rfl|hy
   ·exact v2
   ·exact hi.rng y hy
 |setK k m p hk hm hid=>
  refine⟨⟨fun y hy q hq=>?_,hi.par,hi.rng⟩,fun y hy=>hy⟩
  rcases mem_set hy with rfl|hy
  ·exact hi.dj m (fC hm) q hq
  ·exact hi.dj y hy q hq
 |disc k m hk hm hid=>exact⟨⟨fun y hy q hq=>hi.dj y ((kM _ _).subset hy) q hq,hi.par,hi.rng⟩,fun y hy=>hy⟩
 |setP k m st o hk hm hst hid=>
  refine⟨⟨fun y hy q hq=>?_,fun q hq=>?_,hi.rng⟩,fun y hy=>hy⟩
  ·rcases mem_set hq with rfl|hq
   ·exact hi.dj y hy m (fC hm)
   ·exact hi.dj y hy q hq
  ·rcases mem_set hq with rfl|hq
   ·exact hi.par m (fC hm)
   ·exact hi.par q hq
 |cut k m hk hf hfr hm hid hp hr hl=>
  obtain⟨a1,a2,a3⟩:=bJ9 (k:=k) h hfr hr (List.append_nil _).symm
  obtain⟨b1,b2,b3⟩:=bC5 (m:=m) h hfr (List.append_nil _).symm
  obtain⟨f1,f2⟩:=qJ.1 hfr
  have hidm:∀x∈eG m e.rests,sid x∈e.rests.map Rest.id:=fun x hx=>by rw[<-aG9 hr];exact List.mem_map_of_mem hx
  have hu:∀y,y∈cO s.used (fO e)↔y∈s.used\/y∈fO e:=fun y=>tY
  unfold fO at f1 f2
  rw[List.pairwise_append]at f2
  refine⟨⟨fun y hy q hq=>?_,fun q hq=>?_,fun y hy=>?_⟩,fun y hy=>(hu y).2 (.inl hy)⟩
  ·rcases(a2 y).1 hy with hy|hy<;>rcases(b2 q).1 hq with hq|hq
   ·exact hi.dj y ((kM _ _).subset hy) q hq
   ·obtain⟨c,hc,rfl⟩:=List.mem_map.1 hq
    intro e2
    have e3:sid y=c.id:=e2
    exact f1 c.id (by simp only[List.mem_append];exact .inl (List.mem_map_of_mem hc)) (by rw[<-e3];exact h.us y ((kM _ _).subset hy))
   ·intro e2
    exact f1 (sid y) (by simp only[List.mem_append];exact .inr (hidm y hy)) (by rw[e2];exact h.up q hq)
   ·obtain⟨c,hc,rfl⟩:=List.mem_map.1 hq
    intro e2
    exact f2.2.2 c.id (List.mem_map_of_mem hc) (sid y) (hidm y hy) e2.symm
  ·refine(hu _).2 (.inl ?_)
   rcases(b2 q).1 hq with hq|hq
   ·exact hi.par q hq
   ·obtain⟨c,hc,rfl⟩:=List.mem_map.1 hq
    show e.id∈_
    rw[<-hid]
    exact h.us m (fC hm)
  ·rcases(hu y).1 hy with hy|hy
   ·exact hi.rng y hy
   ·unfold fO at hy
    rcases List.mem_append.1 hy with hy|hy
    ·obtain⟨c,hc,rfl⟩:=List.mem_map.1 hy
     exact(hf.1 c hc).1
    ·obtain⟨r,hr',rfl⟩:=List.mem_map.1 hy
     exact(hf.2.1 r hr').1
theorem dP0{s:aJ}{e:Event}(hf:iD e)(hk:e.kind=2):appR s e=nM s ⟨true,dN,e.bar,aI⟩:=by
 unfold appR bP2
 rw[if_pos hf,if_neg (by omega),if_pos hk]
theorem dW9{s:aJ}{x:aN}(h:sid x∉s.used):nM s x=(aX7 s x,0):=by unfold nM;rw[if_neg h]
theorem bT0{s:aJ}{n:Int}{m:aN}{f:aN->aJ×Int}(h1:∃m∈s.stocks,sid m=n)(h2:s.stocks[bs sid s.stocks n]? =some m):aD6 s n f=f m:=by unfold aD6;rw[if_pos h1,h2]
theorem dR0{s:aJ}{n:Int}{f:aN->aJ×Int}(h1:¬∃m∈s.stocks,sid m=n):aD6 s n f=(inv0,8):=by unfold aD6;rw[if_neg h1]
theorem eM5{s:aJ}{e:Event}{m:aN}(hf:iD e)(hk:e.kind=3)(h1:∃m∈s.stocks,sid m=e.id)(h2:s.stocks[bs sid s.stocks e.id]? =some m)(hp:m.program=aI):
 appR s e=(setK s (bs sid s.stocks e.id) (prog m e.text),0):=by
 unfold appR bP2
 rw[if_pos hf,if_neg (by omega),if_neg (by omega),if_pos hk]
 unfold relR
 rw[bT0 h1 h2,if_pos hp]
theorem aY8{s:aJ}{e:Event}(hf:iD e)(hk:e.kind=5):appR s e=cutR s e:=by
 unfold appR bP2
 rw[if_pos hf,if_neg (by omega),if_neg (by omega),if_neg (by omega),if_neg (by omega),if_pos hk]
theorem dF5{s:aJ}{e:Event}(h:¬dP s.used (fO e)):cutR s e=(inv0,7):=by unfold cutR;rw[if_pos h]
theorem cF5{s:aJ}{e:Event}(h:dP s.used (fO e))(h1:¬∃m∈s.stocks,sid m=e.id):cutR s e=(inv0,8):=by unfold cutR;rw[if_neg (Classical.not_not.2 h),dR0 h1]
theorem bG4{s:aJ}{e:Event}{m:aN}(h:dP s.used (fO e))(h1:∃m∈s.stocks,sid m=e.id)(h2:s.stocks[bs sid s.stocks e.id]? =some m):
 cutR s e=open Classical in if m.program=aI then(inv0,10)else if cZ m [] e.rests≠0 then(inv0,cZ m [] e.rests)else if nJ m e≠e.scrap then(inv0,29)else(cut5 s e (bs sid s.stocks e.id) m,0):=by
 unfold cutR
 rw[if_neg (Classical.not_not.2 h),bT0 h1 h2]
def kV(e:Event)(c:Int):Event:={e with scrap:=c}
theorem refused{s:aJ}{e:Event}{n:Nat}{c:Int}(h:Ok s n)(h0:(appR s e).2=0)(hk:e.kind=5)(hc:c≠e.scrap):
 appR s (kV e c)=(inv0,29)\/appR s (kV e c)=(inv0,1):=by
 by_cases hf:iD (kV e c)
 rotate_left
 ·right
  unfold appR
  rw[if_neg hf]
 left
 have hfe:=(aZ6 h h0).1
 rw[aY8 hfe hk]at h0
 rw[aY8 hf hk]
 by_cases c1:dP s.used (fO e)
 rotate_left
 ·rw[dF5 c1]at h0;cases h0
 by_cases h1:∃m∈s.stocks,sid m=e.id
 rotate_left
 ·rw[cF5 c1 h1]at h0;cases h0
 obtain⟨m,h2,h3⟩:=aB8 h.ss h1
 rw[bG4 c1 h1 h2]at h0
 rw[bG4 (e:=kV e c) (m:=m) c1 h1 h2]
 by_cases c2:m.program=aI
 ·rw[if_pos c2]at h0;cases h0
 rw[if_neg c2]at h0⊢
 have er:(kV e c).rests=e.rests:=rfl
 rw[er]
 by_cases c3:cZ m [] e.rests≠0
 ·rw[if_pos c3]at h0;exact absurd h0 c3
 rw[if_neg c3]at h0⊢
 by_cases c4:nJ m e≠e.scrap
 ·rw[if_pos c4]at h0;cases h0
 have c5:nJ m (kV e c)≠(kV e c).scrap:=fun hh=>hc (hh.symm.trans (Classical.not_not.1 c4))
 rw[if_pos c5]
theorem cP2{n d:Int}(hd:d≠0/\-1000<=d/\d<=1000):W (n+d)≠n:=by
 obtain⟨k,hk⟩:=dC2 (n+d)
 omega
def nD(b:Bar):Event:=⟨2,0,aI,dN,b,[],[],0⟩
theorem no0:pJ dN:=⟨rfl,rfl,rfl,rfl,rfl,rfl,rfl⟩
theorem nob0:yT bar0:=⟨rfl,rfl,rfl,rfl,rfl⟩
theorem bM8{b:Bar}(h:fM b):iD (nD b):=
 ⟨fun _=>⟨rfl,rfl⟩,fun q=>absurd (.inr rfl) q,fun _=>⟨rfl,rfl,rfl⟩,fun q=>(by cases q),fun _=>⟨no0,h⟩,fun q=>(by rcases q with q|q<;>cases q),fun q=>(by rcases q with q|q|q<;>cases q),fun q=>(by cases q),show(1:Int)<=2 by decide,show(2:Int)<=8 by decide⟩
def uX(n:Int)(t:ByteArray):Event:=⟨3,n,t,dN,bar0,[],[],0⟩
theorem bY3{n:Int}{t:ByteArray}(h:iM t):iD (uX n t):=
 ⟨fun q=>(by rcases q with q|q<;>cases q),fun _=>⟨no0,nob0⟩,fun _=>⟨rfl,rfl,rfl⟩,fun q=>(by cases q),fun q=>(by cases q),fun _=>h,fun q=>(by rcases q with q|q|q<;>cases q),fun q=>(by cases q),show(1:Int)<=3 by decide,show(3:Int)<=8 by decide⟩
def xC(n:Int)(c:List Made)(r:List Rest)(z:Int):Event:=⟨5,n,aI,dN,bar0,c,r,z⟩
theorem aK5{n:Int}{c:List Made}{r:List Rest}{z:Int}(h1:∀x∈c,bU7 x)(h2:∀x∈r,bR4 x)(h3:c.length<=60)(h4:r.length<=6)(h5:0<=z):iD (xC n c r z):=
 ⟨fun q=>(by rcases q with q|q<;>cases q),fun _=>⟨no0,nob0⟩,fun q=>absurd rfl q,fun q=>(by cases q),fun q=>(by cases q),fun q=>(by rcases q with q|q<;>cases q),fun q=>(by rcases q with q|q|q<;>cases q),fun _=>⟨h1,h2,h3,h4,h5,rfl⟩,show(1:Int)<=5 by decide,show(5:Int)<=8 by decide⟩
def chB(c:UInt8):ByteArray:=⟨#[c]⟩
theorem yM{c:UInt8}(h:97<=c.toNat/\c.toNat<=122):iM (chB c):=by
 have hb:byteAt (chB c) 0=(c.toNat:Int):=by unfold byteAt;rfl
 refine⟨Nat.le_refl 1,show(1:Nat)<=16 by decide,?_,fun i hi=>?_⟩
 ·rw[hb];exact .inl (by omega)
 ·have h1:(chB c).size=1:=rfl
  have:i=0:=by omega
  subst this
  rw[hb];exact .inl (.inl (by omega))
theorem eR5{s s':aJ}{e:Event}{n:Nat}(h:Ok s n)(hs:Step s e s'):Ok s' (n+more e):=by
 have hm:1<=more e:=by unfold more;omega
 cases hs with
 |recv x hx hn=>
  refine(dD4 h ?_ hn).mono (by omega)
  rcases hx with⟨_,rfl,h⟩|⟨_,rfl,h⟩
  ·exact⟨aX9 h,Nat.zero_le _⟩
  ·exact⟨xZ,Nat.le_trans h.2.2.2.1 (by decide)⟩
 |setK k m p hk hm hid=>exact(bW3 h hm p).mono (by omega)
 |disc k m hk hm hid=>exact(dD6 h k m).mono (by omega)
 |setP k m st o hk hm hst hid=>exact(dE1 h hm st o).mono (by omega)
 |cut k m hk hf hfr hm hid hp hr hl=>exact cP7 ((aZ7 (R:=[]) (Q:=[]) h hm hfr hr (List.append_nil _).symm (List.append_nil _).symm).mono (by unfold more;omega)) _
structure Good(s:aJ)(n:Nat):Prop where
 ok:Ok s n
 bal:Bal s
 ids:Ids s
theorem cN2:Good inv0 0:=⟨ok0,bal0,ids0⟩
theorem good_step{s:aJ}{e:Event}{n:Nat}(h:Good s n)(h0:(appR s e).2=0):Good (appR s e).1 (n+more e):=by
 have hs:=(aZ6 h.ok h0).2
 exact⟨eR5 h.ok hs,eE0 h.bal hs,(cG6 h.ok h.ids hs).1⟩
theorem Good.mono{s:aJ}{n m:Nat}(h:Good s n)(hn:n<=m):Good s m:=⟨h.ok.mono hn,h.bal,h.ids⟩
noncomputable def kL(s:aJ)(i:Int):List Event->aJ×Int×Int
 | [] =>(s,i,0)
 |x::l=>if(appR s x).2=0 then kL (appR s x).1 (i+1) l else(s,i,(appR s x).2)
def barS(b:Bar)(p:ByteArray):aN:=⟨true,dN,b,p⟩
noncomputable def st1(b:Bar):aJ:=aX7 inv0 (barS b aI)
noncomputable def st2(b:Bar)(p:ByteArray):aJ:=⟨[barS b p],[],[b.id],(0,W (0+b.length)),(0,0)⟩
theorem dI8{b:Bar}{p:ByteArray}{q:List Piece}{u:List Int}{r c:Iv}:(∃m∈(aJ.mk [barS b p] q u r c).stocks,sid m=b.id)/\(aJ.mk [barS b p] q u r c).stocks[bs sid [barS b p] b.id]? =some (barS b p)/\bs sid [barS b p] b.id=0:=by
 have h0:bs sid [barS b p] b.id=0:=by
  unfold bs
  have:decide (sid (barS b p)<b.id)=false:=decide_eq_false (by show¬b.id<b.id;omega)
  simp[List.takeWhile,this]
 exact⟨⟨barS b p,by simp,rfl⟩,by rw[h0];rfl,h0⟩
theorem dH7{b:Bar}{p:ByteArray}{x:Event}(hb:fM b)(hp:iM p)(hx:iD x)(hk:x.kind=5)(hid:x.id=b.id)(hfr:dP [b.id] (fO x))(hr:cZ (barS b p) [] x.rests=0)(hl:nJ (barS b p) x=x.scrap):
 kL inv0 0 [nD b,uX b.id p,x] =(cut5 (st2 b p) x 0 (barS b p),3,0)/\appR inv0 (nD b)=(st1 b,0)/\appR (st1 b) (uX b.id p)=(st2 b p,0)/\appR (st2 b p) x=(cut5 (st2 b p) x 0 (barS b p),0):=by
 have e1:appR inv0 (nD b)=(st1 b,0):=by
  rw[dP0 (bM8 hb) rfl]
  exact dW9 (by simp[inv0])
 have e2:appR (st1 b) (uX b.id p)=(st2 b p,0):=by
  obtain⟨q1,q2,q3⟩:=dI8 (b:=b) (p:=aI) (q:=[]) (u:=[b.id]) (r:=(0,W (0+b.length))) (c:=(0,0))
  rw[eM5 (s:=st1 b) (bY3 hp) rfl (m:=barS b aI) q1 q2 rfl]
  show(setK (st1 b) (bs sid [barS b aI] b.id) _,(0:Int))=_
  rw[q3]
  rfl
 have hne:p≠aI:=by
  rintro rfl
  exact absurd hp.1 (by decide)
 have e3:appR (st2 b p) x=(cut5 (st2 b p) x 0 (barS b p),0):=by
  obtain⟨q1,q2,q3⟩:=dI8 (b:=b) (p:=p) (q:=[]) (u:=[b.id]) (r:=(0,W (0+b.length))) (c:=(0,0))
  rw[aY8 hx hk,bG4 (m:=barS b p) hfr (by rw[hid];exact q1) (by rw[hid];exact q2),if_neg (show¬(barS b p).program=aI from hne),if_neg (Classical.not_not.2 hr),if_neg (Classical.not_not.2 hl),hid]
  show(cut5 (st2 b p) x (bs sid [barS b p] b.id) _,(0:Int))=_
  rw[q3]
 refine⟨?_,e1,e2,e3⟩
 unfold kL
 rw[e1,if_pos rfl]
 unfold kL
 rw[e2,if_pos rfl]
 unfold kL
 rw[e3,if_pos rfl]
 rfl
theorem aC6:∀(l:List Int) (n:Int),R6 n->n≠9223372036854775807->(∀c∈l,0<=c)->l.sum<=n->subL n l=n-l.sum
 | [],n,_,_,_,_=>by show n=n-0;omega
 |c::l,n,hn,hm,hc,hs=>by
  have h0:=hc c (by simp)
  have hl:0<=l.sum:=by
   have key:∀(l:List Int),(∀x∈l,0<=x)->0<=l.sum:=by
    intro l
    induction l with
    |nil=>simp
    |cons x l ih=>
     intro h
     have h1:=ih (fun y hy=>h y (by simp[hy]))
     have h2:=h x (by simp)
     rw[List.sum_cons];omega
   exact key l (fun x hx=>hc x (by simp[hx]))
  rw[List.sum_cons]at hs
  unfold R6 at hn
  have e:sub1 n c=n-c:=by
   unfold sub1
   rw[lH,w_in (n:=n+1) (by omega),Int.min_eq_left (by omega),w_in (by omega)]
  show subL (sub1 n c) l=_
  rw[e,aC6 l (n-c) (by unfold R6;omega) (by omega) (fun x hx=>hc x (by simp[hx])) (by omega),List.sum_cons]
  omega
end Go.Proofs.Led
namespace Go.Proofs.Led
open Go Go.Proofs Go.Ab
set_option maxRecDepth 100000
set_option maxHeartbeats 8000000
def moreL(l:List Event):Nat:=(l.map more).sum
theorem vX(l:List Event)(he:∀e∈l,iY e)(hb:moreL l<=1000000)(hl:l.length<=1000000):Sp 21 [.sl (l.map aS)] (.tup [invV (kL inv0 0 l).1,I (kL inv0 0 l).2.1,I (kL inv0 0 l).2.2]):=by
 refine zsp Tryz.func21 ?_
 have hm:(l.map aS).length=l.length:=by simp
 generalize hr:kL inv0 0 l=q
 repeat' ((conv=>whnf);first|refine zg ?_)
 refine oU (A:=aJ) (B:=List Event) (C:=List Event) (fun s D R=>mkSt [(0, .sl (l.map aS)),(2, .box 2 0),(3,I 0),(4,I 0),(9, .sl (l.map aS)),(10,I l.length),(11,I D.length)] [(2,invC s)] []) (fun s D R=>l=D++R/\kL s D.length R=q/\∃n,Ok s n/\n+moreL R<=1000000) (fun s D R=>R.length) inv0 [] l ?_ ⟨rfl,hr,0,ok0,by omega⟩ (fun s D R hp=>?_)
 ·show Le T _ (mkSt [(0, .sl (l.map aS)),(2, .box 2 0),(3,I 0),(4,I 0),(9, .sl (l.map aS)),(10,I l.length),(11,I 0)] [(2,invC inv0)] [])
  refine dV ?_ ?_ ?_ ?_
  all_goals repeat' (first|exact trivial|refine And.intro ?_ ?_|with_reducible rfl|exact(fun h=>by cases h)|exact Nat.le_refl _|omega|exact rfl)
  all_goals (try rw[hm])
 obtain⟨hp,hq,n,hn,hnl⟩:=hp
 cases R with
 |nil=>
  have hlen:l.length=D.length:=by rw[hp];simp
  have e:q=(s,(D.length:Int),0):=by rw[<-hq];rfl
  rw[e]
  repeat' ((conv=>whnf);first|(exfalso;omega)|refine zg ?_|refine zz (fun _=>?_) fun _=>?_|refine zr ?_)
  all_goals conv=>whnf
  refine⟨_,rfl,?_⟩
  rw[hm,hlen]
  (repeat' (first|exact trivial|refine And.intro ?_ ?_|with_reducible rfl|exact(fun h=>by cases h)|exact rfl));done
 |cons e R=>
  have hlen:=aO hp
  have em:moreL (e::R)=more e+moreL R:=by unfold moreL;simp
  have g:=kG hn (e:=e) (by omega) (he e (by rw[hp];simp))
  obtain⟨g1,g2⟩:=g
  have hlD:((D++[e]).length:Int)=(D.length:Int)+1:=by simp
  have hqq:kL s D.length (e::R)=if(appR s e).2=0 then kL (appR s e).1 ((D.length:Int)+1) R else(s,(D.length:Int),(appR s e).2):=rfl
  rw[hqq]at hq
  generalize appR s e=a at*
  by_cases c:a.2=0
  ·rw[if_pos c]at hq
   have g3:=g2 c
   rw[c]at g1
   repeat' ((conv=>whnf);first|(exfalso;omega)|refine aB (l:=l) (by omega) ?_|refine aF (l:=l) (A:=D) (x:=e) (B:=R) hp (by omega) ?_|refine zc g1 ?_|refine zg ?_|refine za ?_|refine zn ?_|refine zz (fun _=>?_) fun _=>?_)
   all_goals conv=>whnf
   refine⟨(a.1,D++[e],R),?_,⟨by rw[hp];simp,by rw[hlD];exact hq,n+more e,g3,by show n+more e+moreL R<=1000000;omega⟩,by simp⟩
   simp only[List.length_append,List.length_singleton]
   exact zj
  ·rw[if_neg c]at hq
   subst hq
   repeat' ((conv=>whnf);first|(exfalso;omega)|refine aB (l:=l) (by omega) ?_|refine aF (l:=l) (A:=D) (x:=e) (B:=R) hp (by omega) ?_|refine zc g1 ?_|refine zg ?_|refine zn ?_|refine zz (fun _=>?_) fun _=>?_|refine zr ?_)
   all_goals conv=>whnf
   all_goals first|exact aG rfl|exact aK rfl|exact aP rfl|exact zt|exact zu
abbrev Len6{α:Type}(l:List α):Prop:=l.length<=9223372036854775807
def ownC(x:Event)(c r:V):List V:=[I x.kind,I x.id,S x.text,I x.sheet.id,S x.sheet.grade,S x.sheet.heat,I x.sheet.grain,rgV x.sheet.shape.outer, .sl (x.sheet.shape.holes.map rgV), .sl (x.sheet.defects.map shV),
 I x.bar.id,S x.bar.grade,S x.bar.heat,I x.bar.length, .sl (x.bar.defects.map ivV),c,r,I x.scrap]
abbrev zSheet:List V:=[I 0,S aI,S aI,I 0,nilV,nilV,nilV]
abbrev zQ:List V:=[I 0,I 0,S aI,I 0,S aI,S aI,I 0,nilV,nilV,nilV,I 0,S aI,S aI,I 0,nilV,nilV,nilV,I 0]
def bV(k:Nat):List V->V
 | [] =>nilV
 |_::l=> .arr k l.length
def bA(k:Nat)(ty:TypeId):List V->List (Nat×AE)
 | [] => []
 |x::l=> [(k,⟨l.length, .own,ty,x::l⟩)]
noncomputable def eI9(x:Event):List Made->Int->St
 | [],n=>mkSt [(1, .box 1 0),(2, .box 2 0),(3, .box 3 0),(4,I n)] [(1,iJ x),(2,zQ),(3,ownC x nilV nilV)] []
 |c::C,n=>mkSt [(1, .box 1 0),(2, .box 2 0),(3, .box 3 0),(4,I n)] [(1,iJ x),(2,zQ),(3,ownC x (.arr 34 C.length) nilV)] [(34,⟨C.length, .own,82,(c::C).map dK⟩)]
noncomputable def bO5(x:Event):List Made->List Rest->Int->St
 | [],[],n=>mkSt [(1, .box 1 0),(2, .box 2 0),(3, .box 3 0),(5,I n)] [(1,iJ x),(2,zQ),(3,ownC x nilV nilV)] []
 |c::C,[],n=>mkSt [(1, .box 1 0),(2, .box 2 0),(3, .box 3 0),(5,I n)] [(1,iJ x),(2,zQ),(3,ownC x (.arr 34 C.length) nilV)] [(34,⟨C.length, .own,82,(c::C).map dK⟩)]
 | [],r::R,n=>mkSt [(1, .box 1 0),(2, .box 2 0),(3, .box 3 0),(5,I n)] [(1,iJ x),(2,zQ),(3,ownC x nilV (.arr 51 R.length))] [(51,⟨R.length, .own,80,(r::R).map bY⟩)]
 |c::C,r::R,n=>mkSt [(1, .box 1 0),(2, .box 2 0),(3, .box 3 0),(5,I n)] [(1,iJ x),(2,zQ),(3,ownC x (.arr 34 C.length) (.arr 51 R.length))] [(34,⟨C.length, .own,82,(c::C).map dK⟩),(51,⟨R.length, .own,80,(r::R).map bY⟩)]
theorem bB8(x:Event)(hc:x.cuts.length<=1000000)(hr:x.rests.length<=1000000):Sp 15 [aS x] (aS x):=by
 refine zsp Tryz.func15 ?_
 have hm1:(x.cuts.map dK).length=x.cuts.length:=by simp
 have hm2:(x.rests.map bY).length=x.rests.length:=by simp
 repeat' ((conv=>whnf);first|refine zg ?_)
 refine aU (A:=List Made) (B:=List Made) (fun D R=>eI9 x D D.length) (fun D R=>x.cuts=D++R) (fun D R=>R.length) [] x.cuts ?_ rfl (fun D R hp=>?_)
 ·show Le T _ (eI9 x [] 0)
  exact zj
 cases R with
 |cons c R=>
  have hlen:=aO hp
  have hlD:((D++[c]).length:Int)=(D.length:Int)+1:=by simp
  cases D with
  |nil=>
   have h00:([] :List Made).length=0:=rfl
   repeat' ((conv=>whnf);first|(exfalso;omega)|refine aB (l:=x.cuts) (by omega) ?_|refine aF (l:=x.cuts) (A:=[]) (x:=c) (B:=R) hp (by omega) ?_|refine gX (of_decide_eq_true rfl) (dA rfl) (show(1:Nat)<=1000000000 from by decide) ?_|refine zg ?_|refine zi ?_|refine za ?_|refine zv ?_|refine zz (fun _=>?_) fun _=>?_)
   all_goals conv=>whnf
   refine⟨([c],R),?_,hp,by simp⟩
   show Le T _ (eI9 x [c] 1)
   exact zj
  |cons d D=>
   have h00:(d::D).length=D.length+1:=rfl
   repeat' ((conv=>whnf);first|(exfalso;omega)|refine aB (l:=x.cuts) (by omega) ?_|refine aF (l:=x.cuts) (A:=d::D) (x:=c) (B:=R) hp (by omega) ?_|refine mX (l:=d::D) rfl rfl (.inl rfl) rfl (of_decide_eq_true rfl) rfl (by omega) ?_|refine zg ?_|refine zi ?_|refine za ?_|refine zv ?_|refine zz (fun _=>?_) fun _=>?_)
   all_goals conv=>whnf
   refine⟨(d::(D++[c]),R),?_,by rw[hp];simp,by simp⟩
   have e1:(d::(D++[c])).map dK=(d::D).map dK++[dK c] :=by simp
   have e2:(D++[c]).length=D.length+1:=by simp
   show Le T _ (mkSt [(1, .box 1 0),(2, .box 2 0),(3, .box 3 0),(4,I ((d::(D++[c])).length:Nat))] [(1,iJ x),(2,zQ),(3,ownC x (.arr 34 (D++[c]).length) nilV)] [(34,⟨(D++[c]).length, .own,82,(d::(D++[c])).map dK⟩)])
   rw[e1,e2]
   have e3:((d::(D++[c])).length:Int)=((d::D).length:Int)+1:=by simp
   rw[e3]
   exact zj
 |nil=>
  have hlen:x.cuts.length=D.length:=by rw[hp];simp
  have e:x.cuts=D:=by rw[hp];simp
  cases D with
  |nil=>
  ·have hcc:(([] :List Made)).length<=1000000:=by rw[<-e];exact hc
   repeat' ((conv=>whnf);first|(exfalso;omega)|refine zg ?_|refine zz (fun _=>?_) fun _=>?_)
   refine aU (A:=List Rest) (B:=List Rest) (fun D R=>bO5 x [] D D.length) (fun D R=>x.rests=D++R) (fun D R=>R.length) [] x.rests ?_ rfl (fun E R hp=>?_)
   ·show Le T _ (bO5 x [] [] 0)
    exact zj
   cases R with
   |cons r R=>
    have hlen2:=aO hp
    cases E with
    |nil=>
     have h00:([] :List Rest).length=0:=rfl
     repeat' ((conv=>whnf);first|(exfalso;omega)|refine aB (l:=x.rests) (by omega) ?_|refine aF (l:=x.rests) (A:=[]) (x:=r) (B:=R) hp (by omega) ?_|refine gX (of_decide_eq_true rfl) (dA rfl) (show(1:Nat)<=1000000000 from by decide) ?_|refine zg ?_|refine zi ?_|refine za ?_|refine zv ?_|refine zz (fun _=>?_) fun _=>?_)
     all_goals conv=>whnf
     refine⟨([r],R),?_,hp,by simp⟩
     show Le T _ (bO5 x [] [r] 1)
     exact zj
    |cons d E=>
     have h00:(d::E).length=E.length+1:=rfl
     repeat' ((conv=>whnf);first|(exfalso;omega)|refine aB (l:=x.rests) (by omega) ?_|refine aF (l:=x.rests) (A:=d::E) (x:=r) (B:=R) hp (by omega) ?_|refine mX (l:=d::E) rfl rfl (.inl rfl) rfl (of_decide_eq_true rfl) rfl (by omega) ?_|refine zg ?_|refine zi ?_|refine za ?_|refine zv ?_|refine zz (fun _=>?_) fun _=>?_)
     all_goals conv=>whnf
     refine⟨(d::(E++[r]),R),?_,by rw[hp];simp,by simp⟩
     have e1:(d::(E++[r])).map bY=(d::E).map bY++[bY r] :=by simp
     have e2:(E++[r]).length=E.length+1:=by simp
     have e3:((d::(E++[r])).length:Int)=((d::E).length:Int)+1:=by simp
     show Le T _ (mkSt [(1, .box 1 0),(2, .box 2 0),(3, .box 3 0),(5,I ((d::(E++[r])).length:Nat))] [(1,iJ x),(2,zQ),(3,ownC x nilV (.arr 51 (E++[r]).length))] ((51,⟨(E++[r]).length, .own,80,(d::(E++[r])).map bY⟩):: []))
     rw[e1,e2,e3]
     exact zj
   |nil=>
    have hlen2:x.rests.length=E.length:=by rw[hp];simp
    have e4:x.rests=E:=by rw[hp];simp
    have ev:aS x= .agg (ownC x (.sl (([] :List Made).map dK)) (.sl (E.map bY))):=by rw[<-e,<-e4];rfl
    rw[ev]
    cases E with
    |nil=>
     have h00:([] :List Rest).length=0:=rfl
     repeat' ((conv=>whnf);first|(exfalso;omega)|refine zg ?_|refine zz (fun _=>?_) fun _=>?_|refine zr ?_)
     all_goals conv=>whnf
     all_goals first|exact aG rfl|exact aK rfl|exact aP rfl|exact zt|exact zu
    |cons d E=>
     have h00:(d::E).length=E.length+1:=rfl
     repeat' ((conv=>whnf);first|(exfalso;omega)|refine zg ?_|refine zz (fun _=>?_) fun _=>?_|refine zr ?_)
     all_goals conv=>whnf
     all_goals first|exact aG rfl|exact aK rfl|exact aP rfl|exact zt|exact zu
  |cons c C=>
  ·have hcc:(((c::C):List Made)).length<=1000000:=by rw[<-e];exact hc
   repeat' ((conv=>whnf);first|(exfalso;omega)|refine zg ?_|refine zz (fun _=>?_) fun _=>?_)
   refine aU (A:=List Rest) (B:=List Rest) (fun D R=>bO5 x (c::C) D D.length) (fun D R=>x.rests=D++R) (fun D R=>R.length) [] x.rests ?_ rfl (fun E R hp=>?_)
   ·show Le T _ (bO5 x (c::C) [] 0)
    exact zj
   cases R with
   |cons r R=>
    have hlen2:=aO hp
    cases E with
    |nil=>
     have h00:([] :List Rest).length=0:=rfl
     repeat' ((conv=>whnf);first|(exfalso;omega)|refine aB (l:=x.rests) (by omega) ?_|refine aF (l:=x.rests) (A:=[]) (x:=r) (B:=R) hp (by omega) ?_|refine gX (of_decide_eq_true rfl) (dA rfl) (show(1:Nat)<=1000000000 from by decide) ?_|refine zg ?_|refine zi ?_|refine za ?_|refine zv ?_|refine zz (fun _=>?_) fun _=>?_)
     all_goals conv=>whnf
     refine⟨([r],R),?_,hp,by simp⟩
     show Le T _ (bO5 x (c::C) [r] 1)
     exact zj
    |cons d E=>
     have h00:(d::E).length=E.length+1:=rfl
     repeat' ((conv=>whnf);first|(exfalso;omega)|refine aB (l:=x.rests) (by omega) ?_|refine aF (l:=x.rests) (A:=d::E) (x:=r) (B:=R) hp (by omega) ?_|refine mX (l:=d::E) rfl rfl (.inl rfl) rfl (of_decide_eq_true rfl) rfl (by omega) ?_|refine zg ?_|refine zi ?_|refine za ?_|refine zv ?_|refine zz (fun _=>?_) fun _=>?_)
     all_goals conv=>whnf
     refine⟨(d::(E++[r]),R),?_,by rw[hp];simp,by simp⟩
     have e1:(d::(E++[r])).map bY=(d::E).map bY++[bY r] :=by simp
     have e2:(E++[r]).length=E.length+1:=by simp
     have e3:((d::(E++[r])).length:Int)=((d::E).length:Int)+1:=by simp
     show Le T _ (mkSt [(1, .box 1 0),(2, .box 2 0),(3, .box 3 0),(5,I ((d::(E++[r])).length:Nat))] [(1,iJ x),(2,zQ),(3,ownC x (.arr 34 C.length) (.arr 51 (E++[r]).length))] ((34,⟨C.length, .own,82,(c::C).map dK⟩)::(51,⟨(E++[r]).length, .own,80,(d::(E++[r])).map bY⟩):: []))
     rw[e1,e2,e3]
     exact zj
   |nil=>
    have hlen2:x.rests.length=E.length:=by rw[hp];simp
    have e4:x.rests=E:=by rw[hp];simp
    have ev:aS x= .agg (ownC x (.sl (((c::C):List Made).map dK)) (.sl (E.map bY))):=by rw[<-e,<-e4];rfl
    rw[ev]
    cases E with
    |nil=>
     have h00:([] :List Rest).length=0:=rfl
     repeat' ((conv=>whnf);first|(exfalso;omega)|refine zg ?_|refine zz (fun _=>?_) fun _=>?_|refine zr ?_)
     all_goals conv=>whnf
     all_goals first|exact aG rfl|exact aK rfl|exact aP rfl|exact zt|exact zu
    |cons d E=>
     have h00:(d::E).length=E.length+1:=rfl
     repeat' ((conv=>whnf);first|(exfalso;omega)|refine zg ?_|refine zz (fun _=>?_) fun _=>?_|refine zr ?_)
     all_goals conv=>whnf
     all_goals first|exact aG rfl|exact aK rfl|exact aP rfl|exact zt|exact zu
end Go.Proofs.Led
