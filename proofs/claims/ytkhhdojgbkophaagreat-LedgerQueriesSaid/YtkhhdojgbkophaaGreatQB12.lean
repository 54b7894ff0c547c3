/-
  The inventory: what an event without an error does, and the sums of all sizes.
-/
import Derived.Test.YtkhhdojgbkophaaGreatQB11
set_option linter.unusedVariables false
set_option linter.unusedSimpArgs false
set_option maxRecDepth 100000
set_option maxHeartbeats 8000000
noncomputable section
namespace Go.Proofs.Led
open Go Go.Proofs Go.Ab
inductive Step(s:aJ)(e:Event):aJ->Prop
 |recv (x:aN) (hx:(e.kind=1/\x=⟨false,e.sheet,bar0,aI⟩/\dB e.sheet)\/(e.kind=2/\x=⟨true,dN,e.bar,aI⟩/\fM e.bar)) (hn:sid x∉s.used):Step s e (aX7 s x)
 |setK (k:Nat) (m:aN) (p:ByteArray) (hk:e.kind=3\/e.kind=4) (hm:s.stocks[k]? =some m) (hid:sid m=e.id):Step s e (setK s k (prog m p))
 |disc (k:Nat) (m:aN) (hk:e.kind=8) (hm:s.stocks[k]? =some m) (hid:sid m=e.id):Step s e (aX4 s k m)
 |setP (k:Nat) (m:Piece) (st:Int) (o:ByteArray) (hk:(e.kind=6/\st=2/\o=aI)\/(e.kind=7/\st=3/\o=e.text)) (hm:s.pieces[k]? =some m) (hs:m.status=1) (hid:m.id=e.id):Step s e (setP s k (marked m st o))
 |cut (k:Nat) (m:aN) (hk:e.kind=5) (hf:nY e) (hfr:dP s.used (fO e)) (hm:s.stocks[k]? =some m) (hid:sid m=e.id) (hp:m.program≠aI) (hr:cZ m [] e.rests=0) (hl:nJ m e=e.scrap):Step s e (cut5 s e k m)
theorem bE7{s:aJ}{k st:Int}{o:ByteArray}{n:Nat}(h:Ok s n)(h0:(nK s k st o).2=0):∃m,s.pieces[bs Piece.id s.pieces k]? =some m/\m.status=1/\m.id=k/\(nK s k st o).1=setP s (bs Piece.id s.pieces k) (marked m st o):=by
 unfold nK at h0⊢;by_cases h1:∃m∈s.pieces,m.id=k
 ·obtain⟨m,h2,h3⟩:=aB8 h.sp h1
  rw[if_pos h1,h2]at h0⊢;by_cases c:m.status=1
  ·exact⟨m,rfl,c,h3,by show(ite _ _ _:aJ×Int).1=_;rw[if_pos c]⟩
  ·have h0:(ite (m.status=1) (setP s (bs Piece.id s.pieces k) (marked m st o),(0:Int)) (inv0,10)).2=0:=h0
   rw[if_neg c]at h0;cases h0
 ·rw[if_neg h1]at h0
  cases h0
theorem aZ6{s:aJ}{e:Event}{n:Nat}(h:Ok s n)(h0:(appR s e).2=0):iD e/\Step s e (appR s e).1:=by
 unfold appR at h0⊢;by_cases hf:iD e;rotate_left
 ·rw[if_neg hf]at h0;cases h0
 refine⟨hf,?_⟩;rw[if_pos hf]at h0⊢;unfold bP2 at h0⊢;have hk:e.kind=1\/e.kind=2\/e.kind=3\/e.kind=4\/e.kind=5\/e.kind=6\/e.kind=7\/e.kind=8:=by have:=hf.2.2.2.2.2.2.2.2;omega
 rcases hk with hk|hk|hk|hk|hk|hk|hk|hk
 all_goals simp only[hk,reduceIte,reduceCtorEq,Int.reduceEq]at h0⊢
 ·unfold nM at h0⊢
  split at h0
  ·cases h0
  ·rename_i c
   rw[if_neg c];exact .recv _ (.inl ⟨hk,rfl,(hf.2.2.2.1 hk).2⟩) c
 ·unfold nM at h0⊢
  split at h0
  ·cases h0
  ·rename_i c
   rw[if_neg c];exact .recv _ (.inr ⟨hk,rfl,(hf.2.2.2.2.1 hk).2⟩) c
 ·unfold relR at h0⊢
  rcases kE (n:=e.id) (f:=fun m=>open Classical in if m.program=aI then(Led.setK s (bs sid s.stocks e.id) (prog m e.text),0)else(inv0,27)) h.ss with⟨h1,h2⟩|⟨m,h1,h2,h3,h4⟩
  ·rw[h2]at h0;cases h0
  ·rw[h4]at h0⊢
   by_cases c:m.program=aI
   ·rw[if_pos c];exact .setK _ m _ (.inl hk) h2 h3
   ·rw[if_neg c]at h0;cases h0
 ·unfold bP3 at h0⊢
  rcases kE (n:=e.id) (f:=fun m=>open Classical in if m.program≠aI then(Led.setK s (bs sid s.stocks e.id) (prog m aI),0)else(inv0,10)) h.ss with⟨h1,h2⟩|⟨m,h1,h2,h3,h4⟩
  ·rw[h2]at h0;cases h0
  ·rw[h4]at h0⊢
   by_cases c:m.program≠aI
   ·rw[if_pos c];exact .setK _ m _ (.inr hk) h2 h3
   ·rw[if_neg c]at h0;cases h0
 ·unfold cutR at h0⊢
  by_cases c1:dP s.used (fO e);rotate_left
  ·rw[if_pos c1]at h0;cases h0
  rw[if_neg (Classical.not_not.2 c1)]at h0⊢
  rcases kE (n:=e.id) (f:=fun m=>open Classical in if m.program=aI then(inv0,10)else
   if cZ m [] e.rests≠0 then(inv0,cZ m [] e.rests)else if nJ m e≠e.scrap then(inv0,29)else(cut5 s e (bs sid s.stocks e.id) m,0)) h.ss with⟨h1,h2⟩|⟨m,h1,h2,h3,h4⟩
  ·rw[h2]at h0;cases h0
  ·rw[h4]at h0⊢
   by_cases c2:m.program=aI
   ·rw[if_pos c2]at h0;cases h0
   ·rw[if_neg c2]at h0⊢
    by_cases c3:cZ m [] e.rests≠0
    ·rw[if_pos c3]at h0;exact absurd h0 c3
    ·rw[if_neg c3]at h0⊢
     by_cases c4:nJ m e≠e.scrap
     ·rw[if_pos c4]at h0;cases h0
     ·rw[if_neg c4]
      exact .cut _ m hk (hf.2.2.2.2.2.2.2.1 hk) c1 h2 h3 c2 (Classical.not_not.1 c3) (Classical.not_not.1 c4)
 ·obtain⟨m,h1,h2,h3,h4⟩:=bE7 h h0
  rw[h4];exact .setP _ m _ _ (.inl ⟨hk,rfl,rfl⟩) h1 h2 h3
 ·obtain⟨m,h1,h2,h3,h4⟩:=bE7 h h0
  rw[h4];exact .setP _ m _ _ (.inr ⟨hk,rfl,rfl⟩) h1 h2 h3
 ·unfold bQ0 at h0⊢
  rcases kE (n:=e.id) (f:=fun m=>open Classical in if m.program=aI then(aX4 s (bs sid s.stocks e.id) m,0)else(inv0,27)) h.ss with⟨h1,h2⟩|⟨m,h1,h2,h3,h4⟩
  ·rw[h2]at h0;cases h0
  ·rw[h4]at h0⊢
   by_cases c:m.program=aI
   ·rw[if_pos c];exact .disc _ m hk h2 h3
   ·rw[if_neg c]at h0;cases h0
theorem dC2(n:Int):∃k:Int,W n=n+k*18446744073709551616:=by
 simp[IntKind.wrap,IntKind.signed,IntKind.bits];split;all_goals first|exact⟨-(n/18446744073709551616),Aa⟩|exact⟨-(n/18446744073709551616)-1,Aa⟩
theorem fC5{a b:Int}(k:Int)(h:a=b+k*18446744073709551616):W a=W b:=by
 obtain⟨p,hp⟩:=dC2 a;obtain⟨q,hq⟩:=dC2 b;have h1:=nT a;have h2:=nT b
 omega
theorem bF8(a b:Int):W (W a+b)=W (a+b):=by
 obtain⟨p,hp⟩:=dC2 a;exact fC5 p Aa
theorem bX3(a:Int):W (W a)=W a:=w_in (nT a)
def cls(b:Bool)(r:Iv):Int:=if b then r.2 else r.1
theorem rX(b c:Bool)(r:Iv)(n:Int):cls b (plus c r n)=if c=b then W (cls b r+n)else cls b r:=by
 unfold cls plus;cases b<;>cases c<;>simp
def totS(b:Bool)(l:List aN):Int:=(l.map fun x=>if x.isBar=b then gG x else 0).sum
def totP(b:Bool)(l:List Piece):Int:=(l.map fun x=>if x.isBar=b then x.size else 0).sum
theorem dG3(b:Bool):∀(l:List aN) (r:Iv),W (cls b r)=cls b r->cls b (upS r l)=W (cls b r+totS b l)
 | [],r,h=>Gm
 |x::l,r,h=>by
  have e:upS r (x::l)=upS (plus x.isBar r (gG x)) l:=rfl;have e2:totS b (x::l)=(if x.isBar=b then gG x else 0)+totS b l:=by unfold totS;simp
  rw[e,dG3 b l _ (by rw[rX];split;exact bX3 _;exact h),rX,e2]
  split
  ·rw[bF8];congr 1;omega
  ·congr 1;omega
theorem dJ3(b:Bool):∀(l:List Piece) (r:Iv),W (cls b r)=cls b r->cls b (upP r l)=W (cls b r+totP b l)
 | [],r,h=>Gm
 |x::l,r,h=>by
  have e:upP r (x::l)=upP (plus x.isBar r x.size) l:=rfl;have e2:totP b (x::l)=(if x.isBar=b then x.size else 0)+totP b l:=by unfold totP;simp
  rw[e,dJ3 b l _ (by rw[rX];split;exact bX3 _;exact h),rX,e2]
  split
  ·rw[bF8];congr 1;omega
  ·congr 1;omega
theorem eW7{a b:Iv}:a=b↔∀c,cls c a=cls c b:=by
 constructor
 ·rintro rfl _;rfl
 ·intro h
  have h1:=h true;have h2:=h false
  simp[cls]at h1 h2;exact Prod.ext h2 h1
def inR(r:Iv):Prop:=∀b,W (cls b r)=cls b r
theorem cK5{r:Iv}{c:Bool}{n:Int}(h:inR r):inR (plus c r n):=fun b=>by rw[rX];split;exact bX3 _;exact h b
theorem cD1{s:aJ}(h:inR s.scrap):tK s↔∀b,W (cls b s.scrap+totS b s.stocks+totP b s.pieces)=cls b s.received:=by
 unfold tK;rw[eW7];refine forall_congr' fun b=>?_;have h1:=dG3 b s.stocks s.scrap (h b)
 rw[dJ3 b _ _ (by rw[h1];exact bX3 _),h1,bF8]
theorem bU2{α:Type}(f:α->Int)(l:List α)(i:Nat)(x:α):((putAt l i x).map f).sum=(l.map f).sum+f x:=by
 have h:(l.map f).sum=((l.take i).map f).sum+((l.drop i).map f).sum:=Eg;unfold putAt;rw[h,List.map_append,List.sum_append,List.map_cons,List.sum_cons];omega
theorem bP1{α:Type}(f:α->Int){l:List α}{i:Nat}{x:α}(hx:l[i]? =some x):((nN l i).map f).sum=(l.map f).sum-f x:=by
 obtain⟨hi,hx⟩:=List.getElem?_eq_some_iff.1 hx;have h:(l.map f).sum=((l.take i).map f).sum+((l.drop i).map f).sum:=Eg;rw[List.drop_eq_getElem_cons hi,hx,List.map_cons,List.sum_cons]at h;unfold nN;rw[h,List.map_append,List.sum_append];omega
theorem dF7{α:Type}(f:α->Int){l:List α}{i:Nat}{x y:α}(hx:l[i]? =some x)(hy:f y=f x):((l.set i y).map f).sum=(l.map f).sum:=by
 rw[bY6 (key:=f) hx hy]
theorem bB7{α:Type}(f:α->Int)(key:α->Int):∀(xs l:List α),((xs.foldl (putK key) l).map f).sum=(l.map f).sum+(xs.map f).sum
 | [],l=>Af
 |x::xs,l=>by
  rw[List.foldl_cons,bB7 f key xs,show putK key l x=putAt l (bs key l (key x)) x from rfl,bU2,List.map_cons,List.sum_cons];omega
def R6(n:Int):Prop:= -9223372036854775808<=n/\n<=9223372036854775807
theorem eQ4{n c:Int}(hn:R6 n)(hc:0<=c)(h:0<=sub1 n c):sub1 n c=n-c/\c<=n:=by
 unfold sub1 at h⊢;unfold R6 at hn;rw[lH]at h⊢;by_cases h1:n=9223372036854775807
 ·subst h1
  have e:W (9223372036854775807+1)= -9223372036854775808:=Aq;rw[e,Int.min_eq_right Aa]at h;exact absurd h Aq
 ·rw[w_in (n:=n+1) Aa]at h⊢
  by_cases h2:c<=n+1
  ·rw[Int.min_eq_left h2]at h⊢
   rw[w_in Aa]at h⊢;omega
  ·rw[Int.min_eq_right Aa,w_in Aa]at h
   omega
theorem bK0(n c:Int):R6 (sub1 n c):=nT _
theorem bY2:∀(l:List Int) (n:Int),R6 n->(∀c∈l,0<=c)->0<=subL n l->subL n l=n-l.sum/\0<=n/\∀c∈l,c<=n
 | [],n,hn,_,h=>⟨by show n=n-0;omega,h,Af⟩
 |c::l,n,hn,hc,h=>by
  have e:subL n (c::l)=subL (sub1 n c) l:=rfl;rw[e]at h⊢;have hc0:=hc c Af
  obtain⟨q1,q2,q3⟩:=bY2 l (sub1 n c) (bK0 n c) (fun x hx=>hc x Bq) h;obtain⟨q4,q5⟩:=eQ4 hn hc0 q2;refine⟨?_,Aa,fun x hx=>?_⟩
  ·rw[q1,q4,List.sum_cons];omega
  ·rcases List.mem_cons.1 hx with rfl|hx
   ·exact q5
   ·have:=q3 x hx;omega
theorem cE6(o:Rg):0<=uK ⟨o,[]⟩:=by
 unfold uK;split
 ·rename_i h
  have ho:dM o:=h.2.1 o (by simp[rings])
  have ha:0<zY o:=ho.2.2.2.1;have e:nG o=zY o:=if_pos ho
  show 0<=W (W (2*nG o)-nG o);rw[e,Int.sub_eq_add_neg,bF8]
  have hr: -9223372036854775808<=zY o/\zY o<=9223372036854775807:=by
   unfold zY
   cases hn:o.length with
   |zero=>have:=ho.1;omega
   |succ n=>rw[bC2];exact nT _
  rw[w_in Aa];omega
 ·exact Int.le_refl 0
theorem aJ5(s:Sh):R6 (uK s):=by
 unfold uK;split
 ·unfold qH rings
  have key:∀(l:List Rg) (a:Int),R6 a->R6 (l.foldl (fun a r=>W (a-nG r)) a):=by
   intro l
   induction l with
   |nil=>exact fun a h=>h
   |cons x l ih=>exact fun a _=>ih _ (nT _)
  exact key _ _ (nT _)
 ·exact⟨Aq,Aq⟩
theorem cY9(b:Bx)(v:Vc):(jT b v).holes=[] :=by
 have key:(qO (sV (vsub b.1 v) (vsub b.2 v))).holes=[] :=by
  have hr:(sV (vsub b.1 v) (vsub b.2 v)).holes=[] :=by
   unfold sV;split<;>rfl
  by_cases h:bG (sV (vsub b.1 v) (vsub b.2 v))
  ·rw[aN9 h]
   show wW _=[];unfold wW;rw[hr];rfl
  ·rw[bH5 h];rfl
 exact key
theorem yP{x:aN}{r:Rest}(h:iG x r=0)(hb:x.isBar=true->R6 x.bar.length):0<=gG (dZ x r)/\(dZ x r).isBar=x.isBar:=by
 unfold dZ;by_cases hx:x.isBar=false
 ·rw[if_pos hx]
  unfold iG at h;rw[if_pos hx]at h;by_cases h1:r.lo≠0\/r.hi≠0
  ·rw[if_pos h1]at h;cases h
  ·rw[if_neg h1]at h⊢
   refine⟨?_,hx.symm⟩;show 0<=uK (remS x.sheet r.box r.id).shape;unfold remS;rw[if_pos h];show 0<=uK (jT r.box r.box.1)
   have e:jT r.box r.box.1=⟨(jT r.box r.box.1).outer,[]⟩:=by
    have:=cY9 r.box r.box.1
    cases hq:jT r.box r.box.1 with
    |mk o hs=>rw[hq]at this;show Sh.mk o hs=⟨o,[]⟩;rw[show hs=[]from this]
   rw[e];exact cE6 _
 ·rw[if_neg hx,if_pos h]
  have hx':x.isBar=true:=by cases hq:x.isBar with
   |true=>rfl
   |false=>exact absurd hq hx
  refine⟨?_,hx'.symm⟩;show 0<=W (r.hi-r.lo);unfold iG at h;rw[if_neg hx]at h;split at h
  ·cases h
  ·split at h
   ·cases h
   ·rename_i h2
    have:=hb hx';unfold R6 at this;rw[w_in Aa];omega
structure Bal(s:aJ):Prop where
 sc:inR s.scrap
 eq:∀b,W (cls b s.scrap+totS b s.stocks+totP b s.pieces)=cls b s.received
 ps:∀p∈s.pieces,1<=p.size/\p.size<=9223372036854775807
 br:∀x∈s.stocks,R6 (gG x)
theorem bal0:Bal inv0:=⟨fun b=>by cases b<;>decide,fun b=>by cases b<;>decide,Gn,Gn⟩
theorem eZ9{s:aJ}(h:Bal s):tK s:=(cD1 h.sc).2 h.eq
theorem cW8{α:Type}(p:α->Bool)(f:α->Int)(c b:Bool):∀(l:List α),(∀x∈l,p x=c)->(l.map fun x=>if p x=b then f x else 0).sum=if c=b then(l.map f).sum else 0
 | [],_=>Af
 |x::l,h=>by
  rw[List.map_cons,List.sum_cons,cW8 p f c b l (fun y hy=>h y Hg),h x Af,List.map_cons,List.sum_cons];split
  ·rfl
  ·rfl
theorem bK7:∀(l:List Int) (n:Int),R6 n->R6 (subL n l)
 | [],n,h=>h
 |c::l,n,h=>bK7 l (sub1 n c) (bK0 n c)
theorem bH6{e:Event}{x:aN}(hx:(e.kind=1/\x=⟨false,e.sheet,bar0,aI⟩/\dB e.sheet)\/(e.kind=2/\x=⟨true,dN,e.bar,aI⟩/\fM e.bar)):R6 (gG x)/\nC (sid x):=by
 rcases hx with⟨_,rfl,h⟩|⟨_,rfl,h⟩
 ·exact⟨aJ5 _,h.1.1,h.1.2.1⟩
 ·refine⟨?_,h.1.1,h.1.2.1⟩
  show R6 e.bar.length;have h1:=h.2.1;have h2:=h.2.2.1
  unfold R6;omega
theorem aG4(s:aJ)(e:Event)(k:Nat)(m:aN):(cut5 s e k m).pieces=(e.cuts.map (fZ e m)).foldl (putK Piece.id) s.pieces:=by
 show e.cuts.foldl (fun p x=>putP p (fZ e m x)) s.pieces=_;rw[List.foldl_map];rfl
theorem aF7(s:aJ)(e:Event)(k:Nat)(m:aN):(cut5 s e k m).stocks=(eG m e.rests).foldl (putK sid) (nN s.stocks k):=rfl
theorem yU{m:aN}{l:List Rest}(hr:cZ m [] l=0){x:aN}(hx:x∈eG m l):∃r∈l,x=dZ m r/\iG m r=0:=by
 rw[mV hr]at hx;obtain⟨r,h1,h2⟩:=List.mem_map.1 hx;exact⟨r,h1,h2.symm,tZ hr r h1⟩
theorem cM1{x:aN}(h:R6 (gG x)):x.isBar=true->R6 x.bar.length:=fun hb=>by unfold gG at h;rw[if_pos hb]at h;exact h
theorem dN1{m:aN}{r:Rest}(h:iG m r=0):R6 (gG (dZ m r)):=by
 unfold dZ;split
 ·split
  ·exact aJ5 _
  ·exact aJ5 _
 ·exact nT _
theorem eE0{s s':aJ}{e:Event}(hb:Bal s)(hs:Step s e s'):Bal s':=by
 cases hs with
 |recv x hx hn=>
  obtain⟨v1,v2⟩:=bH6 hx;refine⟨hb.sc,fun b=>?_,hb.ps,fun y hy=>?_⟩
  ·show W (cls b s.scrap+totS b (putAt s.stocks _ x)+totP b s.pieces)=cls b (plus x.isBar s.received (gG x))
   have h1:totS b (putAt s.stocks (bs sid s.stocks (sid x)) x)=totS b s.stocks+if x.isBar=b then gG x else 0:=bU2 _ _ _ _
   rw[h1,rX,<-hb.eq b];split
   ·rw[bF8];congr 1;omega
   ·congr 1;omega
  ·rcases fH.1 hy with rfl|hy
   ·exact v1
   ·exact hb.br y hy
 |setK k m p hk hm hid=>
  refine⟨hb.sc,fun b=>?_,hb.ps,fun y hy=>?_⟩
  ·have h1:totS b (s.stocks.set k (prog m p))=totS b s.stocks:=dF7 _ hm rfl
   show W (cls b s.scrap+totS b (s.stocks.set k (prog m p))+totP b s.pieces)=cls b s.received;rw[h1];exact hb.eq b
  ·rcases mem_set hy with rfl|hy
   ·exact hb.br m (fC hm)
   ·exact hb.br y hy
 |disc k m hk hm hid=>
  refine⟨cK5 hb.sc,fun b=>?_,hb.ps,fun y hy=>hb.br y ((kM _ _).subset hy)⟩;show W (cls b (plus m.isBar s.scrap (gG m))+totS b (nN s.stocks k)+totP b s.pieces)=cls b s.received;have h1:totS b (nN s.stocks k)=totS b s.stocks-if m.isBar=b then gG m else 0:=bP1 _ hm
  rw[h1,rX,<-hb.eq b];exact TT
 |setP k m st o hk hm hst hid=>
  refine⟨hb.sc,fun b=>?_,fun y hy=>?_,hb.br⟩
  ·have h1:totP b (s.pieces.set k (marked m st o))=totP b s.pieces:=dF7 _ hm rfl
   show W (cls b s.scrap+totS b s.stocks+totP b (s.pieces.set k (marked m st o)))=cls b s.received;rw[h1];exact hb.eq b
  ·rcases mem_set hy with rfl|hy
   ·exact hb.ps m (fC hm)
   ·exact hb.ps y hy
 |cut k m hk hf hfr hm hid hp hr hl=>
  have hm6:=hb.br m (fC hm);have hsc:0<=e.scrap:=hf.2.2.2.2.1
  unfold nJ at hl;have a1:R6 (subL (gG m) (e.cuts.map Made.size)):=bK7 _ _ hm6
  obtain⟨p1,p2,p3⟩:=bY2 _ _ a1 (fun c hc=>by
   obtain⟨x,hx,rfl⟩:=List.mem_map.1 hc;obtain⟨r,h1,rfl,h3⟩:=yU hr hx;exact(yP h3 (cM1 hm6)).1) Aa
  obtain⟨q1,q2,q3⟩:=bY2 _ _ hm6 (fun c hc=>by
   obtain⟨x,hx,rfl⟩:=List.mem_map.1 hc;have:=(hf.1 x hx).2.2;omega) p2
  refine⟨cK5 hb.sc,fun b=>?_,fun y hy=>?_,fun y hy=>?_⟩
  ·have h1:totS b (cut5 s e k m).stocks=totS b s.stocks- (if m.isBar=b then gG m else 0)+if m.isBar=b then((eG m e.rests).map gG).sum else 0:=by
    rw[aF7];unfold totS
    rw[bB7,bP1 _ hm,cW8 (fun x:aN=>x.isBar) gG m.isBar b (eG m e.rests) (fun x hx=>by
     obtain⟨r,h1,rfl,h3⟩:=yU hr hx;exact(yP h3 (cM1 hm6)).2)]
   have h2:totP b (cut5 s e k m).pieces=totP b s.pieces+if m.isBar=b then(e.cuts.map Made.size).sum else 0:=by
    rw[aG4];unfold totP
    rw[bB7,cW8 (fun x:Piece=>x.isBar) Piece.size m.isBar b (e.cuts.map (fZ e m)) (fun x hx=>by
     obtain⟨c,h1,rfl⟩:=List.mem_map.1 hx;rfl),List.map_map]
    rfl
   rw[h1,h2];show W (cls b (plus m.isBar s.scrap e.scrap)+_+_)=cls b s.received;rw[rX,<-hb.eq b];exact TT
  ·rw[aG4]at hy
   have hy2:y∈s.pieces\/y∈e.cuts.map (fZ e m):=by
    have key:∀(xs l:List Piece),y∈xs.foldl (putK Piece.id) l->y∈l\/y∈xs:=by
     intro xs
     induction xs with
     |nil=>exact fun l h=> .inl h
     |cons x xs ih=>
      intro l h;rcases ih _ h with h|h
      ·exact Oj
      ·exact .inr Ju
    exact key _ _ hy
   rcases hy2 with hy|hy
   ·exact hb.ps y hy
   ·obtain⟨c,hc,rfl⟩:=List.mem_map.1 hy
    have h1:=(hf.1 c hc).2.2;have h2:=q3 c.size (List.mem_map_of_mem hc)
    unfold R6 at hm6;exact⟨h1,by show c.size<=_;omega⟩
  ·rw[aF7]at hy
   have hy2:y∈nN s.stocks k\/y∈eG m e.rests:=by
    have key:∀(xs l:List aN),y∈xs.foldl (putK sid) l->y∈l\/y∈xs:=by
     intro xs
     induction xs with
     |nil=>exact fun l h=> .inl h
     |cons x xs ih=>
      intro l h;rcases ih _ h with h|h
      ·exact Oj
      ·exact .inr Ju
    exact key _ _ hy
   rcases hy2 with hy|hy
   ·exact hb.br y ((kM _ _).subset hy)
   ·obtain⟨r,h1,rfl,h3⟩:=yU hr hy
    exact dN1 h3
structure Ids(s:aJ):Prop where
 dj:∀x∈s.stocks,∀p∈s.pieces,sid x≠p.id
 par:∀p∈s.pieces,p.parent∈s.used
 rng:∀n∈s.used,nC n
theorem ids0:Ids inv0:=⟨Gn,Gn,Gn⟩
theorem cG6{s s':aJ}{e:Event}{n:Nat}(h:Ok s n)(hi:Ids s)(hs:Step s e s'):Ids s'/\∀y∈s.used,y∈s'.used:=by
 cases hs with
 |recv x hx hn=>
  obtain⟨v1,v2⟩:=bH6 hx;have hmu:∀y,y∈putN s.used (sid x)↔y=sid x\/y∈s.used:=fun y=>fH;refine⟨⟨fun y hy p hp=>?_,fun p hp=>(hmu _).2 (.inr (hi.par p hp)),fun y hy=>?_⟩,fun y hy=>(hmu _).2 (.inr hy)⟩
  ·rcases fH.1 hy with rfl|hy
   ·intro e;exact hn (by rw[e];exact h.up p hp)
   ·exact hi.dj y hy p hp
  ·rcases(hmu _).1 hy with rfl|hy
   ·exact v2
   ·exact hi.rng y hy
 |setK k m p hk hm hid=>
  refine⟨⟨fun y hy q hq=>?_,hi.par,hi.rng⟩,fun y hy=>hy⟩;rcases mem_set hy with rfl|hy
  ·exact hi.dj m (fC hm) q hq
  ·exact hi.dj y hy q hq
 |disc k m hk hm hid=>exact⟨⟨fun y hy q hq=>hi.dj y ((kM _ _).subset hy) q hq,hi.par,hi.rng⟩,fun y hy=>hy⟩
 |setP k m st o hk hm hst hid=>
  refine⟨⟨fun y hy q hq=>?_,fun q hq=>?_,hi.rng⟩,fun y hy=>hy⟩
  ·rcases mem_set hq with rfl|hq
   ·exact hi.dj y hy m (fC hm)
   ·exact hi.dj y hy q hq
  ·rcases mem_set hq with rfl|hq
   ·exact hi.par m (fC hm)
   ·exact hi.par q hq
 |cut k m hk hf hfr hm hid hp hr hl=>
  obtain⟨a1,a2,a3⟩:=bJ9 (k:=k) h hfr hr (List.append_nil _).symm;obtain⟨b1,b2,b3⟩:=bC5 (m:=m) h hfr (List.append_nil _).symm;obtain⟨f1,f2⟩:=qJ.1 hfr;have hidm:∀x∈eG m e.rests,sid x∈e.rests.map Rest.id:=fun x hx=>by rw[<-aG9 hr];exact List.mem_map_of_mem hx
  have hu:∀y,y∈cO s.used (fO e)↔y∈s.used\/y∈fO e:=fun y=>tY;unfold fO at f1 f2;rw[List.pairwise_append]at f2;refine⟨⟨fun y hy q hq=>?_,fun q hq=>?_,fun y hy=>?_⟩,fun y hy=>(hu y).2 (.inl hy)⟩
  ·rcases(a2 y).1 hy with hy|hy<;>rcases(b2 q).1 hq with hq|hq
   ·exact hi.dj y ((kM _ _).subset hy) q hq
   ·obtain⟨c,hc,rfl⟩:=List.mem_map.1 hq
    intro e2;have e3:sid y=c.id:=e2;exact f1 c.id (by simp only[List.mem_append];exact .inl (List.mem_map_of_mem hc)) (by rw[<-e3];exact h.us y ((kM _ _).subset hy))
   ·intro e2
    exact f1 (sid y) (by simp only[List.mem_append];exact .inr (hidm y hy)) (by rw[e2];exact h.up q hq)
   ·obtain⟨c,hc,rfl⟩:=List.mem_map.1 hq
    intro e2;exact f2.2.2 c.id (List.mem_map_of_mem hc) (sid y) (hidm y hy) e2.symm
  ·refine(hu _).2 (.inl ?_)
   rcases(b2 q).1 hq with hq|hq
   ·exact hi.par q hq
   ·obtain⟨c,hc,rfl⟩:=List.mem_map.1 hq
    show e.id∈_;rw[<-hid];exact h.us m (fC hm)
  ·rcases(hu y).1 hy with hy|hy
   ·exact hi.rng y hy
   ·unfold fO at hy
    rcases List.mem_append.1 hy with hy|hy
    ·obtain⟨c,hc,rfl⟩:=List.mem_map.1 hy
     exact(hf.1 c hc).1
    ·obtain⟨r,hr',rfl⟩:=List.mem_map.1 hy
     exact(hf.2.1 r hr').1
theorem dP0{s:aJ}{e:Event}(hf:iD e)(hk:e.kind=2):appR s e=nM s ⟨true,dN,e.bar,aI⟩:=by
 unfold appR bP2;rw[if_pos hf,if_neg Aa,if_pos hk]
theorem dW9{s:aJ}{x:aN}(h:sid x∉s.used):nM s x=(aX7 s x,0):=by unfold nM;rw[if_neg h]
theorem bT0{s:aJ}{n:Int}{m:aN}{f:aN->aJ×Int}(h1:∃m∈s.stocks,sid m=n)(h2:s.stocks[bs sid s.stocks n]? =some m):aD6 s n f=f m:=by unfold aD6;rw[if_pos h1,h2]
theorem dR0{s:aJ}{n:Int}{f:aN->aJ×Int}(h1:¬∃m∈s.stocks,sid m=n):aD6 s n f=(inv0,8):=by unfold aD6;rw[if_neg h1]
theorem eM5{s:aJ}{e:Event}{m:aN}(hf:iD e)(hk:e.kind=3)(h1:∃m∈s.stocks,sid m=e.id)(h2:s.stocks[bs sid s.stocks e.id]? =some m)(hp:m.program=aI):
 appR s e=(setK s (bs sid s.stocks e.id) (prog m e.text),0):=by
 unfold appR bP2;rw[if_pos hf,if_neg Aa,if_neg Aa,if_pos hk];unfold relR;rw[bT0 h1 h2,if_pos hp]
theorem aY8{s:aJ}{e:Event}(hf:iD e)(hk:e.kind=5):appR s e=cutR s e:=by
 unfold appR bP2;rw[if_pos hf,if_neg Aa,if_neg Aa,if_neg Aa,if_neg Aa,if_pos hk]
theorem dF5{s:aJ}{e:Event}(h:¬dP s.used (fO e)):cutR s e=(inv0,7):=by unfold cutR;rw[if_pos h]
theorem cF5{s:aJ}{e:Event}(h:dP s.used (fO e))(h1:¬∃m∈s.stocks,sid m=e.id):cutR s e=(inv0,8):=by unfold cutR;rw[if_neg (Classical.not_not.2 h),dR0 h1]
theorem bG4{s:aJ}{e:Event}{m:aN}(h:dP s.used (fO e))(h1:∃m∈s.stocks,sid m=e.id)(h2:s.stocks[bs sid s.stocks e.id]? =some m):
 cutR s e=open Classical in if m.program=aI then(inv0,10)else if cZ m [] e.rests≠0 then(inv0,cZ m [] e.rests)else if nJ m e≠e.scrap then(inv0,29)else(cut5 s e (bs sid s.stocks e.id) m,0):=by
 unfold cutR;rw[if_neg (Classical.not_not.2 h),bT0 h1 h2]
def kV(e:Event)(c:Int):Event:={e with scrap:=c}
theorem refused{s:aJ}{e:Event}{n:Nat}{c:Int}(h:Ok s n)(h0:(appR s e).2=0)(hk:e.kind=5)(hc:c≠e.scrap):
 appR s (kV e c)=(inv0,29)\/appR s (kV e c)=(inv0,1):=by
 by_cases hf:iD (kV e c);rotate_left
 ·right
  unfold appR;rw[if_neg hf]
 left;have hfe:=(aZ6 h h0).1;rw[aY8 hfe hk]at h0;rw[aY8 hf hk];by_cases c1:dP s.used (fO e);rotate_left
 ·rw[dF5 c1]at h0;cases h0
 by_cases h1:∃m∈s.stocks,sid m=e.id;rotate_left
 ·rw[cF5 c1 h1]at h0;cases h0
 obtain⟨m,h2,h3⟩:=aB8 h.ss h1;rw[bG4 c1 h1 h2]at h0;rw[bG4 (e:=kV e c) (m:=m) c1 h1 h2];by_cases c2:m.program=aI
 ·rw[if_pos c2]at h0;cases h0
 rw[if_neg c2]at h0⊢;have er:(kV e c).rests=e.rests:=rfl;rw[er];by_cases c3:cZ m [] e.rests≠0
 ·rw[if_pos c3]at h0;exact absurd h0 c3
 rw[if_neg c3]at h0⊢;by_cases c4:nJ m e≠e.scrap
 ·rw[if_pos c4]at h0;cases h0
 have c5:nJ m (kV e c)≠(kV e c).scrap:=fun hh=>hc (hh.symm.trans (Classical.not_not.1 c4));rw[if_pos c5]
def nD(b:Bar):Event:=⟨2,0,aI,dN,b,[],[],0⟩
theorem no0:pJ dN:=⟨rfl,rfl,rfl,rfl,rfl,rfl,rfl⟩
theorem nob0:yT bar0:=⟨rfl,rfl,rfl,rfl,rfl⟩
theorem bM8{b:Bar}(h:fM b):iD (nD b):=
 ⟨fun _=>⟨rfl,rfl⟩,fun q=>absurd (.inr rfl) q,fun _=>⟨rfl,rfl,rfl⟩,fun q=>IZ,fun _=>⟨no0,h⟩,fun q=>EI,fun q=>G9,fun q=>IZ,show(1:Int)<=2 from Aq,show(2:Int)<=8 from Aq⟩
def uX(n:Int)(t:ByteArray):Event:=⟨3,n,t,dN,bar0,[],[],0⟩
theorem bY3{n:Int}{t:ByteArray}(h:iM t):iD (uX n t):=
 ⟨fun q=>EI,fun _=>⟨no0,nob0⟩,fun _=>⟨rfl,rfl,rfl⟩,fun q=>IZ,fun q=>IZ,fun _=>h,fun q=>G9,fun q=>IZ,show(1:Int)<=3 from Aq,show(3:Int)<=8 from Aq⟩
def xC(n:Int)(c:List Made)(r:List Rest)(z:Int):Event:=⟨5,n,aI,dN,bar0,c,r,z⟩
theorem aK5{n:Int}{c:List Made}{r:List Rest}{z:Int}(h1:∀x∈c,bU7 x)(h2:∀x∈r,bR4 x)(h3:c.length<=60)(h4:r.length<=6)(h5:0<=z):iD (xC n c r z):=
 ⟨fun q=>EI,fun _=>⟨no0,nob0⟩,fun q=>absurd rfl q,fun q=>IZ,fun q=>IZ,fun q=>EI,fun q=>G9,fun _=>⟨h1,h2,h3,h4,h5,rfl⟩,show(1:Int)<=5 from Aq,show(5:Int)<=8 from Aq⟩
def chB(c:UInt8):ByteArray:=⟨#[c]⟩
theorem yM{c:UInt8}(h:97<=c.toNat/\c.toNat<=122):iM (chB c):=by
 have hb:byteAt (chB c) 0=(c.toNat:Int):=by unfold byteAt;rfl
 refine⟨Nat.le_refl 1,show(1:Nat)<=16 from Aq,?_,fun i hi=>?_⟩
 ·rw[hb];exact .inl Aa
 ·have h1:(chB c).size=1:=rfl
  have:i=0:=Aa;subst this;rw[hb];exact .inl (.inl Aa)
theorem eR5{s s':aJ}{e:Event}{n:Nat}(h:Ok s n)(hs:Step s e s'):Ok s' (n+more e):=by
 have hm:1<=more e:=Iu
 cases hs with
 |recv x hx hn=>
  refine(dD4 h ?_ hn).mono Aa;rcases hx with⟨_,rfl,h⟩|⟨_,rfl,h⟩
  ·exact⟨aX9 h,Nat.zero_le _⟩
  ·exact⟨xZ,Nat.le_trans h.2.2.2.1 Aq⟩
 |setK k m p hk hm hid=>exact(bW3 h hm p).mono Aa
 |disc k m hk hm hid=>exact(dD6 h k m).mono Aa
 |setP k m st o hk hm hst hid=>exact(dE1 h hm st o).mono Aa
 |cut k m hk hf hfr hm hid hp hr hl=>exact cP7 ((aZ7 (R:=[]) (Q:=[]) h hm hfr hr (List.append_nil _).symm (List.append_nil _).symm).mono Iu) _
structure Good(s:aJ)(n:Nat):Prop where
 ok:Ok s n
 bal:Bal s
 ids:Ids s
theorem cN2:Good inv0 0:=⟨ok0,bal0,ids0⟩
theorem good_step{s:aJ}{e:Event}{n:Nat}(h:Good s n)(h0:(appR s e).2=0):Good (appR s e).1 (n+more e):=by
 have hs:=(aZ6 h.ok h0).2;exact⟨eR5 h.ok hs,eE0 h.bal hs,(cG6 h.ok h.ids hs).1⟩
theorem Good.mono{s:aJ}{n m:Nat}(h:Good s n)(hn:n<=m):Good s m:=⟨h.ok.mono hn,h.bal,h.ids⟩
def kL(s:aJ)(i:Int):List Event->aJ×Int×Int
 | [] =>(s,i,0)
 |x::l=>if(appR s x).2=0 then kL (appR s x).1 (i+1) l else(s,i,(appR s x).2)
def barS(b:Bar)(p:ByteArray):aN:=⟨true,dN,b,p⟩
def st1(b:Bar):aJ:=aX7 inv0 (barS b aI)
def st2(b:Bar)(p:ByteArray):aJ:=⟨[barS b p],[],[b.id],(0,W (0+b.length)),(0,0)⟩
theorem dI8{b:Bar}{p:ByteArray}{q:List Piece}{u:List Int}{r c:Iv}:(∃m∈(aJ.mk [barS b p] q u r c).stocks,sid m=b.id)/\(aJ.mk [barS b p] q u r c).stocks[bs sid [barS b p] b.id]? =some (barS b p)/\bs sid [barS b p] b.id=0:=by
 have h0:bs sid [barS b p] b.id=0:=by
  unfold bs;have:decide (sid (barS b p)<b.id)=false:=decide_eq_false (by show¬b.id<b.id;omega)
  simp[List.takeWhile,this]
 exact⟨⟨barS b p,Af,rfl⟩,by rw[h0];rfl,h0⟩
theorem dH7{b:Bar}{p:ByteArray}{x:Event}(hb:fM b)(hp:iM p)(hx:iD x)(hk:x.kind=5)(hid:x.id=b.id)(hfr:dP [b.id] (fO x))(hr:cZ (barS b p) [] x.rests=0)(hl:nJ (barS b p) x=x.scrap):
 kL inv0 0 [nD b,uX b.id p,x] =(cut5 (st2 b p) x 0 (barS b p),3,0)/\appR inv0 (nD b)=(st1 b,0)/\appR (st1 b) (uX b.id p)=(st2 b p,0)/\appR (st2 b p) x=(cut5 (st2 b p) x 0 (barS b p),0):=by
 have e1:appR inv0 (nD b)=(st1 b,0):=by
  rw[dP0 (bM8 hb) rfl];exact dW9 Gn
 have e2:appR (st1 b) (uX b.id p)=(st2 b p,0):=by
  obtain⟨q1,q2,q3⟩:=dI8 (b:=b) (p:=aI) (q:=[]) (u:=[b.id]) (r:=(0,W (0+b.length))) (c:=(0,0));rw[eM5 (s:=st1 b) (bY3 hp) rfl (m:=barS b aI) q1 q2 rfl];show(setK (st1 b) (bs sid [barS b aI] b.id) _,(0:Int))=_;rw[q3];rfl
 have hne:p≠aI:=by
  rintro rfl;exact absurd hp.1 Aq
 have e3:appR (st2 b p) x=(cut5 (st2 b p) x 0 (barS b p),0):=by
  obtain⟨q1,q2,q3⟩:=dI8 (b:=b) (p:=p) (q:=[]) (u:=[b.id]) (r:=(0,W (0+b.length))) (c:=(0,0));rw[aY8 hx hk,bG4 (m:=barS b p) hfr (by rw[hid];exact q1) (by rw[hid];exact q2),if_neg (show¬(barS b p).program=aI from hne),if_neg (Classical.not_not.2 hr),if_neg (Classical.not_not.2 hl),hid]
  show(cut5 (st2 b p) x (bs sid [barS b p] b.id) _,(0:Int))=_;rw[q3]
 refine⟨?_,e1,e2,e3⟩;unfold kL;rw[e1,if_pos rfl];unfold kL;rw[e2,if_pos rfl];unfold kL;rw[e3,if_pos rfl];rfl
theorem aC6:∀(l:List Int) (n:Int),R6 n->n≠9223372036854775807->(∀c∈l,0<=c)->l.sum<=n->subL n l=n-l.sum
 | [],n,_,_,_,_=>by show n=n-0;omega
 |c::l,n,hn,hm,hc,hs=>by
  have h0:=hc c Af
  have hl:0<=l.sum:=by
   have key:∀(l:List Int),(∀x∈l,0<=x)->0<=l.sum:=by
    intro l
    induction l with
    |nil=>simp
    |cons x l ih=>
     intro h;have h1:=ih (fun y hy=>h y Hg);have h2:=h x Af
     rw[List.sum_cons];omega
   exact key l (fun x hx=>hc x Bq)
  rw[List.sum_cons]at hs;unfold R6 at hn
  have e:sub1 n c=n-c:=by
   unfold sub1;rw[lH,w_in (n:=n+1) Aa,Int.min_eq_left Aa,w_in Aa]
  show subL (sub1 n c) l=_;rw[e,aC6 l (n-c) (by unfold R6;omega) Aa (fun x hx=>hc x Bq) Aa,List.sum_cons]
  omega
def moreL(l:List Event):Nat:=(l.map more).sum
theorem vX(l:List Event)(he:∀e∈l,iY e)(hb:moreL l<=1000000)(hl:l.length<=1000000):Sp 21 [.sl (l.map aS)] (.tup [invV (kL inv0 0 l).1,I (kL inv0 0 l).2.1,I (kL inv0 0 l).2.2]):=by
 refine zsp Tryz.func21 ?_;have hm:(l.map aS).length=l.length:=Af;generalize hr:kL inv0 0 l=q
 repeat' ((conv=>whnf);first|refine zS ?_|fail)
 refine oU (A:=aJ) (B:=List Event) (C:=List Event) (fun s D R=>mkSt [(0, .sl (l.map aS)),(2, .box 2 0),(3,I 0),(4,I 0),(9, .sl (l.map aS)),(10,I l.length),(11,I D.length)] [(2,invC s)] []) (fun s D R=>l=D++R/\kL s D.length R=q/\∃n,Ok s n/\n+moreL R<=1000000) (fun s D R=>R.length) inv0 [] l ?_ ⟨rfl,hr,0,ok0,Aa⟩ (fun s D R hp=>?_)
 ·show Le T _ (mkSt [(0, .sl (l.map aS)),(2, .box 2 0),(3,I 0),(4,I 0),(9, .sl (l.map aS)),(10,I l.length),(11,I 0)] [(2,invC inv0)] [])
  refine dV ?_ ?_ ?_ ?_;all_goals repeat' (first|exact trivial|refine And.intro ?_ ?_|with_reducible rfl|exact(fun h=>Ah)|exact Nat.le_refl _|omega|exact rfl)
  all_goals (try rw[hm])
 obtain⟨hp,hq,n,hn,hnl⟩:=hp
 cases R with
 |nil=>exact Kv
 |cons e R=>
  have hlen:=aO hp;have em:moreL (e::R)=more e+moreL R:=Jr
  have g:=kG hn (e:=e) Aa (he e Ac);obtain⟨g1,g2⟩:=g;have hlD:((D++[e]).length:Int)=(D.length:Int)+1:=Af
  have hqq:kL s D.length (e::R)=if(appR s e).2=0 then kL (appR s e).1 ((D.length:Int)+1) R else(s,(D.length:Int),(appR s e).2):=rfl
  rw[hqq]at hq;generalize appR s e=a at*;by_cases c:a.2=0
  ·rw[if_pos c]at hq
   have g3:=g2 c;rw[c]at g1
   repeat' ((conv=>whnf);first|(exfalso;omega)|refine zS ?_|refine zT ?_ ?_<;>intro _|fail)
   all_goals conv=>whnf
   refine⟨(a.1,D++[e],R),?_,⟨Ac,by rw[hlD];exact hq,n+more e,g3,by show n+more e+moreL R<=1000000;omega⟩,Af⟩
   exact P6
  ·rw[if_neg c]at hq
   subst hq;exact zF
end Go.Proofs.Led
