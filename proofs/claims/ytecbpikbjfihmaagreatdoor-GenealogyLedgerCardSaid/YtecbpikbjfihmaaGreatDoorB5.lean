/- Lemmas. -/
import Derived.Test.YtecbpikbjfihmaaGreatDoorB4
import Derived.Test.YtecbpikbjfihmaaGreatDoorCards
import Derived.Test.YtecbpikbjfihmaaGreatDoorTie
import Derived.LaidMore
import Derived.Stop.Joined
import Derived.SevenTiedAt
import Derived.Lib.LaidTab
import Derived.MakeChecks
set_option linter.all false
set_option autoImplicit true
set_option relaxedAutoImplicit true
set_option maxRecDepth 100000
set_option maxHeartbeats 8000000
noncomputable section
namespace Go.Proofs.Led
open Go Go.Proofs Go.Ab Tryz
theorem assoc_hit:jG k (.tup [.lit k,x] ::r)=some x:=by simp[jG]
theorem assoc_miss(h:a≠k):jG k (.tup [.lit a,x] ::r)=jG k r:=by simp[jG,h]
def uP:List V:=[.tup [.lit (.int .i64 8), .fn 62 []], .tup [.lit (.int .i64 7), .fn 61 []], .tup [.lit (.int .i64 6), .fn 60 []], .tup [.lit (.int .i64 5), .fn 59 []],
 .tup [.lit (.int .i64 4), .fn 58 []], .tup [.lit (.int .i64 3), .fn 57 []], .tup [.lit (.int .i64 2), .fn 56 []], .tup [.lit (.int .i64 1), .fn 55 []]]
def dM0 s e(a:iY e)(c:¬iD e):fnVC T Tryz.prog Tryz.f21 [invV s,aS e] (.tup [invV inv0,I 1]):=by
 have b:=aE0 e a;exact zF
def dL3 s s' e(hs:Gd s)(he:iY e)(a:iD e)(hg:jG (.int .i64 e.kind) uP=some (.fn f []))(hm:SpB f [.box 100000 0,aS e] [stC s] (I 0) [stC s']):
 fnVC T Tryz.prog Tryz.f21 [invV s,aS e] (.tup [invV s',I 0]):=by
 exact NT
def dR7 s e(hs:Gd s)(he:iY e)(a:iD e)(hg:jG (.int .i64 e.kind) uP=some (.fn f []))(b:r≠0)(hm:SpB f [.box 100000 0,aS e] [stC s] (I r) [bots]):
 fnVC T Tryz.prog Tryz.f21 [invV s,aS e] (.tup [invV inv0,I r]):=by
 exact NT
open Classical in
def aD6(s:aJ)(n:Int)(f:aN->aJ×Int):aJ×Int:=
 if(∃m∈s.stocks,sid m=n)then(match s.stocks[bs sid s.stocks n]? with|some m=>f m|none=>(inv0,8))else(inv0,8)
open Classical in
def nM(s:aJ)(x:aN):aJ×Int:=if sid x∈s.used then(inv0,7)else(aX7 s x,0)
open Classical in
def relR(s:aJ)(e:Event):aJ×Int:=aD6 s e.id λm=>if m.program=aI then(setK s (bs sid s.stocks e.id) (prog m e.text),0)else(inv0,27)
open Classical in
def bP3(s:aJ)(e:Event):aJ×Int:=aD6 s e.id λm=>if m.program≠aI then(setK s (bs sid s.stocks e.id) (prog m aI),0)else(inv0,10)
open Classical in
def bQ0(s:aJ)(e:Event):aJ×Int:=aD6 s e.id λm=>if m.program=aI then(aX4 s (bs sid s.stocks e.id) m,0)else(inv0,27)
open Classical in
def nK(s:aJ)(n st:Int)(o:ByteArray):aJ×Int:=
 if(∃m∈s.pieces,m.id=n)then(match s.pieces[bs Piece.id s.pieces n]? with|some m=>(if m.status=1 then(setP s (bs Piece.id s.pieces n) (marked m st o),0)else(inv0,10))|none=>(inv0,8))else(inv0,8)
open Classical in
def cutR(s:aJ)(e:Event):aJ×Int:=
 if¬dP s.used (fO e)then(inv0,7)else aD6 s e.id λm=>if m.program=aI then(inv0,10)else
  if cZ m [] e.rests≠0 then(inv0,cZ m [] e.rests)else if nJ m e≠e.scrap then(inv0,29)else(cut5 s e (bs sid s.stocks e.id) m,0)
def bP2(s:aJ)(e:Event):aJ×Int:=
 if e.kind=1 then nM s ⟨false,e.sheet,bar0,aI⟩else if e.kind=2 then nM s ⟨true,dN,e.bar,aI⟩else if e.kind=3 then relR s e else if e.kind=4 then bP3 s e
 else if e.kind=5 then cutR s e else if e.kind=6 then nK s e.id 2 aI else if e.kind=7 then nK s e.id 3 e.text else bQ0 s e
open Classical in
def appR(s:aJ)(e:Event):aJ×Int:=if iD e then bP2 s e else(inv0,1)
def putK{α:Type}(key:α->Int)(l:List α)(x:α):List α:=putAt l (bs key l (key x)) x
def bE9:∀ {xs l:List f},(l.map key).Pairwise (·<·)->(∀x∈xs,∀y∈l,key y≠key x)->(xs.map key).Pairwise (·≠·)->
 ((xs.foldl (putK key) l).map key).Pairwise (·<·)/\(∀y,y∈xs.foldl (putK key) l↔y∈l\/y∈xs)/\(xs.foldl (putK key) l).length=l.length+xs.length
 | [],l,c,_,_=>⟨c,Ad,Ad⟩
 |x::xs,l,c,e,i=>by
  let⟨a,b⟩:=S9.1 i;have g:=yR c (λm j=>e x Ad m j)
  let⟨k,n,o⟩:=bE9 (xs:=xs) (l:=putK key l x) g (λz hz y d=>by
   rcases fH.1 d with rfl|d;exact a _ (RD hz)
   exact e z IA y d) b
  refine⟨k,λy=>?_,?_⟩;rw[RV,n,show(y∈putK key l x↔y=x\/y∈l)from fH,Rl];constructor;rintro((h|h)|h);exact .inr (.inl h);exact .inl h;exact .inr (.inr h);rintro(h|h|h);exact .inl (.inr h);exact .inl (.inl h);exact .inr h;rw[RV,o,show(putK key l x).length=l.length+1 from mQ,Ro];omega
theorem qJ:∀ {ids used},dP used ids↔(∀n∈ids,n∉used)/\ids.Pairwise (·≠·)
 | [],used=>⟨λ_=>⟨Ad,List.Pairwise.nil⟩,λ_=>trivial⟩
 |n::ids,used=>by
  show(n∉used/\dP (putN used n) ids)↔_;rw[qJ,S9];constructor;rintro⟨b,c,d⟩;refine⟨λm a=>?_,λm a e=>?_,d⟩;rcases Rl.1 a with rfl|a;exact b;exact λh=>c m a (fH.2 (.inr h));exact c m a (fH.2 (.inl e.symm));rintro⟨b,c,d⟩;refine⟨b n Ad,λm a h=>?_,d⟩;rcases fH.1 h with e|h;exact c m a e.symm;exact b m (by simp[a]) h
theorem tY:∀ {ids used},y∈cO used ids↔y∈used\/y∈ids
 | [],used=>by simp[cO]
 |n::ids,used=>by
  show y∈cO (putN used n) ids↔_;rw[tY,show(y∈putN used n↔y=n\/y∈used)from fH,Rl];constructor;rintro((h|h)|h);exact .inr (.inl h);exact .inl h;exact .inr (.inr h);rintro(h|h|h);exact .inl (.inr h);exact .inl (.inl h);exact .inr h
def kM(l:List a) i:(nN l i).Sublist l:=by
 grind [List.Sublist.append,List.drop_drop,List.drop_sublist,SG,nN]
def bB0{key:a->Int}(h:(l.map key).Pairwise (·<·)) i:((nN l i).map key).Pairwise (·<·):=h.sublist ((kM l i).map key)
def bY6{a:Type}{key:a->Int}{l:List a}{m x}(b:l[k]? =some m)(c:key x=key m):(l.set k x).map key=l.map key:=by
 apply List.ext_getElem?;grind
theorem tZ:∀ {R D},cZ x D R=0->∀r∈R,iG x r=0
 | [],D,_=>Ad
 |r::R,D,h=>by
  unfold cZ at h;split at h;rename_i a;exact absurd h a;rename_i a;split at h;cases h;intro q b;rcases Rl.1 b with rfl|b;exact SN.1 a;exact tZ h q b
theorem cL1(h:iG x r=0):sid (dZ x r)=r.id:=by
 unfold dZ;unfold iG at h;by_cases a:x.isBar=false;rw[QU a]at h⊢;by_cases b:r.lo≠0\/r.hi≠0;rw[QU b]at h;cases h;rw[Q9 b]at h⊢;show(remS x.sheet r.box r.id).id=_;unfold remS;rw[QU h];rw[Q9 a];have c:iG x r=0:=by unfold iG;rw[Q9 a];rw[Q9 a]at h;exact h
 rw[QU c];rfl
def dL4{id}(e:lK s):lK (remS s b id):=by
 unfold remS;split;refine⟨aD2 _ _,Rz (yK b s.defects) e.2.1,λd a=>?_⟩;let⟨q,f,a⟩:=UR.1 a;grind [Ri,aD2,aK2,Ri.1];exact⟨⟨IC,IC,λr c=>by simp[dN,sh0]at c⟩,by simp[dN],λd a=>by simp[dN]at a⟩
def xZ:lK dN:=⟨⟨IC,IC,λr b=>by simp[dN,sh0]at b⟩,by simp[dN],λd a=>by simp[dN]at a⟩
theorem aX5(a:eY x):eY (dZ x r):=by
 unfold dZ;split;split;exact⟨xZ,by simp[wS,bar0]⟩;exact⟨dL4 a.1,by simp[bar0]⟩;split;exact⟨xZ,Rz (aG5 r _) a.2⟩;exact⟨xZ,by simp[wS,bar0]⟩
theorem mV(h:cZ x [] l=0):eG x l=l.map (dZ x):=by unfold eG;rw[QU h]
theorem aG9(h:cZ x [] l=0):(eG x l).map sid=l.map Rest.id:=by
 grind [mV,TI,Ti,cL1,tZ]
structure Ok(s:aJ)(n:Nat):Prop where
 ss:(s.stocks.map sid).Pairwise (·<·)
 sp:(s.pieces.map Piece.id).Pairwise (·<·)
 su:(s.used.map id).Pairwise (·<·)
 ls:s.stocks.length<=n
 lp:s.pieces.length<=n
 lu:s.used.length<=n
 us:∀x∈s.stocks,sid x∈s.used
 up:∀p∈s.pieces,p.id∈s.used
 sz:∀x∈s.stocks,eY x
def Ok.gd(h:Ok s n)(a:n<=1000000):Gd s:=⟨Rz h.ls a,Rz h.lp a,Rz h.lu a,h.ss,h.sp,h.su⟩
def Ok.mono(h:Ok s n)(a:n<=m):Ok s m:=⟨h.ss,h.sp,h.su,Rz h.ls a,Rz h.lp a,Rz h.lu a,h.us,h.up,h.sz⟩
def ok0:Ok inv0 0:=⟨.nil, .nil, .nil,Rf _,Rf _,Rf _,Eb,Eb,Eb⟩
def more(e:Event):Nat:=1+e.cuts.length+e.rests.length
theorem dG9 e:(fO e).length=e.cuts.length+e.rests.length:=by unfold fO;simp
def dD4(h:Ok s n)(f:eY x)(b:sid x∉s.used):Ok (aX7 s x) (n+1)where
 ss:=yR h.ss (λm c e=>b (by rw[<-e];exact h.us m c))
 sp:=h.sp
 su:=rF h.su b
 ls:=by show(putAt _ _ _).length<=_;rw[mQ];have:=h.ls;omega
 lp:=Nat.le_succ_of_le h.lp
 lu:=by show(putAt _ _ _).length<=_;rw[mQ];have:=h.lu;omega
 us:=λy a=>by
  rcases fH.1 a with rfl|a;exact fH.2 (.inl rfl);exact fH.2 (.inr (h.us y a))
 up:=λp d=>fH.2 (.inr (h.up p d))
 sz:=λy a=>by
  rcases fH.1 a with rfl|a;exact f;exact h.sz y a
def mem_set{a:Type}{l:List a}{k:Nat}{x y:a}(h:y∈l.set k x):y=x\/y∈l:=(List.mem_or_eq_of_mem_set h).symm
theorem fC{a:Type}{l:List a}{k:Nat}{x}(h:l[k]? =some x):x∈l:=QZ h
def bW3(h:Ok s n)(hm:s.stocks[k]? =some m) p:Ok (setK s k (prog m p)) n where
 ss:=by show((s.stocks.set k (prog m p)).map sid).Pairwise _;rw[bY6 hm (rfl:sid (prog m p)=sid m)];exact h.ss
 sp:=h.sp
 su:=h.su
 ls:=by show(s.stocks.set _ _).length<=_;rw[TK];exact h.ls
 lp:=h.lp
 lu:=h.lu
 us:=λy hy=>by
  rcases mem_set hy with rfl|hy;exact h.us m (fC hm);exact h.us y hy
 up:=h.up
 sz:=λy hy=>by
  rcases mem_set hy with rfl|hy;exact h.sz m (fC hm);exact h.sz y hy
def dE1(h:Ok s n)(hm:s.pieces[k]? =some m) st o:Ok (setP s k (marked m st o)) n where
 ss:=h.ss
 sp:=by show((s.pieces.set k (marked m st o)).map Piece.id).Pairwise _;rw[bY6 hm (rfl:(marked m st o).id=m.id)];exact h.sp
 su:=h.su
 ls:=h.ls
 lp:=by show(s.pieces.set _ _).length<=_;rw[TK];exact h.lp
 lu:=h.lu
 us:=h.us
 up:=λy hy=>by
  rcases mem_set hy with rfl|hy;exact h.up m (fC hm);exact h.up y hy
 sz:=h.sz
def dD6(h:Ok s n) k m:Ok (aX4 s k m) n where
 ss:=bB0 h.ss k
 sp:=h.sp
 su:=h.su
 ls:=Rz (kM _ _).length_le h.ls
 lp:=h.lp
 lu:=h.lu
 us:=λy hy=>h.us y ((kM _ _).subset hy)
 up:=h.up
 sz:=λy hy=>h.sz y ((kM _ _).subset hy)
def bJ9(h:Ok s n)(g:dP s.used (fO e))(i:cZ m [] e.rests=0)(f:eG m e.rests=D++R):
 ((D.foldl putS (nN s.stocks k)).map sid).Pairwise (·<·)/\(∀y,y∈D.foldl putS (nN s.stocks k)↔y∈nN s.stocks k\/y∈D)/\(D.foldl putS (nN s.stocks k)).length=(nN s.stocks k).length+D.length:=by
 have a:=aG9 i;rw[f,RH]at a;let⟨b,c⟩:=qJ.1 g;unfold fO at b c;rw[Si]at c;let⟨_,d,_⟩:=c;rw[<-a]at b d;rw[Si]at d;refine bE9 (key:=sid) (bB0 h.ss k) (λx j y l e=>?_) d.1;exact b (sid x) (by simp only[Rh];exact .inr (.inl (RD j))) (by rw[<-e];exact h.us y ((kM _ _).subset l))
def bC5(h:Ok s n)(l:dP s.used (fO e))(j:e.cuts=D++R):
 ((D.foldl (λp x=>putP p (fZ e m x)) s.pieces).map Piece.id).Pairwise (·<·)/\(∀y,y∈D.foldl (λp x=>putP p (fZ e m x)) s.pieces↔y∈s.pieces\/y∈D.map (fZ e m))/\(D.foldl (λp x=>putP p (fZ e m x)) s.pieces).length=s.pieces.length+D.length:=by
 let⟨a,b⟩:=qJ.1 l;unfold fO at a b;rw[Si]at b;let⟨d,_,_⟩:=b;rw[j,RH]at a d;rw[Si]at d;have g:D.foldl (λp x=>putP p (fZ e m x)) s.pieces=(D.map (fZ e m)).foldl (putK Piece.id) s.pieces:=by rw[List.foldl_map];rfl
 have i:(D.map (fZ e m)).map Piece.id=D.map Made.id:=by rw[TI];rfl
 rw[g]
 have q:=bE9 (key:=Piece.id) (xs:=D.map (fZ e m)) h.sp (λx o y r f=>by
  obtain⟨c,k,rfl⟩:=Rn.1 o;exact a c.id (by simp only[Rh];exact .inl (.inl (RD k))) (by have:=h.up y r;rw[f]at this;exact this)) (by rw[i];exact d.1)
 rw[Rw]at q;exact q
def aZ7(h:Ok s n)(B:s.stocks[k]? =some m)(g:dP s.used (fO e))(j:cZ m [] e.rests=0)(f:eG m e.rests=D++R)(d:e.cuts=C++Q):
 Ok (cut4 s e k m D C) (n+e.cuts.length+e.rests.length):=by
 let⟨q,l,t⟩:=bJ9 (k:=k) h g j f;let⟨u,v,w⟩:=bC5 (m:=m) h g d;let⟨z,o⟩:=aA8 _ _ h.su g;rw[dG9]at o;have b:=RI List.length (aG9 j);rw[f]at b;simp[Rw,QY]at b;have i:=RI List.length d;rw[QY]at i;have E:=(kM s.stocks k).length_le;have F:=h.ls;have G:=h.lp;have H:=h.lu;refine⟨q,u,z,?_,?_,?_,λy a=>?_,λy a=>?_,λy a=>?_⟩
 ·show(D.foldl putS (nN s.stocks k)).length<=_
  omega
 ·show(C.foldl (λp x=>putP p (fZ e m x)) s.pieces).length<=_
  omega
 ·show(cO s.used (fO e)).length<=_
  omega
 ·refine tY.2 ?_
  rcases(l y).1 a with a|a
  ·exact .inl (h.us y ((kM _ _).subset a))
  ·grind [RD,aG9,fO]
 ·refine tY.2 ?_
  rcases(v y).1 a with a|a
  ·exact .inl (h.up y a)
  ·refine .inr ?_
   obtain⟨c,A,rfl⟩:=Rn.1 a;unfold fO;simp only[Rh];exact .inl (RD (by rw[d];simp[A]))
 ·rcases(l y).1 a with a|a
  ·exact h.sz y ((kM _ _).subset a)
  ·have:y∈eG m e.rests:=by rw[f];simp[a]
   rw[mV j]at this;obtain⟨r,_,rfl⟩:=Rn.1 this;exact aX5 (h.sz m (fC B))
def cP7(h:Ok s n) v:Ok {s with scrap:=v} n:=⟨h.ss,h.sp,h.su,h.ls,h.lp,h.lu,h.us,h.up,h.sz⟩
def kE(a:(s.stocks.map sid).Pairwise (·<·)):
 ((¬∃m∈s.stocks,sid m=n)/\aD6 s n f=(inv0,8))\/∃m,(∃m∈s.stocks,sid m=n)/\s.stocks[bs sid s.stocks n]? =some m/\sid m=n/\aD6 s n f=f m:=by
 unfold aD6;by_cases h:∃m∈s.stocks,sid m=n
 ·let⟨m,b,c⟩:=aB8 a h;simp_all
 ·exact .inl ⟨h,Q9 h⟩
def zM(f:FuncId)(s:aJ)(e:Event)(q:aJ×Int):Prop:=(q.2=0/\SpB f [.box 100000 0,aS e] [stC s] (I 0) [stC q.1])\/(q.2≠0/\q.1=inv0/\SpB f [.box 100000 0,aS e] [stC s] (I q.2) [bots])
def eN8(h:Ok s n)(d:n<=1000000):zM 57 s e (relR s e)/\((relR s e).2=0->Ok (relR s e).1 n):=by
 unfold relR;rcases kE (n:=e.id) (f:=λm=>open Classical in if m.program=aI then(setK s (bs sid s.stocks e.id) (prog m e.text),0)else(inv0,27)) h.ss with⟨b,a⟩|⟨m,b,a,i,g⟩;rw[a];exact⟨.inr ⟨Ai,rfl,bN7 s e (h.gd d) b⟩,λh=>Ah⟩;rw[g];by_cases c:m.program=aI;rw[QU c];exact⟨.inl ⟨rfl,bM2 s e m (h.gd d) b a c⟩,λ_=>bW3 h a _⟩;rw[Q9 c];exact⟨.inr ⟨Ai,rfl,bM0 s e m (h.gd d) b a c⟩,λh=>Ah⟩
def eM9(h:Ok s n)(d:n<=1000000):zM 58 s e (bP3 s e)/\((bP3 s e).2=0->Ok (bP3 s e).1 n):=by
 unfold bP3;rcases kE (n:=e.id) (f:=λm=>open Classical in if m.program≠aI then(setK s (bs sid s.stocks e.id) (prog m aI),0)else(inv0,10)) h.ss with⟨b,a⟩|⟨m,b,a,i,g⟩;rw[a];exact⟨.inr ⟨Ai,rfl,cA0 s e (h.gd d) b⟩,λh=>Ah⟩;rw[g];by_cases c:m.program≠aI;rw[QU c];exact⟨.inl ⟨rfl,bZ5 s e m (h.gd d) b a c⟩,λ_=>bW3 h a _⟩;rw[Q9 c];exact⟨.inr ⟨Ai,rfl,cB5 s e m (h.gd d) b a c⟩,λh=>Ah⟩
def eN4(h:Ok s n)(d:n<=1000000):zM 62 s e (bQ0 s e)/\((bQ0 s e).2=0->Ok (bQ0 s e).1 n):=by
 unfold bQ0;rcases kE (n:=e.id) (f:=λm=>open Classical in if m.program=aI then(aX4 s (bs sid s.stocks e.id) m,0)else(inv0,27)) h.ss with⟨b,a⟩|⟨m,b,a,i,g⟩;rw[a];exact⟨.inr ⟨Ai,rfl,bO2 s e (h.gd d) b⟩,λh=>Ah⟩;rw[g];by_cases c:m.program=aI;rw[QU c];exact⟨.inl ⟨rfl,bM1 s e m (h.gd d) b a c (h.sz m (fC a))⟩,λ_=>dD6 h _ m⟩;rw[Q9 c];exact⟨.inr ⟨Ai,rfl,bO0 s e m (h.gd d) b a c⟩,λh=>Ah⟩
def aV1(h:Ok s n)(d:n<=1000000):(((nK s k st o).2=0/\SpB 105 [.box 100000 0,I k,I st,S o] [stC s] (I 0) [stC (nK s k st o).1])\/
 ((nK s k st o).2≠0/\(nK s k st o).1=inv0/\SpB 105 [.box 100000 0,I k,I st,S o] [stC s] (I (nK s k st o).2) [bots]))/\((nK s k st o).2=0->Ok (nK s k st o).1 n):=by
 by_cases a:∃m∈s.pieces,m.id=k
 ·let⟨m,b,f⟩:=aB8 h.sp a
  have e:nK s k st o=open Classical in if m.status=1 then(setP s (bs Piece.id s.pieces k) (marked m st o),0)else(inv0,10):=by
   unfold nK;rw[QU a,b]
  rw[e];by_cases c:m.status=1
  ·rw[QU c]
   exact⟨.inl ⟨rfl,cU5 s k st o m (h.gd d) a b c⟩,λ_=>dE1 h b st o⟩
  ·rw[Q9 c]
   exact⟨.inr ⟨(by decide:(10:Int)≠0),rfl,cR1 s k st o m (h.gd d) a b c⟩,λh=>Ah⟩
 ·unfold nK
  rw[Q9 a];exact⟨.inr ⟨(by decide:(8:Int)≠0),rfl,cX9 s k st o (h.gd d) a⟩,λh=>Ah⟩
def eR8(h:Ok s n)(f:n<=1000000):zM 60 s e (nK s e.id 2 aI)/\((nK s e.id 2 aI).2=0->Ok (nK s e.id 2 aI).1 n):=by
 let⟨c,d⟩:=aV1 (k:=e.id) (st:=2) (o:=aI) h f;refine⟨?_,d⟩;rcases c with⟨a,b⟩|⟨a,b,g⟩;exact .inl ⟨a,aU1 s e (.inr ⟨_,rfl⟩) b⟩;exact .inr ⟨a,b,aU1 s e (.inl rfl) g⟩
def eK3(h:Ok s n)(f:n<=1000000):zM 61 s e (nK s e.id 3 e.text)/\((nK s e.id 3 e.text).2=0->Ok (nK s e.id 3 e.text).1 n):=by
 let⟨c,d⟩:=aV1 (k:=e.id) (st:=3) (o:=e.text) h f;refine⟨?_,d⟩;rcases c with⟨a,b⟩|⟨a,b,g⟩;exact .inl ⟨a,bS3 s e (.inr ⟨_,rfl⟩) b⟩;exact .inr ⟨a,b,bS3 s e (.inl rfl) g⟩
def aY1(h:Ok s n)(d:n+1<=1000000)(b:eY x):(((nM s x).2=0/\SpB 96 [.box 100000 0,aQ x] [stC s] (I 0) [stC (nM s x).1])\/
 ((nM s x).2≠0/\(nM s x).1=inv0/\SpB 96 [.box 100000 0,aQ x] [stC s] (I (nM s x).2) [bots]))/\((nM s x).2=0->Ok (nM s x).1 (n+1)):=by
 unfold nM;have a:s.used.length+1<=1000000:=by have:=h.lu;omega
 by_cases c:sid x∈s.used
 ·rw[QU c]
  exact⟨.inr ⟨(by decide:(7:Int)≠0),rfl,bM7 s x (h.gd Aa) a c⟩,λh=>Ah⟩
 ·rw[Q9 c]
  exact⟨.inl ⟨rfl,bN1 s x (h.gd Aa) b a c⟩,λ_=>dD4 h b c⟩
def eY6(h:Ok s n)(g:n+1<=1000000)(f:lK e.sheet):zM 55 s e (nM s ⟨false,e.sheet,bar0,aI⟩)/\((nM s ⟨false,e.sheet,bar0,aI⟩).2=0->Ok (nM s ⟨false,e.sheet,bar0,aI⟩).1 (n+1)):=by
 let⟨c,d⟩:=aY1 (x:=⟨false,e.sheet,bar0,aI⟩) h g ⟨f,by simp[bar0]⟩;refine⟨?_,d⟩;rcases c with⟨a,b⟩|⟨a,b,i⟩;exact .inl ⟨a,aW2 s e (.inr ⟨_,rfl⟩) b⟩;exact .inr ⟨a,b,aW2 s e (.inl rfl) i⟩
def eW9(h:Ok s n)(g:n+1<=1000000)(f:iY e):zM 56 s e (nM s ⟨true,dN,e.bar,aI⟩)/\((nM s ⟨true,dN,e.bar,aI⟩).2=0->Ok (nM s ⟨true,dN,e.bar,aI⟩).1 (n+1)):=by
 let⟨c,d⟩:=aY1 (x:=⟨true,dN,e.bar,aI⟩) h g ⟨xZ,f.br⟩;refine⟨?_,d⟩;rcases c with⟨a,b⟩|⟨a,b,i⟩;exact .inl ⟨a,bJ1 s e (.inr ⟨_,rfl⟩) b⟩;exact .inr ⟨a,b,bJ1 s e (.inl rfl) i⟩
def eP9(h:Ok s n)(u:n+more e<=1000000)(c:iY e):zM 59 s e (cutR s e)/\((cutR s e).2=0->Ok (cutR s e).1 (n+more e)):=by
 unfold more at u⊢;have j:=h.gd Aa;have k:s.used.length+(fO e).length<=1000000:=by rw[dG9];have:=h.lu;omega
 unfold cutR;by_cases b:dP s.used (fO e);rw[Q9 (SN.2 b)]
 rcases kE (n:=e.id) (f:=λm=>open Classical in if m.program=aI then(inv0,10)else
  if cZ m [] e.rests≠0 then(inv0,cZ m [] e.rests)else if nJ m e≠e.scrap then(inv0,29)else(cut5 s e (bs sid s.stocks e.id) m,0)) h.ss with⟨h1,h2⟩|⟨m,h1,h2,h3,h4⟩
 rw[h2];exact⟨.inr ⟨(by decide:(8:Int)≠0),rfl,xP s e j c k (.inr ⟨b, .inl ⟨h1,rfl,rfl⟩⟩) (.inl rfl)⟩,λh=>Ah⟩;rw[h4];have d:=h.sz m (fC h2);by_cases g:m.program=aI;rw[QU g];exact⟨.inr ⟨(by decide:(10:Int)≠0),rfl,xP s e j c k (.inr ⟨b, .inr ⟨m,h1,h2, .inl ⟨g,rfl,rfl⟩⟩⟩) (.inl rfl)⟩,λh=>Ah⟩;rw[Q9 g];by_cases i:cZ m [] e.rests≠0;rw[QU i];exact⟨.inr ⟨i,rfl,xP s e j c k (.inr ⟨b, .inr ⟨m,h1,h2, .inr ⟨g,d, .inl ⟨i,rfl,rfl⟩⟩⟩⟩) (.inl rfl)⟩,λh=>absurd h i⟩;rw[Q9 i];have a:=SN.1 i
 have t:∀x∈eG m e.rests,eY x:=λx v=>by
  grind [mV,aX5]
 have l:(eG m e.rests).length<=1000000:=by rw[mV a,Rw];exact c.rs
 by_cases o:nJ m e≠e.scrap;rw[QU o];exact⟨.inr ⟨(by decide:(29:Int)≠0),rfl,xP s e j c k (.inr ⟨b, .inr ⟨m,h1,h2, .inr ⟨g,d, .inr ⟨a,t,l, .inl ⟨o,rfl,rfl⟩⟩⟩⟩⟩) (.inl rfl)⟩,λh=>Ah⟩;rw[Q9 o];refine⟨.inl ⟨rfl,xP s e j c k (.inr ⟨b, .inr ⟨m,h1,h2, .inr ⟨g,d, .inr ⟨a,t,l, .inr ⟨SN.1 o,λD R r=>?_,λD R r=>?_,rfl,rfl⟩⟩⟩⟩⟩) (.inr ⟨_,rfl⟩)⟩,λ_=>?_⟩;have q:=(aZ7 (C:=[]) (Q:=e.cuts) h h2 b a r rfl).gd Aa;exact⟨q.ls,q.lp,q.lu,q.ss,q.sp,q.su⟩;exact(aZ7 (R:=[]) h h2 b a (Rq _).symm r).gd Aa;exact cP7 ((aZ7 (R:=[]) (Q:=[]) h h2 b a (Rq _).symm (Rq _).symm).mono Aa) _;rw[QU b];exact⟨.inr ⟨(by decide:(7:Int)≠0),rfl,xP s e j c k (.inl ⟨b,rfl,rfl⟩) (.inl rfl)⟩,λh=>Ah⟩
def sG(h:Gd s)(c:iY e)(d:iD e)(g:jG (.int .i64 e.kind) uP=some (.fn f []))(j:zM f s e q):
 Sp 21 [invV s,aS e] (.tup [invV q.1,I q.2]):=by
 refine zsp func21 ?_;rcases j with⟨a,b⟩|⟨a,b,i⟩
 ·rw[a]
  exact dL3 s q.1 e h c d g b
 ·rw[b]
  exact dR7 s e h c d g a i
def kG(h:Ok s n)(a:n+more e<=1000000)(he:iY e):Sp 21 [invV s,aS e] (.tup [invV (appR s e).1,I (appR s e).2])/\((appR s e).2=0->Ok (appR s e).1 (n+more e)):=by
 unfold appR;have b:1<=more e:=Ht;by_cases hf:iD e;rw[QU hf];have hk:e.kind=1\/e.kind=2\/e.kind=3\/e.kind=4\/e.kind=5\/e.kind=6\/e.kind=7\/e.kind=8:=by have:=hf.2.2.2.2.2.2.2.2;omega
 unfold bP2;have hs:=h.gd Aa;rcases hk with hk|hk|hk|hk|hk|hk|hk|hk;simp[hk,reduceIte,reduceCtorEq,Int.reduceEq];let⟨q1,q2⟩:=eY6 (e:=e) h Aa (aX9 (hf.2.2.2.1 hk).2);exact Ol;simp[hk,reduceIte,reduceCtorEq,Int.reduceEq];let⟨q1,q2⟩:=eW9 (e:=e) h Aa he;exact Ol;simp[hk,reduceIte,reduceCtorEq,Int.reduceEq];let⟨q1,q2⟩:=eN8 (e:=e) h Aa;exact Ol;simp[hk,reduceIte,reduceCtorEq,Int.reduceEq];let⟨q1,q2⟩:=eM9 (e:=e) h Aa;exact Ol;simp[hk,reduceIte,reduceCtorEq,Int.reduceEq];let⟨q1,q2⟩:=eP9 (e:=e) h a he;exact⟨sG hs he hf Di q1,q2⟩;simp[hk,reduceIte,reduceCtorEq,Int.reduceEq];let⟨q1,q2⟩:=eR8 (e:=e) h Aa;exact Ol;simp[hk,reduceIte,reduceCtorEq,Int.reduceEq];let⟨q1,q2⟩:=eK3 (e:=e) h Aa;exact Ol;simp[hk,reduceIte,reduceCtorEq,Int.reduceEq];let⟨q1,q2⟩:=eN4 (e:=e) h Aa;exact Ol;rw[Q9 hf];exact⟨zsp func21 (dM0 s e he hf),λh=>Ah⟩
inductive Step(s:aJ)(e:Event):aJ->Prop
 |recv (x:aN) (hx:(e.kind=1/\x=⟨false,e.sheet,bar0,aI⟩/\dB e.sheet)\/(e.kind=2/\x=⟨true,dN,e.bar,aI⟩/\fM e.bar)) (hn:sid x∉s.used):Step s e (aX7 s x)
 |setK (k:Nat) (m:aN) (p:ByteArray) (hk:e.kind=3\/e.kind=4) (hm:s.stocks[k]? =some m) (hid:sid m=e.id):Step s e (setK s k (prog m p))
 |disc (k:Nat) (m:aN) (hk:e.kind=8) (hm:s.stocks[k]? =some m) (hid:sid m=e.id):Step s e (aX4 s k m)
 |setP (k:Nat) (m:Piece) (st:Int) (o:ByteArray) (hk:(e.kind=6/\st=2/\o=aI)\/(e.kind=7/\st=3/\o=e.text)) (hm:s.pieces[k]? =some m) (hs:m.status=1) (hid:m.id=e.id):Step s e (setP s k (marked m st o))
 |cut (k:Nat) (m:aN) (hk:e.kind=5) (hf:nY e) (hfr:dP s.used (fO e)) (hm:s.stocks[k]? =some m) (hid:sid m=e.id) (hp:m.program≠aI) (hr:cZ m [] e.rests=0) (hl:nJ m e=e.scrap):Step s e (cut5 s e k m)
def bE7(h:Ok s n)(a:(nK s k st o).2=0):∃m,s.pieces[bs Piece.id s.pieces k]? =some m/\m.status=1/\m.id=k/\(nK s k st o).1=setP s (bs Piece.id s.pieces k) (marked m st o):=by
 unfold nK at a⊢;by_cases b:∃m∈s.pieces,m.id=k;let⟨m,d,e⟩:=aB8 h.sp b;rw[QU b,d]at a⊢;by_cases c:m.status=1;exact⟨m,rfl,c,e,by show(ite _ _ _:aJ×Int).1=_;rw[QU c]⟩;have a:(ite (m.status=1) (setP s (bs Piece.id s.pieces k) (marked m st o),(0:Int)) (inv0,10)).2=0:=a;rw[Q9 c]at a;cases a;rw[Q9 b]at a;cases a
def aZ6(h:Ok s n)(a:(appR s e).2=0):iD e/\Step s e (appR s e).1:=by
 unfold appR at a⊢;by_cases k:iD e;rotate_left;rw[Q9 k]at a;cases a;refine⟨k,?_⟩;rw[QU k]at a⊢;unfold bP2 at a⊢;have b:e.kind=1\/e.kind=2\/e.kind=3\/e.kind=4\/e.kind=5\/e.kind=6\/e.kind=7\/e.kind=8:=by have:=k.2.2.2.2.2.2.2.2;omega
 rcases b with b|b|b|b|b|b|b|b;all_goals simp[b,reduceIte,reduceCtorEq,Int.reduceEq]at a⊢
 unfold nM at a⊢;split at a;cases a;rename_i c;rw[Q9 c];exact .recv _ (.inl ⟨b,rfl,(k.2.2.2.1 b).2⟩) c;unfold nM at a⊢;split at a;cases a;rename_i c;rw[Q9 c];exact .recv _ (.inr ⟨b,rfl,(k.2.2.2.2.1 b).2⟩) c;unfold relR at a⊢;rcases kE (n:=e.id) (f:=λm=>open Classical in if m.program=aI then(Led.setK s (bs sid s.stocks e.id) (prog m e.text),0)else(inv0,27)) h.ss with⟨g,d⟩|⟨m,g,d,i,j⟩;rw[d]at a;cases a;rw[j]at a⊢;by_cases c:m.program=aI;rw[QU c];exact .setK _ m _ (.inl b) d i;rw[Q9 c]at a;cases a;unfold bP3 at a⊢;rcases kE (n:=e.id) (f:=λm=>open Classical in if m.program≠aI then(Led.setK s (bs sid s.stocks e.id) (prog m aI),0)else(inv0,10)) h.ss with⟨g,d⟩|⟨m,g,d,i,j⟩;rw[d]at a;cases a;rw[j]at a⊢;by_cases c:m.program≠aI;rw[QU c];exact .setK _ m _ (.inr b) d i;rw[Q9 c]at a;cases a
 ·unfold cutR at a⊢
  by_cases o:dP s.used (fO e);rotate_left;rw[QU o]at a;cases a;rw[Q9 (SN.2 o)]at a⊢
  rcases kE (n:=e.id) (f:=λm=>open Classical in if m.program=aI then(inv0,10)else
   if cZ m [] e.rests≠0 then(inv0,cZ m [] e.rests)else if nJ m e≠e.scrap then(inv0,29)else(cut5 s e (bs sid s.stocks e.id) m,0)) h.ss with⟨g,d⟩|⟨m,g,d,i,j⟩
  rw[d]at a;cases a;rw[j]at a⊢;by_cases p:m.program=aI;rw[QU p]at a;cases a;rw[Q9 p]at a⊢;by_cases l:cZ m [] e.rests≠0;rw[QU l]at a;exact absurd a l;rw[Q9 l]at a⊢;by_cases q:nJ m e≠e.scrap;rw[QU q]at a;cases a;rw[Q9 q];exact .cut _ m b (k.2.2.2.2.2.2.2.1 b) o d i p (SN.1 l) (SN.1 q)
 let⟨m,g,d,i,j⟩:=bE7 h a;rw[j];exact .setP _ m _ _ (.inl ⟨b,rfl,rfl⟩) g d i;let⟨m,g,d,i,j⟩:=bE7 h a;rw[j];exact .setP _ m _ _ (.inr ⟨b,rfl,rfl⟩) g d i;unfold bQ0 at a⊢;rcases kE (n:=e.id) (f:=λm=>open Classical in if m.program=aI then(aX4 s (bs sid s.stocks e.id) m,0)else(inv0,27)) h.ss with⟨g,d⟩|⟨m,g,d,i,j⟩;rw[d]at a;cases a;rw[j]at a⊢;by_cases c:m.program=aI;rw[QU c];exact .disc _ m b d i;rw[Q9 c]at a;cases a
def dC2 n:∃k,W n=n+k*18446744073709551616:=by
 simp[IntKind.wrap,IntKind.signed,IntKind.bits];split;all_goals first|exact⟨-(n/18446744073709551616),Aa⟩|exact⟨-(n/18446744073709551616)-1,Aa⟩
def fC5 k(h:a=b+k*18446744073709551616):W a=W b:=by
 let⟨p,e⟩:=dC2 a;let⟨q,f⟩:=dC2 b;have c:=nT a;have d:=nT b;omega
theorem bF8 a b:W (W a+b)=W (a+b):=by
 let⟨p,c⟩:=dC2 a;exact fC5 p Aa
def bX3 a:W (W a)=W a:=w_in (nT a)
def cls(b:Bool)(r:Iv):Int:=if b then r.2 else r.1
theorem rX b c r n:cls b (plus c r n)=if c=b then W (cls b r+n)else cls b r:=by
 unfold cls plus;cases b<;>cases c<;>simp
def totS(b:Bool)(l:List aN):Int:=(l.map λx=>if x.isBar=b then gG x else 0).sum
def totP(b:Bool)(l:List Piece):Int:=(l.map λx=>if x.isBar=b then x.size else 0).sum
def inR(r:Iv):Prop:=∀b,W (cls b r)=cls b r
def cK5(h:inR r):inR (plus c r n):=λb=>by rw[rX];split;exact bX3 _;exact h b
theorem bU2(f:a->Int) l i x:((putAt l i x).map f).sum=(l.map f).sum+f x:=by
 grind [SG,putAt]
def bP1(f:a->Int)(b:l[i]? =some x):((nN l i).map f).sum=(l.map f).sum-f x:=by
 grind [SG,List.drop_eq_getElem_cons,nN]
def dF7{a:Type}(f:a->Int){l:List a}{x y}(b:l[i]? =some x)(c:f y=f x):((l.set i y).map f).sum=(l.map f).sum:=by
 rw[bY6 (key:=f) b c]
theorem bB7(f:a->Int) key:∀(xs l:List a),((xs.foldl (putK key) l).map f).sum=(l.map f).sum+(xs.map f).sum
 | [],l=>Ad
 |x::xs,l=>by
  rw[RV,bB7 f key xs,show putK key l x=putAt l (bs key l (key x)) x from rfl,bU2,Rt,Sv];omega
def R6(n:Int):Prop:= -9223372036854775808<=n/\n<=9223372036854775807
theorem eQ4(b:R6 n)(d:0<=c)(h:0<=sub1 n c):sub1 n c=n-c/\c<=n:=by
 unfold sub1 at h⊢;unfold R6 at b;rw[lH]at h⊢;by_cases a:n=9223372036854775807;subst a;have e:W (9223372036854775807+1)= -9223372036854775808:=Ai;rw[e,Int.min_eq_right Aa]at h;exact absurd h Ai;grind [Int.min_eq_left,Int.min_eq_right,w_in]
def bK0 n c:R6 (sub1 n c):=nT _
def bY2:∀ l  n,R6 n->(∀c∈l,0<=c)->0<=subL n l->subL n l=n-l.sum/\0<=n/\∀c∈l,c<=n
 | [],n,d,_,h=>⟨by show n=n-0;omega,h,Ad⟩
 |c::l,n,d,a,h=>by
  have e:subL n (c::l)=subL (sub1 n c) l:=rfl;have b:=a c Ad;let⟨f,g,i⟩:=bY2 l (sub1 n c) (bK0 n c) (λx hx=>a x BI) h;grind [eQ4]
def cE6 o:0<=uK ⟨o,[]⟩:=by
 unfold uK;split;rename_i h;have a:=h.2.1 o (by simp[rings]);have b:=a.2.2.2.1;have e:nG o=zY o:=QU a;show 0<=W (W (2*nG o)-nG o);rw[e,Int.sub_eq_add_neg,bF8]
 have d: -9223372036854775808<=zY o/\zY o<=9223372036854775807:=by
  unfold zY;cases c:o.length with
  |zero=>have:=a.1;omega
  |succ n=>rw[bC2];exact nT _
 rw[w_in Aa];omega;exact TB 0
def aJ5 s:R6 (uK s):=by
 unfold uK;split;unfold qH rings
 have key:∀(l:List Rg) a ,R6 a->R6 (l.foldl (λa r=>W (a-nG r)) a):=by
  intro l;induction l with
  |nil=>exact λa h=>h
  |cons x l b=>exact λa _=>b _ (nT _)
 exact key _ _ (nT _);exact⟨Ai,Ai⟩
def cY9 b v:(jT b v).holes=[] :=by
 have key:(qO (sV (vsub b.1 v) (vsub b.2 v))).holes=[] :=by
  have a:(sV (vsub b.1 v) (vsub b.2 v)).holes=[] :=by
   unfold sV;split<;>rfl
  by_cases h:bG (sV (vsub b.1 v) (vsub b.2 v));rw[aN9 h];unfold wW;rw[a];rfl;rw[bH5 h];rfl
 exact key
def yP(h:iG x r=0)(f:x.isBar=true->R6 x.bar.length):0<=gG (dZ x r)/\(dZ x r).isBar=x.isBar:=by
 unfold dZ;by_cases a:x.isBar=false;rw[QU a];unfold iG at h;rw[QU a]at h;by_cases c:r.lo≠0\/r.hi≠0;rw[QU c]at h;cases h;rw[Q9 c]at h⊢;refine⟨?_,a.symm⟩;unfold remS;rw[QU h];show 0<=uK (jT r.box r.box.1)
 have e:jT r.box r.box.1=⟨(jT r.box r.box.1).outer,[]⟩:=by
  have:=cY9 r.box r.box.1;cases d:jT r.box r.box.1<;>simp_all
 rw[e];exact cE6 _;rw[Q9 a,QU h]
 have b:x.isBar=true:=by cases d:x.isBar with
  |true=>rfl
  |false=>exact absurd d a
 refine⟨?_,b.symm⟩;show 0<=W (r.hi-r.lo);unfold iG at h;grind [R6,w_in]
structure Bal(s:aJ):Prop where
 sc:inR s.scrap
 eq:∀b,W (cls b s.scrap+totS b s.stocks+totP b s.pieces)=cls b s.received
 ps:∀p∈s.pieces,1<=p.size/\p.size<=9223372036854775807
 br:∀x∈s.stocks,R6 (gG x)
def bal0:Bal inv0:=⟨λb=>by cases b<;>decide,λb=>by cases b<;>decide,Eb,Eb⟩
def cW8{a:Type}(p:a->Bool)(f:a->Int) c b:∀(l:List a),(∀x∈l,p x=c)->(l.map λx=>if p x=b then f x else 0).sum=if c=b then(l.map f).sum else 0
 | [],_=>Ad
 |x::l,h=>by
  rw[Rt,Sv,cW8 p f c b l (λy hy=>h y Gt),h x Ad,Rt,Sv];split;rfl;rfl
def bK7:∀ l  n,R6 n->R6 (subL n l)
 | [],n,h=>h
 |c::l,n,h=>bK7 l (sub1 n c) (bK0 n c)
def bH6{e:Event}(a:(e.kind=1/\x=⟨false,e.sheet,bar0,aI⟩/\dB e.sheet)\/(e.kind=2/\x=⟨true,dN,e.bar,aI⟩/\fM e.bar)):R6 (gG x)/\nC (sid x):=by
 rcases a with⟨_,rfl,h⟩|⟨_,rfl,h⟩;exact⟨aJ5 _,h.1.1,h.1.2.1⟩;refine⟨?_,h.1.1,h.1.2.1⟩;show R6 e.bar.length;have b:=h.2.1;have c:=h.2.2.1;unfold R6;omega
theorem aG4 s e k m:(cut5 s e k m).pieces=(e.cuts.map (fZ e m)).foldl (putK Piece.id) s.pieces:=by
 rw[List.foldl_map];rfl
theorem aF7 s e k m:(cut5 s e k m).stocks=(eG m e.rests).foldl (putK sid) (nN s.stocks k):=rfl
def yU(a:cZ m [] l=0)(b:x∈eG m l):∃r∈l,x=dZ m r/\iG m r=0:=by
 grind [mV,tZ]
def cM1(h:R6 (gG x)):x.isBar=true->R6 x.bar.length:=λa=>by unfold gG at h;rw[QU a]at h;exact h
def dN1(h:iG m r=0):R6 (gG (dZ m r)):=by
 unfold dZ;split;split;exact aJ5 _;exact aJ5 _;exact nT _
def eE0(d:Bal s)(E:Step s e s'):Bal s':=by
 cases E with
 |recv x j K=>
  let⟨J,Q⟩:=bH6 j;refine⟨d.sc,λb=>?_,d.ps,λy a=>?_⟩;show W (cls b s.scrap+totS b (putAt s.stocks _ x)+totP b s.pieces)=cls b (plus x.isBar s.received (gG x));have f:totS b (putAt s.stocks (bs sid s.stocks (sid x)) x)=totS b s.stocks+if x.isBar=b then gG x else 0:=bU2 _ _ _ _
  rw[f,rX,<-d.eq b];grind [bF8];rcases fH.1 a with rfl|a;exact J;exact d.br y a
 |setK k m p w i n=>
  refine⟨d.sc,λb=>?_,d.ps,λy a=>?_⟩;have f:totS b (s.stocks.set k (prog m p))=totS b s.stocks:=dF7 _ i rfl;show W (cls b s.scrap+totS b (s.stocks.set k (prog m p))+totP b s.pieces)=cls b s.received;rw[f];exact d.eq b;rcases mem_set a with rfl|a;exact d.br m (fC i);exact d.br y a
 |disc k m w i n=>
  refine⟨cK5 d.sc,λb=>?_,d.ps,λy a=>d.br y ((kM _ _).subset a)⟩;show W (cls b (plus m.isBar s.scrap (gG m))+totS b (nN s.stocks k)+totP b s.pieces)=cls b s.received;have f:totS b (nN s.stocks k)=totS b s.stocks-if m.isBar=b then gG m else 0:=bP1 _ i
  rw[f,rX,<-d.eq b];exact QC
 |setP k m st o w i G n=>
  refine⟨d.sc,λb=>?_,λy a=>?_,d.br⟩;have f:totP b (s.pieces.set k (marked m st o))=totP b s.pieces:=dF7 _ i rfl;show W (cls b s.scrap+totS b s.stocks+totP b (s.pieces.set k (marked m st o)))=cls b s.received;rw[f];exact d.eq b;rcases mem_set a with rfl|a;exact d.ps m (fC i);exact d.ps y a
 |cut k m w v C i n L z D=>
  have g:=d.br m (fC i);have F:=v.2.2.2.2.1;unfold nJ at D;have B:R6 (subL (gG m) (e.cuts.map Made.size)):=bK7 _ _ g
  obtain⟨M,H,N⟩:=bY2 _ _ B (λc t=>by
   obtain⟨x,j,rfl⟩:=Rn.1 t;obtain⟨r,f,rfl,u⟩:=yU z j;exact(yP u (cM1 g)).1) Aa
  let⟨O,P,I⟩:=bY2 _ _ g (λc t=>by
   obtain⟨x,j,rfl⟩:=Rn.1 t;have:=(v.1 x j).2.2;omega) H
  refine⟨cK5 d.sc,λb=>?_,λy a=>?_,λy a=>?_⟩
  have f:totS b (cut5 s e k m).stocks=totS b s.stocks- (if m.isBar=b then gG m else 0)+if m.isBar=b then((eG m e.rests).map gG).sum else 0:=by
   rw[aF7];unfold totS
   rw[bB7,bP1 _ i,cW8 (λx=>x.isBar) gG m.isBar b (eG m e.rests) (λx j=>by
    obtain⟨r,f,rfl,u⟩:=yU z j;exact(yP u (cM1 g)).2)]
  have A:totP b (cut5 s e k m).pieces=totP b s.pieces+if m.isBar=b then(e.cuts.map Made.size).sum else 0:=by
   rw[aG4];unfold totP
   rw[bB7,cW8 (λx=>x.isBar) Piece.size m.isBar b (e.cuts.map (fZ e m)) (λx j=>by
    obtain⟨c,f,rfl⟩:=Rn.1 j;rfl),TI]
   rfl
  rw[f,A];show W (cls b (plus m.isBar s.scrap e.scrap)+_+_)=cls b s.received;rw[rX,<-d.eq b];exact QC;rw[aG4]at a
  have q:y∈s.pieces\/y∈e.cuts.map (fZ e m):=by
   have key:∀(xs l:List Piece),y∈xs.foldl (putK Piece.id) l->y∈l\/y∈xs:=by
    intro xs;induction xs with
    |nil=>exact λl h=> .inl h
    |cons x xs ih=>
     intro l h;exact Pq
   exact key _ _ a
  rcases q with a|a;exact d.ps y a;obtain⟨c,t,rfl⟩:=Rn.1 a;have f:=(v.1 c t).2.2;have A:=I c.size (RD t);unfold R6 at g;exact⟨f,by show c.size<=_;omega⟩;rw[aF7]at a
  have q:y∈nN s.stocks k\/y∈eG m e.rests:=by
   have key:∀(xs l:List aN),y∈xs.foldl (putK sid) l->y∈l\/y∈xs:=by
    intro xs;induction xs with
    |nil=>exact λl h=> .inl h
    |cons x xs ih=>
     intro l h;exact Pq
   exact key _ _ a
  rcases q with a|a;exact d.br y ((kM _ _).subset a);obtain⟨r,f,rfl,u⟩:=yU z a;exact dN1 u
structure Ids(s:aJ):Prop where
 dj:∀x∈s.stocks,∀p∈s.pieces,sid x≠p.id
 par:∀p∈s.pieces,p.parent∈s.used
 rng:∀n∈s.used,nC n
def ids0:Ids inv0:=⟨Eb,Eb,Eb⟩
def cG6(h:Ok s n)(hi:Ids s)(J:Step s e s'):Ids s'/\∀y∈s.used,y∈s'.used:=by
 cases J with
 |recv x C I=>
  let⟨R,L⟩:=bH6 C;have j:∀y,y∈putN s.used (sid x)↔y=sid x\/y∈s.used:=λy=>fH;refine⟨⟨λy a p u=>?_,λp u=>(j _).2 (.inr (hi.par p u)),λy a=>?_⟩,λy a=>(j _).2 (.inr a)⟩;rcases fH.1 a with rfl|a;intro e;exact I (by rw[e];exact h.up p u);exact hi.dj y a p u;rcases(j _).1 a with rfl|a;exact L;exact hi.rng y a
 |setK k m p z i d=>
  refine⟨⟨λy a q b=>?_,hi.par,hi.rng⟩,λy a=>a⟩;rcases mem_set a with rfl|a;exact hi.dj m (fC i) q b;exact hi.dj y a q b
 |disc k m z i d=>exact⟨⟨λy a q b=>hi.dj y ((kM _ _).subset a) q b,hi.par,hi.rng⟩,λy a=>a⟩
 |setP k m st o z i K d=>
  refine⟨⟨λy a q b=>?_,λq b=>?_,hi.rng⟩,λy a=>a⟩;rcases mem_set b with rfl|b;exact hi.dj y a m (fC i);exact hi.dj y a q b;rcases mem_set b with rfl|b;exact hi.par m (fC i);exact hi.par q b
 |cut k m z E g i d u F Q=>
  let⟨M,G,N⟩:=bJ9 (k:=k) h g F (Rq _).symm;let⟨O,D,P⟩:=bC5 (m:=m) h g (Rq _).symm;let⟨v,w⟩:=qJ.1 g;have f:∀x∈eG m e.rests,sid x∈e.rests.map Rest.id:=λx C=>by rw[<-aG9 F];exact RD C
  have B:∀y,y∈cO s.used (fO e)↔y∈s.used\/y∈fO e:=λy=>tY;unfold fO at v w;rw[Si]at w;refine⟨⟨λy a q b=>?_,λq b=>?_,λy a=>?_⟩,λy a=>(B y).2 (.inl a)⟩;rcases(G y).1 a with a|a<;>rcases(D q).1 b with b|b
  exact hi.dj y ((kM _ _).subset a) q b;obtain⟨c,l,rfl⟩:=Rn.1 b;intro t;have H:sid y=c.id:=t;exact v c.id (by simp only[Rh];exact .inl (RD l)) (by rw[<-H];exact h.us y ((kM _ _).subset a));intro t;exact v (sid y) (by simp only[Rh];exact .inr (f y a)) (by rw[t];exact h.up q b);obtain⟨c,l,rfl⟩:=Rn.1 b;intro t;exact w.2.2 c.id (RD l) (sid y) (f y a) t.symm;refine(B _).2 (.inl ?_);rcases(D q).1 b with b|b;exact hi.par q b;obtain⟨c,l,rfl⟩:=Rn.1 b;show e.id∈_;rw[<-d];exact h.us m (fC i);rcases(B y).1 a with a|a;exact hi.rng y a;unfold fO at a;rcases Rh.1 a with a|a;obtain⟨c,l,rfl⟩:=Rn.1 a;exact(E.1 c l).1;obtain⟨r,A,rfl⟩:=Rn.1 a;exact(E.2.1 r A).1
def dP0(a:iD e)(b:e.kind=2):appR s e=nM s ⟨true,dN,e.bar,aI⟩:=by
 simp_all [QU,Q9,appR,bP2]
def dW9(h:sid x∉s.used):nM s x=(aX7 s x,0):=by unfold nM;rw[Q9 h]
theorem bT0(a:∃m∈s.stocks,sid m=n)(b:s.stocks[bs sid s.stocks n]? =some m):aD6 s n f=f m:=by unfold aD6;rw[QU a,b]
def dR0(a:¬∃m∈s.stocks,sid m=n):aD6 s n f=(inv0,8):=by unfold aD6;rw[Q9 a]
def eM5(c:iD e)(d:e.kind=3)(a:∃m∈s.stocks,sid m=e.id)(b:s.stocks[bs sid s.stocks e.id]? =some m)(f:m.program=aI):
 appR s e=(setK s (bs sid s.stocks e.id) (prog m e.text),0):=by
 simp_all [QU,Q9,bT0,appR,bP2,relR]
def aY8(a:iD e)(b:e.kind=5):appR s e=cutR s e:=by
 unfold appR bP2;simp_all
def dF5(h:¬dP s.used (fO e)):cutR s e=(inv0,7):=by unfold cutR;rw[QU h]
def cF5(h:dP s.used (fO e))(a:¬∃m∈s.stocks,sid m=e.id):cutR s e=(inv0,8):=by unfold cutR;rw[Q9 (SN.2 h),dR0 a]
def bG4(h:dP s.used (fO e))(a:∃m∈s.stocks,sid m=e.id)(b:s.stocks[bs sid s.stocks e.id]? =some m):
 cutR s e=open Classical in if m.program=aI then(inv0,10)else if cZ m [] e.rests≠0 then(inv0,cZ m [] e.rests)else if nJ m e≠e.scrap then(inv0,29)else(cut5 s e (bs sid s.stocks e.id) m,0):=by
 simp_all [Q9,bT0,cutR]
def kV(e:Event)(c:Int):Event:={e with scrap:=c}
def refused(h:Ok s n)(a:(appR s e).2=0)(o:e.kind=5)(r:c≠e.scrap):
 appR s (kV e c)=(inv0,29)\/appR s (kV e c)=(inv0,1):=by
 by_cases l:iD (kV e c);rotate_left
 ·right
  unfold appR;rw[Q9 l]
 left;have g:=(aZ6 h a).1;rw[aY8 g o]at a;rw[aY8 l o];by_cases b:dP s.used (fO e);rotate_left
 ·rw[dF5 b]at a;cases a
 by_cases d:∃m∈s.stocks,sid m=e.id;rotate_left
 ·rw[cF5 b d]at a;cases a
 let⟨m,k,u⟩:=aB8 h.ss d;rw[bG4 b d k]at a;rw[bG4 (e:=kV e c) (m:=m) b d k];by_cases i:m.program=aI
 ·rw[QU i]at a;cases a
 rw[Q9 i]at a⊢;have q:(kV e c).rests=e.rests:=rfl;rw[q];by_cases f:cZ m [] e.rests≠0
 ·rw[QU f]at a;exact absurd a f
 rw[Q9 f]at a⊢;by_cases j:nJ m e≠e.scrap
 ·rw[QU j]at a;cases a
 have p:nJ m (kV e c)≠(kV e c).scrap:=λt=>r (t.symm.trans (SN.1 j));rw[QU p]
def nD(b:Bar):Event:=⟨2,0,aI,dN,b,[],[],0⟩
def no0:pJ dN:=⟨rfl,rfl,rfl,rfl,rfl,rfl,rfl⟩
def nob0:yT bar0:=⟨rfl,rfl,rfl,rfl,rfl⟩
def bM8(h:fM b):iD (nD b):=
 ⟨λ_=>⟨rfl,rfl⟩,λq=>absurd (.inr rfl) q,λ_=>⟨rfl,rfl,rfl⟩,λq=>EP,λ_=>⟨no0,h⟩,λq=>Ee,λq=>FN,λq=>EP,show(1:Int)<=2 from Ai,show(2:Int)<=8 from Ai⟩
def uX(n:Int)(t:ByteArray):Event:=⟨3,n,t,dN,bar0,[],[],0⟩
def bY3(h:iM t):iD (uX n t):=
 ⟨λq=>Ee,λ_=>⟨no0,nob0⟩,λ_=>⟨rfl,rfl,rfl⟩,λq=>EP,λq=>EP,λ_=>h,λq=>FN,λq=>EP,show(1:Int)<=3 from Ai,show(3:Int)<=8 from Ai⟩
def xC(n:Int)(c:List Made)(r:List Rest)(z:Int):Event:=⟨5,n,aI,dN,bar0,c,r,z⟩
def aK5(a:∀x∈c,bU7 x)(b:∀x∈r,bR4 x)(d:c.length<=60)(e:r.length<=6)(f:0<=z):iD (xC n c r z):=
 ⟨λq=>Ee,λ_=>⟨no0,nob0⟩,λq=>absurd rfl q,λq=>EP,λq=>EP,λq=>Ee,λq=>FN,λ_=>⟨a,b,d,e,f,rfl⟩,show(1:Int)<=5 from Ai,show(5:Int)<=8 from Ai⟩
def chB(c:UInt8):ByteArray:=⟨#[c]⟩
def yM(h:97<=c.toNat/\c.toNat<=122):iM (chB c):=by
 have a:byteAt (chB c) 0=(c.toNat:Int):=by unfold byteAt;rfl
 refine⟨Rf 1,show(1:Nat)<=16 from Ai,?_,λi hi=>?_⟩;exact .inl Aa;have b:(chB c).size=1:=rfl;have:i=0:=Aa;subst this;exact .inl (.inl Aa)
def eR5(h:Ok s n)(i:Step s e s'):Ok s' (n+more e):=by
 have b:1<=more e:=Ht;cases i with
 |recv x l f=>
  refine(dD4 h ?_ f).mono Aa;rcases l with⟨_,rfl,h⟩|⟨_,rfl,h⟩;exact⟨aX9 h,RY _⟩;exact⟨xZ,Rz h.2.2.2.1 Ai⟩
 |setK k m p d b a=>exact(bW3 h b p).mono Aa
 |disc k m d b a=>exact(dD6 h k m).mono Aa
 |setP k m st o d b j a=>exact(dE1 h b st o).mono Aa
 |cut k m d q c b a t g r=>exact cP7 ((aZ7 (R:=[]) (Q:=[]) h b c g (Rq _).symm (Rq _).symm).mono Ht) _
structure Good(s:aJ)(n:Nat):Prop where
 ok:Ok s n
 bal:Bal s
 ids:Ids s
def cN2:Good inv0 0:=⟨ok0,bal0,ids0⟩
def good_step(h:Good s n)(b:(appR s e).2=0):Good (appR s e).1 (n+more e):=by
 have a:=(aZ6 h.ok b).2;exact⟨eR5 h.ok a,eE0 h.bal a,(cG6 h.ok h.ids a).1⟩
def Good.mono(h:Good s n)(a:n<=m):Good s m:=⟨h.ok.mono a,h.bal,h.ids⟩
def kL(s:aJ)(i:Int):List Event->aJ×Int×Int
 | [] =>(s,i,0)
 |x::l=>if(appR s x).2=0 then kL (appR s x).1 (i+1) l else(s,i,(appR s x).2)
def barS(b:Bar)(p:ByteArray):aN:=⟨true,dN,b,p⟩
def st1(b:Bar):aJ:=aX7 inv0 (barS b aI)
def st2(b:Bar)(p:ByteArray):aJ:=⟨[barS b p],[],[b.id],(0,W (0+b.length)),(0,0)⟩
def dI8:(∃m∈(aJ.mk [barS b p] q u r c).stocks,sid m=b.id)/\(aJ.mk [barS b p] q u r c).stocks[bs sid [barS b p] b.id]? =some (barS b p)/\bs sid [barS b p] b.id=0:=by
 have a:bs sid [barS b p] b.id=0:=by
  unfold bs;have:decide (sid (barS b p)<b.id)=false:=decide_eq_false (by show¬b.id<b.id;omega);simp[List.takeWhile,this]
 exact⟨⟨barS b p,Ad,rfl⟩,by rw[a];rfl,a⟩
def dH7(k:fM b)(j:iM p)(t:iD x)(l:x.kind=5)(a:x.id=b.id)(d:dP [b.id] (fO x))(o:cZ (barS b p) [] x.rests=0)(n:nJ (barS b p) x=x.scrap):
 kL inv0 0 [nD b,uX b.id p,x] =(cut5 (st2 b p) x 0 (barS b p),3,0)/\appR inv0 (nD b)=(st1 b,0)/\appR (st1 b) (uX b.id p)=(st2 b p,0)/\appR (st2 b p) x=(cut5 (st2 b p) x 0 (barS b p),0):=by
 have v:appR inv0 (nD b)=(st1 b,0):=by
  rw[dP0 (bM8 k) rfl];exact dW9 Eb
 have w:appR (st1 b) (uX b.id p)=(st2 b p,0):=by
  let⟨f,g,i⟩:=dI8 (b:=b) (p:=aI) (q:=[]) (u:=[b.id]) (r:=(0,W (0+b.length))) (c:=(0,0));rw[eM5 (s:=st1 b) (bY3 j) rfl (m:=barS b aI) f g rfl];show(setK (st1 b) (bs sid [barS b aI] b.id) _,(0:Int))=_;rw[i];rfl
 have e:p≠aI:=by
  rintro rfl;exact absurd j.1 Ai
 have y:appR (st2 b p) x=(cut5 (st2 b p) x 0 (barS b p),0):=by
  let⟨f,g,i⟩:=dI8 (b:=b) (p:=p) (q:=[]) (u:=[b.id]) (r:=(0,W (0+b.length))) (c:=(0,0));rw[aY8 t l,bG4 (m:=barS b p) d (by rw[a];exact f) (by rw[a];exact g),Q9 (show¬(barS b p).program=aI from e),Q9 (SN.2 o),Q9 (SN.2 n),a];show(cut5 (st2 b p) x (bs sid [barS b p] b.id) _,(0:Int))=_;rw[i]
 simp_all [QU,kL]
theorem aC6:∀ l  n,R6 n->n≠9223372036854775807->(∀c∈l,0<=c)->l.sum<=n->subL n l=n-l.sum
 | [],n,_,_,_,_=>by show n=n-0;omega
 |c::l,n,b,m,a,d=>by
  have g:=a c Ad
  have k:0<=l.sum:=by
   have key:∀(l:List Int),(∀x∈l,0<=x)->0<=l.sum:=by
    intro l;induction l with
    |nil=>simp
    |cons x l f=>
     intro h;have i:=f (λy hy=>h y Gt);have j:=h x Ad;rw[Sv];omega
   exact key l (λx hx=>a x BI)
  rw[Sv]at d;unfold R6 at b
  have e:sub1 n c=n-c:=by
   grind [lH,Int.min_eq_left,sub1,w_in]
  show subL (sub1 n c) l=_;rw[e,aC6 l (n-c) (by unfold R6;omega) Aa (λx hx=>a x BI) Aa,Sv];omega
def moreL(l:List Event):Nat:=(l.map more).sum
def vX l(m:∀e∈l,iY e)(v:moreL l<=1000000)(w:l.length<=1000000):Sp 8 [.sl (l.map aS)] (.tup [invV (kL inv0 0 l).1,I (kL inv0 0 l).2.1,I (kL inv0 0 l).2.2]):=by
 refine zsp func8 ?_;have hm:(l.map aS).length=l.length:=Ad;generalize t:kL inv0 0 l=q;repeat' ((conv=>whnf);first|omega|refine zS ?_|refine zm (λx hx=>?_)|refine zT ?_ ?_<;>intro _|fail)
 refine oU (A:=aJ) (B:=List Event) (C:=List Event) (λs D R=>mkSt [(0, .sl (l.map aS)),(2, .box 2 0),(3,I 0),(4,I 0),(9, .sl (l.map aS)),(10,I l.length),(11,I D.length)] [(2,invC s)] []) (λs D R=>l=D++R/\kL s D.length R=q/\∃n,Ok s n/\n+moreL R<=1000000) (λs D R=>R.length) inv0 [] l ?_ ⟨rfl,t,0,ok0,Aa⟩ (λs D R hp=>?_)
 ·show Le T _ (mkSt [(0, .sl (l.map aS)),(2, .box 2 0),(3,I 0),(4,I 0),(9, .sl (l.map aS)),(10,I l.length),(11,I 0)] [(2,invC inv0)] [])
  refine dV ?_ ?_ ?_ ?_;all_goals repeat' (first|exact trivial|refine And.intro ?_ ?_|with_reducible rfl|exact(λh=>Ah)|exact Rf _|omega|exact rfl)
  all_goals (try rw[hm])
 let⟨hp,b,n,o,r⟩:=hp;cases R with
 |nil=>
  have hlen:l.length=D.length:=Ae;have e:q=(s,(D.length:Int),0):=by rw[<-b];rfl
  exact Oa
 |cons e R=>
  have hlen:=aO hp;have u:moreL (e::R)=more e+moreL R:=ED;have g:=kG o (e:=e) Aa (m e Ae);let⟨d,j⟩:=g;have f:((D++[e]).length:Int)=(D.length:Int)+1:=Ad;have i:kL s D.length (e::R)=if(appR s e).2=0 then kL (appR s e).1 ((D.length:Int)+1) R else(s,(D.length:Int),(appR s e).2):=rfl
  rw[i]at b;generalize appR s e=a at*;by_cases c:a.2=0
  ·rw[QU c]at b
   have k:=j c;rw[c]at d;repeat' ((conv=>whnf);first|omega|refine aB (l:=l) Aa ?_|refine aF (l:=l) (A:=D) (x:=e) (B:=R) hp Aa ?_|refine zc d ?_|refine zS ?_|refine zm (λx hx=>?_)|refine zT ?_ ?_<;>intro _|fail)
   all_goals conv=>whnf
   refine⟨(a.1,D++[e],R),?_,⟨Ae,by rw[f];exact b,n+more e,k,GV⟩,Ad⟩;exact Nh
  rw[Q9 c]at b;subst b;repeat' ((conv=>whnf);first|omega|refine aB (l:=l) Aa ?_|refine aF (l:=l) (A:=D) (x:=e) (B:=R) hp Aa ?_|refine zc d ?_|refine zS ?_|refine zm (λx hx=>?_)|refine zT ?_ ?_<;>intro _|fail)
  all_goals exact zE
abbrev Len6{α:Type}(l:List α):Prop:=l.length<=9223372036854775807
def ownC(x:Event)(c r:V):List V:=[I x.kind,I x.id,S x.text,I x.sheet.id,S x.sheet.grade,S x.sheet.heat,I x.sheet.grain,rgV x.sheet.shape.outer, .sl (x.sheet.shape.holes.map rgV), .sl (x.sheet.defects.map shV),
 I x.bar.id,S x.bar.grade,S x.bar.heat,I x.bar.length, .sl (x.bar.defects.map ivV),c,r,I x.scrap]
abbrev zQ:List V:=[I 0,I 0,S aI,I 0,S aI,S aI,I 0,nilV,nilV,nilV,I 0,S aI,S aI,I 0,nilV,nilV,nilV,I 0]
def eI9(x:Event):List Made->Int->St
 | [],n=>mkSt [(1, .box 1 0),(2, .box 2 0),(3, .box 3 0),(4,I n)] [(1,iJ x),(2,zQ),(3,ownC x nilV nilV)] []
 |c::C,n=>mkSt [(1, .box 1 0),(2, .box 2 0),(3, .box 3 0),(4,I n)] [(1,iJ x),(2,zQ),(3,ownC x (.arr 34 C.length) nilV)] [(34,⟨C.length, .own,68,(c::C).map dK⟩)]
def bO5(x:Event):List Made->List Rest->Int->St
 | [],[],n=>mkSt [(1, .box 1 0),(2, .box 2 0),(3, .box 3 0),(5,I n)] [(1,iJ x),(2,zQ),(3,ownC x nilV nilV)] []
 |c::C,[],n=>mkSt [(1, .box 1 0),(2, .box 2 0),(3, .box 3 0),(5,I n)] [(1,iJ x),(2,zQ),(3,ownC x (.arr 34 C.length) nilV)] [(34,⟨C.length, .own,68,(c::C).map dK⟩)]
 | [],r::R,n=>mkSt [(1, .box 1 0),(2, .box 2 0),(3, .box 3 0),(5,I n)] [(1,iJ x),(2,zQ),(3,ownC x nilV (.arr 51 R.length))] [(51,⟨R.length, .own,74,(r::R).map bY⟩)]
 |c::C,r::R,n=>mkSt [(1, .box 1 0),(2, .box 2 0),(3, .box 3 0),(5,I n)] [(1,iJ x),(2,zQ),(3,ownC x (.arr 34 C.length) (.arr 51 R.length))] [(34,⟨C.length, .own,68,(c::C).map dK⟩),(51,⟨R.length, .own,74,(r::R).map bY⟩)]
def bB8 x(m:x.cuts.length<=1000000)(s:x.rests.length<=1000000):Sp 20 [aS x] (aS x):=by
 refine zsp func20 ?_;have o:(x.cuts.map dK).length=x.cuts.length:=Ad;have q:(x.rests.map bY).length=x.rests.length:=Ad;repeat' ((conv=>whnf);first|refine zS ?_|fail)
 refine aU (A:=List Made) (B:=List Made) (λD R=>eI9 x D D.length) (λD R=>x.cuts=D++R) (λD R=>R.length) [] x.cuts ?_ rfl (λD R hp=>?_);show Le T _ (eI9 x [] 0);exact zj;cases R with
 |cons c R=>
  have i:=aO hp;have n:((D++[c]).length:Int)=(D.length:Int)+1:=Ad;cases D with
  |nil=>
   have h00:([] :List Made).length=0:=rfl;repeat' ((conv=>whnf);first|omega|refine gX (QV rfl) (dA rfl) (show(1:Nat)<=1000000000 from Ai) ?_|refine zS ?_|refine zT ?_ ?_<;>intro _|fail)
   all_goals conv=>whnf
   refine⟨([c],R),?_,hp,Ad⟩;show Le T _ (eI9 x [c] 1);exact zj
  |cons d D=>
   have h00:(d::D).length=D.length+1:=rfl;repeat' ((conv=>whnf);first|omega|refine mX (l:=d::D) rfl rfl (.inl rfl) rfl (QV rfl) rfl Aa ?_|refine zS ?_|refine zT ?_ ?_<;>intro _|fail)
   all_goals conv=>whnf
   refine⟨(d::(D++[c]),R),?_,Ae,Ad⟩;have b:(d::(D++[c])).map dK=(d::D).map dK++[dK c] :=Ad;have f:(D++[c]).length=D.length+1:=Ad;show Le T _ (mkSt [(1, .box 1 0),(2, .box 2 0),(3, .box 3 0),(4,I ((d::(D++[c])).length:Nat))] [(1,iJ x),(2,zQ),(3,ownC x (.arr 34 (D++[c]).length) nilV)] [(34,⟨(D++[c]).length, .own,68,(d::(D++[c])).map dK⟩)]);rw[b,f];have g:((d::(D++[c])).length:Int)=((d::D).length:Int)+1:=Ad;rw[g];exact zj
 |nil=>
  have i:x.cuts.length=D.length:=Ae;have e:x.cuts=D:=Ae;cases D with
  |nil=>
  ·have k:(([] :List Made)).length<=1000000:=by rw[<-e];exact m
   repeat' ((conv=>whnf);first|omega|refine zS ?_|refine zT ?_ ?_<;>intro _|fail)
   refine aU (A:=List Rest) (B:=List Rest) (λD R=>bO5 x [] D D.length) (λD R=>x.rests=D++R) (λD R=>R.length) [] x.rests ?_ rfl (λE R hp=>?_);show Le T _ (bO5 x [] [] 0);exact zj;cases R with
   |cons r R=>
    have a:=aO hp;cases E with
    |nil=>
     have h00:([] :List Rest).length=0:=rfl;repeat' ((conv=>whnf);first|omega|refine gX (QV rfl) (dA rfl) (show(1:Nat)<=1000000000 from Ai) ?_|refine zS ?_|refine zT ?_ ?_<;>intro _|fail)
     all_goals conv=>whnf
     refine⟨([r],R),?_,hp,Ad⟩;show Le T _ (bO5 x [] [r] 1);exact zj
    |cons d E=>
     have h00:(d::E).length=E.length+1:=rfl;repeat' ((conv=>whnf);first|omega|refine mX (l:=d::E) rfl rfl (.inl rfl) rfl (QV rfl) rfl Aa ?_|refine zS ?_|refine zT ?_ ?_<;>intro _|fail)
     all_goals conv=>whnf
     refine⟨(d::(E++[r]),R),?_,Ae,Ad⟩;have b:(d::(E++[r])).map bY=(d::E).map bY++[bY r] :=Ad;have f:(E++[r]).length=E.length+1:=Ad;have g:((d::(E++[r])).length:Int)=((d::E).length:Int)+1:=Ad;show Le T _ (mkSt [(1, .box 1 0),(2, .box 2 0),(3, .box 3 0),(5,I ((d::(E++[r])).length:Nat))] [(1,iJ x),(2,zQ),(3,ownC x nilV (.arr 51 (E++[r]).length))] ((51,⟨(E++[r]).length, .own,74,(d::(E++[r])).map bY⟩):: []));rw[b,f,g];exact zj
   |nil=>
    have a:x.rests.length=E.length:=Ae;have j:x.rests=E:=Ae;have ev:aS x= .agg (ownC x (.sl (([] :List Made).map dK)) (.sl (E.map bY))):=by rw[<-e,<-j];rfl
    exact OL
  |cons c C=>
  have k:(((c::C):List Made)).length<=1000000:=by rw[<-e];exact m
  repeat' ((conv=>whnf);first|omega|refine zS ?_|refine zT ?_ ?_<;>intro _|fail)
  refine aU (A:=List Rest) (B:=List Rest) (λD R=>bO5 x (c::C) D D.length) (λD R=>x.rests=D++R) (λD R=>R.length) [] x.rests ?_ rfl (λE R hp=>?_);show Le T _ (bO5 x (c::C) [] 0);exact zj;cases R with
  |cons r R=>
   have a:=aO hp;cases E with
   |nil=>
    have h00:([] :List Rest).length=0:=rfl;repeat' ((conv=>whnf);first|omega|refine gX (QV rfl) (dA rfl) (show(1:Nat)<=1000000000 from Ai) ?_|refine zS ?_|refine zT ?_ ?_<;>intro _|fail)
    all_goals conv=>whnf
    refine⟨([r],R),?_,hp,Ad⟩;show Le T _ (bO5 x (c::C) [r] 1);exact zj
   |cons d E=>
    have h00:(d::E).length=E.length+1:=rfl;repeat' ((conv=>whnf);first|omega|refine mX (l:=d::E) rfl rfl (.inl rfl) rfl (QV rfl) rfl Aa ?_|refine zS ?_|refine zT ?_ ?_<;>intro _|fail)
    all_goals conv=>whnf
    refine⟨(d::(E++[r]),R),?_,Ae,Ad⟩;have b:(d::(E++[r])).map bY=(d::E).map bY++[bY r] :=Ad;have f:(E++[r]).length=E.length+1:=Ad;have g:((d::(E++[r])).length:Int)=((d::E).length:Int)+1:=Ad;show Le T _ (mkSt [(1, .box 1 0),(2, .box 2 0),(3, .box 3 0),(5,I ((d::(E++[r])).length:Nat))] [(1,iJ x),(2,zQ),(3,ownC x (.arr 34 C.length) (.arr 51 (E++[r]).length))] ((34,⟨C.length, .own,68,(c::C).map dK⟩)::(51,⟨(E++[r]).length, .own,74,(d::(E++[r])).map bY⟩):: []));rw[b,f,g];exact zj
  |nil=>
   have a:x.rests.length=E.length:=Ae;have j:x.rests=E:=Ae;have ev:aS x= .agg (ownC x (.sl (((c::C):List Made).map dK)) (.sl (E.map bY))):=by rw[<-e,<-j];rfl
   exact OL
def aV5(s:Sh):Prop:=s.outer.length<=9223372036854775807/\s.holes.length<=9223372036854775807/\∀h∈s.holes,h.length<=9223372036854775807
def aA4(s:jL):Prop:=aV5 s.shape/\s.defects.length<=9223372036854775807/\∀d∈s.defects,aV5 d
structure bI1(e:Event):Prop where
 sh:aA4 e.sheet
 br:e.bar.defects.length<=9223372036854775807
 ct:e.cuts.length<=9223372036854775807
 rs:e.rests.length<=9223372036854775807
def cntS(n:Int)(l:List Rg):Int:=l.foldl (λn h=>W (n+(h.length:Int))) n
def dP1 n D h:cntS n (D++[h])=W (cntS n D+(h.length:Int)):=by unfold cntS;simp
def fewS(s:Sh):Prop:=s.holes.length<=3/\cntS s.outer.length s.holes<=24
def xY(s:jL):Prop:=(∀d∈s.defects,fewS d)/\s.grade.size<=40/\s.heat.size<=40/\s.defects.length<=8/\fewS s.shape
def aJ9(b:Bar):Prop:=b.grade.size<=40/\b.heat.size<=40/\b.defects.length<=10
def fewE(e:Event):Prop:=(e.cuts.length<=12/\e.rests.length<=8/\e.text.size<=40/\xY e.sheet/\aJ9 e.bar)/\∀c∈e.cuts,c.part.size<=40
def fewL(l:List Event)(n:Int):Prop:=(∀e∈l,fewE e)/\(l.length:Int)<=n
def bR9 s(m:aV5 s):Sp 39 [shV s] (DB (fewS s)):=by
 refine zsp func39 ?_;let⟨o,q,f⟩:=m;have d:(s.outer.map vcV).length=s.outer.length:=Ad;have l:(s.holes.map rgV).length=s.holes.length:=Ad;have b:fewS s↔s.holes.length<=3/\cntS s.outer.length s.holes<=24:=RU;generalize fewS s=P at*;repeat' ((conv=>whnf);first|refine zS ?_|fail)
 refine aU (A:=List Rg) (B:=List Rg) (λD R=>mkSt [(1, .box 1 0),(3,I (cntS s.outer.length D)),(4,I D.length)] [(1,(shV s).cells)] []) (λD R=>s.holes=D++R) (λD R=>R.length) [] s.holes ?_ rfl (λD R hp=>?_);show Le _ _ (mkSt [(1, .box 1 0),(3,I (s.outer.length:Int)),(4,I 0)] [(1,(shV s).cells)] []);rw[<-d];exact zj;cases R with
 |cons h R=>
  have i:=dP1 s.outer.length D;generalize cntS (s.outer.length:Int) D=n at*;have a:=aO hp;have k:=f h Ae;have c:(h.map vcV).length=h.length:=Ad;have j:=i h;repeat' ((conv=>whnf);first|omega|refine zS ?_|refine zT ?_ ?_<;>intro _|fail)
  all_goals conv=>whnf
  refine⟨(D++[h],R),?_,Ae,Ad⟩;simp[QY,Rj,j];rw[<-c];show Le _ _ (mkSt [(1, .box 1 0),(3,I (W (n+((h.map vcV).length:Int)))),(4,I ((D.length:Int)+1))] [(1,(shV s).cells)] []);exact zj
 |nil=>
  have a:s.holes.length=D.length:=Ae;have e:s.holes=D:=Ae;have g:cntS (s.outer.length:Int) s.holes=cntS (s.outer.length:Int) D:=Io;rw[g]at b;generalize cntS (s.outer.length:Int) D=n at*;clear hp e g;repeat' ((conv=>whnf);first|omega|refine zS ?_|refine zT ?_ ?_<;>intro _|fail)
  all_goals conv=>whnf
  exact aA (le_dec ⟨λh=>b.2 ⟨Aa,h⟩,λh=>(b.1 h).2⟩);exact aA (aC λh=>by have:=(b.1 h).1;omega)
def bM5 s(m:aA4 s):Sp 17 [zJ s] (DB (xY s)):=by
 refine zsp func17 ?_;let⟨g,n,i⟩:=m;have l:(s.defects.map shV).length=s.defects.length:=Ad;have e:xY s↔(∀d∈s.defects,fewS d)/\s.grade.size<=40/\s.heat.size<=40/\s.defects.length<=8/\fewS s.shape:=RU;have q:=bR9 s.shape g;generalize xY s=P at*;generalize fewS s.shape=t at*;repeat' ((conv=>whnf);first|refine zS ?_|fail)
 refine aU (A:=List Sh) (B:=List Sh) (λD R=>mkSt [(1, .box 1 0),(3,I D.length)] [(1,aA7 s)] []) (λD R=>s.defects=D++R/\∀d∈D,fewS d) (λD R=>R.length) [] s.defects ?_ ⟨rfl,Ad⟩ (λD R hp=>?_);exact zj;let⟨hp,f⟩:=hp;cases R with
 |cons d R=>
  have b:=aO hp;have a:d∈s.defects:=Ae;have o:=bR9 d (i d a);have r:fewS d↔fewS d:=RU;generalize j:fewS d=u at*;repeat' ((conv=>whnf);first|omega|refine zS ?_|refine zT ?_ ?_<;>intro _|fail)
  all_goals conv=>whnf
  all_goals first
   |exact aA (aC λh=>absurd ((e.1 h).1 d a) (by rw[j];assumption))
   |skip
  refine⟨(D++[d],R),?_,⟨Ae,λz c=>?_⟩,Ad⟩;exact IW;rcases Rh.1 c with c|c;exact f z c;rw[Ri.1 c,j];assumption
 |nil=>
  have b:s.defects.length=D.length:=Ae;have k:∀d∈s.defects,fewS d:=λd h=>f d BJ;clear hp f;repeat' ((conv=>whnf);first|omega|refine zS ?_|refine zT ?_ ?_<;>intro _|fail)
  all_goals conv=>whnf
  all_goals first
   |exact aA (aC λh=>by have:=(e.1 h).2;omega)
   |exact aA (fQ ⟨λh=>e.2 ⟨k,Aa,Aa,Aa,h⟩,λh=>(e.1 h).2.2.2.2⟩)
def aT9 b:Sp 18 [barV b] (DB (aJ9 b)):=by
 refine zsp func18 ?_;have c:(b.defects.map ivV).length=b.defects.length:=Ad;have a:aJ9 b↔b.grade.size<=40/\b.heat.size<=40/\b.defects.length<=10:=RU;generalize aJ9 b=P at*;repeat' (first|refine zS ?_|refine zT ?_ ?_<;>intro _|fail)
 all_goals conv=>whnf
 all_goals first
  |exact aA (aC λh=>by have:=(a.1 h);omega)
  |exact aA (le_dec ⟨λh=>a.2 ⟨Aa,Aa,Aa⟩,λh=>by have:=(a.1 h).2.2;omega⟩)
def aS2 l n(L:l.length<=9223372036854775807)(x:∀e∈l,bI1 e):Sp 5 [.sl (l.map aS),I n] (DB (fewL l n)):=by
 refine zsp func5 ?_;have M:(l.map aS).length=l.length:=Ad;have v:fewL l n↔(∀e∈l,fewE e)/\(l.length:Int)<=n:=RU;generalize fewL l n=P at*;repeat' ((conv=>whnf);first|refine zS ?_|fail)
 refine aU (A:=List Event) (B:=List Event) (λD R=>mkSt [(0, .sl (l.map aS)),(1,I n),(5,I D.length)] [] []) (λD R=>l=D++R/\∀d∈D,fewE d) (λD R=>R.length) [] l ?_ ⟨rfl,Ad⟩ (λD R hp=>?_);exact zj;let⟨hp,r⟩:=hp;cases R with
 |cons e R=>
  have k:=aO hp;have j:e∈l:=Ae;let⟨w,F,G,H⟩:=x e j;have J:=bM5 e.sheet w;have K:=aT9 e.bar;have y:(e.cuts.map dK).length=e.cuts.length:=Ad;have C:(e.rests.map bY).length=e.rests.length:=Ad;have m:fewE e↔(e.cuts.length<=12/\e.rests.length<=8/\e.text.size<=40/\xY e.sheet/\aJ9 e.bar)/\∀c∈e.cuts,c.part.size<=40:=RU;have b:=λh=>(v.1 h).1 e j
  have s:fewE e->∀d∈D++[e],fewE d:=λh d g=>by
   rcases Rh.1 g with g|g;exact r d g;rw[Ri.1 g];exact h
  generalize fewE e=Q at*;generalize xY e.sheet=N at*;generalize aJ9 e.bar=O at*;repeat' ((conv=>whnf);first|omega|refine zS ?_|refine zd (λg=>?_) (λg=>?_)|refine zl (λa=>?_) (λa=>?_))
  all_goals conv=>whnf
  all_goals first
   |exact aA (aC λh=>by have:=(m.1 (b h)).1;omega)
   |exact aA (aC λh=>absurd (m.1 (b h)).1.2.2.2.1 Ag)
   |exact aA (aC λh=>absurd (m.1 (b h)).1.2.2.2.2 Ag)
   |skip
  refine aU (A:=List Made) (B:=List Made) (λE S=>mkSt [(0, .sl (l.map aS)),(1,I n),(5,I D.length),(6,I E.length)] [] []) (λE S=>e.cuts=E++S/\∀c∈E,c.part.size<=40) (λE S=>S.length) [] e.cuts ?_ ⟨rfl,Ad⟩ (λE S f=>?_);exact zj;let⟨f,t⟩:=f;cases S with
  |cons c S=>
   have i:=aO f;have u:c∈e.cuts:=by rw[f];simp
   repeat' ((conv=>whnf);first|omega|refine zS ?_|refine zl (λa=>?_) (λa=>?_))
   all_goals conv=>whnf
   all_goals first
    |exact aA (aC λh=>by have:=(m.1 (b h)).2 c u;omega)
    |skip
   refine⟨(E++[c],S),?_,⟨by rw[f];simp,λz o=>?_⟩,Ad⟩;exact IW;rcases Rh.1 o with o|o;exact t z o;rw[Ri.1 o];omega
  |nil=>
   have i:e.cuts.length=E.length:=by rw[f];simp
   have q:∀c∈e.cuts,c.part.size<=40:=λc h=>t c (by rw[f,Rq]at h;exact h);clear f t;repeat' ((conv=>whnf);first|omega|refine zS ?_|refine zl (λa=>?_) (λa=>?_))
   all_goals conv=>whnf
   refine⟨(D++[e],R),?_,⟨Ae,s (m.2 ⟨⟨Aa,Aa,Aa,Ag,Ag⟩,q⟩)⟩,Ad⟩;exact Nh
 |nil=>
  have k:l.length=D.length:=Ae;have q:∀d∈l,fewE d:=λd h=>r d BJ;clear hp r;repeat' ((conv=>whnf);first|omega|refine zS ?_|refine zl (λa=>?_) (λa=>?_))
  all_goals conv=>whnf
  exact aA (le_dec ⟨λh=>v.2 ⟨q,Aa⟩,λh=>by have:=(v.1 h).2;omega⟩)
end Go.Proofs.Led
namespace Go.Proofs.YtecbpikbjfihmaaGreatDoor
open Go.ChangeShapes Go.WideShapes Go.ChangeAt Go.RowKit Go.Ab Go.Proofs.Led
def own:ownKnob Tryz.prog.godebug=none:=Ac
def laidOut:laidOutB Tryz.prog=true:=Ac
def var_heap{w:World}{name:String}{g:Nat}{cs:Array Value}(hg:Tryz.prog.globalNamed name=some g)(h:w.var? Tryz.prog name=some cs):∃t z,w.heap[g]? =some (.cells cs t z):=by
 unfold World.var? at h;rw[hg]at h;simp only[Option.bind_some]at h;split at h;rename_i c t z hb;cases h;exact⟨t,z,hb⟩;cases h
abbrev Q3:List V->Prop:=QInt .i64 (-9223372036854775808) 9223372036854775807
theorem d3 W:Dec Tryz.prog W (bQ W) 3 Q3:=dI6 (k:= .i64) Ac Ac (λn h=>by
 simp[Lit.wf,IntKind.min,IntKind.max,IntKind.signed,IntKind.bits]at h;omega)
abbrev Q9:List V->Prop:=QStr
def d9 W:Dec Tryz.prog W (bQ W) 9 Q9:=eO8 Ac Ac
abbrev Q70:List V->Prop:=QAll [Q3,Q3]
def d70 W:Dec Tryz.prog W (bQ W) 70 Q70:=lZ Tryz.underlying70 (aY rfl (d3 W) (aY Ac (d3 W) (mM Ac)))
abbrev Q46:List V->Prop:=zI true Q70
def d46 W:Dec Tryz.prog W (bQ W) 46 Q46:=pV true Ac Ac (d70 W) Ak (λh=>Ah) (jZ W)
abbrev Q47:List V->Prop:=zI false Q46
def d47 W:Dec Tryz.prog W (bQ W) 47 Q47:=pV false Ac Ac (d46 W) Ak (λ_=>Ac) (jZ W)
abbrev Q49:List V->Prop:=QAll [Q46,Q47]
def d49 W:Dec Tryz.prog W (bQ W) 49 Q49:=lZ Tryz.underlying49 (aY rfl (d46 W) (aY Ac (d47 W) (mM Ac)))
abbrev Q50:List V->Prop:=zI true Q49
def d50 W:Dec Tryz.prog W (bQ W) 50 Q50:=pV true Ac Ac (d49 W) Ak (λh=>Ah) (jZ W)
abbrev Q52:List V->Prop:=QAll [Q3,Q9,Q9,Q3,Q49,Q50]
def d52 W:Dec Tryz.prog W (bQ W) 52 Q52:=lZ Tryz.underlying52 (aY rfl (d3 W) (aY Ac (d9 W) (aY Ac (d9 W) (aY Ac (d3 W) (aY Ac (d49 W) (aY Ac (d50 W) (mM Ac)))))))
abbrev Q34:List V->Prop:=QAll [Q3,Q3]
def d34 W:Dec Tryz.prog W (bQ W) 34 Q34:=dN6 (m:=2) (e:=3) Ac (aY Ac (d3 W) (aY Ac (d3 W) (mM Ac)))
abbrev Q53:List V->Prop:=zI true Q34
def d53 W:Dec Tryz.prog W (bQ W) 53 Q53:=pV true Ac Ac (d34 W) Ak (λh=>Ah) (jZ W)
abbrev Q55:List V->Prop:=QAll [Q3,Q9,Q9,Q3,Q53]
def d55 W:Dec Tryz.prog W (bQ W) 55 Q55:=lZ Tryz.underlying55 (aY rfl (d3 W) (aY Ac (d9 W) (aY Ac (d9 W) (aY Ac (d3 W) (aY Ac (d53 W) (mM Ac))))))
abbrev Q90:List V->Prop:=QAll [Q3,Q9,Q3]
def d90(W:World):Dec Tryz.prog W (bQ W) 90 Q90:=lZ Tryz.underlying90 (aY rfl (d3 W) (aY Ac (d9 W) (aY Ac (d3 W) (mM Ac))))
abbrev Q84:List V->Prop:=zI true Q90
def d84 W:Dec Tryz.prog W (bQ W) 84 Q84:=pV true Ac Ac (d90 W) Ak (λh=>Ah) (jZ W)
abbrev Q72:List V->Prop:=QAll [Q70,Q70]
def d72 W:Dec Tryz.prog W (bQ W) 72 Q72:=lZ Tryz.underlying72 (aY rfl (d70 W) (aY Ac (d70 W) (mM Ac)))
abbrev Q139:List V->Prop:=QAll [Q3,Q72,Q3,Q3]
def d139 W:Dec Tryz.prog W (bQ W) 139 Q139:=lZ Tryz.underlying139 (aY rfl (d3 W) (aY Ac (d72 W) (aY Ac (d3 W) (aY Ac (d3 W) (mM Ac)))))
abbrev Q85:List V->Prop:=zI true Q139
def d85 W:Dec Tryz.prog W (bQ W) 85 Q85:=pV true Ac Ac (d139 W) Ak (λh=>Ah) (jZ W)
abbrev Q87:List V->Prop:=QAll [Q3,Q3,Q9,Q52,Q55,Q84,Q85,Q3]
def d87(W:World):Dec Tryz.prog W (bQ W) 87 Q87:=lZ Tryz.underlying87 (aY rfl (d3 W) (aY Ac (d3 W) (aY Ac (d9 W) (aY Ac (d52 W) (aY Ac (d55 W) (aY Ac (d84 W) (aY Ac (d85 W) (aY Ac (d3 W) (mM Ac)))))))))
abbrev Q22:List V->Prop:=zI true Q87
def d22 W:Dec Tryz.prog W (bQ W) 22 Q22:=pV true Ac Ac (d87 W) Ak (λh=>Ah) (jZ W)
def uO{α:Type}{f:α->V}{Q:List V->Prop}{P:α->Prop}(h:∀xs,Q xs->∃a,V.agg xs=f a/\P a):∀ {l:List V},(∀x∈l,Q x.cells/\(true=true->∃ys,x= .agg ys)/\(true=false->∀ys,x≠ .agg ys))->∃l':List α,l=l'.map f/\∀a∈l',P a
 | [],_=>⟨[],rfl,Ad⟩
 |x::l,hl=>by
  obtain⟨h1,h2,_⟩:=hl x Ad;obtain⟨ys,rfl⟩:=h2 rfl;obtain⟨m,hm,hp⟩:=h ys h1;obtain⟨l',rfl,hl'⟩:=uO h (l:=l) (λy hy=>hl y Gt);refine⟨m::l',by rw[List.map_cons,<-hm],λz hz=>?_⟩;exact Qu
def cF8{α:Type}{f:α->V}{Q:List V->Prop}{P:α->Prop}(h:∀xs,Q xs->∃a,xs=[f a]/\P a):∀ {l:List V},(∀x∈l,Q x.cells/\(false=true->∃ys,x= .agg ys)/\(false=false->∀ys,x≠ .agg ys))->∃l':List α,l=l'.map f/\∀a∈l',P a
 | [],_=>⟨[],rfl,Ad⟩
 |x::l,hl=>by
  obtain⟨h1,_,h2⟩:=hl x Ad;obtain⟨m,hm,hp⟩:=h _ h1;obtain⟨l',rfl,hl'⟩:=cF8 h (l:=l) (λy hy=>hl y Gt)
  have hx:x=f m:=by
   cases x with
   |agg ys=>exact(h2 rfl ys rfl).elim
   |_=>simp only[V.cells,List.cons.injEq,and_true]at hm;exact hm
  refine⟨m::l',by rw[List.map_cons,<-hx],λz hz=>?_⟩;exact Qu
def max6(h:n<=maxLen):n<=9223372036854775807:=by unfold maxLen at h;omega
def vc_of xs(h:Q70 xs):∃a,V.agg xs=vcV a/\True:=L6
def rg_of xs(h:Q46 xs):∃a,xs=[rgV a]/\Len6 a:=by
 obtain⟨l,rfl,hl,h⟩:=h;obtain⟨l',rfl,_⟩:=uO vc_of h;exact⟨l',rfl,EX⟩
def eZ3 xs(h:Q47 xs):∃a:List Rg,xs=[.sl (a.map rgV)]/\Len6 a/\∀r∈a,Len6 r:=by
 obtain⟨l,rfl,hl,h⟩:=h;obtain⟨l',rfl,h'⟩:=cF8 rg_of h;exact⟨l',rfl,EX,h'⟩
def eT9 xs(h:Q49 xs):∃a,V.agg xs=shV a/\aV5 a:=by
 obtain⟨x1,x2,rfl,h1,x3,x4,rfl,h2,rfl⟩:=h;obtain⟨o,rfl,ho⟩:=rg_of _ h1;obtain⟨q,rfl,hq,hr⟩:=eZ3 _ h2;exact⟨⟨o,q⟩,rfl,ho,hq,hr⟩
def eY8 xs(h:Q50 xs):∃a,xs=[.sl (a.map shV)]/\Len6 a/\∀r∈a,aV5 r:=by
 obtain⟨l,rfl,hl,h⟩:=h;obtain⟨l',rfl,h'⟩:=uO eT9 h;exact⟨l',rfl,EX,h'⟩
def eF9 xs(h:Q52 xs):∃a,xs=aA7 a/\aA4 a:=by
 obtain⟨_,_,rfl,⟨i,rfl,_⟩,_,_,rfl,⟨g,rfl,_⟩,_,_,rfl,⟨t,rfl,_⟩,_,_,rfl,⟨n,rfl,_⟩,x1,_,rfl,h1,x2,_,rfl,h2,rfl⟩:=h;let⟨s,hs,hb⟩:=eT9 _ h1;obtain⟨d,rfl,hd,he⟩:=eY8 _ h2;have hx:=V.agg.inj hs;subst hx;exact⟨⟨i,g,t,n,s,d⟩,rfl,hb,hd,he⟩
def iv_of xs(h:Q34 xs):∃a,V.agg xs=ivV a/\True:=L6
def eY4 xs(h:Q55 xs):∃a,xs=barC a/\Len6 a.defects:=by
 obtain⟨_,_,rfl,⟨i,rfl,_⟩,_,_,rfl,⟨g,rfl,_⟩,_,_,rfl,⟨t,rfl,_⟩,_,_,rfl,⟨n,rfl,_⟩,x2,_,rfl,⟨l,rfl,hl,h2⟩,rfl⟩:=h;obtain⟨d,rfl,_⟩:=uO iv_of h2;exact⟨⟨i,g,t,n,d⟩,rfl,EX⟩
def eR2 xs(h:Q90 xs):∃a,V.agg xs=dK a/\True:=by
 obtain⟨_,_,rfl,⟨a,rfl,ra⟩,_,_,rfl,⟨b,rfl,rb⟩,_,_,rfl,⟨c,rfl,rc⟩,rfl⟩:=h;exact⟨⟨a,b,c⟩,rfl,trivial⟩
def rest_of xs(h:Q139 xs):∃a,V.agg xs=bY a/\True:=by
 obtain⟨_,_,rfl,⟨a,rfl,ra⟩,_,_,rfl,⟨_,_,rfl,⟨_,_,rfl,⟨b,rfl,rb⟩,_,_,rfl,⟨c,rfl,rc⟩,rfl⟩,_,_,rfl,⟨_,_,rfl,⟨d,rfl,rd⟩,_,_,rfl,⟨e,rfl,re⟩,rfl⟩,rfl⟩,_,_,rfl,⟨f,rfl,rf⟩,_,_,rfl,⟨g,rfl,rg⟩,rfl⟩:=h;exact⟨⟨a,((b,c),(d,e)),f,g⟩,rfl,trivial⟩
def ev_of xs(h:Q87 xs):∃a,V.agg xs=aS a/\bI1 a:=by
 obtain⟨_,_,rfl,⟨k,rfl,_⟩,_,_,rfl,⟨i,rfl,_⟩,_,_,rfl,⟨t,rfl,_⟩,x1,_,rfl,h1,x2,_,rfl,h2,_,_,rfl,⟨l1,rfl,b1,q1⟩,_,_,rfl,⟨l2,rfl,b2,q2⟩,_,_,rfl,⟨z,rfl,_⟩,rfl⟩:=h;obtain⟨s,rfl,hs⟩:=eF9 _ h1;obtain⟨b,rfl,hb⟩:=eY4 _ h2;obtain⟨c,rfl,_⟩:=uO eR2 q1;obtain⟨r,rfl,_⟩:=uO rest_of q2;exact⟨⟨k,i,t,s,b,c,r,z⟩,rfl,hs,hb,by simpa using max6 b1,by simpa using max6 b2⟩
def cC1(h:∀x∈l,Q87 x.cells/\(true=true->∃ys,x= .agg ys)/\(true=false->∀ys,x≠ .agg ys)):∃l':List Led.Event,l=l'.map aS/\∀a∈l',bI1 a:=uO ev_of h
end Go.Proofs.YtecbpikbjfihmaaGreatDoor
