/-
  What holds of every inventory.
-/
import Derived.Test.YtdjgbagnajikeaaGreatDoorB12
set_option linter.unusedVariables false
set_option linter.unusedSimpArgs false
set_option maxRecDepth 100000
set_option maxHeartbeats 8000000
noncomputable section
namespace Go.Proofs.Led
open Go Go.Proofs Go.Ab
structure Ok(s:aJ)(n:Nat):Prop where
 ss:(s.stocks.map sid).Pairwise (·<·)
 sp:(s.pieces.map Piece.id).Pairwise (·<·)
 su:(s.used.map id).Pairwise (·<·)
 ls:s.stocks.length<=n
 lp:s.pieces.length<=n
 lu:s.used.length<=n
 us:∀x∈s.stocks,sid x∈s.used
 up:∀p∈s.pieces,p.id∈s.used
 sz:∀x∈s.stocks,eY x
theorem Ok.gd{s:aJ}{n:Nat}(h:Ok s n)(hn:n<=1000000):Gd s:=⟨Nat.le_trans h.ls hn,Nat.le_trans h.lp hn,Nat.le_trans h.lu hn,h.ss,h.sp,h.su⟩
theorem Ok.mono{s:aJ}{n m:Nat}(h:Ok s n)(hn:n<=m):Ok s m:=⟨h.ss,h.sp,h.su,Nat.le_trans h.ls hn,Nat.le_trans h.lp hn,Nat.le_trans h.lu hn,h.us,h.up,h.sz⟩
theorem ok0:Ok inv0 0:=⟨.nil, .nil, .nil,Nat.le_refl _,Nat.le_refl _,Nat.le_refl _,by simp[inv0],by simp[inv0],by simp[inv0]⟩
def more(e:Event):Nat:=1+e.cuts.length+e.rests.length
theorem dG9(e:Event):(fO e).length=e.cuts.length+e.rests.length:=by unfold fO;simp
theorem dD4{s:aJ}{n:Nat}(h:Ok s n){x:aN}(hx:eY x)(hn:sid x∉s.used):Ok (aX7 s x) (n+1)where
 ss:=yR h.ss (fun m hm e=>hn (by rw[<-e];exact h.us m hm))
 sp:=h.sp
 su:=rF h.su hn
 ls:=by show(putAt _ _ _).length<=_;rw[mQ];have:=h.ls;omega
 lp:=Nat.le_succ_of_le h.lp
 lu:=by show(putAt _ _ _).length<=_;rw[mQ];have:=h.lu;omega
 us:=fun y hy=>by
  rcases fH.1 hy with rfl|hy
  ·exact fH.2 (.inl rfl)
  ·exact fH.2 (.inr (h.us y hy))
 up:=fun p hp=>fH.2 (.inr (h.up p hp))
 sz:=fun y hy=>by
  rcases fH.1 hy with rfl|hy
  ·exact hx
  ·exact h.sz y hy
theorem mem_set{α:Type}{l:List α}{k:Nat}{x y:α}(h:y∈l.set k x):y=x\/y∈l:=(List.mem_or_eq_of_mem_set h).symm
theorem fC{α:Type}{l:List α}{k:Nat}{x:α}(h:l[k]? =some x):x∈l:=List.mem_of_getElem? h
theorem bW3{s:aJ}{n:Nat}(h:Ok s n){k:Nat}{m:aN}(hm:s.stocks[k]? =some m)(p:ByteArray):Ok (setK s k (prog m p)) n where
 ss:=by show((s.stocks.set k (prog m p)).map sid).Pairwise _;rw[bY6 hm (rfl:sid (prog m p)=sid m)];exact h.ss
 sp:=h.sp
 su:=h.su
 ls:=by show(s.stocks.set _ _).length<=_;rw[List.length_set];exact h.ls
 lp:=h.lp
 lu:=h.lu
 us:=fun y hy=>by
  rcases mem_set hy with rfl|hy
  ·exact h.us m (fC hm)
  ·exact h.us y hy
 up:=h.up
 sz:=fun y hy=>by
  rcases mem_set hy with rfl|hy
  ·exact h.sz m (fC hm)
  ·exact h.sz y hy
theorem dE1{s:aJ}{n:Nat}(h:Ok s n){k:Nat}{m:Piece}(hm:s.pieces[k]? =some m)(st:Int)(o:ByteArray):Ok (setP s k (marked m st o)) n where
 ss:=h.ss
 sp:=by show((s.pieces.set k (marked m st o)).map Piece.id).Pairwise _;rw[bY6 hm (rfl:(marked m st o).id=m.id)];exact h.sp
 su:=h.su
 ls:=h.ls
 lp:=by show(s.pieces.set _ _).length<=_;rw[List.length_set];exact h.lp
 lu:=h.lu
 us:=h.us
 up:=fun y hy=>by
  rcases mem_set hy with rfl|hy
  ·exact h.up m (fC hm)
  ·exact h.up y hy
 sz:=h.sz
theorem dD6{s:aJ}{n:Nat}(h:Ok s n)(k:Nat)(m:aN):Ok (aX4 s k m) n where
 ss:=bB0 h.ss k
 sp:=h.sp
 su:=h.su
 ls:=Nat.le_trans (kM _ _).length_le h.ls
 lp:=h.lp
 lu:=h.lu
 us:=fun y hy=>h.us y ((kM _ _).subset hy)
 up:=h.up
 sz:=fun y hy=>h.sz y ((kM _ _).subset hy)
theorem bJ9{s:aJ}{n:Nat}(h:Ok s n){e:Event}{k:Nat}{m:aN}(hf:dP s.used (fO e))(hr:cZ m [] e.rests=0){D R:List aN}(hD:eG m e.rests=D++R):
 ((D.foldl putS (nN s.stocks k)).map sid).Pairwise (·<·)/\(∀y,y∈D.foldl putS (nN s.stocks k)↔y∈nN s.stocks k\/y∈D)/\(D.foldl putS (nN s.stocks k)).length=(nN s.stocks k).length+D.length:=by
 have hid:=aG9 hr;rw[hD,List.map_append]at hid;obtain⟨f1,f2⟩:=qJ.1 hf;unfold fO at f1 f2;rw[List.pairwise_append]at f2;obtain⟨_,f3,_⟩:=f2;rw[<-hid]at f1 f3;rw[List.pairwise_append]at f3;refine bE9 (key:=sid) (bB0 h.ss k) (fun x hx y hy e=>?_) f3.1;exact f1 (sid x) (by simp only[List.mem_append];exact .inr (.inl (List.mem_map_of_mem hx))) (by rw[<-e];exact h.us y ((kM _ _).subset hy))
theorem bC5{s:aJ}{n:Nat}(h:Ok s n){e:Event}{m:aN}(hf:dP s.used (fO e)){D R:List Made}(hD:e.cuts=D++R):
 ((D.foldl (fun p x=>putP p (fZ e m x)) s.pieces).map Piece.id).Pairwise (·<·)/\(∀y,y∈D.foldl (fun p x=>putP p (fZ e m x)) s.pieces↔y∈s.pieces\/y∈D.map (fZ e m))/\(D.foldl (fun p x=>putP p (fZ e m x)) s.pieces).length=s.pieces.length+D.length:=by
 obtain⟨f1,f2⟩:=qJ.1 hf;unfold fO at f1 f2;rw[List.pairwise_append]at f2;obtain⟨f3,_,_⟩:=f2;rw[hD,List.map_append]at f1 f3;rw[List.pairwise_append]at f3;have e1:D.foldl (fun p x=>putP p (fZ e m x)) s.pieces=(D.map (fZ e m)).foldl (putK Piece.id) s.pieces:=by rw[List.foldl_map];rfl
 have e2:(D.map (fZ e m)).map Piece.id=D.map Made.id:=by rw[List.map_map];rfl
 rw[e1]
 have q:=bE9 (key:=Piece.id) (xs:=D.map (fZ e m)) h.sp (fun x hx y hy e'=>by
  obtain⟨c,hc,rfl⟩:=List.mem_map.1 hx;exact f1 c.id (by simp only[List.mem_append];exact .inl (.inl (List.mem_map_of_mem hc))) (by have:=h.up y hy;rw[e']at this;exact this)) (by rw[e2];exact f3.1)
 rw[List.length_map]at q;exact q
theorem aZ7{s:aJ}{n:Nat}(h:Ok s n){e:Event}{k:Nat}{m:aN}(hm:s.stocks[k]? =some m)(hf:dP s.used (fO e))(hr:cZ m [] e.rests=0){D R:List aN}(hD:eG m e.rests=D++R){C Q:List Made}(hC:e.cuts=C++Q):
 Ok (cut4 s e k m D C) (n+e.cuts.length+e.rests.length):=by
 obtain⟨a1,a2,a3⟩:=bJ9 (k:=k) h hf hr hD;obtain⟨b1,b2,b3⟩:=bC5 (m:=m) h hf hC;obtain⟨c1,c2⟩:=aA8 _ _ h.su hf;rw[dG9]at c2;have hl3:=congrArg List.length (aG9 hr);rw[hD]at hl3;simp only[List.length_map,List.length_append]at hl3;have hl4:=congrArg List.length hC
 rw[List.length_append]at hl4;have l1:=(kM s.stocks k).length_le;have l2:=h.ls
 have l3:=h.lp;have l4:=h.lu
 refine⟨a1,b1,c1,?_,?_,?_,fun y hy=>?_,fun y hy=>?_,fun y hy=>?_⟩
 ·show(D.foldl putS (nN s.stocks k)).length<=_
  rw[a3];omega
 ·show(C.foldl (fun p x=>putP p (fZ e m x)) s.pieces).length<=_
  rw[b3];omega
 ·show(cO s.used (fO e)).length<=_
  rw[c2];omega
 ·refine tY.2 ?_
  rcases(a2 y).1 hy with hy|hy
  ·exact .inl (h.us y ((kM _ _).subset hy))
  ·refine .inr ?_
   have:sid y∈(eG m e.rests).map sid:=by rw[hD];exact List.mem_map_of_mem (by simp[hy])
   rw[aG9 hr]at this;unfold fO;simp only[List.mem_append];exact .inr this
 ·refine tY.2 ?_
  rcases(b2 y).1 hy with hy|hy
  ·exact .inl (h.up y hy)
  ·refine .inr ?_
   obtain⟨c,hc,rfl⟩:=List.mem_map.1 hy;unfold fO;simp only[List.mem_append];exact .inl (List.mem_map_of_mem (by rw[hC];simp[hc]))
 ·rcases(a2 y).1 hy with hy|hy
  ·exact h.sz y ((kM _ _).subset hy)
  ·have:y∈eG m e.rests:=by rw[hD];simp[hy]
   rw[mV hr]at this;obtain⟨r,_,rfl⟩:=List.mem_map.1 this;exact aX5 (h.sz m (fC hm))
theorem cP7{s:aJ}{n:Nat}(h:Ok s n)(v:Iv):Ok {s with scrap:=v} n:=⟨h.ss,h.sp,h.su,h.ls,h.lp,h.lu,h.us,h.up,h.sz⟩
theorem kE{s:aJ}{n:Int}{f:aN->aJ×Int}(hs:(s.stocks.map sid).Pairwise (·<·)):
 ((¬∃m∈s.stocks,sid m=n)/\aD6 s n f=(inv0,8))\/∃m,(∃m∈s.stocks,sid m=n)/\s.stocks[bs sid s.stocks n]? =some m/\sid m=n/\aD6 s n f=f m:=by
 unfold aD6;by_cases h:∃m∈s.stocks,sid m=n
 ·obtain⟨m,h1,h2⟩:=aB8 hs h
  refine .inr ⟨m,h,h1,h2,?_⟩;rw[if_pos h,h1]
 ·exact .inl ⟨h,if_neg h⟩
def zM(f:FuncId)(s:aJ)(e:Event)(q:aJ×Int):Prop:=(q.2=0/\SpB f [.box 100000 0,aS e] [stC s] (I 0) [stC q.1])\/(q.2≠0/\q.1=inv0/\SpB f [.box 100000 0,aS e] [stC s] (I q.2) [bots])
theorem eN8{s:aJ}{e:Event}{n:Nat}(h:Ok s n)(hn:n<=1000000):zM 77 s e (relR s e)/\((relR s e).2=0->Ok (relR s e).1 n):=by
 unfold relR;rcases kE (n:=e.id) (f:=fun m=>open Classical in if m.program=aI then(setK s (bs sid s.stocks e.id) (prog m e.text),0)else(inv0,27)) h.ss with⟨h1,h2⟩|⟨m,h1,h2,h3,h4⟩
 ·rw[h2]
  exact⟨.inr ⟨Ah,rfl,bN7 s e (h.gd hn) h1⟩,fun h=>Ag⟩
 ·rw[h4]
  by_cases c:m.program=aI
  ·rw[if_pos c]
   exact⟨.inl ⟨rfl,bM2 s e m (h.gd hn) h1 h2 c⟩,fun _=>bW3 h h2 _⟩
  ·rw[if_neg c]
   exact⟨.inr ⟨Ah,rfl,bM0 s e m (h.gd hn) h1 h2 c⟩,fun h=>Ag⟩
theorem eM9{s:aJ}{e:Event}{n:Nat}(h:Ok s n)(hn:n<=1000000):zM 78 s e (bP3 s e)/\((bP3 s e).2=0->Ok (bP3 s e).1 n):=by
 unfold bP3;rcases kE (n:=e.id) (f:=fun m=>open Classical in if m.program≠aI then(setK s (bs sid s.stocks e.id) (prog m aI),0)else(inv0,10)) h.ss with⟨h1,h2⟩|⟨m,h1,h2,h3,h4⟩
 ·rw[h2]
  exact⟨.inr ⟨Ah,rfl,cA0 s e (h.gd hn) h1⟩,fun h=>Ag⟩
 ·rw[h4]
  by_cases c:m.program≠aI
  ·rw[if_pos c]
   exact⟨.inl ⟨rfl,bZ5 s e m (h.gd hn) h1 h2 c⟩,fun _=>bW3 h h2 _⟩
  ·rw[if_neg c]
   exact⟨.inr ⟨Ah,rfl,cB5 s e m (h.gd hn) h1 h2 c⟩,fun h=>Ag⟩
theorem eN4{s:aJ}{e:Event}{n:Nat}(h:Ok s n)(hn:n<=1000000):zM 82 s e (bQ0 s e)/\((bQ0 s e).2=0->Ok (bQ0 s e).1 n):=by
 unfold bQ0;rcases kE (n:=e.id) (f:=fun m=>open Classical in if m.program=aI then(aX4 s (bs sid s.stocks e.id) m,0)else(inv0,27)) h.ss with⟨h1,h2⟩|⟨m,h1,h2,h3,h4⟩
 ·rw[h2]
  exact⟨.inr ⟨Ah,rfl,bO2 s e (h.gd hn) h1⟩,fun h=>Ag⟩
 ·rw[h4]
  by_cases c:m.program=aI
  ·rw[if_pos c]
   exact⟨.inl ⟨rfl,bM1 s e m (h.gd hn) h1 h2 c (h.sz m (fC h2))⟩,fun _=>dD6 h _ m⟩
  ·rw[if_neg c]
   exact⟨.inr ⟨Ah,rfl,bO0 s e m (h.gd hn) h1 h2 c⟩,fun h=>Ag⟩
theorem aV1{s:aJ}{k st:Int}{o:ByteArray}{n:Nat}(h:Ok s n)(hn:n<=1000000):(((nK s k st o).2=0/\SpB 126 [.box 100000 0,I k,I st,S o] [stC s] (I 0) [stC (nK s k st o).1])\/
 ((nK s k st o).2≠0/\(nK s k st o).1=inv0/\SpB 126 [.box 100000 0,I k,I st,S o] [stC s] (I (nK s k st o).2) [bots]))/\((nK s k st o).2=0->Ok (nK s k st o).1 n):=by
 by_cases h1:∃m∈s.pieces,m.id=k
 ·obtain⟨m,h2,h3⟩:=aB8 h.sp h1
  have e:nK s k st o=open Classical in if m.status=1 then(setP s (bs Piece.id s.pieces k) (marked m st o),0)else(inv0,10):=by
   unfold nK;rw[if_pos h1,h2]
  rw[e];by_cases c:m.status=1
  ·rw[if_pos c]
   exact⟨.inl ⟨rfl,cU5 s k st o m (h.gd hn) h1 h2 c⟩,fun _=>dE1 h h2 st o⟩
  ·rw[if_neg c]
   exact⟨.inr ⟨(by decide:(10:Int)≠0),rfl,cR1 s k st o m (h.gd hn) h1 h2 c⟩,fun h=>Ag⟩
 ·unfold nK
  rw[if_neg h1];exact⟨.inr ⟨(by decide:(8:Int)≠0),rfl,cX9 s k st o (h.gd hn) h1⟩,fun h=>Ag⟩
theorem eR8{s:aJ}{e:Event}{n:Nat}(h:Ok s n)(hn:n<=1000000):zM 80 s e (nK s e.id 2 aI)/\((nK s e.id 2 aI).2=0->Ok (nK s e.id 2 aI).1 n):=by
 obtain⟨h1,h2⟩:=aV1 (k:=e.id) (st:=2) (o:=aI) h hn;refine⟨?_,h2⟩;rcases h1 with⟨q1,q2⟩|⟨q1,q2,q3⟩
 ·exact .inl ⟨q1,aU1 s e (.inr ⟨_,rfl⟩) q2⟩
 ·exact .inr ⟨q1,q2,aU1 s e (.inl rfl) q3⟩
theorem eK3{s:aJ}{e:Event}{n:Nat}(h:Ok s n)(hn:n<=1000000):zM 81 s e (nK s e.id 3 e.text)/\((nK s e.id 3 e.text).2=0->Ok (nK s e.id 3 e.text).1 n):=by
 obtain⟨h1,h2⟩:=aV1 (k:=e.id) (st:=3) (o:=e.text) h hn;refine⟨?_,h2⟩;rcases h1 with⟨q1,q2⟩|⟨q1,q2,q3⟩
 ·exact .inl ⟨q1,bS3 s e (.inr ⟨_,rfl⟩) q2⟩
 ·exact .inr ⟨q1,q2,bS3 s e (.inl rfl) q3⟩
theorem aY1{s:aJ}{x:aN}{n:Nat}(h:Ok s n)(hn:n+1<=1000000)(hx:eY x):(((nM s x).2=0/\SpB 117 [.box 100000 0,aQ x] [stC s] (I 0) [stC (nM s x).1])\/
 ((nM s x).2≠0/\(nM s x).1=inv0/\SpB 117 [.box 100000 0,aQ x] [stC s] (I (nM s x).2) [bots]))/\((nM s x).2=0->Ok (nM s x).1 (n+1)):=by
 unfold nM;have hl:s.used.length+1<=1000000:=by have:=h.lu;omega
 by_cases c:sid x∈s.used
 ·rw[if_pos c]
  exact⟨.inr ⟨(by decide:(7:Int)≠0),rfl,bM7 s x (h.gd Aa) hl c⟩,fun h=>Ag⟩
 ·rw[if_neg c]
  exact⟨.inl ⟨rfl,bN1 s x (h.gd Aa) hx hl c⟩,fun _=>dD4 h hx c⟩
theorem eY6{s:aJ}{e:Event}{n:Nat}(h:Ok s n)(hn:n+1<=1000000)(he:lK e.sheet):zM 75 s e (nM s ⟨false,e.sheet,bar0,aI⟩)/\((nM s ⟨false,e.sheet,bar0,aI⟩).2=0->Ok (nM s ⟨false,e.sheet,bar0,aI⟩).1 (n+1)):=by
 obtain⟨h1,h2⟩:=aY1 (x:=⟨false,e.sheet,bar0,aI⟩) h hn ⟨he,by simp[bar0]⟩
 refine⟨?_,h2⟩;rcases h1 with⟨q1,q2⟩|⟨q1,q2,q3⟩
 ·exact .inl ⟨q1,aW2 s e (.inr ⟨_,rfl⟩) q2⟩
 ·exact .inr ⟨q1,q2,aW2 s e (.inl rfl) q3⟩
theorem eW9{s:aJ}{e:Event}{n:Nat}(h:Ok s n)(hn:n+1<=1000000)(he:iY e):zM 76 s e (nM s ⟨true,dN,e.bar,aI⟩)/\((nM s ⟨true,dN,e.bar,aI⟩).2=0->Ok (nM s ⟨true,dN,e.bar,aI⟩).1 (n+1)):=by
 obtain⟨h1,h2⟩:=aY1 (x:=⟨true,dN,e.bar,aI⟩) h hn ⟨xZ,he.br⟩;refine⟨?_,h2⟩;rcases h1 with⟨q1,q2⟩|⟨q1,q2,q3⟩
 ·exact .inl ⟨q1,bJ1 s e (.inr ⟨_,rfl⟩) q2⟩
 ·exact .inr ⟨q1,q2,bJ1 s e (.inl rfl) q3⟩
theorem eP9{s:aJ}{e:Event}{n:Nat}(h:Ok s n)(hn:n+more e<=1000000)(he:iY e):zM 79 s e (cutR s e)/\((cutR s e).2=0->Ok (cutR s e).1 (n+more e)):=by
 unfold more at hn⊢;have hg:=h.gd Aa;have hl:s.used.length+(fO e).length<=1000000:=by rw[dG9];have:=h.lu;omega
 unfold cutR;by_cases c1:dP s.used (fO e)
 ·rw[if_neg (Classical.not_not.2 c1)]
  rcases kE (n:=e.id) (f:=fun m=>open Classical in if m.program=aI then(inv0,10)else
   if cZ m [] e.rests≠0 then(inv0,cZ m [] e.rests)else if nJ m e≠e.scrap then(inv0,29)else(cut5 s e (bs sid s.stocks e.id) m,0)) h.ss with⟨h1,h2⟩|⟨m,h1,h2,h3,h4⟩
  ·rw[h2]
   exact⟨.inr ⟨(by decide:(8:Int)≠0),rfl,xP s e hg he hl (.inr ⟨c1, .inl ⟨h1,rfl,rfl⟩⟩) (.inl rfl)⟩,fun h=>Ag⟩
  ·rw[h4]
   have hms:=h.sz m (fC h2);by_cases c2:m.program=aI
   ·rw[if_pos c2]
    exact⟨.inr ⟨(by decide:(10:Int)≠0),rfl,xP s e hg he hl (.inr ⟨c1, .inr ⟨m,h1,h2, .inl ⟨c2,rfl,rfl⟩⟩⟩) (.inl rfl)⟩,fun h=>Ag⟩
   ·rw[if_neg c2]
    by_cases c3:cZ m [] e.rests≠0
    ·rw[if_pos c3]
     exact⟨.inr ⟨c3,rfl,xP s e hg he hl (.inr ⟨c1, .inr ⟨m,h1,h2, .inr ⟨c2,hms, .inl ⟨c3,rfl,rfl⟩⟩⟩⟩) (.inl rfl)⟩,fun h=>absurd h c3⟩
    ·rw[if_neg c3]
     have c3':=Classical.not_not.1 c3
     have hz:∀x∈eG m e.rests,eY x:=fun x hx=>by
      rw[mV c3']at hx;obtain⟨r,_,rfl⟩:=List.mem_map.1 hx;exact aX5 hms
     have hlz:(eG m e.rests).length<=1000000:=by rw[mV c3',List.length_map];exact he.rs
     by_cases c4:nJ m e≠e.scrap
     ·rw[if_pos c4]
      exact⟨.inr ⟨(by decide:(29:Int)≠0),rfl,xP s e hg he hl (.inr ⟨c1, .inr ⟨m,h1,h2, .inr ⟨c2,hms, .inr ⟨c3',hz,hlz, .inl ⟨c4,rfl,rfl⟩⟩⟩⟩⟩) (.inl rfl)⟩,fun h=>Ag⟩
     ·rw[if_neg c4]
      refine⟨.inl ⟨rfl,xP s e hg he hl (.inr ⟨c1, .inr ⟨m,h1,h2, .inr ⟨c2,hms, .inr ⟨c3',hz,hlz, .inr ⟨Classical.not_not.1 c4,fun D R hD=>?_,fun D R hD=>?_,rfl,rfl⟩⟩⟩⟩⟩) (.inr ⟨_,rfl⟩)⟩,fun _=>?_⟩
      ·have q:=(aZ7 (C:=[]) (Q:=e.cuts) h h2 c1 c3' hD rfl).gd Aa
       exact⟨q.ls,q.lp,q.lu,q.ss,q.sp,q.su⟩
      ·exact(aZ7 (R:=[]) h h2 c1 c3' (List.append_nil _).symm hD).gd Aa
      ·exact cP7 ((aZ7 (R:=[]) (Q:=[]) h h2 c1 c3' (List.append_nil _).symm (List.append_nil _).symm).mono Aa) _
 ·rw[if_pos c1]
  exact⟨.inr ⟨(by decide:(7:Int)≠0),rfl,xP s e hg he hl (.inl ⟨c1,rfl,rfl⟩) (.inl rfl)⟩,fun h=>Ag⟩
theorem sG{s:aJ}{e:Event}{f:FuncId}{q:aJ×Int}(hs:Gd s)(he:iY e)(hf:iD e)(hg:jG (.int .i64 e.kind) uP=some (.fn f []))(hm:zM f s e q):
 Sp 39 [invV s,aS e] (.tup [invV q.1,I q.2]):=by
 refine zsp Tryz.func39 ?_;rcases hm with⟨h1,h2⟩|⟨h1,h2,h3⟩
 ·rw[h1]
  exact dL3 s q.1 e hs he hf hg h2
 ·rw[h2]
  exact dR7 s e hs he hf hg h1 h3
theorem kG{s:aJ}{e:Event}{n:Nat}(h:Ok s n)(hn:n+more e<=1000000)(he:iY e):Sp 39 [invV s,aS e] (.tup [invV (appR s e).1,I (appR s e).2])/\((appR s e).2=0->Ok (appR s e).1 (n+more e)):=by
 unfold appR;have hm:1<=more e:=by unfold more;omega
 by_cases hf:iD e
 ·rw[if_pos hf]
  have hk:e.kind=1\/e.kind=2\/e.kind=3\/e.kind=4\/e.kind=5\/e.kind=6\/e.kind=7\/e.kind=8:=by have:=hf.2.2.2.2.2.2.2.2;omega
  unfold bP2;have hs:=h.gd Aa;rcases hk with hk|hk|hk|hk|hk|hk|hk|hk
  ·simp only[hk,reduceIte,reduceCtorEq,Int.reduceEq]
   obtain⟨q1,q2⟩:=eY6 (e:=e) h Aa (aX9 (hf.2.2.2.1 hk).2);exact LM
  ·simp only[hk,reduceIte,reduceCtorEq,Int.reduceEq]
   obtain⟨q1,q2⟩:=eW9 (e:=e) h Aa he;exact LM
  ·simp only[hk,reduceIte,reduceCtorEq,Int.reduceEq]
   obtain⟨q1,q2⟩:=eN8 (e:=e) h Aa;exact LM
  ·simp only[hk,reduceIte,reduceCtorEq,Int.reduceEq]
   obtain⟨q1,q2⟩:=eM9 (e:=e) h Aa;exact LM
  ·simp only[hk,reduceIte,reduceCtorEq,Int.reduceEq]
   obtain⟨q1,q2⟩:=eP9 (e:=e) h hn he;exact⟨sG hs he hf BU q1,q2⟩
  ·simp only[hk,reduceIte,reduceCtorEq,Int.reduceEq]
   obtain⟨q1,q2⟩:=eR8 (e:=e) h Aa;exact LM
  ·simp only[hk,reduceIte,reduceCtorEq,Int.reduceEq]
   obtain⟨q1,q2⟩:=eK3 (e:=e) h Aa;exact LM
  ·simp only[hk,reduceIte,reduceCtorEq,Int.reduceEq]
   obtain⟨q1,q2⟩:=eN4 (e:=e) h Aa;exact LM
 ·rw[if_neg hf]
  exact⟨zsp Tryz.func39 (dM0 s e he hf),fun h=>Ag⟩
inductive Step(s:aJ)(e:Event):aJ->Prop
 |recv (x:aN) (hx:(e.kind=1/\x=⟨false,e.sheet,bar0,aI⟩/\dB e.sheet)\/(e.kind=2/\x=⟨true,dN,e.bar,aI⟩/\fM e.bar)) (hn:sid x∉s.used):Step s e (aX7 s x)
 |setK (k:Nat) (m:aN) (p:ByteArray) (hk:e.kind=3\/e.kind=4) (hm:s.stocks[k]? =some m) (hid:sid m=e.id):Step s e (setK s k (prog m p))
 |disc (k:Nat) (m:aN) (hk:e.kind=8) (hm:s.stocks[k]? =some m) (hid:sid m=e.id):Step s e (aX4 s k m)
 |setP (k:Nat) (m:Piece) (st:Int) (o:ByteArray) (hk:(e.kind=6/\st=2/\o=aI)\/(e.kind=7/\st=3/\o=e.text)) (hm:s.pieces[k]? =some m) (hs:m.status=1) (hid:m.id=e.id):Step s e (setP s k (marked m st o))
 |cut (k:Nat) (m:aN) (hk:e.kind=5) (hf:nY e) (hfr:dP s.used (fO e)) (hm:s.stocks[k]? =some m) (hid:sid m=e.id) (hp:m.program≠aI) (hr:cZ m [] e.rests=0) (hl:nJ m e=e.scrap):Step s e (cut5 s e k m)
theorem bE7{s:aJ}{k st:Int}{o:ByteArray}{n:Nat}(h:Ok s n)(h0:(nK s k st o).2=0):∃m,s.pieces[bs Piece.id s.pieces k]? =some m/\m.status=1/\m.id=k/\(nK s k st o).1=setP s (bs Piece.id s.pieces k) (marked m st o):=by
 unfold nK at h0⊢;by_cases h1:∃m∈s.pieces,m.id=k
 ·obtain⟨m,h2,h3⟩:=aB8 h.sp h1
  rw[if_pos h1,h2]at h0⊢;by_cases c:m.status=1
  ·exact⟨m,rfl,c,h3,by show(ite _ _ _:aJ×Int).1=_;rw[if_pos c]⟩
  ·have h0:(ite (m.status=1) (setP s (bs Piece.id s.pieces k) (marked m st o),(0:Int)) (inv0,10)).2=0:=h0
   rw[if_neg c]at h0;cases h0
 ·rw[if_neg h1]at h0
  cases h0
theorem aZ6{s:aJ}{e:Event}{n:Nat}(h:Ok s n)(h0:(appR s e).2=0):iD e/\Step s e (appR s e).1:=by
 unfold appR at h0⊢;by_cases hf:iD e;rotate_left
 ·rw[if_neg hf]at h0;cases h0
 refine⟨hf,?_⟩;rw[if_pos hf]at h0⊢;unfold bP2 at h0⊢;have hk:e.kind=1\/e.kind=2\/e.kind=3\/e.kind=4\/e.kind=5\/e.kind=6\/e.kind=7\/e.kind=8:=by have:=hf.2.2.2.2.2.2.2.2;omega
 rcases hk with hk|hk|hk|hk|hk|hk|hk|hk
 all_goals simp only[hk,reduceIte,reduceCtorEq,Int.reduceEq]at h0⊢
 ·unfold nM at h0⊢
  split at h0
  ·cases h0
  ·rename_i c
   rw[if_neg c];exact .recv _ (.inl ⟨hk,rfl,(hf.2.2.2.1 hk).2⟩) c
 ·unfold nM at h0⊢
  split at h0
  ·cases h0
  ·rename_i c
   rw[if_neg c];exact .recv _ (.inr ⟨hk,rfl,(hf.2.2.2.2.1 hk).2⟩) c
 ·unfold relR at h0⊢
  rcases kE (n:=e.id) (f:=fun m=>open Classical in if m.program=aI then(Led.setK s (bs sid s.stocks e.id) (prog m e.text),0)else(inv0,27)) h.ss with⟨h1,h2⟩|⟨m,h1,h2,h3,h4⟩
  ·rw[h2]at h0;cases h0
  ·rw[h4]at h0⊢
   by_cases c:m.program=aI
   ·rw[if_pos c];exact .setK _ m _ (.inl hk) h2 h3
   ·rw[if_neg c]at h0;cases h0
 ·unfold bP3 at h0⊢
  rcases kE (n:=e.id) (f:=fun m=>open Classical in if m.program≠aI then(Led.setK s (bs sid s.stocks e.id) (prog m aI),0)else(inv0,10)) h.ss with⟨h1,h2⟩|⟨m,h1,h2,h3,h4⟩
  ·rw[h2]at h0;cases h0
  ·rw[h4]at h0⊢
   by_cases c:m.program≠aI
   ·rw[if_pos c];exact .setK _ m _ (.inr hk) h2 h3
   ·rw[if_neg c]at h0;cases h0
 ·unfold cutR at h0⊢
  by_cases c1:dP s.used (fO e);rotate_left
  ·rw[if_pos c1]at h0;cases h0
  rw[if_neg (Classical.not_not.2 c1)]at h0⊢
  rcases kE (n:=e.id) (f:=fun m=>open Classical in if m.program=aI then(inv0,10)else
   if cZ m [] e.rests≠0 then(inv0,cZ m [] e.rests)else if nJ m e≠e.scrap then(inv0,29)else(cut5 s e (bs sid s.stocks e.id) m,0)) h.ss with⟨h1,h2⟩|⟨m,h1,h2,h3,h4⟩
  ·rw[h2]at h0;cases h0
  ·rw[h4]at h0⊢
   by_cases c2:m.program=aI
   ·rw[if_pos c2]at h0;cases h0
   ·rw[if_neg c2]at h0⊢
    by_cases c3:cZ m [] e.rests≠0
    ·rw[if_pos c3]at h0;exact absurd h0 c3
    ·rw[if_neg c3]at h0⊢
     by_cases c4:nJ m e≠e.scrap
     ·rw[if_pos c4]at h0;cases h0
     ·rw[if_neg c4]
      exact .cut _ m hk (hf.2.2.2.2.2.2.2.1 hk) c1 h2 h3 c2 (Classical.not_not.1 c3) (Classical.not_not.1 c4)
 ·obtain⟨m,h1,h2,h3,h4⟩:=bE7 h h0
  rw[h4];exact .setP _ m _ _ (.inl ⟨hk,rfl,rfl⟩) h1 h2 h3
 ·obtain⟨m,h1,h2,h3,h4⟩:=bE7 h h0
  rw[h4];exact .setP _ m _ _ (.inr ⟨hk,rfl,rfl⟩) h1 h2 h3
 ·unfold bQ0 at h0⊢
  rcases kE (n:=e.id) (f:=fun m=>open Classical in if m.program=aI then(aX4 s (bs sid s.stocks e.id) m,0)else(inv0,27)) h.ss with⟨h1,h2⟩|⟨m,h1,h2,h3,h4⟩
  ·rw[h2]at h0;cases h0
  ·rw[h4]at h0⊢
   by_cases c:m.program=aI
   ·rw[if_pos c];exact .disc _ m hk h2 h3
   ·rw[if_neg c]at h0;cases h0
theorem dC2(n:Int):∃k:Int,W n=n+k*18446744073709551616:=by
 simp[IntKind.wrap,IntKind.signed,IntKind.bits];split;all_goals first|exact⟨-(n/18446744073709551616),Aa⟩|exact⟨-(n/18446744073709551616)-1,Aa⟩
theorem fC5{a b:Int}(k:Int)(h:a=b+k*18446744073709551616):W a=W b:=by
 obtain⟨p,hp⟩:=dC2 a;obtain⟨q,hq⟩:=dC2 b;have h1:=nT a;have h2:=nT b
 omega
theorem bF8(a b:Int):W (W a+b)=W (a+b):=by
 obtain⟨p,hp⟩:=dC2 a;exact fC5 p Aa
def cls(b:Bool)(r:Iv):Int:=if b then r.2 else r.1
def totS(b:Bool)(l:List aN):Int:=(l.map fun x=>if x.isBar=b then gG x else 0).sum
def totP(b:Bool)(l:List Piece):Int:=(l.map fun x=>if x.isBar=b then x.size else 0).sum
def inR(r:Iv):Prop:=∀b,W (cls b r)=cls b r
def R6(n:Int):Prop:= -9223372036854775808<=n/\n<=9223372036854775807
structure Bal(s:aJ):Prop where
 sc:inR s.scrap
 eq:∀b,W (cls b s.scrap+totS b s.stocks+totP b s.pieces)=cls b s.received
 ps:∀p∈s.pieces,1<=p.size/\p.size<=9223372036854775807
 br:∀x∈s.stocks,R6 (gG x)
theorem aG4(s:aJ)(e:Event)(k:Nat)(m:aN):(cut5 s e k m).pieces=(e.cuts.map (fZ e m)).foldl (putK Piece.id) s.pieces:=by
 show e.cuts.foldl (fun p x=>putP p (fZ e m x)) s.pieces=_;rw[List.foldl_map];rfl
theorem aF7(s:aJ)(e:Event)(k:Nat)(m:aN):(cut5 s e k m).stocks=(eG m e.rests).foldl (putK sid) (nN s.stocks k):=rfl
structure Ids(s:aJ):Prop where
 dj:∀x∈s.stocks,∀p∈s.pieces,sid x≠p.id
 par:∀p∈s.pieces,p.parent∈s.used
 rng:∀n∈s.used,nC n
theorem dP0{s:aJ}{e:Event}(hf:iD e)(hk:e.kind=2):appR s e=nM s ⟨true,dN,e.bar,aI⟩:=by
 unfold appR bP2;rw[if_pos hf,if_neg Aa,if_pos hk]
theorem dW9{s:aJ}{x:aN}(h:sid x∉s.used):nM s x=(aX7 s x,0):=by unfold nM;rw[if_neg h]
theorem bT0{s:aJ}{n:Int}{m:aN}{f:aN->aJ×Int}(h1:∃m∈s.stocks,sid m=n)(h2:s.stocks[bs sid s.stocks n]? =some m):aD6 s n f=f m:=by unfold aD6;rw[if_pos h1,h2]
theorem dR0{s:aJ}{n:Int}{f:aN->aJ×Int}(h1:¬∃m∈s.stocks,sid m=n):aD6 s n f=(inv0,8):=by unfold aD6;rw[if_neg h1]
theorem eM5{s:aJ}{e:Event}{m:aN}(hf:iD e)(hk:e.kind=3)(h1:∃m∈s.stocks,sid m=e.id)(h2:s.stocks[bs sid s.stocks e.id]? =some m)(hp:m.program=aI):
 appR s e=(setK s (bs sid s.stocks e.id) (prog m e.text),0):=by
 unfold appR bP2;rw[if_pos hf,if_neg Aa,if_neg Aa,if_pos hk];unfold relR;rw[bT0 h1 h2,if_pos hp]
theorem aY8{s:aJ}{e:Event}(hf:iD e)(hk:e.kind=5):appR s e=cutR s e:=by
 unfold appR bP2;rw[if_pos hf,if_neg Aa,if_neg Aa,if_neg Aa,if_neg Aa,if_pos hk]
theorem dF5{s:aJ}{e:Event}(h:¬dP s.used (fO e)):cutR s e=(inv0,7):=by unfold cutR;rw[if_pos h]
theorem cF5{s:aJ}{e:Event}(h:dP s.used (fO e))(h1:¬∃m∈s.stocks,sid m=e.id):cutR s e=(inv0,8):=by unfold cutR;rw[if_neg (Classical.not_not.2 h),dR0 h1]
theorem bG4{s:aJ}{e:Event}{m:aN}(h:dP s.used (fO e))(h1:∃m∈s.stocks,sid m=e.id)(h2:s.stocks[bs sid s.stocks e.id]? =some m):
 cutR s e=open Classical in if m.program=aI then(inv0,10)else if cZ m [] e.rests≠0 then(inv0,cZ m [] e.rests)else if nJ m e≠e.scrap then(inv0,29)else(cut5 s e (bs sid s.stocks e.id) m,0):=by
 unfold cutR;rw[if_neg (Classical.not_not.2 h),bT0 h1 h2]
def kV(e:Event)(c:Int):Event:={e with scrap:=c}
theorem refused{s:aJ}{e:Event}{n:Nat}{c:Int}(h:Ok s n)(h0:(appR s e).2=0)(hk:e.kind=5)(hc:c≠e.scrap):
 appR s (kV e c)=(inv0,29)\/appR s (kV e c)=(inv0,1):=by
 by_cases hf:iD (kV e c);rotate_left
 ·right
  unfold appR;rw[if_neg hf]
 left;have hfe:=(aZ6 h h0).1;rw[aY8 hfe hk]at h0;rw[aY8 hf hk];by_cases c1:dP s.used (fO e);rotate_left
 ·rw[dF5 c1]at h0;cases h0
 by_cases h1:∃m∈s.stocks,sid m=e.id;rotate_left
 ·rw[cF5 c1 h1]at h0;cases h0
 obtain⟨m,h2,h3⟩:=aB8 h.ss h1;rw[bG4 c1 h1 h2]at h0;rw[bG4 (e:=kV e c) (m:=m) c1 h1 h2];by_cases c2:m.program=aI
 ·rw[if_pos c2]at h0;cases h0
 rw[if_neg c2]at h0⊢;have er:(kV e c).rests=e.rests:=rfl;rw[er];by_cases c3:cZ m [] e.rests≠0
 ·rw[if_pos c3]at h0;exact absurd h0 c3
 rw[if_neg c3]at h0⊢;by_cases c4:nJ m e≠e.scrap
 ·rw[if_pos c4]at h0;cases h0
 have c5:nJ m (kV e c)≠(kV e c).scrap:=fun hh=>hc (hh.symm.trans (Classical.not_not.1 c4));rw[if_pos c5]
def nD(b:Bar):Event:=⟨2,0,aI,dN,b,[],[],0⟩
theorem no0:pJ dN:=⟨rfl,rfl,rfl,rfl,rfl,rfl,rfl⟩
theorem nob0:yT bar0:=⟨rfl,rfl,rfl,rfl,rfl⟩
theorem bM8{b:Bar}(h:fM b):iD (nD b):=
 ⟨fun _=>⟨rfl,rfl⟩,fun q=>absurd (.inr rfl) q,fun _=>⟨rfl,rfl,rfl⟩,fun q=>FZ,fun _=>⟨no0,h⟩,fun q=>Du,fun q=>ED,fun q=>FZ,show(1:Int)<=2 from Ah,show(2:Int)<=8 from Ah⟩
def uX(n:Int)(t:ByteArray):Event:=⟨3,n,t,dN,bar0,[],[],0⟩
theorem bY3{n:Int}{t:ByteArray}(h:iM t):iD (uX n t):=
 ⟨fun q=>Du,fun _=>⟨no0,nob0⟩,fun _=>⟨rfl,rfl,rfl⟩,fun q=>FZ,fun q=>FZ,fun _=>h,fun q=>ED,fun q=>FZ,show(1:Int)<=3 from Ah,show(3:Int)<=8 from Ah⟩
def xC(n:Int)(c:List Made)(r:List Rest)(z:Int):Event:=⟨5,n,aI,dN,bar0,c,r,z⟩
theorem aK5{n:Int}{c:List Made}{r:List Rest}{z:Int}(h1:∀x∈c,bU7 x)(h2:∀x∈r,bR4 x)(h3:c.length<=60)(h4:r.length<=6)(h5:0<=z):iD (xC n c r z):=
 ⟨fun q=>Du,fun _=>⟨no0,nob0⟩,fun q=>absurd rfl q,fun q=>FZ,fun q=>FZ,fun q=>Du,fun q=>ED,fun _=>⟨h1,h2,h3,h4,h5,rfl⟩,show(1:Int)<=5 from Ah,show(5:Int)<=8 from Ah⟩
def chB(c:UInt8):ByteArray:=⟨#[c]⟩
theorem yM{c:UInt8}(h:97<=c.toNat/\c.toNat<=122):iM (chB c):=by
 have hb:byteAt (chB c) 0=(c.toNat:Int):=by unfold byteAt;rfl
 refine⟨Nat.le_refl 1,show(1:Nat)<=16 from Ah,?_,fun i hi=>?_⟩
 ·rw[hb];exact .inl Aa
 ·have h1:(chB c).size=1:=rfl
  have:i=0:=Aa;subst this;rw[hb];exact .inl (.inl Aa)
structure Good(s:aJ)(n:Nat):Prop where
 ok:Ok s n
 bal:Bal s
 ids:Ids s
theorem Good.mono{s:aJ}{n m:Nat}(h:Good s n)(hn:n<=m):Good s m:=⟨h.ok.mono hn,h.bal,h.ids⟩
def kL(s:aJ)(i:Int):List Event->aJ×Int×Int
 | [] =>(s,i,0)
 |x::l=>if(appR s x).2=0 then kL (appR s x).1 (i+1) l else(s,i,(appR s x).2)
def barS(b:Bar)(p:ByteArray):aN:=⟨true,dN,b,p⟩
def st1(b:Bar):aJ:=aX7 inv0 (barS b aI)
def st2(b:Bar)(p:ByteArray):aJ:=⟨[barS b p],[],[b.id],(0,W (0+b.length)),(0,0)⟩
theorem dI8{b:Bar}{p:ByteArray}{q:List Piece}{u:List Int}{r c:Iv}:(∃m∈(aJ.mk [barS b p] q u r c).stocks,sid m=b.id)/\(aJ.mk [barS b p] q u r c).stocks[bs sid [barS b p] b.id]? =some (barS b p)/\bs sid [barS b p] b.id=0:=by
 have h0:bs sid [barS b p] b.id=0:=by
  unfold bs;have:decide (sid (barS b p)<b.id)=false:=decide_eq_false (by show¬b.id<b.id;omega)
  simp[List.takeWhile,this]
 exact⟨⟨barS b p,Ae,rfl⟩,by rw[h0];rfl,h0⟩
theorem dH7{b:Bar}{p:ByteArray}{x:Event}(hb:fM b)(hp:iM p)(hx:iD x)(hk:x.kind=5)(hid:x.id=b.id)(hfr:dP [b.id] (fO x))(hr:cZ (barS b p) [] x.rests=0)(hl:nJ (barS b p) x=x.scrap):
 kL inv0 0 [nD b,uX b.id p,x] =(cut5 (st2 b p) x 0 (barS b p),3,0)/\appR inv0 (nD b)=(st1 b,0)/\appR (st1 b) (uX b.id p)=(st2 b p,0)/\appR (st2 b p) x=(cut5 (st2 b p) x 0 (barS b p),0):=by
 have e1:appR inv0 (nD b)=(st1 b,0):=by
  rw[dP0 (bM8 hb) rfl];exact dW9 (by simp[inv0])
 have e2:appR (st1 b) (uX b.id p)=(st2 b p,0):=by
  obtain⟨q1,q2,q3⟩:=dI8 (b:=b) (p:=aI) (q:=[]) (u:=[b.id]) (r:=(0,W (0+b.length))) (c:=(0,0));rw[eM5 (s:=st1 b) (bY3 hp) rfl (m:=barS b aI) q1 q2 rfl];show(setK (st1 b) (bs sid [barS b aI] b.id) _,(0:Int))=_;rw[q3];rfl
 have hne:p≠aI:=by
  rintro rfl;exact absurd hp.1 Ah
 have e3:appR (st2 b p) x=(cut5 (st2 b p) x 0 (barS b p),0):=by
  obtain⟨q1,q2,q3⟩:=dI8 (b:=b) (p:=p) (q:=[]) (u:=[b.id]) (r:=(0,W (0+b.length))) (c:=(0,0));rw[aY8 hx hk,bG4 (m:=barS b p) hfr (by rw[hid];exact q1) (by rw[hid];exact q2),if_neg (show¬(barS b p).program=aI from hne),if_neg (Classical.not_not.2 hr),if_neg (Classical.not_not.2 hl),hid]
  show(cut5 (st2 b p) x (bs sid [barS b p] b.id) _,(0:Int))=_;rw[q3]
 refine⟨?_,e1,e2,e3⟩;unfold kL;rw[e1,if_pos rfl];unfold kL;rw[e2,if_pos rfl];unfold kL;rw[e3,if_pos rfl];rfl
theorem aC6:∀(l:List Int) (n:Int),R6 n->n≠9223372036854775807->(∀c∈l,0<=c)->l.sum<=n->subL n l=n-l.sum
 | [],n,_,_,_,_=>by show n=n-0;omega
 |c::l,n,hn,hm,hc,hs=>by
  have h0:=hc c Ae
  have hl:0<=l.sum:=by
   have key:∀(l:List Int),(∀x∈l,0<=x)->0<=l.sum:=by
    intro l
    induction l with
    |nil=>simp
    |cons x l ih=>
     intro h;have h1:=ih (fun y hy=>h y FY);have h2:=h x Ae
     rw[List.sum_cons];omega
   exact key l (fun x hx=>hc x CW)
  rw[List.sum_cons]at hs;unfold R6 at hn
  have e:sub1 n c=n-c:=by
   unfold sub1;rw[lH,w_in (n:=n+1) Aa,Int.min_eq_left Aa,w_in Aa]
  show subL (sub1 n c) l=_;rw[e,aC6 l (n-c) (by unfold R6;omega) Aa (fun x hx=>hc x CW) Aa,List.sum_cons]
  omega
def moreL(l:List Event):Nat:=(l.map more).sum
theorem bZ0{α:Type}{Q:α->Prop}:∀ {l:List α} {x:α},x∈l->Q x->(∀y∈l,Q y->y=x)->l[fst Q l]? =some x
 | [],x,h,_,_=>Ag
 |y::l,x,h,hq,hu=>by
  by_cases hy:Q y
  ·have e:fst Q (y::l)=0:=by
    unfold fst;rw[List.takeWhile_cons,if_neg (by rw[dH.2 hy];decide)]
    rfl
   rw[e,hu y Ae hy];rfl
  ·have e:fst Q (y::l)=fst Q l+1:=by
    unfold fst;rw[List.takeWhile_cons,if_pos (by rw[dW.2 hy];decide)]
    rfl
   rw[e,List.getElem?_cons_succ];rcases List.mem_cons.1 h with h|h
   ·rw[h]at hq;exact absurd hq hy
   ·exact bZ0 h hq (fun z hz=>hu z (by simp[hz]))
theorem bB9{α:Type}{key:α->Int}:∀ {l:List α},(l.map key).Pairwise (·<·)->∀ {x y:α},x∈l->y∈l->key x=key y->x=y
 | [],_,x,y,h,_,_=>Ag
 |z::l,hp,x,y,hx,hy,e=>by
  rw[List.map_cons,List.pairwise_cons]at hp;rcases List.mem_cons.1 hx with h1|h1<;>rcases List.mem_cons.1 hy with h2|h2
  ·rw[h1,h2]
  ·have:=hp.1 (key y) (List.mem_map_of_mem h2)
   rw[h1]at e;omega
  ·have:=hp.1 (key x) (List.mem_map_of_mem h1)
   rw[h2]at e;omega
  ·exact bB9 hp.2 h1 h2 e
end Go.Proofs.Led
