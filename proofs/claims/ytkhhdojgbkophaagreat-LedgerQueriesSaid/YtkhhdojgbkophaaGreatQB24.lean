/-
  The inventory of the document's example.
-/
import Derived.Test.YtkhhdojgbkophaaGreatQB23
set_option linter.unusedVariables false
set_option linter.unusedSimpArgs false
set_option maxRecDepth 100000
set_option maxHeartbeats 8000000
noncomputable section
namespace Go.Proofs.Led
open Go Go.Proofs Go.Ab
def awB:Bar:=⟨1,chB 115,chB 104,100,[]⟩
def awR:Rest:=⟨4,bx0,75,100⟩
def awX:Event:=xC 1 [⟨2,chB 97,40⟩,⟨3,chB 97,30⟩] [awR] 5
def awL:List Event:=[nD awB,uX 1 (chB 112),awX]
theorem fB9:fM awB:=⟨⟨show(1:Int)<=1 from Aq,show(1:Int)<=1000000 from Aq,yM Aq,yM Aq⟩,show(1:Int)<=100 from Aq,show(100:Int)<=2000 from Aq,Nat.zero_le 6,trivial⟩
theorem dH6:iG (barS awB (chB 112)) awR=0:=by
 unfold iG;rw[if_neg (by show¬true=false;decide),if_neg (by show¬bx0≠bx0;simp),if_neg (by show¬((75:Int)<0\/(100:Int)<=75\/(100:Int)<100);decide)]
theorem bI7:cZ (barS awB (chB 112)) [] awX.rests=0:=by
 show cZ (barS awB (chB 112)) [] [awR] =0;unfold cZ;rw[if_neg (Classical.not_not.2 dH6),if_neg Af];rfl
theorem cK1:dZ (barS awB (chB 112)) awR=⟨true,dN,⟨4,chB 115,chB 104,25,[]⟩,aI⟩:=by
 unfold dZ;rw[if_neg (by show¬true=false;decide),if_pos dH6]
 have:W (awR.hi-awR.lo)=25:=Aq;rw[this];rfl
theorem eP2:nJ (barS awB (chB 112)) awX=awX.scrap:=by
 unfold nJ
 have e1:eG (barS awB (chB 112)) awX.rests=[⟨true,dN,⟨4,chB 115,chB 104,25,[]⟩,aI⟩] :=by
  rw[mV bI7];show [dZ (barS awB (chB 112)) awR] =_;rw[cK1]
 rw[e1];show subL (subL 100 [40,30]) [25] =5;rw[aC6 [40,30] 100 (by unfold R6;omega) Aa (by intro c hc;simp at hc;omega) Aq]
 rw[show(100:Int)- [40,30].sum=30 from Aq,aC6 [25] 30 (by unfold R6;omega) Aa (by intro c hc;simp at hc;omega) Aq]
 decide
theorem dQ9:iD awX:=by
 refine aK5 (fun c hc=>?_) (fun r hr=>?_) (by show(2:Nat)<=60;decide) (by show(1:Nat)<=6;decide) Aq
 ·simp only[List.mem_cons,List.not_mem_nil,or_false]at hc
  rcases hc with rfl|rfl
  ·exact⟨⟨show(1:Int)<=2 from Aq,show(2:Int)<=1000000 from Aq⟩,yM Aq,show(1:Int)<=40 from Aq⟩
  ·exact⟨⟨show(1:Int)<=3 from Aq,show(3:Int)<=1000000 from Aq⟩,yM Aq,show(1:Int)<=30 from Aq⟩
 ·rw[List.mem_singleton.1 hr]
  exact⟨⟨show(1:Int)<=4 from Aq,show(4:Int)<=1000000 from Aq⟩, .inl rfl⟩
theorem eF1:dP [awB.id] (fO awX):=by
 rw[qJ];show(∀n∈([2,3,4] :List Int),n∉([1] :List Int))/\([2,3,4] :List Int).Pairwise (·≠·);exact⟨Aq,Aq⟩
theorem eX6:∃q ps u r c,kL inv0 0 awL=(⟨[q],ps,u,r,c⟩,3,0)/\q.bar.length=25/\ps.length=2/\c.2=5/\Good ⟨[q],ps,u,r,c⟩ 1000:=by
 have hp:iM (chB 112):=yM Aq;obtain⟨r1,r2,r3,r4⟩:=dH7 fB9 hp dQ9 rfl rfl eF1 bI7 eP2
 have gd:Good (cut5 (st2 awB (chB 112)) awX 0 (barS awB (chB 112))) 1000:=by
  have q1:=good_step (e:=nD awB) cN2 (by rw[r2])
  rw[r2]at q1;have q2:=good_step (e:=uX awB.id (chB 112)) q1 (by rw[r3])
  rw[r3]at q2;have q3:=good_step (e:=awX) q2 (by rw[r4])
  rw[r4]at q3;exact q3.mono (by show 0+1+1+(1+2+1)<=1000;decide)
 have hst:(cut5 (st2 awB (chB 112)) awX 0 (barS awB (chB 112))).stocks=[dZ (barS awB (chB 112)) awR] :=by
  rw[aF7,mV bI7];rfl
 have hpl:(cut5 (st2 awB (chB 112)) awX 0 (barS awB (chB 112))).pieces.length=2:=by
  rw[aG4]
  have key:∀(xs l:List Piece),(xs.foldl (putK Piece.id) l).length=l.length+xs.length:=by
   intro xs
   induction xs with
   |nil=>intro l;simp
   |cons x xs ih=>
    intro l;rw[List.foldl_cons,ih,show(putK Piece.id l x).length=l.length+1 from mQ,List.length_cons];omega
  rw[key];rfl
 have hsc:(cut5 (st2 awB (chB 112)) awX 0 (barS awB (chB 112))).scrap.2=5:=by
  show W (0+5)=5;decide
 have r1':kL inv0 0 awL=(cut5 (st2 awB (chB 112)) awX 0 (barS awB (chB 112)),3,0):=r1;generalize cut5 (st2 awB (chB 112)) awX 0 (barS awB (chB 112))=s at*;obtain⟨ss,ps,u,r,c⟩:=s;simp only at hst hpl hsc;subst hst;exact⟨_,ps,u,r,c,r1',by rw[cK1],hpl,hsc,gd⟩
theorem DB_t{p:Prop}(h:p):DB p= .lit (.bool true):=congrArg (fun b=>V.lit (.bool b)) (dH.2 h)
theorem DB_f{p:Prop}(h:¬p):DB p= .lit (.bool false):=congrArg (fun b=>V.lit (.bool b)) (dW.2 h)
theorem aQ4{e:Event}(hb:bI1 e)(hf:fewE e):iY e/\e.cuts.length<=12/\e.rests.length<=8/\more e<=21:=by
 obtain⟨⟨h1,h2,h3,h4,h5⟩,h6⟩:=hf;obtain⟨⟨⟨b1,b2,b3⟩,b4,b5⟩,b6,b7,b8⟩:=hb;obtain⟨s1,s2,s3,s4,s5⟩:=h4;have h1':e.cuts.length<=12:=Aa;have h2':e.rests.length<=8:=Aa
 refine⟨⟨⟨⟨b1,?_,b3⟩,Aa,fun d hd=>⟨(b5 d hd).1,?_,(b5 d hd).2.2⟩⟩,by have:=h5.2.2;omega,Aa,Aa⟩,h1',h2',Iu⟩
 ·have:=s5.1;omega
 ·have:=(s1 d hd).1;omega
theorem aL9{s:aJ}{n:Nat}(h:Good s n)(hn:n<=1000000):Sp 24 [invV s] (.lit (.bool true)):=by
 have g:=bN0 s (Nat.le_trans h.ok.ls hn) (Nat.le_trans h.ok.lp hn) h.ok.sz;rw[DB_t (eZ9 h.bal)]at g;exact g
theorem eA5:∀e∈awL,iY e:=by
 intro e he;have he':e=nD awB\/e=uX 1 (chB 112)\/e=awX:=by simpa [awL]using he
 have f0:tN dN:=⟨⟨Nat.zero_le _,Nat.zero_le _,fun h hh=>by cases hh⟩,Nat.zero_le _,fun h hh=>by cases hh⟩
 rcases he' with rfl|rfl|rfl
 ·exact⟨f0,Nat.zero_le _,Nat.zero_le _,Nat.zero_le _⟩
 ·exact⟨f0,Nat.zero_le _,Nat.zero_le _,Nat.zero_le _⟩
 ·exact⟨f0,Nat.zero_le _,show(2:Nat)<=1000000 from Aq,show(1:Nat)<=1000000 from Aq⟩
def nil1(x:V):V:=match x with
 | .lit u=>(match u with| .slice none 0 0=> .sl [] |u=> .lit u)
 |x=>x
def nilC(x:V):V:=match x with
 | .agg xs=> .agg (mapR nil1 xs)
 |x=>x
def nilSt(σ:St):St:=⟨fun s=>nilC (σ.env s),σ.bx,σ.ar⟩
theorem dC4{w:World}{G:Gh}{v:Value}{x:V}(h:Rv w G v x):Rv w G v (nil1 x):=by
 unfold nil1;exact TB
theorem eM7{p:Nat->Prop}{q:Nat->Nat->Prop}{x:V}(h:x.ok p q):(nil1 x).ok p q:=by
 unfold nil1;exact TU
theorem eQ8{w:World}{G:Gh}{v:Value}{x:V}(h:Rv w G v x):Rv w G v (nilC x):=by
 cases x with
 |agg xs=>
  show Rv w G v (.agg (mapR nil1 xs));rw[dU]
  cases h with
  |agg cs _ hl' ho hh=>
   refine .agg cs _ (by simp[hl']) ho (fun i c y hc hy=>?_)
   rw[List.getElem?_map]at hy
   cases hx:xs[i]? with
   |none=>rw[hx]at hy;cases hy
   |some z=>
    rw[hx]at hy;cases hy;exact dC4 (hh i c z hc hx)
 |_=>exact h
theorem dG1{p:Nat->Prop}{q:Nat->Nat->Prop}{x:V}(h:x.ok p q):(nilC x).ok p q:=by
 cases x with
 |agg xs=>
  show(V.agg (mapR nil1 xs)).ok p q;rw[dU];simp only[V.ok]at h⊢;refine aH.2 fun y hy=>?_;obtain⟨z,hz,rfl⟩:=List.mem_map.1 hy;exact eM7 (aH.1 h z hz)
 |_=>exact h
theorem le_nil(σ:St):Le T σ (nilSt σ):=by
 unfold Le;intro Φ a w G inv;exact⟨G,{inv with env:=fun s=>eQ8 (inv.env s),wfE:=fun s=>dG1 (inv.wfE s)}⟩
theorem zB:Sp 12 [] (.lit (.bool true)):=by
 refine zsp Tryz.func12 ?_;obtain⟨q,ps,u,r,c,h1,h2,h3,h4,h5⟩:=eX6;have g1:=vX awL eA5 (by show 1+(1+(1+2+1))<=1000000;decide) (by show 3<=1000000;decide)
 rw[h1]at g1;change Sp _ _ (.tup [invV ⟨[q],ps,u,r,c⟩,I 3,I 0])at g1;have g2:=aL9 h5 Aq;have hm:(ps.map aZ).length=ps.length:=Af
 repeat' ((conv=>whnf);first|(exfalso;omega)|refine bB4 (Le.trans (Le.trans (aZ8 10 rfl (.inl rfl)) (aZ8 12 rfl (.inl rfl))) (le_nil _)) ?_|refine dE3 _ rfl ?_|refine zS ?_|refine zT ?_ ?_<;>intro _|fail)
 all_goals conv=>whnf
 all_goals first
  |exact aK rfl
  |(exfalso;simp_all;done)
  |(exfalso;simp_all;omega)
theorem fZ1{s:jL}:pJ s↔s=dN:=by
 obtain⟨i,g,h,gr,⟨o,hs⟩,d⟩:=s;unfold pJ dN sh0;simp only[List.length_eq_zero_iff,jL.mk.injEq,Sh.mk.injEq];constructor
 ·rintro⟨a,b,c,d,e,f,g⟩;exact⟨a,b,c,d,⟨e,f⟩,g⟩
 ·rintro⟨a,b,c,d,⟨e,f⟩,g⟩;exact⟨a,b,c,d,e,f,g⟩
theorem gC9{b:Bar}:yT b↔b=bar0:=by
 obtain⟨i,g,h,l,d⟩:=b;unfold yT bar0;simp only[List.length_eq_zero_iff,Bar.mk.injEq]
theorem fR6(s:jL)(hs:aA4 s):Sp 79 [zJ s] (DB (pJ s)):=by
 refine zsp Tryz.func79 ?_;have h1:=cQ1 s dN hs;have e:DB (pJ s)=DB (s=dN):=congrArg DB (propext fZ1)
 rw[e];generalize (s=dN)=P at*;exact zF
theorem fW3(n:Int):Sp 82 [I n] (DB (nC n)):=by
 refine zsp Tryz.func82 ?_;exact QK
theorem fG6(b:Bool):Sp 70 [B b] (I (fC6 b)):=by
 refine zsp Tryz.func70 ?_;cases b
 ·exact zF
 ·exact zF
theorem fN5(x:aN):Sp 29 [aQ x] (I (sid x)):=by
 refine zsp Tryz.func29 ?_;exact Rt
theorem fJ6(x:aN)(hx:eY x):Sp 38 [aQ x] (I (gG x)):=by
 refine zsp Tryz.func38 ?_;have h1:=fK5 x.sheet.shape hx.1.1;exact Rt
theorem fR9(b:Bool)(p q:Rest):Sp 147 [bY p,bY q,B b] (DB (kP b p q)):=by
 refine zsp Tryz.func147 ?_
 cases b with
 |true=>exact Ll
 |false=>exact JQ
def aC2{α:Type}(key:α->Int)(l:List α)(n:Int):Int:=match l.findIdx? (fun x=>decide (key x=n))with|some i=>i|none=> -1
theorem aB5{α:Type}{key:α->Int}{l:List α}{n:Int}(h:∀x∈l,key x≠n):aC2 key l n= -1:=by
 unfold aC2;rw[List.findIdx?_eq_none_iff.2 (fun x hx=>by simpa using h x hx)]
theorem fI9{α:Type}{key:α->Int}{D R:List α}{x:α}{n:Int}(h:∀x∈D,key x≠n)(hx:key x=n):aC2 key (D++x::R) n=D.length:=by
 unfold aC2;rw[List.findIdx?_append,List.findIdx?_eq_none_iff.2 (fun x hx=>by simpa using h x hx),List.findIdx?_cons,if_pos IY]
 simp
theorem fZ7(s:aJ)(n:Int)(hl:s.stocks.length<=1000000):Sp 69 [invV s,I n] (I (aC2 sid s.stocks n)):=by
 refine zsp Tryz.func69 ?_;have hml:(s.stocks.map aQ).length=s.stocks.length:=Af
 repeat' ((conv=>whnf);first|refine zS ?_|fail)
 refine aU (A:=List aN) (B:=List aN) (fun D R=>mkSt [(1,I n),(2, .box 2 0),(5,I D.length)] [(2,invC s)] []) (fun D R=>s.stocks=D++R/\∀x∈D,sid x≠n) (fun D R=>R.length) [] s.stocks ?_ ⟨rfl,Af⟩ (fun D R hp=>?_)
 ·exact zj
 obtain⟨hp,hD⟩:=hp
 cases R with
 |nil=>
  have hlen:s.stocks.length=D.length:=Ac;have e:aC2 sid s.stocks n= -1:=aB5 FP
  rw[e];exact Qm
 |cons x R=>
  have hlen:=aO hp;have h1:=fN5 x
  have hS:sid x=n->aC2 sid s.stocks n=D.length:=fun h=>by rw[hp];exact fI9 hD h
  have hN:sid x≠n->∀y∈D++[x],sid y≠n:=fun h y hy=>MK;generalize sid x=k at*;generalize aC2 sid s.stocks n=F at*;exact QN
theorem fO3(s:aJ)(n:Int)(hl:s.pieces.length<=1000000):Sp 68 [invV s,I n] (I (aC2 Piece.id s.pieces n)):=by
 refine zsp Tryz.func68 ?_;have hml:(s.pieces.map aZ).length=s.pieces.length:=Af
 repeat' ((conv=>whnf);first|refine zS ?_|fail)
 refine aU (A:=List Piece) (B:=List Piece) (fun D R=>mkSt [(1,I n),(2, .box 2 0),(5,I D.length)] [(2,invC s)] []) (fun D R=>s.pieces=D++R/\∀x∈D,x.id≠n) (fun D R=>R.length) [] s.pieces ?_ ⟨rfl,Af⟩ (fun D R hp=>?_)
 ·exact zj
 obtain⟨hp,hD⟩:=hp
 cases R with
 |nil=>
  have hlen:s.pieces.length=D.length:=Ac;have e:aC2 Piece.id s.pieces n= -1:=aB5 FP
  rw[e];exact Qm
 |cons x R=>
  have hlen:=aO hp;have hS:x.id=n->aC2 Piece.id s.pieces n=D.length:=fun h=>by rw[hp];exact fI9 hD h
  have hN:x.id≠n->∀y∈D++[x],y.id≠n:=fun h y hy=>MK;generalize aC2 Piece.id s.pieces n=F at*;exact QN
theorem fT4{α:Type}{key:α->Int}{l D R:List α}{t:Int}(hp:l=D++R)(h1:∀x∈D,key x<t)(h2:∀x R',R=x::R'->t<=key x):bs key l t=D.length:=by
 refine dC0 Ac (fun k m hk hm=>?_) (fun m hm=>?_)
 ·rw[hp,List.getElem?_append_left hk]at hm
  exact h1 m (List.mem_of_getElem? hm)
 ·rw[hp,List.getElem?_append_right (Nat.le_refl _),Nat.sub_self]at hm
  cases R with
  |nil=>simp at hm
  |cons x R'=>
   simp only[List.getElem?_cons_zero,Option.some.injEq]at hm;subst hm;exact h2 _ _ rfl
theorem fH2{α:Type}(f:α->V)(l:List α)(x:α){k i:Nat}(h:i=k):(putAt l i x).map f=List.take (k:Int).toNat (l.map f)++[f x] ++List.drop (k:Int).toNat (List.take ((l.map f).length:Int).toNat (l.map f)):=by
 subst h;exact fI6 f l x i
theorem fF6{α:Type}{f:α->V}{n:Nat}(hf:∀x,(f x).cells.length=n)(l:List α):∀y∈l.map f,y.cells.length=n:=fun y hy=>Gu
theorem fL0{α:Type}{f:α->V}{n:Nat}(hf:∀x,(f x).cells.length=n)(l:List α)(k:Nat):∀y∈(l.map f).take k,y.cells.length=n:=fun y hy=>fF6 hf l y (List.mem_of_mem_take hy)
theorem f_dt{α:Type}{f:α->V}{n:Nat}(hf:∀x,(f x).cells.length=n)(l:List α)(k m:Nat):∀y∈((l.map f).take m).drop k,y.cells.length=n:=fun y hy=>fF6 hf l y (List.mem_of_mem_take (List.mem_of_mem_drop hy))
abbrev zInv:List V:=[nilV,nilV,nilV,I 0,I 0,I 0,I 0]
theorem fT9(s:aJ)(n:Int)(hl:s.used.length<=1000000):Sp 143 [invV s,I n] (invV {s with used:=putN s.used n}):=by
 refine zsp Tryz.func143 ?_;have hml:(s.used.map I).length=s.used.length:=Af;show fnVC _ _ _ _ (.agg [.sl (s.stocks.map aQ), .sl (s.pieces.map aZ), .sl ((putN s.used n).map I),I s.received.1,I s.received.2,I s.scrap.1,I s.scrap.2]);generalize hU:(putN s.used n).map I=U
 repeat' ((conv=>whnf);first|refine zS ?_|fail)
 refine aU (A:=List Int) (B:=List Int) (fun D R=>mkSt [(1,I n),(2, .box 2 0),(4, .box 4 0),(5,I D.length)] [(2,invC s),(4,zInv)] []) (fun D R=>s.used=D++R/\∀x∈D,x<n) (fun D R=>R.length) [] s.used ?_ ⟨rfl,Af⟩ (fun D R hp=>?_)
 ·exact zj
 obtain⟨hp,hD⟩:=hp
 cases R with
 |nil=>
  have hlen:s.used.length=D.length:=Ac;have e:=(fH2 I s.used n (k:=D.length) (fT4 (key:=id) hp hD (fun x R' h=>Ah))).symm.trans hU
  repeat' ((conv=>whnf);first|(exfalso;omega)|refine cC0 [(2,2),(23,2),(31,2),(36,2)] Ae Ad ?_|refine iH rfl (.inl rfl) rfl (of_decide_eq_true rfl) (fL0 (f:=I) (n:=1) (fun _=>rfl) s.used _) CV ?_|refine iH rfl (.inl rfl) rfl (of_decide_eq_true rfl) (dA rfl) CX ?_|refine iH rfl (.inl rfl) rfl (of_decide_eq_true rfl) (f_dt (f:=I) (n:=1) (fun _=>rfl) s.used _ _) Az ?_|refine fU ⟨Aa,Aa,Aa, .inr (fF6 (f:=I) (n:=1) (fun _=>rfl) s.used)⟩ ?_|refine zS ?_|refine zT ?_ ?_<;>intro _|fail)
  rw[<-e];all_goals exact zE
 |cons x R=>
  have hlen:=aO hp;have hN:x<n->∀y∈D++[x],y<n:=fun h y hy=>MK
  have e:n<=x->_:=fun h=>(fH2 I s.used n (k:=D.length) (fT4 (key:=id) hp hD (fun x R' h'=>by cases h';exact h))).symm.trans hU
  repeat' ((conv=>whnf);first|(exfalso;omega)|refine cC0 [(2,2),(23,2),(31,2),(36,2)] Ae Ad ?_|refine iH rfl (.inl rfl) rfl (of_decide_eq_true rfl) (fL0 (f:=I) (n:=1) (fun _=>rfl) s.used _) CV ?_|refine iH rfl (.inl rfl) rfl (of_decide_eq_true rfl) (dA rfl) CX ?_|refine iH rfl (.inl rfl) rfl (of_decide_eq_true rfl) (f_dt (f:=I) (n:=1) (fun _=>rfl) s.used _ _) Az ?_|refine fU ⟨Aa,Aa,Aa, .inr (fF6 (f:=I) (n:=1) (fun _=>rfl) s.used)⟩ ?_|refine zS ?_|refine zT ?_ ?_<;>intro _|fail)
  all_goals conv=>whnf
  ·refine⟨(D++[x],R),?_,⟨Ac,hN Aa⟩,Af⟩
   exact P6
  ·rw[<-e Aa]
   all_goals exact zE
theorem fN8(s:aJ)(x:aN)(hl:s.stocks.length<=1000000)(hu:s.used.length<=1000000):Sp 66 [invV s,aQ x] (invV {s with stocks:=putS s.stocks x,used:=putN s.used (sid x)}):=by
 refine zsp Tryz.func66 ?_;have hml:(s.stocks.map aQ).length=s.stocks.length:=Af;have hput:putS s.stocks x=putAt s.stocks (bs sid s.stocks (sid x)) x:=rfl
 have g2:=fT9 {s with stocks:=putS s.stocks x} (sid x) hu;change Sp _ [.agg [.sl ((putS s.stocks x).map aQ), .sl (s.pieces.map aZ), .sl (s.used.map I),I s.received.1,I s.received.2,I s.scrap.1,I s.scrap.2],I (sid x)] (.agg [.sl ((putS s.stocks x).map aQ), .sl (s.pieces.map aZ), .sl ((putN s.used (sid x)).map I),I s.received.1,I s.received.2,I s.scrap.1,I s.scrap.2])at g2;show fnVC _ _ _ _ (.agg [.sl ((putS s.stocks x).map aQ), .sl (s.pieces.map aZ), .sl ((putN s.used (sid x)).map I),I s.received.1,I s.received.2,I s.scrap.1,I s.scrap.2]);have g1:=fN5 x
 generalize hU:(putS s.stocks x).map aQ=U at*;rw[hput]at hU;generalize putN s.used (sid x)=N at*;generalize hk:sid x=k at*
 repeat' ((conv=>whnf);first|refine zS ?_|fail)
 refine aU (A:=List aN) (B:=List aN) (fun D R=>mkSt [(2, .box 2 0),(3, .box 3 0),(4, .box 4 0),(5,I D.length)] [(2,invC s),(3,gB x),(4,zInv)] []) (fun D R=>s.stocks=D++R/\∀y∈D,sid y<k) (fun D R=>R.length) [] s.stocks ?_ ⟨rfl,Af⟩ (fun D R hp=>?_)
 ·exact zj
 obtain⟨hp,hD⟩:=hp
 cases R with
 |nil=>
  have hlen:s.stocks.length=D.length:=Ac;have e:=(fH2 aQ s.stocks x (k:=D.length) (fT4 (key:=sid) hp hD (fun x R' h=>Ah))).symm.trans hU
  subst e
  repeat' ((conv=>whnf);first|(exfalso;omega)|refine bW8 [(2,2),(3,3),(4,4)] [(42,[88888])] Ae Ak ?_|refine cC0 [(2,2),(3,3),(25,2),(33,2),(38,2)] Ae Ak ?_|refine iH rfl (.inl rfl) rfl (of_decide_eq_true rfl) (fL0 (f:=aQ) (n:=14) (fun _=>rfl) s.stocks _) Bl ?_|refine iH rfl (.inl rfl) rfl (of_decide_eq_true rfl) (dA rfl) CQ ?_|refine iH rfl (.inl rfl) rfl (of_decide_eq_true rfl) (f_dt (f:=aQ) (n:=14) (fun _=>rfl) s.stocks _ _) Ar ?_|refine fU ⟨Aa,Aa,Aa, .inr (fF6 (f:=aQ) (n:=14) (fun _=>rfl) s.stocks)⟩ ?_|refine zc g1 ?_|refine zh (xX g2) [] ?_|refine zS ?_|refine zT ?_ ?_<;>intro _|fail)
  all_goals exact zE
 |cons y R=>
  have hlen:=aO hp;have g3:=fN5 y
  have hN:sid y<k->∀z∈D++[y],sid z<k:=fun h z hz=>JO;by_cases hyk:k<=sid y
  ·have e:=(fH2 aQ s.stocks x (k:=D.length) (fT4 (key:=sid) hp hD (fun x R' h'=>by cases h';exact hyk))).symm.trans hU
   subst e;generalize sid y=ky at*
   repeat' ((conv=>whnf);first|(exfalso;omega)|refine bW8 [(2,2),(3,3),(4,4)] [(42,[88888])] Ae Ak ?_|refine cC0 [(2,2),(3,3),(25,2),(33,2),(38,2)] Ae Ak ?_|refine aB (l:=s.stocks) Aa ?_|refine aF (l:=s.stocks) (A:=D) (x:=y) (B:=R) hp Aa ?_|refine iH rfl (.inl rfl) rfl (of_decide_eq_true rfl) (fL0 (f:=aQ) (n:=14) (fun _=>rfl) s.stocks _) Bl ?_|refine iH rfl (.inl rfl) rfl (of_decide_eq_true rfl) (dA rfl) CQ ?_|refine iH rfl (.inl rfl) rfl (of_decide_eq_true rfl) (f_dt (f:=aQ) (n:=14) (fun _=>rfl) s.stocks _ _) Ar ?_|refine fU ⟨Aa,Aa,Aa, .inr (fF6 (f:=aQ) (n:=14) (fun _=>rfl) s.stocks)⟩ ?_|refine zc g3 ?_|refine zc g1 ?_|refine zh (xX g2) [] ?_|refine zS ?_|refine zT ?_ ?_<;>intro _|fail)
   all_goals exact zE
  ·have hyk':=hN Aa
   generalize sid y=ky at*
   repeat' ((conv=>whnf);first|(exfalso;omega)|refine bW8 [(2,2),(3,3),(4,4)] [(42,[88888])] Ae Ak ?_|refine aB (l:=s.stocks) Aa ?_|refine aF (l:=s.stocks) (A:=D) (x:=y) (B:=R) hp Aa ?_|refine zc g3 ?_|refine zc g1 ?_|refine zS ?_|refine zT ?_ ?_<;>intro _|fail)
   all_goals conv=>whnf
   refine⟨(D++[y],R),?_,⟨Ac,hyk'⟩,Af⟩;exact P6
theorem fW8(s:aJ)(x:Piece)(hl:s.pieces.length<=1000000)(hu:s.used.length<=1000000):Sp 148 [invV s,aZ x] (invV {s with pieces:=putP s.pieces x,used:=putN s.used x.id}):=by
 refine zsp Tryz.func148 ?_;have hml:(s.pieces.map aZ).length=s.pieces.length:=Af;have hput:putP s.pieces x=putAt s.pieces (bs Piece.id s.pieces x.id) x:=rfl
 have g2:=fT9 {s with pieces:=putP s.pieces x} x.id hu;change Sp _ [.agg [.sl (s.stocks.map aQ), .sl ((putP s.pieces x).map aZ), .sl (s.used.map I),I s.received.1,I s.received.2,I s.scrap.1,I s.scrap.2],I x.id] (.agg [.sl (s.stocks.map aQ), .sl ((putP s.pieces x).map aZ), .sl ((putN s.used x.id).map I),I s.received.1,I s.received.2,I s.scrap.1,I s.scrap.2])at g2;show fnVC _ _ _ _ (.agg [.sl (s.stocks.map aQ), .sl ((putP s.pieces x).map aZ), .sl ((putN s.used x.id).map I),I s.received.1,I s.received.2,I s.scrap.1,I s.scrap.2]);generalize hU:(putP s.pieces x).map aZ=U at*;rw[hput]at hU;generalize putN s.used x.id=N at*
 repeat' ((conv=>whnf);first|refine zS ?_|fail)
 refine aU (A:=List Piece) (B:=List Piece) (fun D R=>mkSt [(2, .box 2 0),(3, .box 3 0),(4, .box 4 0),(5,I D.length)] [(2,invC s),(3,dZ8 x),(4,zInv)] []) (fun D R=>s.pieces=D++R/\∀y∈D,y.id<x.id) (fun D R=>R.length) [] s.pieces ?_ ⟨rfl,Af⟩ (fun D R hp=>?_)
 ·exact zj
 obtain⟨hp,hD⟩:=hp
 cases R with
 |nil=>
  have hlen:s.pieces.length=D.length:=Ac;have e:=(fH2 aZ s.pieces x (k:=D.length) (fT4 (key:=Piece.id) hp hD (fun x R' h=>Ah))).symm.trans hU
  exact PS
 |cons y R=>
  have hlen:=aO hp;have hN:y.id<x.id->∀z∈D++[y],z.id<x.id:=fun h z hz=>JO
  by_cases hyk:x.id<=y.id
  ·have e:=(fH2 aZ s.pieces x (k:=D.length) (fT4 (key:=Piece.id) hp hD (fun x R' h'=>by cases h';exact hyk))).symm.trans hU
   exact PS
  ·have hyk':=hN Aa
   repeat' ((conv=>whnf);first|(exfalso;omega)|refine bW8 [(2,2),(3,3),(4,4)] [(42,[88888])] Ae Ak ?_|refine zS ?_|refine zT ?_ ?_<;>intro _|fail)
   all_goals conv=>whnf
   refine⟨(D++[y],R),?_,⟨Ac,hyk'⟩,Af⟩;exact P6
theorem fG9(s:aJ)(k:Nat)(hk:k<s.stocks.length)(hl:s.stocks.length<=1000000):Sp 71 [invV s,I k] (invV {s with stocks:=nN s.stocks k}):=by
 refine zsp Tryz.func71 ?_;have hml:(s.stocks.map aQ).length=s.stocks.length:=Af;show fnVC _ _ _ _ (.agg [.sl ((nN s.stocks k).map aQ), .sl (s.pieces.map aZ), .sl (s.used.map I),I s.received.1,I s.received.2,I s.scrap.1,I s.scrap.2])
 have e:(nN s.stocks k).map aQ=List.take (k:Int).toNat (s.stocks.map aQ)++List.drop ((k:Int)+1).toNat (List.take ((s.stocks.map aQ).length:Int).toNat (s.stocks.map aQ)):=by
  unfold nN;rw[show((k:Int)+1).toNat=k+1 from Aa,Int.toNat_natCast,Int.toNat_natCast,List.take_length,List.map_append,List.map_take,List.map_drop]
 rw[e]
 repeat' ((conv=>whnf);first|refine cC0 [(2,2),(6,2),(11,2),(17,2)] Ae Ak ?_|refine iH rfl (.inl rfl) rfl (of_decide_eq_true rfl) (fL0 (f:=aQ) (n:=14) (fun _=>rfl) s.stocks _) Bl ?_|refine iH rfl (.inl rfl) rfl (of_decide_eq_true rfl) (f_dt (f:=aQ) (n:=14) (fun _=>rfl) s.stocks _ _) (by show(List.take _ (s.stocks.map aQ)).length+(List.drop _ (List.take _ (s.stocks.map aQ))).length<=1000000000;rw[List.length_take,List.length_drop,List.length_take];omega) ?_|refine fU ⟨Aa,Aa,Aa, .inr (fF6 (f:=aQ) (n:=14) (fun _=>rfl) s.stocks)⟩ ?_|refine zS ?_|fail)
 all_goals exact zE
def fG2(c:List V)(br:Bar)(r:Rest)(X:List Iv)(n:Int):St:=match X with
 | [] =>mkSt [(2, .box 2 0),(3, .box 3 0),(4, .box 4 0),(5,I 0),(9, .box 9 0),(10,I n)]
   [(2,c),(3,(bY r).cells),(4,dA5),(9,[I r.id,S br.grade,S br.heat,I (W (r.hi-r.lo)),nilV])] []
 |y::X=>mkSt [(2, .box 2 0),(3, .box 3 0),(4, .box 4 0),(5,I 0),(9, .box 9 0),(10,I n)]
  [(2,c),(3,(bY r).cells),(4,dA5),(9,[I r.id,S br.grade,S br.heat,I (W (r.hi-r.lo)), .arr 120 X.length])] [(120,⟨X.length, .own,28,(y::X).map ivV⟩)]
theorem gB3(x:aN)(r:Rest)(hx:eY x):Sp 146 [aQ x,bY r] (.tup [aQ (dZ x r),I (iG x r)]):=by
 refine zsp Tryz.func146 ?_;have h1:=fP0 x.sheet r.box r.id hx.1
 cases hb:x.isBar with
 |false=>exact JM
 |true=>
  have hbf:¬x.isBar=false:=by rw[hb];decide
  have c1:¬(x.isBar=false):=hbf;by_cases c2:r.box=bx0;rotate_left
  ·have e1:iG x r=1:=by unfold iG;rw[if_neg c1,if_pos c2]
   have e2:dZ x r=wS:=BR;rw[e1,e2];obtain⟨b,s,br,p⟩:=x;cases hb
   repeat' ((conv=>whnf);first|(exfalso;contradiction)|refine cC5 ?_|refine cA4 (a:=r.box) (b:=bx0) (fun hv=>?_) (fun hv=>?_)|refine zS ?_|refine zT ?_ ?_<;>intro _|fail)
   all_goals exact zE
  by_cases c3:r.lo<0\/r.hi<=r.lo\/x.bar.length<r.hi
  ·have e1:iG x r=2:=by unfold iG;rw[if_neg c1,if_neg (fun h=>h c2),if_pos c3]
   have e2:dZ x r=wS:=BR;rw[e1,e2];obtain⟨b,s,br,p⟩:=x;cases hb;have hb9:(⟨true,s,br,p⟩:aN).bar.length=br.length:=rfl
   rw[hb9]at c3;exact QI
  have e1:iG x r=0:=EN;have e2:dZ x r=⟨true,dN,⟨r.id,x.bar.grade,x.bar.heat,W (r.hi-r.lo),kH r x.bar.defects⟩,aI⟩:=by unfold dZ;rw[if_neg c1,if_pos e1]
  rw[e1,e2];have hl:(x.bar.defects.map ivV).length=x.bar.defects.length:=Af;have hdl:=hx.2
  obtain⟨b,s,br,p⟩:=x;cases hb
  repeat' ((conv=>whnf);first|(exfalso;contradiction)|(exfalso;omega)|refine cC5 ?_|refine cA4 (a:=r.box) (b:=bx0) (fun hv=>?_) (fun hv=>?_)|refine zS ?_|refine zT ?_ ?_<;>intro _|fail)
  all_goals conv=>whnf
  all_goals
   clear e1 e2 h1;simp only at hl hdl c3;have hl9:((⟨true,s,br,p⟩:aN).bar.defects.map ivV).length=br.defects.length:=Af;have hb9:(⟨true,s,br,p⟩:aN).bar.length=br.length:=rfl
   refine aU (A:=List Iv) (B:=List Iv) (fun D R=>fG2 (gB ⟨true,s,br,p⟩) br r (kH r D) D.length) (fun D R=>br.defects=D++R) (fun D R=>R.length) [] br.defects ?_ rfl (fun D R hp=>?_)
   ·show Le T _ (fG2 (gB ⟨true,s,br,p⟩) br r [] 0)
    exact PZ
   have hXl:=aG5 r D
   cases R with
   |nil=>exact MW
   |cons d R=>
    have hlen:=aO hp;have hsn:=cK9 r D d
    have hlD:((D++[d]).length:Int)=(D.length:Int)+1:=Af;generalize kH r D=X at*;by_cases hw:max d.1 r.lo<min d.2 r.hi
    ·have hcd:aH0 r d=[(W (maxI d.1 r.lo-r.lo),W (minI d.2 r.hi-r.lo))] :=by unfold aH0;rw[if_pos hw,mG,lH]
     rw[hcd]at hsn
     cases X with
     |nil=>
      repeat' ((conv=>whnf);first|(exfalso;omega)|refine eZ1 Ak ?_|(exfalso;simp only[mG,lH]at*;omega)|refine gX (of_decide_eq_true rfl) (dA rfl) (of_decide_eq_true rfl) ?_|refine zS ?_|refine zT ?_ ?_<;>intro _|fail)
      all_goals conv=>whnf
      refine⟨(D++[d],R),?_,Ac,Af⟩;show Le T _ (fG2 (gB ⟨true,s,br,p⟩) br r (kH r (D++[d])) (D++[d]).length);rw[hsn,hlD];show Le T _ (fG2 (gB ⟨true,s,br,p⟩) br r [_] _);exact zj
     |cons y X=>
      have hx1:(y::X).length=X.length+1:=rfl
      repeat' ((conv=>whnf);first|(exfalso;omega)|refine eZ1 Ak ?_|(exfalso;simp only[mG,lH]at*;omega)|refine iH rfl (.inl rfl) rfl (of_decide_eq_true rfl) (dA rfl) (show((y::X).map ivV).length+1<=1000000000 from Ea) ?_|refine zS ?_|refine zT ?_ ?_<;>intro _|fail)
      all_goals conv=>whnf
      refine⟨(D++[d],R),?_,Ac,Af⟩;show Le T _ (fG2 (gB ⟨true,s,br,p⟩) br r (kH r (D++[d])) (D++[d]).length);rw[hsn,hlD];show Le T _ (fG2 (gB ⟨true,s,br,p⟩) br r (y::(X++[_])) _);unfold fG2;exact PK
    ·have hcd:aH0 r d=[] :=by unfold aH0;rw[if_neg hw]
     rw[hcd,List.append_nil]at hsn
     cases X with
     |nil=>
      repeat' ((conv=>whnf);first|(exfalso;omega)|refine eZ1 Ak ?_|(exfalso;simp only[mG,lH]at*;omega)|refine zS ?_|refine zT ?_ ?_<;>intro _|fail)
      all_goals conv=>whnf
      refine⟨(D++[d],R),?_,Ac,Af⟩;show Le T _ (fG2 (gB ⟨true,s,br,p⟩) br r (kH r (D++[d])) (D++[d]).length);rw[hsn,hlD];show Le T _ (fG2 (gB ⟨true,s,br,p⟩) br r [] _);exact zj
     |cons y X=>
      have hx1:(y::X).length=X.length+1:=rfl
      repeat' ((conv=>whnf);first|(exfalso;omega)|refine eZ1 Ak ?_|(exfalso;simp only[mG,lH]at*;omega)|refine zS ?_|refine zT ?_ ?_<;>intro _|fail)
      all_goals conv=>whnf
      refine⟨(D++[d],R),?_,Ac,Af⟩;show Le T _ (fG2 (gB ⟨true,s,br,p⟩) br r (kH r (D++[d])) (D++[d]).length);rw[hsn,hlD];show Le T _ (fG2 (gB ⟨true,s,br,p⟩) br r (y::X) _);exact zj
end Go.Proofs.Led
