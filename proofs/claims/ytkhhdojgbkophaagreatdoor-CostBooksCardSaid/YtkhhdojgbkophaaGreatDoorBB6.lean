/-
  The inventory: what is left of a stock.
-/
import Derived.Test.YtkhhdojgbkophaaGreatDoorBB5
import Derived.Laws.CopyRow
import Derived.Lib.AppendZerosOnto
import Derived.Lib.Overlaps
import Derived.Laws.Externs
import Derived.Laws.IdiomCopy
set_option linter.unusedVariables false
set_option linter.unusedSimpArgs false
set_option maxRecDepth 100000
set_option maxHeartbeats 4000000
noncomputable section
namespace Go.Proofs.Led
open Go Go.Proofs Go.Ab
theorem eqBx(a b c d a' b' c' d':Int):eqT T 4 114 [I a,I b,I c,I d] [I a',I b',I c',I d'] =some (andB (andB (eqB a a') (andB (eqB b b') true)) (andB (andB (eqB c c') (andB (eqB d d') true)) true)):=Ac
theorem cC5{a b c d a' b' c' d':Int}{K:Bool->Prop}(h:K (andB (andB (eqB a a') (andB (eqB b b') true)) (andB (andB (eqB c c') (andB (eqB d d') true)) true))):aL1.match_1 (fun _=>Prop) (eqT T 4 114 [I a,I b,I c,I d] [I a',I b',I c',I d']) K (fun _=>False):=by
 rw[eqBx];exact h
theorem eV4{a b:Bx}:andB (andB (eqB a.1.1 b.1.1) (andB (eqB a.1.2 b.1.2) true)) (andB (andB (eqB a.2.1 b.2.1) (andB (eqB a.2.2 b.2.2) true)) true)=true↔a=b:=by
 obtain⟨⟨a1,a2⟩,⟨a3,a4⟩⟩:=a;obtain⟨⟨b1,b2⟩,⟨b3,b4⟩⟩:=b;unfold andB;simp only[Bool.and_eq_true,aA1,Prod.mk.injEq,and_true]
theorem cA4{a b:Bx}{A B:Prop}(h1:a=b->A)(h2:a≠b->B):branch (andB (andB (eqB a.1.1 b.1.1) (andB (eqB a.1.2 b.1.2) true)) (andB (andB (eqB a.2.1 b.2.1) (andB (eqB a.2.2 b.2.2) true)) true)) A B:=
 jU (fun h=>h1 (eV4.1 h)) (fun h=>h2 (fun e=>by rw[eV4.2 e]at h;cases h))
def bx0:Bx:=((0,0),(0,0))
def aH0(r:Rest)(d:Iv):List Iv:=if max d.1 r.lo<min d.2 r.hi then [(W (max d.1 r.lo-r.lo),W (min d.2 r.hi-r.lo))]else []
def kH(r:Rest)(l:List Iv):List Iv:=l.flatMap (aH0 r)
theorem cK9(r:Rest)(D:List Iv)(d:Iv):kH r (D++[d])=kH r D++aH0 r d:=by unfold kH;simp
theorem aG5(r:Rest):∀D:List Iv,(kH r D).length<=D.length
 | [] =>Nat.le_refl _
 |d::D=>by
  have h:=aG5 r D;have h2:(aH0 r d).length<=1:=by unfold aH0;split<;>simp
  unfold kH at h⊢;exact Ol
def iG(x:aN)(r:Rest):Int:=
 if x.isBar=false then(if r.lo≠0\/r.hi≠0 then 1 else remE x.sheet r.box r.id)
 else if r.box≠bx0 then 1 else if r.lo<0\/r.hi<=r.lo\/x.bar.length<r.hi then 2 else 0
def dZ(x:aN)(r:Rest):aN:=
 if x.isBar=false then(if r.lo≠0\/r.hi≠0 then wS else⟨false,remS x.sheet r.box r.id,bar0,aI⟩)
 else if iG x r=0 then⟨true,dN,⟨r.id,x.bar.grade,x.bar.heat,W (r.hi-r.lo),kH r x.bar.defects⟩,aI⟩else wS
abbrev dA5:List V:=[B false,I 0,S aI,S aI,I 0,nilV,nilV,nilV,I 0,S aI,S aI,I 0,nilV,S aI]
def aB6(c:List V)(br:Bar)(r:Rest)(X:List Iv)(n:Int):St:=match X with
 | [] =>mkSt [(2, .box 2 0),(3, .box 3 0),(4, .box 4 0),(8, .box 8 0),(78, .sl (br.defects.map ivV)),(79,I br.defects.length),(80,I n)]
   [(2,c),(3,(bY r).cells),(4,dA5),(8,[I r.id,S br.grade,S br.heat,I (W (r.hi-r.lo)),nilV])] []
 |y::X=>mkSt [(2, .box 2 0),(3, .box 3 0),(4, .box 4 0),(8, .box 8 0),(78, .sl (br.defects.map ivV)),(79,I br.defects.length),(80,I n)]
  [(2,c),(3,(bY r).cells),(4,dA5),(8,[I r.id,S br.grade,S br.heat,I (W (r.hi-r.lo)), .arr 109 X.length])] [(109,⟨X.length, .own,27,(y::X).map ivV⟩)]
theorem dL8(x:aN)(r:Rest)(hx:eY x):Sp 116 [aQ x,bY r] (.tup [aQ (dZ x r),I (iG x r)]):=by
 refine zsp Tryz.func116 ?_;have h1:=cD5 x.sheet r.box r.id hx.1
 cases hb:x.isBar with
 |false=>
  by_cases c1:r.lo≠0\/r.hi≠0
  ·have e1:iG x r=1:=by unfold iG;rw[if_pos hb,if_pos c1]
   have e2:dZ x r=wS:=by unfold dZ;rw[if_pos hb,if_pos c1]
   rw[e1,e2];obtain⟨b,s,br,p⟩:=x;cases hb;exact zF
  ·have e1:iG x r=remE x.sheet r.box r.id:=by unfold iG;rw[if_pos hb,if_neg c1]
   have e2:dZ x r=⟨false,remS x.sheet r.box r.id,bar0,aI⟩:=by unfold dZ;rw[if_pos hb,if_neg c1]
   rw[e1,e2];obtain⟨b,s,br,p⟩:=x;cases hb;generalize remS s r.box r.id=q1 at*;generalize remE s r.box r.id=q2 at*;exact zF
 |true=>
  have hbf:¬x.isBar=false:=by rw[hb];decide
  have c1:¬(x.isBar=false):=hbf;by_cases c2:r.box=bx0;rotate_left
  ·have e1:iG x r=1:=by unfold iG;rw[if_neg c1,if_pos c2]
   have e2:dZ x r=wS:=Em;rw[e1,e2];obtain⟨b,s,br,p⟩:=x;cases hb
   repeat' ((conv=>whnf);first|(exfalso;contradiction)|refine cC5 ?_|refine cA4 (a:=r.box) (b:=bx0) (fun hv=>?_) (fun hv=>?_)|refine zS ?_|fail)
   all_goals exact zE
  by_cases c3:r.lo<0\/r.hi<=r.lo\/x.bar.length<r.hi
  ·have e1:iG x r=2:=by unfold iG;rw[if_neg c1,if_neg (fun h=>h c2),if_pos c3]
   have e2:dZ x r=wS:=Em;rw[e1,e2];obtain⟨b,s,br,p⟩:=x;cases hb
   repeat' ((conv=>whnf);first|(exfalso;contradiction)|(exfalso;omega)|refine cC5 ?_|refine cA4 (a:=r.box) (b:=bx0) (fun hv=>?_) (fun hv=>?_)|refine zS ?_|refine zT ?_ ?_<;>intro _|fail)
   all_goals exact zE
  have e1:iG x r=0:=by unfold iG;rw[if_neg c1,if_neg (fun h=>h c2),if_neg c3]
  have e2:dZ x r=⟨true,dN,⟨r.id,x.bar.grade,x.bar.heat,W (r.hi-r.lo),kH r x.bar.defects⟩,aI⟩:=by unfold dZ;rw[if_neg c1,if_pos e1]
  rw[e1,e2];have hl:(x.bar.defects.map ivV).length=x.bar.defects.length:=Ae;have hdl:=hx.2
  obtain⟨b,s,br,p⟩:=x;cases hb
  repeat' ((conv=>whnf);first|(exfalso;contradiction)|(exfalso;omega)|refine cC5 ?_|refine cA4 (a:=r.box) (b:=bx0) (fun hv=>?_) (fun hv=>?_)|refine zS ?_|refine zT ?_ ?_<;>intro _|fail)
  all_goals conv=>whnf
  clear e1 e2 h1;simp only at hl hdl c3;refine aU (A:=List Iv) (B:=List Iv) (fun D R=>aB6 (gB ⟨true,s,br,p⟩) br r (kH r D) D.length) (fun D R=>br.defects=D++R) (fun D R=>R.length) [] br.defects ?_ rfl (fun D R hp=>?_)
  ·show Le T _ (aB6 (gB ⟨true,s,br,p⟩) br r [] 0)
   exact Nk
  have hXl:=aG5 r D
  cases R with
  |nil=>
   have e:br.defects=D:=Af;have hlen:br.defects.length=D.length:=by rw[e]
   simp only;rw[e];generalize kH r D=X at*
   cases X with
   |nil=>
    exact zF
   |cons y X=>
    exact zF
  |cons d R=>
   have hlen:=aO hp;have hsn:=cK9 r D d
   have hlD:((D++[d]).length:Int)=(D.length:Int)+1:=Ae;generalize kH r D=X at*;by_cases hw:max d.1 r.lo<min d.2 r.hi
   ·have hcd:aH0 r d=[(W (maxI d.1 r.lo-r.lo),W (minI d.2 r.hi-r.lo))] :=by unfold aH0;rw[if_pos hw,mG,lH]
    rw[hcd]at hsn
    cases X with
    |nil=>
     repeat' ((conv=>whnf);first|(exfalso;omega)|(exfalso;simp only[mG,lH]at*;omega)|refine gX (of_decide_eq_true rfl) (dA rfl) (of_decide_eq_true rfl) ?_|refine zS ?_|refine zT ?_ ?_<;>intro _|fail)
     all_goals conv=>whnf
     refine⟨(D++[d],R),?_,Af,Ae⟩;show Le T _ (aB6 (gB ⟨true,s,br,p⟩) br r (kH r (D++[d])) (D++[d]).length);rw[hsn,hlD];show Le T _ (aB6 (gB ⟨true,s,br,p⟩) br r [_] _);exact zj
    |cons y X=>
     have hx1:(y::X).length=X.length+1:=rfl
     repeat' ((conv=>whnf);first|(exfalso;omega)|(exfalso;simp only[mG,lH]at*;omega)|refine iH rfl (.inl rfl) rfl (of_decide_eq_true rfl) (dA rfl) (show((y::X).map ivV).length+1<=1000000000 from FM) ?_|refine zS ?_|refine zT ?_ ?_<;>intro _|fail)
     all_goals conv=>whnf
     refine⟨(D++[d],R),?_,Af,Ae⟩;show Le T _ (aB6 (gB ⟨true,s,br,p⟩) br r (kH r (D++[d])) (D++[d]).length);rw[hsn,hlD];show Le T _ (aB6 (gB ⟨true,s,br,p⟩) br r (y::(X++[_])) _);unfold aB6;exact ND
   ·have hcd:aH0 r d=[] :=by unfold aH0;rw[if_neg hw]
    rw[hcd,List.append_nil]at hsn
    cases X with
    |nil=>
     repeat' ((conv=>whnf);first|(exfalso;omega)|(exfalso;simp only[mG,lH]at*;omega)|refine zS ?_|refine zT ?_ ?_<;>intro _|fail)
     all_goals conv=>whnf
     refine⟨(D++[d],R),?_,Af,Ae⟩;show Le T _ (aB6 (gB ⟨true,s,br,p⟩) br r (kH r (D++[d])) (D++[d]).length);rw[hsn,hlD];show Le T _ (aB6 (gB ⟨true,s,br,p⟩) br r [] _);exact zj
    |cons y X=>
     have hx1:(y::X).length=X.length+1:=rfl
     repeat' ((conv=>whnf);first|(exfalso;omega)|(exfalso;simp only[mG,lH]at*;omega)|refine zS ?_|refine zT ?_ ?_<;>intro _|fail)
     all_goals conv=>whnf
     refine⟨(D++[d],R),?_,Af,Ae⟩;show Le T _ (aB6 (gB ⟨true,s,br,p⟩) br r (kH r (D++[d])) (D++[d]).length);rw[hsn,hlD];show Le T _ (aB6 (gB ⟨true,s,br,p⟩) br r (y::X) _);exact zj
theorem aO4{α:Type}{f:α->V}(h:∀x,(f x).pure)(l:List α):bM (l.map f):=aH.2 fun y hy=>by
 obtain⟨x,_,rfl⟩:=List.mem_map.1 hy;exact h x
theorem eO3(v:Vc):(vcV v).pure:=by simp only[vcV,V.pure,V.ok,V.okL,I,and_self]
theorem bF3(r:Rg):(rgV r).pure:=by
 show V.okL _ _ _;exact aO4 eO3 r
theorem cJ9(l:List Rg):bM (l.map rgV):=aO4 bF3 l
theorem eR4(s:Sh):(shV s).pure:=by
 show V.okL _ _ _;exact⟨bF3 s.outer,by show V.okL _ _ _;exact cJ9 s.holes,trivial⟩
theorem eS7(d:Iv):(ivV d).pure:=by simp only[ivV,V.pure,V.ok,V.okL,I,and_self]
theorem cV5(x:aN):bM (gB x):=by
 unfold gB;refine⟨trivial,trivial,trivial,trivial,trivial,bF3 _,?_,?_,trivial,trivial,trivial,trivial,?_,trivial,trivial⟩
 ·show V.okL _ _ _;exact cJ9 _
 ·show V.okL _ _ _;exact aO4 eR4 _
 ·show V.okL _ _ _;exact aO4 eS7 _
theorem bZ6{σ:St}{i:Nat}{cs:List V}(hi:σ.bx i=some cs)(hil:i<100000)(hcs:bM cs):Le T σ ⟨fun s=>(σ.env s).frz i cs,frzB i cs σ.bx,σ.ar⟩:=by
 unfold Le;intro Φ a w G inv;exact⟨_,(inv.bV0 hi hil hcs).1⟩
def kP(b:Bool)(p q:Rest):Prop:=
 if b=true then max p.lo q.lo<min p.hi q.hi
 else max p.box.1.1 q.box.1.1<min p.box.2.1 q.box.2.1/\max p.box.1.2 q.box.1.2<min p.box.2.2 q.box.2.2
theorem bW5(b:Bool)(p q:Rest):Sp 119 [B b,bY p,bY q] (DB (kP b p q)):=by
 refine zsp Tryz.func119 ?_
 cases b with
 |true=>
  have hr:kP true p q↔max p.lo q.lo<min p.hi q.hi:=by unfold kP;rw[if_pos rfl]
  generalize kP true p q=P at*
  repeat' ((conv=>whnf);first|refine zS ?_|fail)
  all_goals conv=>whnf
  all_goals exact aA (aS1 (by simp only[mG,lH];exact hr.symm))
 |false=>
  have hr:kP false p q↔(max p.box.1.1 q.box.1.1<min p.box.2.1 q.box.2.1/\max p.box.1.2 q.box.1.2<min p.box.2.2 q.box.2.2):=by unfold kP;rw[if_neg (by decide)]
  generalize kP false p q=P at*
  repeat' ((conv=>whnf);first|refine zS ?_|refine zT ?_ ?_<;>intro _|fail)
  all_goals conv=>whnf
  all_goals simp only[mG,lH]at*
  all_goals first
   |exact aA (aS1 ⟨fun h=>hr.2 ⟨Aa,Aa⟩,fun h=>BD⟩)
   |exact aA (aC (fun h=>BD))
theorem cO8(x:aN)(r q:Rest):Sp 118 [bY q, .fp (gB x), .fp (bY r).cells] (DB (kP x.isBar q r)):=by
 refine zsp Tryz.func118 ?_;have h1:=bW5 x.isBar q r
 repeat' ((conv=>whnf);first|refine zS ?_|fail)
 all_goals conv=>whnf
 all_goals exact aA rfl
theorem eX4{g:FuncId}{c d:List V}{Q:Rest->Prop}(hg:∀m,Sp g (bY m:: [.fp c, .fp d]) (DB (Q m)))(l:List Rest)(hl:l.length<=1000000):fnVC T Tryz.prog Tryz.f157 [.sl (l.map bY), .fn g [.fp c, .fp d]] (I (fstI Q l)):=by
 have hll:(l.map bY).length=l.length:=Ae
 repeat' ((conv=>whnf);first|refine zS ?_|fail)
 refine aU (A:=List Rest) (B:=List Rest) (fun D R=>mkSt [(0, .sl (l.map bY)),(1, .fn g [.fp c, .fp d]),(7,I l.length),(8,I D.length)] [] [])
  (fun D R=>l=D++R/\∀m∈D,¬Q m) (fun D R=>R.length) [] l ?_ ⟨rfl,Ae⟩ (fun D R hp=>?_)
 ·exact zj
 ·exact Io
theorem eA8{g:FuncId}{c d:List V}{Q:Rest->Prop}(hg:∀m,Sp g (bY m:: [.fp c, .fp d]) (DB (Q m)))(l:List Rest)(hl:l.length<=1000000):Sp 157 [.sl (l.map bY), .fn g [.fp c, .fp d]] (I (fstI Q l)):=zsp Tryz.func157 (eX4 hg l hl)
theorem fA8{g:FuncId}{c d:List V}{Q:Rest->Prop}(hg:∀m,Sp g (bY m:: [.fp c, .fp d]) (DB (Q m)))(l:List Rest)(hl:l.length<=1000000):fnVC T Tryz.prog Tryz.f117 [.sl (l.map bY), .fn g [.fp c, .fp d]] (DB (∃m∈l,Q m)):=by
 repeat' ((conv=>whnf);first|refine zc (eA8 hg l hl) ?_|refine zS ?_|fail)
 exact MV
theorem dU5{g:FuncId}{c d:List V}{Q:Rest->Prop}(hg:∀m,Sp g (bY m:: [.fp c, .fp d]) (DB (Q m)))(l:List Rest)(hl:l.length<=1000000):Sp 117 [.sl (l.map bY), .fn g [.fp c, .fp d]] (DB (∃m∈l,Q m)):=zsp Tryz.func117 (fA8 hg l hl)
def cZ(x:aN):List Rest->List Rest->Int
 |_,[] =>0
 |D,r::R=>open Classical in if iG x r≠0 then iG x r else if∃q∈D,kP x.isBar q r then 12 else cZ x (D++[r]) R
def eG(x:aN)(l:List Rest):List aN:=if cZ x [] l=0 then l.map (dZ x)else []
def cP9(x:aN)(e:Event)(D:List Rest):St:=match D with
 | [] =>mkSt [(2, .fp (gB x)),(3, .box 3 0),(6,nilV),(12, .sl (e.rests.map bY)),(13,I e.rests.length),(14,I 0)] [(3,iJ e)] []
 |d::D=>mkSt [(2, .fp (gB x)),(3, .box 3 0),(6, .arr 37 D.length),(12, .sl (e.rests.map bY)),(13,I e.rests.length),(14,I ((D.length:Int)+1))] [(3,iJ e)]
  [(37,⟨D.length, .own,87,((d::D).map (dZ x)).map aQ⟩)]
theorem cU2(x:aN)(e:Event)(hx:eY x)(he:e.rests.length<=1000000):Sp 71 [aQ x,aS e] (.tup [.own 87 ((eG x e.rests).map aQ),I (cZ x [] e.rests)]):=by
 refine zsp Tryz.func71 ?_;have hl:(e.rests.map bY).length=e.rests.length:=Ae;have hE:∀n,cZ x [] e.rests=n->n≠0->eG x e.rests=[] :=fun n h1 h2=>by unfold eG;rw[if_neg (by rw[h1];exact h2)]
 have h0:cZ x [] e.rests=0->eG x e.rests=e.rests.map (dZ x):=fun h=>by unfold eG;rw[if_pos h]
 generalize eG x e.rests=RL at*;generalize hRE:cZ x [] e.rests=RE at*
 repeat' ((conv=>whnf);first|refine zS ?_|fail)
 refine aU (A:=List Rest) (B:=List Rest) (fun D R=>cP9 x e D) (fun D R=>e.rests=D++R/\cZ x D R=RE) (fun D R=>R.length) [] e.rests ?_ ⟨rfl,hRE⟩ (fun D R hp=>?_)
 ·refine Le.trans (bZ6 (i:=2) (cs:=gB x) rfl Ak (cV5 x)) ?_
  show Le T _ (cP9 x e []);exact Nk
 obtain⟨hp,hq⟩:=hp
 have hDl:(e.rests.map bY).take D.length=D.map bY:=by
  have h:(D.map bY).length=D.length:=Ae;rw[hp,List.map_append,<-h];exact List.take_left
 have g0:∀(n:Int) (r:Rest),n.toNat=D.length->Sp 117 [.sl (((e.rests.map bY).take n.toNat).drop (0:Int).toNat), .fn 118 [.fp (gB x), .fp (bY r).cells]] (DB (∃q∈D,kP x.isBar q r)):=fun n r hn=>by
  have h:=dU5 (c:=gB x) (d:=(bY r).cells) (fun q=>cO8 x r q) D (by rw[hp]at he;simp at he;omega)
  rw[hn,hDl];exact h
 cases R with
 |nil=>
  have e1:e.rests=D:=Af;have hlen:e.rests.length=D.length:=by rw[e1]
  have hz:RE=0:=hq.symm;have hz2:=h0 hz
  rw[e1]at hz2;subst hz hz2
  cases D with
  |nil=>
   have h00:([] :List Rest).length=0:=rfl
   repeat' ((conv=>whnf);first|(exfalso;omega)|refine zS ?_|refine zT ?_ ?_<;>intro _|fail)
   all_goals conv=>whnf
   exact Nv
  |cons d D=>
   have h00:(d::D).length=D.length+1:=rfl
   repeat' ((conv=>whnf);first|(exfalso;omega)|refine zS ?_|refine zT ?_ ?_<;>intro _|fail)
   all_goals conv=>whnf
   refine⟨_,rfl,⟨⟨rfl,rfl,rfl,rfl⟩,rfl,trivial⟩,rfl⟩
 |cons r R=>
  have hlen:=aO hp;have g1:=dL8 x r hx
  cases D with
  |nil=>
   have h00:([] :List Rest).length=0:=rfl;have g2:=g0 0 r rfl
   by_cases c1:iG x r=0;rotate_left
   ·have eR:RE=iG x r:=by rw[<-hq,cZ,if_pos c1]
    have eL:=hE _ rfl (by rw[eR];exact c1)
    subst eL eR
    repeat' ((conv=>whnf);first|(exfalso;contradiction)|(exfalso;omega)|refine zS ?_|refine zT ?_ ?_<;>intro _|fail)
    all_goals conv=>whnf
    exact Nv
   by_cases c2:∃q∈[],kP x.isBar q r
   ·have eR:RE=12:=by rw[<-hq,cZ,if_neg (fun h=>h c1),if_pos c2]
    have eL:=hE _ rfl (by rw[eR];decide)
    subst eL eR
    repeat' ((conv=>whnf);first|(exfalso;contradiction)|(exfalso;omega)|refine fU ⟨Aa,Aa,Ih, .inl rfl⟩ ?_|refine zS ?_|refine zT ?_ ?_<;>intro _|fail)
    all_goals conv=>whnf
    exact Nv
   ·have eR:RE=cZ x ([] ++[r]) R:=by rw[<-hq,cZ,if_neg (fun h=>h c1),if_neg c2]
    repeat' ((conv=>whnf);first|(exfalso;contradiction)|(exfalso;omega)|refine fU ⟨Aa,Aa,Ih, .inl rfl⟩ ?_|refine gX (of_decide_eq_true rfl) (dA rfl) (of_decide_eq_true rfl) ?_|refine zS ?_|refine zT ?_ ?_<;>intro _|fail)
    all_goals conv=>whnf
    refine⟨([] ++[r],R),?_,⟨by rw[hp];rfl,eR.symm⟩,Ae⟩
    show Le T _ (cP9 x e [r]);exact zj
  |cons d D=>
   have h00:(d::D).length=D.length+1:=rfl;have g2:=g0 ((D.length:Int)+1) r (by rw[h00];omega)
   by_cases c1:iG x r=0;rotate_left
   ·have eR:RE=iG x r:=by rw[<-hq,cZ,if_pos c1]
    have eL:=hE _ rfl (by rw[eR];exact c1)
    subst eL eR
    repeat' ((conv=>whnf);first|(exfalso;contradiction)|(exfalso;omega)|refine aF (l:=e.rests) (A:=(d::D)) (x:=r) (B:=R) hp Aa ?_|refine zS ?_|refine zT ?_ ?_<;>intro _|fail)
    all_goals conv=>whnf
    exact Nv
   by_cases c2:∃q∈(d::D),kP x.isBar q r
   ·have eR:RE=12:=by rw[<-hq,cZ,if_neg (fun h=>h c1),if_pos c2]
    have eL:=hE _ rfl (by rw[eR];decide)
    subst eL eR
    repeat' ((conv=>whnf);first|(exfalso;contradiction)|(exfalso;omega)|refine aF (l:=e.rests) (A:=(d::D)) (x:=r) (B:=R) hp Aa ?_|refine fU ⟨Aa,Aa,Ih, .inl rfl⟩ ?_|refine zS ?_|refine zT ?_ ?_<;>intro _|fail)
    all_goals conv=>whnf
    exact Nv
   ·have eR:RE=cZ x ((d::D)++[r]) R:=by rw[<-hq,cZ,if_neg (fun h=>h c1),if_neg c2]
    repeat' ((conv=>whnf);first|(exfalso;contradiction)|(exfalso;omega)|refine aF (l:=e.rests) (A:=(d::D)) (x:=r) (B:=R) hp Aa ?_|refine fU ⟨Aa,Aa,Ih, .inl rfl⟩ ?_|refine iH rfl (.inl rfl) rfl (of_decide_eq_true rfl) (dA rfl) (show(((d::D).map (dZ x)).map aQ).length+1<=1000000000 by rw[List.length_map,List.length_map];omega) ?_|refine zS ?_|refine zT ?_ ?_<;>intro _|fail)
    all_goals conv=>whnf
    refine⟨(d::D++[r],R),?_,⟨Af,eR.symm⟩,Ae⟩;show Le T _ (cP9 x e (d::(D++[r])));unfold cP9;exact ND
def bs{α:Type}(key:α->Int)(l:List α)(t:Int):Nat:=(l.takeWhile fun m=>decide (key m<t)).length
theorem dC0{α:Type}{key:α->Int}{t:Int}:∀ {l:List α} {i:Nat},i<=l.length->(∀k m,k<i->l[k]? =some m->key m<t)->(∀m,l[i]? =some m->t<=key m)->bs key l t=i
 | [],i,h,_,_=>by simp at h;subst h;rfl
 |x::r,0,_,_,h=>by
  have:=h x rfl;unfold bs;rw[List.takeWhile_cons_of_neg Ai];rfl
 |x::r,i+1,hi,h1,h2=>by
  have hx:=h1 0 x Aa rfl;have ih:=dC0 (l:=r) (i:=i) (by simp at hi;omega) (fun k m hk hm=>h1 (k+1) m Aa hm) (fun m hm=>h2 m hm)
  unfold bs at ih⊢;rw[List.takeWhile_cons_of_pos (by simp;exact hx),List.length_cons,ih]
theorem cD4{n:Int}(h:0<=n/\n<=2000000):IntKind.u64.wrap n=n:=by
 exact PI
theorem cK6{a b:Int}:cmpI a b<0↔a<b:=Dt
theorem aU8{a b:Int}:0<=cmpI a b↔b<=a:=Dt
theorem bP6{a b:Int}:cmpI a b=0↔a=b:=Dt
theorem bF1{i j:Nat}(h:i+j<=2000000):IntKind.i64.wrap (shrI .u64 ((i:Int)+(j:Int)) 1)=(((i+j)/2:Nat):Int):=by
 have e:shrI .u64 ((i:Int)+(j:Int)) 1=(((i+j)/2:Nat):Int):=by
  unfold shrI;show Int.fdiv _ 2=_;rw[Int.fdiv_eq_ediv_of_nonneg _ Ak];omega
 rw[e,IntKind.wrap_i64];omega
theorem sorted_at{α:Type}{key:α->Int}{l:List α}(hs:(l.map key).Pairwise (·<·)){a b:Nat}{x y:α}(hx:l[a]? =some x)(hy:l[b]? =some y)(h:a<b):key x<key y:=by
 obtain⟨ha,rfl⟩:=List.getElem?_eq_some_iff.1 hx;obtain⟨hb,rfl⟩:=List.getElem?_eq_some_iff.1 hy;have:=List.pairwise_iff_getElem.1 hs a b (by simpa using ha) Dz h
 simpa using this
theorem eC8{α:Type}{key:α->Int}{t:Int}{l:List α}{i:Nat}(hs:(l.map key).Pairwise (·<·))(h1:∀k m,k<i->l[k]? =some m->key m<t)(h2:∀m,l[i]? =some m->t<=key m):
 (∀m,l[i]? =some m->((∃y∈l,key y=t)↔key m=t))/\(l[i]? =none->¬∃y∈l,key y=t):=by
 refine⟨fun m hm=>⟨?_,fun h=>⟨m,List.mem_of_getElem? hm,h⟩⟩,fun hn=>?_⟩
 ·rintro⟨y,hy,e⟩
  obtain⟨k,hk⟩:=List.getElem?_of_mem hy;have hmt:=h2 m hm;rcases Nat.lt_trichotomy k i with h|h|h
  ·have:=h1 k y h hk;omega
  ·subst h;rw[hm]at hk;cases hk;exact e
  ·have:=sorted_at hs hm hk h;omega
 ·rintro⟨y,hy,e⟩
  obtain⟨k,hk⟩:=List.getElem?_of_mem hy;have hkl:=(List.getElem?_eq_some_iff.1 hk).1;have hil:=List.getElem?_eq_none_iff.1 hn
  have:=h1 k y Aa hk;omega
theorem eX1{g:FuncId}{t:Int}(hg:∀m:aN,Sp g [aQ m,I t] (I (cmpI (sid m) t)))(l:List aN)(hl:l.length<=1000000)(hs:(l.map sid).Pairwise (·<·)):fnVC T Tryz.prog Tryz.f112 [.sl (l.map aQ),I t, .fn g []] (.tup [I (bs sid l t),DB (∃m∈l,sid m=t)]):=by
 have hll:(l.map aQ).length=l.length:=Ae
 repeat' ((conv=>whnf);first|refine zS ?_|fail)
 refine aU (A:=Nat) (B:=Nat) (fun i j=>mkSt [(0, .sl (l.map aQ)),(1,I t),(2, .fn g []),(8,I l.length),(9,I i),(10,I j)] [] []) (fun i j=>i<=j/\j<=l.length/\(∀k m,k<i->l[k]? =some m->sid m<t)/\∀k m,j<=k->l[k]? =some m->t<=sid m) (fun i j=>j-i) 0 l.length ?_ ⟨Aa,Aa,fun k m hk=>absurd hk Aa,fun k m hk hm=>Dc⟩ (fun i j hp=>?_)
 ·exact zj
 obtain⟨hij,hj,h1,h2⟩:=hp;have hij':i<=l.length:=Aa;by_cases hlt0:i<j
 ·exact Ir
 ·have e:j=i:=by omega
  subst e;have hbs:=dC0 hij' h1 (fun m hm=>h2 j m (Nat.le_refl _) hm);have hex:=eC8 hs h1 (fun m hm=>h2 j m (Nat.le_refl _) hm)
  rw[hbs];generalize (∃m∈l,sid m=t)=P at*;by_cases hjn:j<l.length
  ·have hm2:=List.getElem?_eq_getElem hjn
   generalize l[j] =m at hm2;have g1:=hg m;have hP:P↔sid m=t:=hex.1 m hm2
   have eP:DB P=V.lit (.bool (eqB (cmpI (sid m) t) 0)):=congrArg (fun b=>V.lit (.bool b)) (sK (bP6.trans hP.symm)).symm;rw[eP];exact zF
  ·exact JU
theorem eB5{g:FuncId}{t:Int}(hg:∀m:aN,Sp g [aQ m,I t] (I (cmpI (sid m) t)))(l:List aN)(hl:l.length<=1000000)(hs:(l.map sid).Pairwise (·<·)):Sp 112 [.sl (l.map aQ),I t, .fn g []] (.tup [I (bs sid l t),DB (∃m∈l,sid m=t)]):=zsp Tryz.func112 (eX1 hg l hl hs)
theorem eW0{g:FuncId}{t:Int}(hg:∀m:Piece,Sp g [aZ m,I t] (I (cmpI (Piece.id m) t)))(l:List Piece)(hl:l.length<=1000000)(hs:(l.map Piece.id).Pairwise (·<·)):fnVC T Tryz.prog Tryz.f121 [.sl (l.map aZ),I t, .fn g []] (.tup [I (bs Piece.id l t),DB (∃m∈l,Piece.id m=t)]):=by
 have hll:(l.map aZ).length=l.length:=Ae
 repeat' ((conv=>whnf);first|refine zS ?_|fail)
 refine aU (A:=Nat) (B:=Nat) (fun i j=>mkSt [(0, .sl (l.map aZ)),(1,I t),(2, .fn g []),(8,I l.length),(9,I i),(10,I j)] [] []) (fun i j=>i<=j/\j<=l.length/\(∀k m,k<i->l[k]? =some m->Piece.id m<t)/\∀k m,j<=k->l[k]? =some m->t<=Piece.id m) (fun i j=>j-i) 0 l.length ?_ ⟨Aa,Aa,fun k m hk=>absurd hk Aa,fun k m hk hm=>Dc⟩ (fun i j hp=>?_)
 ·exact zj
 obtain⟨hij,hj,h1,h2⟩:=hp;have hij':i<=l.length:=Aa;by_cases hlt0:i<j
 ·exact Ir
 ·have e:j=i:=by omega
  subst e;have hbs:=dC0 hij' h1 (fun m hm=>h2 j m (Nat.le_refl _) hm);have hex:=eC8 hs h1 (fun m hm=>h2 j m (Nat.le_refl _) hm)
  rw[hbs];generalize (∃m∈l,Piece.id m=t)=P at*;by_cases hjn:j<l.length
  ·have hm2:=List.getElem?_eq_getElem hjn
   generalize l[j] =m at hm2;have g1:=hg m;have hP:P↔Piece.id m=t:=hex.1 m hm2
   have eP:DB P=V.lit (.bool (eqB (cmpI (Piece.id m) t) 0)):=congrArg (fun b=>V.lit (.bool b)) (sK (bP6.trans hP.symm)).symm;rw[eP];exact zF
  ·exact JU
theorem eG9{g:FuncId}{t:Int}(hg:∀m:Piece,Sp g [aZ m,I t] (I (cmpI (Piece.id m) t)))(l:List Piece)(hl:l.length<=1000000)(hs:(l.map Piece.id).Pairwise (·<·)):Sp 121 [.sl (l.map aZ),I t, .fn g []] (.tup [I (bs Piece.id l t),DB (∃m∈l,Piece.id m=t)]):=zsp Tryz.func121 (eW0 hg l hl hs)
theorem cR0(x:aN)(t:Int):Sp 113 [aQ x,I t] (I (cmpI (sid x) t)):=by
 refine zsp Tryz.func113 ?_;have h1:=aE2 x;have h2:=aB9 (sid x) t
 exact zF
theorem cG0(x:Piece)(t:Int):Sp 122 [aZ x,I t] (I (cmpI x.id t)):=by
 refine zsp Tryz.func122 ?_;have h2:=aB9 x.id t;exact zF
theorem dN9(n:Int):Sp 153 [I n] (.lit (.bool false)):=by
 refine zsp Tryz.func153 ?_
 repeat' ((conv=>whnf);first|refine zS ?_|fail)
 all_goals conv=>whnf
 all_goals first|exact aK (by rw[aA1.2 rfl];rfl)|exact aK rfl
theorem dM1(a b:Int):Sp 152 [I a,I b] (DB (a<b)):=by
 refine zsp Tryz.func152 ?_;have h1:=aN2 a;have h2:=aN2 b
 repeat' ((conv=>whnf);first|refine zc h1 ?_|refine zS ?_|fail)
 all_goals conv=>whnf
 all_goals exact aA eU2
theorem fA5(t:Int)(l:List Int)(hl:l.length<=1000000)(hs:(l.map id).Pairwise (·<·)):fnVC T Tryz.prog Tryz.f114 [.sl (l.map I),I t] (.tup [I (bs id l t),DB (∃m∈l,m=t)]):=by
 have hll:(l.map I).length=l.length:=Ae
 repeat' ((conv=>whnf);first|refine zS ?_|fail)
 refine aU (A:=Nat) (B:=Nat) (fun i j=>mkSt [(0, .sl (l.map I)),(1,I t),(6,I l.length),(7,I i),(8,I j)] [] []) (fun i j=>i<=j/\j<=l.length/\(∀k m,k<i->l[k]? =some m->m<t)/\∀k m,j<=k->l[k]? =some m->t<=m) (fun i j=>j-i) 0 l.length ?_ ⟨Aa,Aa,fun k m hk=>absurd hk Aa,fun k m hk hm=>Dc⟩ (fun i j hp=>?_)
 ·exact zj
 obtain⟨hij,hj,h1,h2⟩:=hp;have hij':i<=l.length:=Aa;by_cases hlt0:i<j
 ·have hb:(i+j)/2<l.length:=by omega
  have hm2:=List.getElem?_eq_getElem hb;generalize l[(i+j)/2] =m at hm2;have g1:=dM1 m t
  have hlt2:(i+j)/2<j:=Aa
  repeat' ((conv=>whnf);first|(exfalso;omega)|refine fK (k:= .u64) (n:=(i:Int)+(j:Int)) (m:=(i:Int)+(j:Int)) (cD4 Aa) ?_|refine fK (k:= .i64) (n:=shrI .u64 ((i:Int)+(j:Int)) 1) (m:=(((i+j)/2:Nat):Int)) (bF1 Aa) ?_|refine aB (l:=l) Aa ?_|refine gK (l:=l) hm2 Aa ?_|refine zc g1 ?_|refine zS ?_|refine zT ?_ ?_<;>intro _|fail)
  all_goals conv=>whnf
  ·have hc:m<t:=by assumption
   refine⟨((i+j)/2+1,j),?_,⟨Aa,Aa,fun k y hk hy=>?_,h2⟩,Aa⟩
   ·exact zj
   ·rcases Nat.lt_or_ge k ((i+j)/2)with h|h
    ·exact Int.lt_trans (sorted_at (key:=id) hs hy hm2 h) hc
    ·have:k=(i+j)/2:=by omega
     subst this;rw[hm2]at hy;cases hy;exact hc
  ·have hc:t<=m:=by omega
   refine⟨(i,(i+j)/2),?_,⟨Aa,Aa,h1,fun k y hk hy=>?_⟩,Aa⟩
   ·exact zj
   ·rcases Nat.lt_or_ge ((i+j)/2) k with h|h
    ·exact Int.le_of_lt (Int.lt_of_le_of_lt hc (sorted_at (key:=id) hs hm2 hy h))
    ·have:k=(i+j)/2:=by omega
     subst this;rw[hm2]at hy;cases hy;exact hc
 ·have e:j=i:=by omega
  subst e;have hbs:=dC0 (key:=id) hij' h1 (fun m hm=>h2 j m (Nat.le_refl _) hm);have hex:=eC8 (key:=id) hs h1 (fun m hm=>h2 j m (Nat.le_refl _) hm)
  rw[hbs];have hex':(∃m∈l,m=t)↔(∃y∈l,id y=t):=Iff.rfl;simp only[id]at hex;generalize (∃m∈l,m=t)=P at*;by_cases hjn:j<l.length
  ·have hm2:=List.getElem?_eq_getElem hjn
   generalize l[j] =m at hm2;have hP:P↔m=t:=hex.1 m hm2;by_cases hmt:m=t
   ·have eP:DB P=V.lit (.bool true):=congrArg (fun b=>V.lit (.bool b)) (dH.2 (hP.2 hmt))
    rw[eP]
    repeat' ((conv=>whnf);first|(exfalso;omega)|refine aB (l:=l) Aa ?_|refine gK (l:=l) hm2 Aa ?_|refine zS ?_|refine zT ?_ ?_<;>intro _|fail)
    all_goals exact zE
   ·have eP:DB P=V.lit (.bool false):=congrArg (fun b=>V.lit (.bool b)) (dW.2 (fun h=>hmt (hP.1 h)))
    rw[eP]
    repeat' ((conv=>whnf);first|(exfalso;omega)|refine aB (l:=l) Aa ?_|refine gK (l:=l) hm2 Aa ?_|refine zc (dN9 m) ?_|refine zS ?_|refine zT ?_ ?_<;>intro _|fail)
    all_goals exact zE
  ·have hP:¬P:=hex.2 (List.getElem?_eq_none Aa)
   have eP:DB P=V.lit (.bool false):=congrArg (fun b=>V.lit (.bool b)) (dW.2 hP);rw[eP]
   repeat' ((conv=>whnf);first|(exfalso;omega)|refine zS ?_|refine zT ?_ ?_<;>intro _|fail)
   all_goals exact zE
theorem cQ0(t:Int)(l:List Int)(hl:l.length<=1000000)(hs:(l.map id).Pairwise (·<·)):Sp 114 [.sl (l.map I),I t] (.tup [I (bs id l t),DB (∃m∈l,m=t)]):=zsp Tryz.func114 (fA5 t l hl hs)
def lay(cur:Array Value)(o:Nat)(vs:List Value):Array Value:=(cur.toList.take o++vs++cur.toList.drop (o+vs.length)).toArray
theorem lay_size{cur:Array Value}{o:Nat}{vs:List Value}(h:o+vs.length<=cur.size):(lay cur o vs).size=cur.size:=by
 unfold lay;simp;omega
theorem iW{P:Program}(w:World)(dT sT ty elem:TypeId)(g o dLen dCap:Nat)(a:Addr)(sLen sCap sz n:Nat)(cur:Array Value)(t:TypeId)(cs:List Value)
 (hu:P.underlying dT=some (.slice elem))(hs:(P.info? elem).map (·.size)=some sz)
 (hg:w.heap[g]? =some (.cells cur t (0,0)))(hm:Nat.min sLen dLen=n)(hn:cs.length=n*sz)
 (hsrc:∀j v,cs[j]? =some v->w.cell? (a.add j)=some v)(hfit:o+cs.length<=cur.size)(h1:∀v∈cs,v.oneCell'=true):
 (Builtin.copy_ #[dT,sT] ty #[.slice (some ⟨g,o,none⟩) dLen dCap, .slice (some a) sLen sCap]).run P w=
  .ok (goInt n) (w.setRow g (lay cur o cs)):=by
 have hl:=run_loadCells_list (P:=P) w a cs hsrc;have hst:=run_storeCells_at P g o t cs 0 cur w hg (by simpa using hfit) h1
 unfold lay
 cases hq:P.info? elem with
 |none=>simp[hq]at hs
 |some i=>
  have hi:i.size=sz:=by simpa [hq]using hs
  simp[Builtin.copy_,run_underlying hu,Builtin.lenOf,Builtin.firstCells,sizeOf,typeInfo,hq,hi,hm,<-hn,hl,hst]
theorem xJ(cur:Array Value)(o:Nat)(vs:List Value):(lay cur o vs).toList=cur.toList.take o++vs++cur.toList.drop (o+vs.length):=by
 unfold lay;rfl
theorem uI{α:Type}{A B C:List α}{n:Nat}(h:A.length+B.length=n):(A++B++C).take n=A++B:=by
 rw[<-h,<-List.length_append];exact List.take_left
theorem layA{cur:Array Value}{p:Nat}{vs mid:List Value}(h:p+vs.length+mid.length<=cur.size):
 (lay (lay cur (p+vs.length) mid) p vs).toList.take (p+vs.length+mid.length)=cur.toList.take p++vs++mid:=by
 have hc:cur.toList.length=cur.size:=Array.length_toList;rw[xJ,xJ];have h1:(cur.toList.take (p+vs.length)).length=p+vs.length:=AP
 have e1:(cur.toList.take (p+vs.length)++mid++cur.toList.drop (p+vs.length+mid.length)).take p=cur.toList.take p:=by
  rw[List.append_assoc,List.take_append_of_le_length Aa,List.take_take,Nat.min_eq_left Aa]
 have e2:(cur.toList.take (p+vs.length)++mid++cur.toList.drop (p+vs.length+mid.length)).drop (p+vs.length)=mid++cur.toList.drop (p+vs.length+mid.length):=by
  rw[List.append_assoc]
  conv=>lhs;arg 1;rw[<-h1]
  exact List.drop_left
 rw[e1,e2,<-List.append_assoc];exact uI EL
theorem layB{R:Array Value}{p:Nat}{vs mid:List Value}(h:p+vs.length+mid.length<=R.size):
 (lay (lay R p vs) (p+vs.length) mid).toList.take (p+vs.length+mid.length)=R.toList.take p++vs++mid:=by
 have hc:R.toList.length=R.size:=Array.length_toList;rw[xJ,xJ];have h1:(R.toList.take p++vs).length=p+vs.length:=EL
 rw[uI (A:=R.toList.take p) (B:=vs) AP];exact uI (by rw[h1])
theorem layC{cur:Array Value}{p:Nat}{vs:List Value}(h:p+vs.length<=cur.size):(lay cur p vs).toList.take (p+vs.length)=cur.toList.take p++vs:=by
 have hc:cur.toList.length=cur.size:=Array.length_toList;rw[xJ];exact uI AP
theorem oH{w:World}{G:Gh}{a b:List Value}{x y:List V}(h1:RvL w G a x)(h2:RvL w G b y):RvL w G (a++b) (x++y):=by
 refine⟨by rw[List.length_append,List.length_append,h1.len,h2.len],fun v hv=>?_,fun i v z hv hz=>?_⟩
 ·rcases List.mem_append.1 hv with h|h
  ·exact h1.one v h
  ·exact h2.one v h
 ·rw[List.getElem?_append]at hv hz
  rw[<-h1.len]at hz;split at hv
  ·rename_i hi
   rw[if_pos hi]at hz;exact h1.rel i v z hv hz
  ·rename_i hi
   rw[if_neg hi]at hz;exact h2.rel _ v z hv hz
theorem aM1{w:World}{G:Gh}{a:List Value}{x:List V}(h:RvL w G a x)(n:Nat):RvL w G (a.take n) (x.take n):=by
 refine⟨by rw[List.length_take,List.length_take,h.len],fun v hv=>h.one v (List.mem_of_mem_take hv),fun i v z hv hz=>?_⟩
 rw[List.getElem?_take]at hv hz;split at hv
 ·rename_i hi
  rw[if_pos hi]at hz;exact h.rel i v z hv hz
 ·cases hv
theorem aL4{w:World}{G:Gh}{a:List Value}{x:List V}(h:RvL w G a x)(n:Nat):RvL w G (a.drop n) (x.drop n):=by
 refine⟨by rw[List.length_drop,List.length_drop,h.len],fun v hv=>h.one v (List.mem_of_mem_drop hv),fun i v z hv hz=>?_⟩
 rw[List.getElem?_drop]at hv hz;exact h.rel _ v z hv hz
theorem xW{l:List V}{sz i:Nat}(hz:∀x∈l,x.cells.length=sz)(hi:i<=l.length):(l.flatMap V.cells).take (i*sz)=(l.take i).flatMap V.cells/\(l.flatMap V.cells).drop (i*sz)=(l.drop i).flatMap V.cells:=by
 have e:l.flatMap V.cells=(l.take i).flatMap V.cells++(l.drop i).flatMap V.cells:=by rw[<-List.flatMap_append,List.take_append_drop]
 have hl:((l.take i).flatMap V.cells).length=i*sz:=by
  rw[Go.Ab.sH (sz:=sz) (fun x hx=>hz x (List.mem_of_mem_take hx)),List.length_take,Nat.min_eq_left hi]
 rw[e,<-hl];exact⟨List.take_left,List.drop_left⟩
theorem jM{w w':World}{G:Gh}{b n c:Nat}{E:TypeId}{X:Array Value}{L:List V}(hE:E<T.n E)(hp:bM L)(hlen:L.length=n)(hz:∀x∈L,x.cells.length=(T.row E).size)
 (hX:RvL w G (X.toList.take (n*(T.row E).size)) (L.flatMap V.cells))(hb:w'.heap[b]? =some (.cells X E (0,0)))(hs:X.size=c*(T.row E).size)(hnc:n<=c)(hc:c<=maxLen)
 (h2:∀b,G.O b≠ .ext->b<w.heap.size)(h3:∀b i,G.O b≠ .bx i)(hb':G.O b= .ar 0\/w.heap.size<=b)
 (hk:∀q,q<w.heap.size->q≠b->w'.heap[q]? =w.heap[q]?)(hsz:w.heap.size<=w'.heap.size)(h4:w'.os=w.os)(h5:w'.tape=w.tape)(h6:w'.output=w.output):
 ∃v G',Ending.returned (.slice (some ⟨b,0,none⟩) n c)= .returned v/\Rr T w' G' v (.own E L)/\
  (∀b,G.O b= .fz->G'.O b= .fz)/\(∀b,G'.O b≠ .ext->b<w'.heap.size)/\(∀b i,G'.O b≠ .bx i)/\
  (∀b,G'.O b≠ .ext->(G.O b= .fz/\G'.O b= .fz)\/w.heap.size<=b\/∃j,G.O b= .ar j)/\
  (∀b,b<w.heap.size->(∀j,G.O b≠ .ar j)->w'.heap[b]? =w.heap[b]?)/\
  w.heap.size<=w'.heap.size/\w'.os=w.os/\w'.tape=w.tape/\w'.output=w.output:=by
 have hfz:∀q,G.O q= .fz->q≠b:=by
  rintro q hq rfl;rcases hb' with h|h
  ·rw[h]at hq;cases hq
  ·have:=h2 q AL
   omega
 have hkp:Keep w w' G {G with O:=fun q=>if q=b then .ar 0 else G.O q}:=⟨fun q hq=>by simp[hfz q hq,hq],fun q hq=>hk q (h2 q AL) (hfz q hq)⟩
 have hpf:bM (L.flatMap V.cells):=aH.2 fun y hy=>by
  exact Pz
 subst hlen;refine⟨_,{G with O:=fun q=>if q=b then .ar 0 else G.O q},rfl,⟨hE,hp, .inr ⟨b,c,X,rfl,Ae,hb,hnc,hc,hs,hz,hX.keep hkp hpf (fun _ h=>h.elim) (fun _ _ h=>h.elim)⟩⟩,hkp.fz,fun q hq=>?_,fun q i hq=>?_,fun q hq=>?_,fun q h1 h7=>?_,hsz,h4,h5,h6⟩
 ·by_cases e:q=b
  ·subst e;exact(Array.getElem?_eq_some_iff.1 hb).1
  ·simp only[e,if_false]at hq
   exact Nat.lt_of_lt_of_le (h2 q hq) hsz
 ·by_cases e:q=b
  ·subst e;simp at hq
  ·simp only[e,if_false]at hq
   exact h3 q i hq
 ·by_cases e:q=b
  ·subst e
   rcases hb' with h|h
   ·exact .inr (.inr ⟨0,h⟩)
   ·exact .inr (.inl h)
  ·simp only[e,if_false]at hq⊢
   cases hO:G.O q with
   |ext=>exact absurd hO hq
   |fz=>exact .inl ⟨rfl,rfl⟩
   |bx i=>exact absurd hO (h3 q i)
   |ar j=>exact .inr (.inr ⟨j,rfl⟩)
 ·refine hk q h1 ?_
  rintro rfl;rcases hb' with h|h
  ·exact h7 0 h
  ·omega
theorem bY9{w:World}{G:Gh}{k:Nat}{u:Value}{E:TypeId}{x:V}(h:gJ T w G k u E [x]):∃(b c:Nat) (cur:Array Value),u= .slice (some ⟨b,0,none⟩) 1 c/\G.O b= .ar k/\w.heap[b]? =some (.cells cur E (0,0))/\(T.row E).size<=cur.size/\
 x.cells.length=(T.row E).size/\RvL w G (cur.toList.take (T.row E).size) x.cells:=by
 rcases h with⟨_,h⟩|⟨b,c,cur,h1,h2,h3,h4,h5,h6,h7,h8⟩
 ·cases h
 ·refine⟨b,c,cur,h1,h2,h3,?_,h7 x Ae,?_⟩
  ·rw[h6]
   exact Nat.le_mul_of_pos_left _ h4
  ·have h9:=h8
   simp only[List.length_singleton,Nat.one_mul,List.flatMap_cons,List.flatMap_nil,List.append_nil]at h9;exact h9
theorem aN3{w:World}{G:Gh}{j:Nat}{v:Value}{u:Value}(h:Rb T w G j v (.lit u)):v=u:=h.2.bH
theorem arr3{cs:Array Value}(h:cs.size=3):∃a b c,cs= #[a,b,c] :=by
 obtain⟨l⟩:=cs
 match l,h with
 | [a,b,c],_=>exact⟨a,b,c,rfl⟩
end Go.Proofs.Led
