/-
  Shapes: area, where a point lies, boxes, walked.
-/
import Derived.Test.YtkhhdojgbkophaaGreatDoorBB2
import Derived.Shelf.Spec.SlicesGrow
set_option linter.unusedVariables false
set_option linter.unusedSimpArgs false
set_option maxRecDepth 100000
set_option maxHeartbeats 4000000
noncomputable section
namespace Go.Proofs.Led
open Go Go.Proofs Go.Ab
theorem eI3{s:Sh}(h:bG s):uK s=qH (W (2*nG s.outer)) (rings s):=if_pos h
theorem eC2{s:Sh}(h:¬bG s):uK s=0:=if_neg h
theorem dS3(n:Int)(D:List Rg)(r:Rg):qH n (D++[r])=W (qH n D-nG r):=by unfold qH;rw[List.foldl_append];rfl
theorem cG8(s:Sh)(hs:gV s):Sp 52 [shV s] (I (uK s)):=by
 refine zsp Tryz.func52 ?_;have h1:=eI3 (s:=s);have h2:=eC2 (s:=s)
 generalize uK s=A at*;have ho:s.outer.length<=1000000:=hs.1
 repeat' ((conv=>whnf);first|refine zc (kK s hs) ?_|refine zc (aX1 s.outer hs.1) ?_|refine zc (rQ s) ?_|refine zg ?_|refine zw ?_|refine zn ?_|refine zz (fun _=>?_) fun _=>?_|refine zr ?_)
 all_goals conv=>whnf
 all_goals first
  |exact aG (h2 Ag).symm
  |skip
 have hA:=h1 Ag
 refine aM3 (iI s) (vJ s hs.2.1) (vC s) (A:=List Rg) (B:=List Rg) (fun D R=>mkSt [(1, .box 1 0),(3, .box 3 0),(13, .fn 133 [.fp (shV s).cells])] [(1,(shV s).cells),(3,[I (qH (W (2*nG s.outer)) D)])] [])
  (fun k D R=>rings s=D++R/\D.length=k) [] (rings s) ?_ ⟨rfl,rfl⟩ rfl ?_ ?_
 ·exact zj
 ·rintro k D R it ⟨hp,hk⟩ hit
  subst hk;obtain⟨r,R',rfl,rfl⟩:=aE4 hp hit;have hrl:r.length<=1000000:=hs.mem Af;have es:=dS3 (W (2*nG s.outer)) D r
  generalize W (2*nG s.outer)=a0 at*
  repeat' ((conv=>whnf);first|refine zc (aX1 r hrl) ?_|refine zi ?_|refine zw ?_)
  all_goals conv=>whnf
  refine⟨(D++[r],R'),?_,Af,Ae⟩;simp only[es];exact zj
 ·rintro D R ⟨hp,hk⟩
  have hRn:R=[] :=IB;subst hRn;rw[List.append_nil]at hp;subst hp;generalize W (2*nG s.outer)=a0 at*
  repeat' ((conv=>whnf);first|refine zS ?_|fail)
  all_goals conv=>whnf
  exact aG hA.symm
theorem dP7{s:Sh}{p:Pt}(h:¬bG s):qW s p=0:=if_neg h
theorem bQ2{s:Sh}{p:Pt}(h:bG s)(h2:¬iF s.outer p=2):qW s p=iF s.outer p:=by unfold qW;rw[if_pos h,if_neg h2]
theorem bP9{s:Sh}{p:Pt}(h:bG s)(h2:iF s.outer p=2):qW s p=qG 2 p s.holes:=by unfold qW;rw[if_pos h,if_pos h2]
theorem dX1{o:Int}{p:Pt}{h:Rg}{l:List Rg}(q:iF h p=2):qG o p (h::l)=0:=by rw[qG,if_pos q]
theorem eB4{o:Int}{p:Pt}{h:Rg}{l:List Rg}(q:iF h p=1):qG o p (h::l)=1:=by rw[qG,if_neg (by omega),if_pos q]
theorem dW5{o:Int}{p:Pt}{h:Rg}{l:List Rg}(q:¬iF h p=2)(q2:¬iF h p=1):qG o p (h::l)=qG o p l:=by rw[qG,if_neg q,if_neg q2]
theorem cA8(s:Sh)(p:Pt)(hs:gV s):Sp 266 [shV s,ptV p] (I (qW s p)):=by
 refine zsp Tryz.func266 ?_;have h1:=dP7 (s:=s) (p:=p);have h2:=bQ2 (s:=s) (p:=p)
 have h3:=bP9 (s:=s) (p:=p);have hw:=aB7 s.outer p hs.1
 have hmm:(s.holes.map rgV).length=s.holes.length:=Ae;have hhl:=hs.2.1
 generalize qW s p=A at*;generalize iF s.outer p=wo at*
 repeat' ((conv=>whnf);first|refine zc (kK s hs) ?_|refine zS ?_|refine zT ?_ ?_<;>intro _|fail)
 all_goals conv=>whnf
 all_goals first
  |exact aG (h1 Ag).symm
  |exact aG (h2 Ag Ag).symm
  |skip
 have hA:=h3 Ag Ag;refine aU (A:=List Rg) (B:=List Rg) (fun D R=>mkSt [(3, .box 3 0),(5,I wo),(19, .sl (s.holes.map rgV)),(20,I s.holes.length),(21,I D.length)] [(3,(ptV p).cells)] []) (fun D R=>s.holes=D++R/\A=qG 2 p R) (fun D R=>R.length) [] s.holes ?_ ⟨rfl,hA⟩ (fun D R hp=>?_)
 ·exact Ip
 obtain⟨hp,hA⟩:=hp
 cases R with
 |nil=>
  have hlen:s.holes.length=D.length:=Af
  repeat' ((conv=>whnf);first|(exfalso;omega)|refine zS ?_|refine zT ?_ ?_<;>intro _|fail)
  all_goals conv=>whnf
  exact aG (by rw[hA];show _=(2:Int);omega)
 |cons h R=>
  have hlen:=aO hp;have hl:h.length<=1000000:=hs.2.2 h Af
  have g2:=dX1 (o:=2) (p:=p) (h:=h) (l:=R);have g1:=eB4 (o:=2) (p:=p) (h:=h) (l:=R)
  have g0:=dW5 (o:=2) (p:=p) (h:=h) (l:=R);have hwh:=aB7 h p hl
  rw[<-hA]at g0 g1 g2;generalize iF h p=wh at*
  repeat' ((conv=>whnf);first|(exfalso;omega)|refine zS ?_|refine zT ?_ ?_<;>intro _|fail)
  all_goals conv=>whnf
  all_goals first
   |exact aG (g2 Ag).symm
   |exact aG (g1 Ag).symm
   |skip
  refine⟨(D++[h],R),?_,⟨Af,g0 Ag Ag⟩,Ae⟩;exact Nh
theorem cO2{s:Sh}{v:Vc}(h:within v 4000):lJ s v=qW s (v.1,v.2,1):=if_pos h
theorem eC0{s:Sh}{v:Vc}(h:¬within v 4000):lJ s v=0:=if_neg h
theorem aD4(s:Sh)(v:Vc)(hs:gV s):Sp 233 [shV s,vcV v] (I (lJ s v)):=by
 refine zsp Tryz.func233 ?_;have h1:=cO2 (s:=s) (v:=v);have h2:=eC0 (s:=s) (v:=v)
 generalize lJ s v=A at*
 repeat' ((conv=>whnf);first|refine zc (kC v 4000) ?_|refine zc (zN v) ?_|refine zc (cA8 s (v.1,v.2,1) hs) ?_|refine zS ?_|refine zT ?_ ?_<;>intro _|fail)
 all_goals conv=>whnf
 all_goals first
  |exact aG (h2 Ag).symm
  |exact aG (h1 Ag).symm
open Classical in
def boxS(s:Sh):Bx×Bool:=if bG s then boxR s.outer else(((0,0),(0,0)),false)
theorem eG7{s:Sh}(h:bG s):boxS s=boxR s.outer:=if_pos h
theorem eW5{s:Sh}(h:¬bG s):boxS s=(((0,0),(0,0)),false):=if_neg h
theorem aS0(s:Sh)(hs:gV s):Sp 106 [shV s] (.tup [bxV (boxS s).1, .lit (.bool (boxS s).2)]):=by
 refine zsp Tryz.func106 ?_;have h1:=eG7 (s:=s);have h2:=eW5 (s:=s)
 have hb:=dL2 s.outer hs.1;generalize boxS s=A at*;generalize boxR s.outer=B at*
 repeat' ((conv=>whnf);first|refine zc (kK s hs) ?_|refine zS ?_|refine zd (fun hd=>?_) (fun hd=>?_))
 ·rw[h1 hd]
  all_goals exact zE
 ·rw[h2 hd]
  all_goals exact zE
theorem gX{xs:List V}{bytes size:Nat}{K:Prop}(hb:bytes<=10000)(h5:∀x∈xs,x.cells.length=size)(h4:xs.length<=1000000000)(hk:K):need (xs.length*bytes<=140737488355328/\xs.length<=140737488355328/\∀x∈xs,x.cells.length=size) K:=by
 have:=Nat.mul_le_mul h4 hb;exact fU ⟨Aa,Aa,h5⟩ hk
def d0(D:List Rg)(r:Rg):List Rg:=D++[r]
def edgSt(s:Sh)(D:List Rg):St:=match D with
 | [] =>mkSt [(1, .box 1 0),(3, .box 3 0),(6, .fn 133 [.fp (shV s).cells])] [(1,(shV s).cells),(3,[nilV])] []
 |d::D=>mkSt [(1, .box 1 0),(3, .box 3 0),(6, .fn 133 [.fp (shV s).cells])] [(1,(shV s).cells),(3,[.arr 11 D.length])] [(11,⟨D.length, .own,238,((d::D).flatMap bF).map sgV⟩)]
theorem aX0(l:List Sg):∀y∈l.map sgV,y.cells.length=4:=fun y hy=>AY
theorem cM5{r:Rg}(h:r.length<=1000000):((bF r).map sgV).length<=1000000:=by rw[List.length_map];exact aK9 h
theorem bC1{s:Sh}(hs:gV s)(h7:s.holes.length<=6){D R:List Rg}(hp:rings s=D++R):(D.flatMap bF).length<=7000000:=by
 have h1:∀(E:List Rg),(∀r∈E,(bF r).length<=1000000)->(E.flatMap bF).length<=1000000*E.length:=by
  intro E
  induction E with
  |nil=>intro _;simp
  |cons e E ih=>
   intro h;have a:=h e Ae;have b:=ih (fun r hr=>h r (by simp[hr]))
   exact Ol
 have h2:=h1 D (fun r hr=>aK9 (hs.mem (by rw[hp];simp[hr])))
 have h3:(rings s).length=D.length+R.length:=Af;have h4:(rings s).length=s.holes.length+1:=Bl
 omega
theorem aV8(s:Sh)(hs:gV s)(h7:s.holes.length<=6):Sp 229 [shV s] (.own 238 ((aC0 s).map sgV)):=by
 refine zsp Tryz.func229 ?_
 repeat' ((conv=>whnf);first|refine zc (rQ s) ?_|refine zS ?_|fail)
 all_goals conv=>whnf
 refine aM3 (iI s) (vJ s hs.2.1) (vC s) (A:=List Rg) (B:=List Rg) (fun D R=>edgSt s D)
  (fun k D R=>rings s=D++R/\D.length=k) [] (rings s) ?_ ⟨rfl,rfl⟩ rfl ?_ ?_
 ·exact zj
 ·rintro k D R it ⟨hp,hk⟩ hit
  subst hk;obtain⟨r,R',rfl,rfl⟩:=aE4 hp hit;have hrl:r.length<=1000000:=hs.mem Af;have hfb:=bC1 hs h7 hp
  have heb:=cM5 hrl;have hff:(((d0 D r:List Rg).flatMap bF).map sgV)=(D.flatMap bF).map sgV++(bF r).map sgV:=by unfold d0;simp
  cases D with
  |nil=>
   repeat' ((conv=>whnf);first|refine zc (qE r hrl) ?_|refine gX (of_decide_eq_true rfl) (aX0 _) (show((bF r).map sgV).length<=1000000000 from Aa) ?_|refine zS ?_|fail)
   all_goals conv=>whnf
   refine⟨([r],R'),?_,by rw[hp];rfl,rfl⟩
   show Le T _ (mkSt [(1, .box 1 0),(3, .box 3 0),(6, .fn 133 [.fp (shV s).cells])] [(1,(shV s).cells),(3,[.arr 11 0])] [(11,⟨0, .own,238,(([r] :List Rg).flatMap bF).map sgV⟩)]);rw[show([r] :List Rg).flatMap bF=bF r from Ae];exact zj
  |cons d D=>
   have hfl:(((d::D).flatMap bF).map sgV).length=((d::D).flatMap bF).length:=List.length_map ..
   repeat' ((conv=>whnf);first|refine zc (qE r hrl) ?_|refine iH rfl (.inl rfl) rfl (of_decide_eq_true rfl) (aX0 _) (show(((d::D).flatMap bF).map sgV).length+((bF r).map sgV).length<=1000000000 from Aa) ?_|refine zS ?_|fail)
   all_goals conv=>whnf
   refine⟨(d::D++[r],R'),?_,Af,Ae⟩;show Le T _ (mkSt [(1, .box 1 0),(3, .box 3 0),(6, .fn 133 [.fp (shV s).cells])] [(1,(shV s).cells),(3,[.arr 11 (D++[r]).length])] [(11,⟨(D++[r]).length, .own,238,(((d::D)++[r]).flatMap bF).map sgV⟩)]);rw[show((d::D)++[r])=d0 (d::D) r from rfl,hff,List.length_append,List.length_singleton];exact zj
 ·rintro D R ⟨hp,hk⟩
  have hRn:R=[] :=IB;subst hRn;rw[List.append_nil]at hp;unfold aC0;exact Px
end Go.Proofs.Led
namespace Go.Proofs
open Go.Shelf Go.Ab
def Tryz.bY5:Go.Shelf.Ren:=⟨fun|4=>255|n=>n,fun|22=>56|25=>112|n=>n,fun n=>n⟩
theorem Tryz.cH7:Go.Proofs.Lays8.n4 Tryz.prog Tryz.bY5:={
 mixed:=Ac
 f4:=⟨Tryz.f255.name,Ak,Tryz.func255.trans (congrArg some Ac)⟩
 t0:=Tryz.underlying0
 a0:=Tryz.isAgg0
 z0:=Tryz.sizeOf0
 v0:=Tryz.zeroValue0
 t3:=Tryz.underlying3
 a3:=Tryz.isAgg3
 z3:=Tryz.sizeOf3
 v3:=Tryz.zeroValue3
 t4:=Tryz.underlying4
 a4:=Tryz.isAgg4
 z4:=Tryz.sizeOf4
 v4:=Tryz.zeroValue4
 t9:=Tryz.underlying9
 a9:=Tryz.isAgg9
 z9:=Tryz.sizeOf9
 v9:=Tryz.zeroValue9
 t20:=Tryz.underlying20
 a20:=Tryz.isAgg20
 z20:=Tryz.sizeOf20
 v20:=Tryz.zeroValue20
 t22:=Tryz.underlying56
 a22:=Tryz.isAgg56
 z22:=Tryz.sizeOf56
 v22:=Tryz.zeroValue56}
end Go.Proofs
namespace Go.Proofs.Led
open Go Go.Proofs Go.Ab Go.RowKit
theorem dZ9{w:World}{G:Gh}{j:Nat}{v:Value}{u:Value}(h:Rb T w G j v (.lit u)):v=u:=h.2.bH
theorem arr2{cs:Array Value}(h:cs.size=2):∃a b,cs= #[a,b] :=by
 exact OY
theorem row112:aH9 Tryz.prog 112 (T.row 112):=uG 112 (of_decide_eq_true Ac)
theorem size112:(T.row 112).size=2:=Ac
theorem bytes112:(T.row 112).bytes=16:=Ac
theorem dP8(n:Nat)(hn:n<=1000000):Sp 255 [.lit (.slice none 0 0),I n] (.own 112 []):=by
 refine⟨Ac,fun w G cs h1 h2 h3 h4 h5=>?_⟩;obtain⟨v0,v1,rfl⟩:=arr2 h1;have r0:v0= .slice none 0 0:=dZ9 (h4 0 v0 _ rfl rfl)
 have r1:v1= .int .i64 n:=dZ9 (h4 1 v1 (I n) rfl rfl);subst r0 r1;have h112:112<T.n 112:=of_decide_eq_true Ac
 rcases Nat.eq_zero_or_pos n with rfl|hpos
 ·refine(Any8.slices_Grow_room Tryz.cH7 none 0 0 0 w (Nat.le_refl _) Ak Ak Ak).mono ?_
  rintro e w' ⟨rfl,rfl⟩;refine⟨_,G,rfl,⟨h112,GX, .inl ⟨.inl rfl,rfl⟩⟩,fun _ h=>h,h2,h3,fun b hb=>?_,fun _ _ _=>rfl,Nat.le_refl _,rfl,rfl,rfl⟩;exact NT
 ·obtain⟨i0,hi0,hsz,hby,z,hz,hzc,_,hzl,_,_⟩:=row112.info
  rw[size112]at hsz hzl;rw[bytes112]at hby;have hzs:z.cells.size=2:=AO
  have hcall:Calls Tryz.prog 255 #[.slice none 0 0, .int .i64 n] w fun e w'=>e= .returned (.slice (some ⟨w.heap.size,0,none⟩) 0 (grownCap w (0+n) 0 112))/\
   w'=w.drew.alloc (.cells (([] :List Value).toArray++Builtin.zeroCells z.cells (0+n-0)++Builtin.zeroCells z.cells (grownCap w (0+n) 0 112- (0+n))) 112):=
   Any8.slices_Grow_grow Tryz.cH7 i0 z hi0 hz Aa none 0 0 n [] w (Nat.le_refl _) Aa (by rw[hby];omega) Aa Ae (fun _=>rfl) (fun a h=>Ad)
  refine hcall.mono ?_;rintro e w' ⟨rfl,rfl⟩;have hge:=grownCap_ge w (0+n) 0 112;have hle:=grownCap_le_maxLen w (0+n) 0 112 CB
  have hsize:(w.drew.alloc (.cells (([] :List Value).toArray++Builtin.zeroCells z.cells (0+n-0)++Builtin.zeroCells z.cells (grownCap w (0+n) 0 112- (0+n))) 112)).heap.size=w.heap.size+1:=Array.size_push _;have hnew:(w.drew.alloc (.cells (([] :List Value).toArray++Builtin.zeroCells z.cells (0+n-0)++Builtin.zeroCells z.cells (grownCap w (0+n) 0 112- (0+n))) 112)).heap[w.heap.size]? =some (.cells (([] :List Value).toArray++Builtin.zeroCells z.cells (0+n-0)++Builtin.zeroCells z.cells (grownCap w (0+n) 0 112- (0+n))) 112 (0,0)):=Array.getElem?_push_size
  have hold:∀b,b<w.heap.size->(w.drew.alloc (.cells (([] :List Value).toArray++Builtin.zeroCells z.cells (0+n-0)++Builtin.zeroCells z.cells (grownCap w (0+n) 0 112- (0+n))) 112)).heap[b]? =w.heap[b]? :=by
   intro b hb;have:(w.drew.alloc (.cells (([] :List Value).toArray++Builtin.zeroCells z.cells (0+n-0)++Builtin.zeroCells z.cells (grownCap w (0+n) 0 112- (0+n))) 112)).heap=w.heap.push _:=rfl;rw[this,Array.getElem?_push_lt hb,Array.getElem?_eq_getElem hb]
  refine⟨_,{G with O:=upd G.O w.heap.size (.ar 0)},rfl,⟨h112,GX, .inr ⟨w.heap.size,_,_,rfl,upd_same _ _ _,hnew,Nat.zero_le _,hle,?_,Ae,?_⟩⟩,?_,?_,?_,?_,fun b hb _=>hold b hb,by rw[hsize];omega,rfl,rfl,rfl⟩
  ·rw[Array.size_append,Array.size_append,size_zeroCells,size_zeroCells,hzs,size112]
   show 0+(0+n-0)*2+(grownCap w (0+n) 0 112- (0+n))*2=grownCap w (0+n) 0 112*2;omega
  ·refine⟨Ae,Ae,Ae⟩
  ·intro b hb
   have:b≠w.heap.size:=fun e=>by have:=h2 b (by rw[hb];simp);omega
   show upd G.O w.heap.size (.ar 0) b= .fz;rw[upd_ne _ _ this];exact hb
  ·intro b hb
   rw[hsize];change upd G.O w.heap.size (.ar 0) b≠ .ext at hb;by_cases e:b=w.heap.size
   ·omega
   ·have hb':G.O b≠ .ext:=by
     have:=hb;rw[show(upd G.O w.heap.size (Tag.ar 0)) b=G.O b from upd_ne _ _ e]at this;exact this
    have:=h2 b hb';omega
  ·intro b i hb
   change upd G.O w.heap.size (.ar 0) b= .bx i at hb;by_cases e:b=w.heap.size
   ·subst e
    rw[show(upd G.O w.heap.size (Tag.ar 0)) w.heap.size= .ar 0 from upd_same _ _ _]at hb;cases hb
   ·rw[show(upd G.O w.heap.size (Tag.ar 0)) b=G.O b from upd_ne _ _ e]at hb
    exact h3 b i hb
  ·intro b hb
   change upd G.O w.heap.size (.ar 0) b≠ .ext at hb;show(G.O b= .fz/\upd G.O w.heap.size (.ar 0) b= .fz)\/_;by_cases e:b=w.heap.size
   ·exact .inr (.inl Aa)
   ·rw[show(upd G.O w.heap.size (Tag.ar 0)) b=G.O b from upd_ne _ _ e]at hb⊢
    exact NT
end Go.Proofs.Led
namespace Go.Proofs.Led
open Go Go.Proofs Go.Ab
theorem cN6(L:List Rg)(hL:L.length<=100)(hs:∀l∈L,l.length<=10000):Sp 226 [.sl (L.map rgV)] (.own 112 (L.flatten.map vcV)):=by
 refine zsp Tryz.func226 ?_;have hll:(L.map rgV).length=L.length:=Ae
 have hfl:∀D:List Rg,(∀l∈D,l.length<=10000)->D.flatten.length<=D.length*10000:=by
  intro D
  induction D with
  |nil=>intro _;simp
  |cons d D ih=>
   intro h;have h1:=h d Ae;have h2:=ih (fun l hl=>h l (by simp[hl]))
   simp only[List.flatten_cons,List.length_append,List.length_cons];omega
 repeat' ((conv=>whnf);first|refine zS ?_|fail)
 refine aU (A:=List Rg) (B:=List Rg) (fun D R=>mkSt [(0, .sl (L.map rgV)),(3,I D.flatten.length),(9, .sl (L.map rgV)),(10,I L.length),(11,I D.length)] [] [])
  (fun D R=>L=D++R) (fun D R=>R.length) [] L ?_ rfl (fun D R hp=>?_)
 ·exact zj
 ·have h1:L=D++R:=hp
  have hlen:L.length=D.length+R.length:=Bj;have hD:=hfl D (fun l hl=>hs l (by rw[h1];simp[hl]))
  cases R with
  |cons x R=>
   rw[List.length_cons]at hlen;have hx:=hs x Bj;have hxm:(x.map vcV).length=x.length:=Ae
   repeat' ((conv=>whnf);first|(exfalso;omega)|refine zS ?_|refine zT ?_ ?_<;>intro _|fail)
   conv=>whnf
   refine⟨(D++[x],R),?_,?_,?_⟩
   ·refine dV ?_ ?_ ?_ ?_
    all_goals repeat' (first|exact trivial|refine And.intro ?_ ?_|with_reducible rfl|exact(fun h=>Ad)|exact Nat.le_refl _|omega|exact rfl)
    ·show(D.flatten.length:Int)+((x.map vcV).length:Nat)=((D++[x]).flatten.length:Nat)
     rw[hxm];simp
    ·show(D.length:Int)+1=(D++[x]).length
     simp
   ·show L=D++[x] ++R
    rw[h1];simp
   ·show R.length< (x::R).length
    simp
  |nil=>
   have e:L=D:=Bj;simp at hlen
   repeat' ((conv=>whnf);first|(exfalso;omega)|refine zc (dP8 D.flatten.length Aa) ?_|refine zS ?_|refine zT ?_ ?_<;>intro _|fail)
   clear h1 hp hlen hD
   refine aU (A:=List Rg) (B:=List Rg) (fun D R=>mkSt [(6, .arr 24 D.length),(25, .sl (L.map rgV)),(26,I L.length),(27,I D.length)] [] [(24,⟨D.length, .own,112,D.flatten.map vcV⟩)])
    (fun D R=>L=D++R) (fun D R=>R.length) [] L ?_ rfl (fun D R hp=>?_)
   ·exact zj
   ·have h1:L=D++R:=hp
    have hlen:L.length=D.length+R.length:=Bj;have hD:=hfl D (fun l hl=>hs l (by rw[h1];simp[hl]))
    cases R with
    |cons x R=>
     rw[List.length_cons]at hlen;have hx:=hs x Bj
     repeat' ((conv=>whnf);first|(exfalso;omega)|refine iH rfl (.inl rfl) rfl (of_decide_eq_true rfl) (fun y hy=>AY) (by show(List.map vcV D.flatten).length+(List.map vcV x).length<=_;rw[List.length_map,List.length_map];omega) ?_|refine zS ?_|refine zT ?_ ?_<;>intro _|fail)
     conv=>whnf
     refine⟨(D++[x],R),?_,?_,?_⟩
     ·refine dV ?_ ?_ ?_ ?_
      all_goals repeat' (first|exact trivial|refine And.intro ?_ ?_|with_reducible rfl|exact(fun h=>Ad)|exact Nat.le_refl _|omega|exact rfl)
      all_goals first
       |(show D.length+1=(D++[x]).length;simp;done)
       |(show List.map vcV D.flatten++List.map vcV x=List.map vcV (D++[x]).flatten;simp;done)
       |(show(D.length:Int)+1=(D++[x]).length;simp;done)
     ·show L=D++[x] ++R
      rw[h1];simp
     ·show R.length< (x::R).length
      simp
    |nil=>
     have e:L=D:=Bj;simp at hlen
     repeat' ((conv=>whnf);first|(exfalso;omega)|refine zS ?_|refine zT ?_ ?_<;>intro _|fail)
     conv=>whnf
     refine⟨⟨⟨rfl,rfl,rfl,?_⟩,trivial⟩,rfl,fun _ h=>Ad⟩;show List.map vcV D.flatten=List.map vcV L.flatten;rw[e]
theorem dT1{xs ys:List V}{X Y Z:Rg}(hx:xs=X.map vcV)(hy:ys=Y.map vcV)(hz:Z=X++Y)(h1:X.length<=10000)(h2:Y.length<=10000):Sp 226 [.sl [.sl xs, .sl ys]] (.own 112 (Z.map vcV)):=by
 subst hx hy hz
 have:=cN6 [X,Y] Ae (fun l hl=>by
  rcases List.mem_cons.1 hl with rfl|hl
  ·exact h1
  ·cases List.mem_singleton.1 hl;exact h2)
 rwa [show [X,Y].flatten=X++Y from Ae]at this
theorem bJ7{r:Rg}(h:dM r):gQ r=wL r:=if_pos h
theorem eJ3{r:Rg}(h:¬dM r):gQ r=[] :=if_neg h
theorem aU6(r:Rg)(hl:r.length<=1000000):Sp 186 [rgV r] (.sl ((gQ r).map vcV)):=by
 refine zsp Tryz.func186 ?_;have hll:(r.map vcV).length=r.length:=Ae;by_cases hr:dM r
 ·rw[bJ7 hr]
  have hne:r≠ [] :=fun h=>by have:=hr.1;rw[h]at this;simp at this
  have h40:=hr.2.1;obtain⟨j,hj,_,hj2⟩:=aT6 (k:=0) (eH8 hne);have hi0:bZ1 (wO r) r=j:=by unfold bZ1;rw[hj]
  have hi:=cJ4 r (wO r) hl;rw[hi0]at hi;have hb:wL r=r.drop j++r.take j:=by unfold wL;rw[hj];rfl
  rw[hb]
  have hc:=xX (dT1 (xs:=((r.map vcV).take (((r.map vcV).length:Nat):Int).toNat).drop ((j:Nat):Int).toNat) (ys:=((r.map vcV).take ((j:Nat):Int).toNat).drop (0:Int).toNat) (X:=r.drop j) (Y:=r.take j) (Z:=r.drop j++r.take j)
   (by rw[Int.toNat_natCast,Int.toNat_natCast,List.take_length,List.map_drop]) (by rw[Int.toNat_natCast,List.map_take];rfl) rfl FB AP)
  repeat' ((conv=>whnf);first|(exfalso;contradiction)|refine zc (lN r hl) ?_|refine zc (cL6 r hl hne) ?_|refine bW8 [] [(20,[88888])] trivial Ac ?_|refine fU ⟨Aa,Aa,Aa, .inr (fun x hx=>by obtain⟨v,_,rfl⟩:=List.mem_map.1 hx;rfl)⟩ ?_|refine zh (hc) [] ?_|refine zS ?_|refine zT ?_ ?_<;>intro _|fail)
  all_goals conv=>whnf
  exact MZ
 ·rw[eJ3 hr]
  repeat' ((conv=>whnf);first|(exfalso;contradiction)|refine zc (lN r hl) ?_|refine zS ?_|refine zT ?_ ?_<;>intro _|fail)
  all_goals conv=>whnf
  exact⟨⟨rfl,trivial⟩,rfl,fun _ h=>Ad⟩
theorem aM5(l:List Vc):∀y∈l.map vcV,y.cells.length=2:=fun y hy=>AY
theorem aY2(r:Rg)(hl:r.length<=1000000):Sp 278 [rgV r] (.sl (r.map vcV)):=by
 refine zsp Tryz.func278 ?_;have hll:(r.map vcV).length=r.length:=Ae
 repeat' ((conv=>whnf);first|(refine bV3.mk rfl (of_decide_eq_true Ac) Ac (.inl rfl) ?_;intro b hb;cases b)|refine iH rfl (.inl rfl) rfl (of_decide_eq_true rfl) (aM5 r) (by show 0+(List.map vcV r).length<=_;omega) ?_|refine zS ?_|fail)
 all_goals conv=>whnf
 ·refine⟨?_,rfl,fun rs h=>V.noConfusion h⟩
  (repeat' (first|exact trivial|refine And.intro ?_ ?_|with_reducible rfl|exact(fun h=>Ad)|exact rfl));done
 ·have e:r=[] :=by
   cases r with
   |nil=>rfl
   |cons x l=>exact absurd (hb Ae) Ak
  subst e;exact MZ
theorem bH7(a b:Rg)(ha:a.length<=1000000)(hb:b.length<=1000000):Sp 184 [rgV a,rgV b] (DB (a=b)):=by
 refine zsp Tryz.func184 ?_
 repeat' ((conv=>whnf);first|refine zc (eA2 a b ha hb) ?_|refine zS ?_|fail)
 all_goals exact zE
def sV(lo hi:Vc):Sh:=open Classical in if hi.1<=lo.1\/hi.2<=lo.2\/¬within lo 2000\/¬within hi 2000 then sh0 else⟨[lo,(hi.1,lo.2),hi,(lo.1,hi.2)],[]⟩
theorem eS0{lo hi:Vc}(h:hi.1<=lo.1\/hi.2<=lo.2\/¬within lo 2000\/¬within hi 2000):sV lo hi=sh0:=if_pos h
theorem eR9{lo hi:Vc}(h:¬(hi.1<=lo.1\/hi.2<=lo.2\/¬within lo 2000\/¬within hi 2000)):sV lo hi=⟨[lo,(hi.1,lo.2),hi,(lo.1,hi.2)],[]⟩:=if_neg h
theorem cX1(lo hi:Vc):Sp 240 [vcV lo,vcV hi] (shV (sV lo hi)):=by
 refine zsp Tryz.func240 ?_;have h1:=eS0 (lo:=lo) (hi:=hi);have h2:=eR9 (lo:=lo) (hi:=hi)
 generalize sV lo hi=A at*
 repeat' ((conv=>whnf);first|refine zc (kC lo 2000) ?_|refine zc (kC hi 2000) ?_|refine zS ?_|refine zT ?_ ?_<;>intro _|fail)
 all_goals conv=>whnf
 all_goals first
  |(rw[h1 (by first|exact .inl ‹_› |exact .inr (.inl ‹_›)|exact .inr (.inr (.inl ‹_›))|exact .inr (.inr (.inr ‹_›)))];refine⟨?_,rfl,fun rs h=>V.noConfusion h⟩;(repeat' (first|exact trivial|refine And.intro ?_ ?_|with_reducible rfl|exact(fun h=>Ad)|exact rfl));done)
  |(rw[h2 (by rintro(q|q|q|q)<;>first|omega|contradiction)];refine⟨?_,rfl,fun rs h=>V.noConfusion h⟩;(repeat' (first|exact trivial|refine And.intro ?_ ?_|with_reducible rfl|exact(fun h=>Ad)|exact rfl));done)
theorem eG2{l:List Rg}{z:Int}{k:Nat}{K:V->Prop}(hz:z=(k:Int))(h:k<l.length)(hk:K (rgV (l.getD k []))):idx (l.map rgV) z.toNat K:=by
 subst hz;refine gK (l:=l) (j:=k) (x:=l.getD k []) ?_ Aa hk;exact Ot
theorem eJ5{l:List Rg}{k:Nat}(h:k<l.length):l.take (k+1)=l.take k++[l.getD k []] :=by
 rw[List.take_add_one,List.getD_eq_getElem?_getD,List.getElem?_eq_getElem h];rfl
theorem getD_mem{l:List Rg}{k:Nat}(h:k<l.length):l.getD k []∈l:=by
 rw[List.getD_eq_getElem?_getD,List.getElem?_eq_getElem h];exact List.getElem_mem h
theorem dW1(a b:List Rg)(ha:a.length<=1000000)(hb:b.length<=1000000)(ha2:∀r∈a,r.length<=1000000)(hb2:∀r∈b,r.length<=1000000):Sp 185 [.sl (a.map rgV), .sl (b.map rgV), .fn 184 []] (DB (a=b)):=by
 refine zsp Tryz.func185 ?_;have hla:(a.map rgV).length=a.length:=Ae;have hlb:(b.map rgV).length=b.length:=Ae
 repeat' ((conv=>whnf);first|refine zS ?_|refine ze (fun heq=>?_) (fun heq=>?_))
 all_goals conv=>whnf
 all_goals first
  |(refine aA (aC ?_);intro h;subst h;omega)
  |skip
 have hab:a.length=b.length:=Aa;refine lD (A:=Nat) (fun k=>mkSt [(0, .sl (a.map rgV)),(1, .sl (b.map rgV)),(2, .fn 184 []),(15, .sl (a.map rgV)),(16,I a.length),(17,I k)] [] []) (fun k=>k<=a.length/\a.take k=b.take k) (fun k=>a.length-k) 0 ?_ ⟨Aa,rfl⟩ (fun k hk=>?_)
 ·exact zj
 obtain⟨hk,ht⟩:=hk;by_cases hkr:k<a.length
 ·have hs:=bH7 (a.getD k []) (b.getD k []) (ha2 _ (getD_mem hkr)) (hb2 _ (getD_mem Aa))
  repeat' ((conv=>whnf);first|(exfalso;omega)|refine eG2 (l:=a) (k:=k) Aa Aa ?_|refine eG2 (l:=b) (k:=k) Aa Aa ?_|refine zS ?_|refine zd (fun hd=>?_) (fun hd=>?_)|refine zl (fun hlt=>?_) (fun hlt=>?_))
  all_goals conv=>whnf
  ·refine⟨k+1,?_,⟨Aa,?_⟩,Aa⟩
   ·exact zj
   ·rw[eJ5 Aa,eJ5 Aa,ht,hd]
  ·refine aA (aC ?_)
   intro h;subst h;exact hd rfl
 ·have ek:k=a.length:=by omega
  repeat' ((conv=>whnf);first|(exfalso;omega)|refine zS ?_|refine zl (fun hlt=>?_) (fun hlt=>?_))
  all_goals conv=>whnf
  exact OC
theorem cQ8(a b:Sh)(ha:gV a)(hb:gV b):Sp 148 [shV a,shV b] (DB (a=b)):=by
 refine zsp Tryz.func148 ?_
 have e:a=b↔a.outer=b.outer/\a.holes=b.holes:=by
  obtain⟨a1,a2⟩:=a;obtain⟨b1,b2⟩:=b;simp
 repeat' ((conv=>whnf);first|refine zc (bH7 a.outer b.outer ha.1 hb.1) ?_|refine zc (dW1 a.holes b.holes ha.2.1 hb.2.1 ha.2.2 hb.2.2) ?_|refine zS ?_|refine zT ?_ ?_<;>intro _|fail)
 all_goals conv=>whnf
 all_goals first
  |(refine aA (fQ ?_);rw[e];exact⟨fun q=>⟨Ag,q⟩,fun q=>q.2⟩)
  |(refine aA (aC ?_);rw[e];intro q;exact absurd q.1 Ag)
def rinSt(s:Sh)(D:List Rg):St:=match D with
 | [] =>mkSt [(1, .box 1 0),(3, .box 3 0),(6, .fn 133 [.fp (shV s).cells])] [(1,(shV s).cells),(3,[nilV])] []
 |d::D=>mkSt [(1, .box 1 0),(3, .box 3 0),(6, .fn 133 [.fp (shV s).cells])] [(1,(shV s).cells),(3,[.arr 12 D.length])] [(12,⟨D.length, .own,56,(d::D).map rgV⟩)]
theorem dV3{s:Sh}(hs:gV s){D R:List Rg}(hp:rings s=D++R):D.length<=1000001:=by
 have h3:(rings s).length=D.length+R.length:=Af;have h4:(rings s).length=s.holes.length+1:=Bl
 have:=hs.2.1;omega
theorem aW6(s:Sh)(hs:gV s):Sp 265 [shV s] (.own 56 ((rings s).map rgV)):=by
 refine zsp Tryz.func265 ?_
 repeat' ((conv=>whnf);first|refine zc (rQ s) ?_|refine zS ?_|fail)
 all_goals conv=>whnf
 refine aM3 (iI s) (vJ s hs.2.1) (vC s) (A:=List Rg) (B:=List Rg) (fun D R=>rinSt s D)
  (fun k D R=>rings s=D++R/\D.length=k) [] (rings s) ?_ ⟨rfl,rfl⟩ rfl ?_ ?_
 ·exact zj
 ·rintro k D R it ⟨hp,hk⟩ hit
  subst hk;obtain⟨r,R',rfl,rfl⟩:=aE4 hp hit;have hrl:r.length<=1000000:=hs.mem Af;have hfb:=dV3 hs hp
  cases D with
  |nil=>
   repeat' ((conv=>whnf);first|refine zc (aY2 r hrl) ?_|refine gX (of_decide_eq_true rfl) (dA rfl) (of_decide_eq_true rfl) ?_|refine zS ?_|fail)
   all_goals conv=>whnf
   refine⟨([r],R'),?_,by rw[hp];rfl,rfl⟩
   show Le T _ (mkSt [(1, .box 1 0),(3, .box 3 0),(6, .fn 133 [.fp (shV s).cells])] [(1,(shV s).cells),(3,[.arr 12 0])] [(12,⟨0, .own,56,[rgV r]⟩)]);exact zj
  |cons d D=>
   have hfl:((d::D).map rgV).length=(d::D).length:=List.length_map ..
   repeat' ((conv=>whnf);first|refine zc (aY2 r hrl) ?_|refine iH rfl (.inl rfl) rfl (of_decide_eq_true rfl) (dA rfl) (show((d::D).map rgV).length+1<=1000000000 from Aa) ?_|refine zS ?_|fail)
   all_goals conv=>whnf
   refine⟨(d::D++[r],R'),?_,Af,Ae⟩;show Le T _ (mkSt [(1, .box 1 0),(3, .box 3 0),(6, .fn 133 [.fp (shV s).cells])] [(1,(shV s).cells),(3,[.arr 12 (D++[r]).length])] [(12,⟨(D++[r]).length, .own,56,((d::D)++[r]).map rgV⟩)]);rw[show((d::D)++[r]).map rgV=(d::D).map rgV++[rgV r] from Ae,List.length_append,List.length_singleton];exact zj
 ·rintro D R ⟨hp,hk⟩
  have hRn:R=[] :=IB;subst hRn;rw[List.append_nil]at hp;exact Px
def verSt(rs:List Rg)(D:List Rg):St:=match D with
 | [] =>mkSt [(3,nilV),(7, .arr 7 0),(8,I rs.length),(9,I 0)] [] [(7,⟨0, .own,56,rs.map rgV⟩)]
 |d::D=>mkSt [(3, .arr 15 D.length),(7, .arr 7 0),(8,I rs.length),(9,I ((D.length:Int)+1))] [] [(7,⟨0, .own,56,rs.map rgV⟩),(15,⟨D.length, .own,112,(d::D).flatten.map vcV⟩)]
theorem dH9(D:List Rg)(h:∀r∈D,r.length<=1000000):D.flatten.length<=1000000*D.length:=by
 induction D with
 |nil=>simp
 |cons d D ih=>
  have h1:=h d Ae;have h2:=ih (fun r hr=>h r (by simp[hr]))
  rw[List.flatten_cons,List.length_append,List.length_cons];omega
theorem aJ3(s:Sh)(hs:gV s)(h7:s.holes.length<=6):Sp 231 [shV s] (.own 112 ((rings s).flatten.map vcV)):=by
 refine zsp Tryz.func231 ?_;have hrs:=aW6 s hs;have hne:rings s≠ [] :=Bl
 have hlr:(rings s).length<=7:=by unfold rings;simp;omega
 have hmem:∀r∈rings s,r.length<=1000000:=fun r hr=>hs.mem hr;generalize rings s=rs at*;have hmm:(rs.map rgV).length=rs.length:=Ae
 repeat' ((conv=>whnf);first|refine zS ?_|fail)
 refine aU (A:=List Rg) (B:=List Rg) (fun D R=>verSt rs D) (fun D R=>rs=D++R) (fun D R=>R.length) [] rs ?_ rfl (fun D R hp=>?_)
 ·exact Ip
 have hD:=dH9 D (fun r hr=>hmem r (by rw[hp];simp[hr]))
 cases R with
 |nil=>
  have e:rs=D:=Af;subst e
  cases rs with
  |nil=>exact absurd rfl hne
  |cons d D=>
   have h0:(d::D).length=D.length+1:=rfl;exact NJ
 |cons r R=>
  have hlen:=aO hp;have hrl:=hmem r Af
  have hrm:(r.map vcV).length=r.length:=Ae
  cases D with
  |nil=>
   have h0:([] :List Rg).length=0:=rfl
   repeat' ((conv=>whnf);first|(exfalso;omega)|refine dS rfl rfl Cj ?_|refine gX (of_decide_eq_true rfl) (aM5 _) (show(r.map vcV).length<=1000000000 from Aa) ?_|refine zS ?_|refine zT ?_ ?_<;>intro _|fail)
   all_goals conv=>whnf
   refine⟨([r],R),?_,hp,Ae⟩;show Le T _ (mkSt [(3, .arr 15 0),(7, .arr 7 0),(8,I rs.length),(9,I (0+1))] [] [(7,⟨0, .own,56,rs.map rgV⟩),(15,⟨0, .own,112,([r] :List Rg).flatten.map vcV⟩)]);rw[show([r] :List Rg).flatten=r from Ae];exact zj
  |cons d D=>
   have h0:(d::D).length=D.length+1:=rfl;have hfl:((d::D).flatten.map vcV).length=(d::D).flatten.length:=List.length_map ..
   repeat' ((conv=>whnf);first|(exfalso;omega)|refine dS rfl rfl Cj ?_|refine iH rfl (.inl rfl) rfl (of_decide_eq_true rfl) (aM5 _) (show((d::D).flatten.map vcV).length+(r.map vcV).length<=1000000000 from Aa) ?_|refine zS ?_|refine zT ?_ ?_<;>intro _|fail)
   all_goals conv=>whnf
   refine⟨(d::D++[r],R),?_,Af,Ae⟩;show Le T _ (mkSt [(3, .arr 15 (D++[r]).length),(7, .arr 7 0),(8,I rs.length),(9,I (((D++[r]).length:Int)+1))] [] [(7,⟨0, .own,56,rs.map rgV⟩),(15,⟨(D++[r]).length, .own,112,((d::D)++[r]).flatten.map vcV⟩)]);rw[show((d::D)++[r]).flatten.map vcV=(d::D).flatten.map vcV++r.map vcV from Ae,List.length_append,List.length_singleton];exact zj
def jS(a b:Vc):Int:=if 0<bZ a b then 0 else if bZ a b<0 then 2 else if vdot a b<0 then 1 else 3
theorem eW4{a b:Vc}(h:0<bZ a b):jS a b=0:=if_pos h
theorem eZ4{a b:Vc}(h:bZ a b<0):jS a b=2:=by unfold jS;rw[if_neg (by omega),if_pos h]
theorem eW6{a b:Vc}(h0:bZ a b<=0)(h1:0<=bZ a b)(h:vdot a b<0):jS a b=1:=by unfold jS;rw[if_neg (by omega),if_neg (by omega),if_pos h]
theorem fB4{a b:Vc}(h0:bZ a b<=0)(h1:0<=bZ a b)(h:0<=vdot a b):jS a b=3:=by unfold jS;rw[if_neg (by omega),if_neg (by omega),if_neg (by omega)]
theorem aQ6(a b:Vc):Sp 235 [vcV a,vcV b] (I (jS a b)):=by
 refine zsp Tryz.func235 ?_;have h0:=eW4 (a:=a) (b:=b);have h1:=eW6 (a:=a) (b:=b)
 have h2:=eZ4 (a:=a) (b:=b);have h3:=fB4 (a:=a) (b:=b)
 generalize jS a b=A at*;have hc:=kD a b;have hd:=dP6 a b
 generalize bZ a b=c at*;generalize vdot a b=d at*
 repeat' ((conv=>whnf);first|refine zc hc ?_|refine zc hd ?_|refine zS ?_|refine zl (fun hlt=>?_) (fun hlt=>?_))
 all_goals conv=>whnf
 all_goals first
  |exact aG (h0 Aa).symm
  |exact aG (h2 Aa).symm
  |exact aG (h1 Aa Aa Aa).symm
  |exact aG (h3 Aa Aa Aa).symm
theorem bX9(s:Sg):Sp 196 [sgV s] (sgV (s.2,s.1)):=by
 refine zsp Tryz.func196 ?_;exact Oi
def oG(s:Sg)(d:Vc):Prop:=jS s.1 d<jS s.1 s.2\/(jS s.1 d=jS s.1 s.2/\jS s.1 d≠3/\0<bZ d s.2)
theorem bE0(s:Sg)(d:Vc):Sp 236 [sgV s,vcV d] (DB (oG s d)):=by
 refine zsp Tryz.func236 ?_;have hx:=aQ6 s.1 d;have hy:=aQ6 s.1 s.2
 have hc:=kD d s.2;generalize hP:oG s d=P;have hr:P↔oG s d:=Ik
 unfold oG at hr;clear hP;generalize jS s.1 d=x at*;generalize jS s.1 s.2=y at*;generalize bZ d s.2=c at*
 repeat' ((conv=>whnf);first|refine zc hx ?_|refine zc hy ?_|refine zc hc ?_|refine zS ?_|refine zT ?_ ?_<;>intro _|fail)
 all_goals conv=>whnf
 all_goals refine aA ?_
 all_goals first
  |exact fE (hr.2 Aa)
  |exact aC (fun h=>by have h:=hr.1 h;omega)
  |(refine aS1 ?_;rw[hr];omega)
def jH(s t:Sg):Prop:=jS s.1 t.1=3\/oG s t.1\/oG t s.1
theorem cT5(s t:Sg):Sp 195 [sgV s,sgV t] (DB (jH s t)):=by
 refine zsp Tryz.func195 ?_;have hx:=aQ6 s.1 t.1;have h1:=bE0 s t.1
 have h2:=bE0 t s.1;generalize hP:jH s t=P;have hr:P↔jH s t:=Ik
 unfold jH at hr;clear hP;generalize jS s.1 t.1=x at*;generalize oG s t.1=p at*;generalize oG t s.1=q at*
 repeat' ((conv=>whnf);first|refine zc hx ?_|refine zc h1 ?_|refine zc h2 ?_|refine zS ?_|refine zT ?_ ?_<;>intro _|fail)
 all_goals conv=>whnf
 all_goals refine aA ?_
 all_goals first
  |exact fE (hr.2 (by first|exact .inl ‹_› |exact .inr (.inl ‹_›)))
  |(refine fQ ?_;rw[hr];exact⟨fun h=> .inr (.inr h),fun h=>by rcases h with h|h|h<;>first|contradiction|exact h⟩)
theorem fD3{g:FuncId}{c d:List V}{Q:Vc->Prop}(hg:∀m,Sp g (vcV m:: [.fp c, .fp d]) (DB (Q m)))(l:List Vc)(hl:l.length<=1000000):fnVC T Tryz.prog Tryz.f242 [.sl (l.map vcV), .fn g [.fp c, .fp d]] (I (fstI Q l)):=by
 have hll:(l.map vcV).length=l.length:=Ae
 repeat' ((conv=>whnf);first|refine zS ?_|fail)
 refine aU (A:=List Vc) (B:=List Vc) (fun D R=>mkSt [(0, .sl (l.map vcV)),(1, .fn g [.fp c, .fp d]),(7,I l.length),(8,I D.length)] [] [])
  (fun D R=>l=D++R/\∀m∈D,¬Q m) (fun D R=>R.length) [] l ?_ ⟨rfl,Ae⟩ (fun D R hp=>?_)
 ·exact zj
 ·exact Io
theorem dW6{g:FuncId}{c d:List V}{Q:Vc->Prop}(hg:∀m,Sp g (vcV m:: [.fp c, .fp d]) (DB (Q m)))(l:List Vc)(hl:l.length<=1000000):Sp 242 [.sl (l.map vcV), .fn g [.fp c, .fp d]] (I (fstI Q l)):=zsp Tryz.func242 (fD3 hg l hl)
theorem eY5{g:FuncId}{c d:List V}{Q:Vc->Prop}(hg:∀m,Sp g (vcV m:: [.fp c, .fp d]) (DB (Q m)))(l:List Vc)(hl:l.length<=1000000):fnVC T Tryz.prog Tryz.f205 [.sl (l.map vcV), .fn g [.fp c, .fp d]] (DB (∃m∈l,Q m)):=by
 repeat' ((conv=>whnf);first|refine zc (dW6 hg l hl) ?_|refine zS ?_|fail)
 exact MV
theorem dV5{g:FuncId}{c d:List V}{Q:Vc->Prop}(hg:∀m,Sp g (vcV m:: [.fp c, .fp d]) (DB (Q m)))(l:List Vc)(hl:l.length<=1000000):Sp 205 [.sl (l.map vcV), .fn g [.fp c, .fp d]] (DB (∃m∈l,Q m)):=zsp Tryz.func205 (eY5 hg l hl)
theorem cY2(b:Sh)(n:Int)(hb:gV b)(v:Vc):Sp 232 [vcV v, .fp (shV b).cells, .fp [I n]] (DB (lJ b v=n)):=by
 refine zsp Tryz.func232 ?_
 repeat' ((conv=>whnf);first|refine zc (aD4 b v hb) ?_|refine zS ?_|fail)
 all_goals conv=>whnf
 all_goals exact aA eqB_d
def rV(s:Sh):List Vc:=(rings s).flatten
theorem cH3{s:Sh}(hs:gV s)(h7:s.holes.length<=6):(rV s).length<=7000000:=by
 have h1:=dH9 (rings s) (fun r hr=>hs.mem hr);have h4:(rings s).length=s.holes.length+1:=Bl
 unfold rV;omega
def bL9(a b:Sh)(n:Int):Prop:=∃v∈rV a,lJ b v=n
theorem bK5(a b:Sh)(n:Int)(ha:gV a)(h7:a.holes.length<=6)(hb:gV b)(hl:(rV a).length<=1000000):Sp 192 [shV a,shV b,I n] (DB (bL9 a b n)):=by
 refine zsp Tryz.func192 ?_
 repeat' ((conv=>whnf);first|refine zc (aJ3 a ha h7) ?_|refine zc (dV5 (fun v=>cY2 b n hb v) (rV a) hl) ?_|refine zS ?_|fail)
 all_goals conv=>whnf
 all_goals exact aA rfl
end Go.Proofs.Led
