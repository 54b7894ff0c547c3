/- Lemmas. -/
import Derived.Test.YtcmgfjaiegpddaaGreatB19
import Derived.Test.YtcmgfjaiegpddaaGreatB22
set_option linter.all false
set_option maxRecDepth 100000
set_option maxHeartbeats 8000000
noncomputable section
namespace Go.Proofs.Led
open Go Go.Proofs Go.Ab Tryz
def nilR(p:Nat->Bool)(cs:List V):Nat->List V:=List.rec (motive:=λ_=>Nat->List V) (λ_=> []) (λx _ ih j=>cond (p j) (nil1 x) x::ih (j+1)) cs
theorem nilR_get(p:Nat->Bool):∀(cs:List V) (j i:Nat),(nilR p cs j)[i]? =(cs[i]?).map λx=>cond (p (j+i)) (nil1 x) x
 | [],j,i=>by simp[nilR]
 |x::cs,j,0=>rfl
 |x::cs,j,i+1=>by
  have:=nilR_get p cs (j+1) i;rw[show j+1+i=j+(i+1) from Aa]at this;exact this
theorem nilR_len(p:Nat->Bool):∀(cs:List V) (j:Nat),(nilR p cs j).length=cs.length
 | [],_=>rfl
 |x::cs,j=>by
  show(nilR p cs (j+1)).length+1=_;rw[nilR_len p cs (j+1)];rfl
def nilBx(p:Nat->Bool)(σ:St):St:=⟨σ.env,λj=>match σ.bx j with|some cs=>some (nilR p cs 0)|none=>none,σ.ar⟩
def nilBx_has{p:Nat->Bool}{σ:St}{j:Nat}(h:σ.hasB j):(nilBx p σ).hasB j:=by
 obtain⟨cs,h⟩:=h;exact⟨nilR p cs 0,by show(match σ.bx j with|some cs=>some (nilR p cs 0)|none=>none)=_;rw[h]⟩
def nilBx_get{p:Nat->Bool}{σ:St}{j:Nat}{cs:List V}(h:(nilBx p σ).bx j=some cs):∃a,σ.bx j=some a/\cs=nilR p a 0:=by
 have h:(match σ.bx j with|some cs=>some (nilR p cs 0)|none=>none)=some cs:=h;split at h;rename_i c b;cases h;exact⟨c,b,rfl⟩;cases h
def le_nilBx(p:Nat->Bool)(σ:St):Le T σ (nilBx p σ):=by
 unfold Le;intro Φ a w G inv
 refine⟨G,{inv with
  wfE:=λs=>V.ok.imp (λ_ h=>nilBx_has h) (λ_ _ h=>h) _ (inv.wfE s)
  box:=λi cs h=>?_
  wfB:=λi cs h=>?_
  argb:=λi b h=>?_}⟩
 obtain⟨k,l,rfl⟩:=nilBx_get h;obtain⟨c,t,m,g,n⟩:=inv.box i k l;refine⟨c,t,m,?_,n⟩;refine⟨by have:=g.len;rw[nilR_len];exact this,g.one,λj v x hv d=>?_⟩;rw[nilR_get]at d;cases e:k[j]? with
 |none=>rw[e]at d;cases d
 |some y=>
  rw[e]at d;have d:cond (p (0+j)) (nil1 y) y=x:=Q5 d;subst d;cases p (0+j)
  exact g.rel j v y hv e;exact dC4 (g.rel j v y hv e)
 obtain⟨k,l,rfl⟩:=nilBx_get h;have:=inv.wfB i k l
 exact aH.2 λx d=>by
  obtain⟨j,f⟩:=P7 d;rw[nilR_get]at f;cases e:k[j]? with
  |none=>rw[e]at f;cases f
  |some y=>
   rw[e]at f;have f:cond (p (0+j)) (nil1 y) y=x:=Q5 f;subst f;have o:=aH.1 this y (Pn e);refine V.ok.imp (λ_ h=>nilBx_has h) (λ_ _ h=>h) _ ?_;cases p (0+j)
   exact o;exact eM7 o
 obtain⟨m,g,n⟩:=inv.argb i b h;exact⟨m,g,nilBx_has n⟩
def isShB(j:Nat):Bool:=Nat.ble 3 j&&Nat.blt j 15
def POpt{α:Type}(c:Cod α)(z:α)(l:List Int)(s:α):Prop:=(l=[]/\s=z)\/(l≠ []/\c.at l 0=some (s,l.length))
def at_all{d:Type}{c:Cod d}{l:List Int}{s:d}:c.at l 0=some (s,l.length)↔l=c.enc s/\c.rng s/\c.ok s:=by
 rw[Cod.at_iff];constructor;rintro⟨e,a,b⟩;rw[SI,List.drop_length,Pz]at a;exact⟨a,b⟩;rintro⟨a,b⟩;refine⟨by rw[<-a];omega,?_,b⟩;rw[SI,List.drop_length,Pz];exact a
def popt_iff{d:Type}{c:Cod d}{z:d}(j:¬c.ok z)(i:c.rng z)(h:∀x,c.enc x≠ []){l:List Int}{s:d}:POpt c z l s↔l=optE c z s/\c.rng s/\(s=z\/c.ok s):=by
 unfold POpt;constructor;rintro(⟨rfl,rfl⟩|⟨n,b⟩);exact⟨(optE_t rfl).symm,i, .inl rfl⟩;obtain⟨k,m,f⟩:=at_all.1 b;have a:s≠z:=λe=>j (by rw[<-e];exact f);exact⟨by rw[optE_f a];exact k,m, .inr f⟩;rintro⟨rfl,b,g⟩;by_cases a:s=z;exact .inl ⟨optE_t a,a⟩;refine .inr ⟨by rw[optE_f a];exact h s,?_⟩;rw[optE_f a];exact at_all.2 ⟨rfl,b,g.resolve_left a⟩
def no_valid0:¬cSheet.ok dN:=λh=>by
 have h:=h.2;have h:dB dN:=h;have:=h.1.1;exact absurd this Ai
def no_validB0:¬cBar.ok bar0:=λh=>by
 have h:fM bar0:=h.2;have:=h.1.1;exact absurd this Ai
def rng0:cSheet.rng dN:=by
 refine⟨trivial,⟨Ai,Ai⟩,?_,?_,⟨Ai,Ai⟩,⟨⟨Ai,λ_ h=>Ag⟩,Ai,λ_ h=>Ag⟩,Ai,λ_ h=>Ag⟩;all_goals exact⟨trivial,Ai,λ_ _=>trivial⟩
def rngB0:cBar.rng bar0:=by
 refine⟨trivial,⟨Ai,Ai⟩,?_,?_,⟨Ai,Ai⟩,Ai,λ_ h=>Ag⟩;all_goals exact⟨trivial,Ai,λ_ _=>trivial⟩
abbrev cEvP(m:Int):Cod (Int×Int×ByteArray×List Int×List Int×List Made×List Rest×Int):=
 cI.pair (cI.pair ((cText 16).pair ((cBytes m).pair ((cBytes m).pair ((cMade.list 60).pair ((cRest.list 6).pair cI))))))
def ev_at{m:Int}{b:List Int}{k e:Nat}{x:Event}:(cEvent m).at b k=some (x,e)↔
 ∃i j,(cEvP m).at b k=some ((x.kind,x.id,x.text,i,j,x.cuts,x.rests,x.scrap),e)/\POpt cSheet dN i x.sheet/\POpt cBar bar0 j x.bar/\iD x:=by
 rw[Cod.at_iff];constructor
 ·rintro⟨d,f,⟨_,u,v,w,⟨H,a⟩,⟨I,c⟩,y,z,A⟩,⟨o1,o2,l,⟨n,o⟩,⟨p,q⟩,r,s,t⟩,g⟩
  refine⟨optE cSheet dN x.sheet,optE cBar bar0 x.bar,(Cod.at_iff _).2 ⟨d,f,⟨u,v,w,a,c,y,z,A⟩,o1,o2,l,n,p,r,s,t⟩,(popt_iff no_valid0 rng0 cSheet_ne).2 ⟨rfl,H,o⟩,(popt_iff no_validB0 rngB0 cBar_ne).2 ⟨rfl,I,q⟩,g⟩
 ·rintro⟨i,j,h,C,B,g⟩
  obtain⟨rfl,F,G⟩:=(popt_iff no_valid0 rng0 cSheet_ne).1 C;obtain⟨rfl,D,E⟩:=(popt_iff no_validB0 rngB0 cBar_ne).1 B;obtain⟨d,f,⟨u,v,w,a,c,y,z,A⟩,o1,o2,l,n,p,r,s,t⟩:=(Cod.at_iff _).1 h;exact⟨d,f,⟨trivial,u,v,w,⟨F,a⟩,⟨D,c⟩,y,z,A⟩,⟨o1,o2,l,⟨n,G⟩,⟨p,E⟩,r,s,t⟩,g⟩
theorem made_at{b:List Int}{k e:Nat}{x:Made}:cMade.at b k=some (x,e)↔(cI.pair ((cText 16).pair cI)).at b k=some ((x.id,x.part,x.size),e):=II
theorem rest_at{b:List Int}{k e:Nat}{x:Rest}:cRest.at b k=some (x,e)↔(cI.pair ((cVec.pair cVec).pair (cI.pair cI))).at b k=some ((x.id,x.box,x.lo,x.hi),e):=II
def Stp.made{b:List Int}{k l n m:Nat}{f d g c:Bool}{i z:Int}{p:ByteArray}(o:Stp cI b k f i l d)(r:Stp (cText 16) b l d p n g)(s:Stp cI b n g z m c):Stp cMade b k f ⟨i,p,z⟩ m c:=by
 have h:=o.pair (r.pair s);refine⟨h.1,λq=>⟨(h.2.1 q).1,made_at.2 (h.2.1 q).2⟩,λq=>(h.2.2 q).imp id λe=>at_none_of λx j a=>?_⟩;rw[made_at,e]at a;cases a
def Stp.rest{b:List Int}{k o p r s m:Nat}{f d g l n c:Bool}{i lo hi:Int}{u v:Vc}(t:Stp cI b k f i o d)(w:Stp cVec b o d u p g)(y:Stp cVec b p g v r l)(z:Stp cI b r l lo s n)(A:Stp cI b s n hi m c):Stp cRest b k f ⟨i,(u,v),lo,hi⟩ m c:=by
 have h:=t.pair ((w.pair y).pair (z.pair A));refine⟨h.1,λq=>⟨(h.2.1 q).1,rest_at.2 (h.2.1 q).2⟩,λq=>(h.2.2 q).imp id λe=>at_none_of λx j a=>?_⟩;rw[rest_at,e]at a;cases a
def mBy_step(M:Int){b:List Int}{k:Nat}(d:Byt b)(a:k<=b.length)(f:Bool):∃(l:List Int) (m:Nat) (i:Bool),Byt l/\Stp (cBytes M) b k f l m i/\SpB 44 [.box 100000 0,I M] [rdC b k f] (.sl (l.map byV)) [rdC b m i] :=by
 have g:Byt [] :=⟨λ_ h=>Ag,Ai⟩;cases f;cases e:(cBytes M).at b k with
 |none=>exact⟨[],k,true,g,⟨a,λh=>Ag,λ_=> .inr e⟩,(mBy M).n d a e⟩
 |some p=>
  refine⟨p.1,p.2,false,?_,⟨(Cod.at_le e a).2,λ_=>⟨rfl,e⟩,λh=>Ag⟩,(mBy M).y d a e⟩;obtain⟨n,q,r,t,j,_⟩:=(cBytes_at d a).1 (show(cBytes M).at b k=some (p.1,p.2)from e);have u:=d.len;refine⟨λc o=>d.drop q c (by rw[j]at o;exact PO o),?_⟩;rw[j,PG,Qm];omega
 exact⟨[],k,true,g,⟨a,λh=>Ag,λ_=> .inl rfl⟩,(mBy M).s d a⟩
def dSheet_cases{l:List Int}(a:Byt l):(∃s,cSheet.at l 0=some (s,l.length)/\Sp 45 [.sl (l.map byV)] (.tup [zJ s,I 0]))\/((∀s,cSheet.at l 0≠some (s,l.length))/\Sp 45 [.sl (l.map byV)] (.tup [zJ dN,I 4])):=by
 by_cases h:∃s,cSheet.at l 0=some (s,l.length);obtain⟨s,h⟩:=h;refine .inl ⟨s,h,zsp func45 (dSheet_vc a _ (λb e=>?_) (λe=>absurd h (e s)))⟩;rw[h]at e;cases e;rfl;have h:∀s,cSheet.at l 0≠some (s,l.length):=λs e=>h ⟨s,e⟩;exact .inr ⟨h,zsp func45 (dSheet_vc a _ (λb e=>absurd e (h b)) (λ_=>rfl))⟩
def dBar_cases{l:List Int}(a:Byt l):(∃s,cBar.at l 0=some (s,l.length)/\Sp 46 [.sl (l.map byV)] (.tup [barV s,I 0]))\/((∀s,cBar.at l 0≠some (s,l.length))/\Sp 46 [.sl (l.map byV)] (.tup [barV bar0,I 4])):=by
 by_cases h:∃s,cBar.at l 0=some (s,l.length);obtain⟨s,h⟩:=h;refine .inl ⟨s,h,zsp func46 (dBar_vc a _ (λb e=>?_) (λe=>absurd h (e s)))⟩;rw[h]at e;cases e;rfl;have h:∀s,cBar.at l 0≠some (s,l.length):=λs e=>h ⟨s,e⟩;exact .inr ⟨h,zsp func46 (dBar_vc a _ (λb e=>absurd e (h b)) (λ_=>rfl))⟩
abbrev nlV:V:= .lit (.slice none 0 0)
abbrev evCl(kd id:Int)(tx:ByteArray)(s:jL)(y:Bar)(c r:V)(sc:Int):List V:=[I kd,I id,S tx,I s.id,S s.grade,S s.heat,I s.grain,rgV s.shape.outer, .sl (s.shape.holes.map rgV), .sl (s.defects.map shV),I y.id,S y.grade,S y.heat,I y.length, .sl (y.defects.map ivV),c,r,I sc]
abbrev evZ:List V:=evCl 0 0 aI dN bar0 nlV nlV 0
abbrev evZ1:List V:=evCl 0 0 aI dN bar0 (.sl []) nlV 0
abbrev evZ2:List V:=evCl 0 0 aI dN bar0 (.sl []) (.sl []) 0
def event0:Event:=⟨0,0,aI,dN,bar0,[],[],0⟩
def isMdB(j:Nat):Bool:=Nat.beq j 15
def isRsB(j:Nat):Bool:=Nat.beq j 16
def isBaB(j:Nat):Bool:=Nat.ble 3 j&&Nat.blt j 15
def popt_inj{e:Type}{c:Cod e}{z:e}{l:List Int}{s f:e}(h:POpt c z l s)(b:POpt c z l f):s=f:=by
 rcases h with⟨a,rfl⟩|⟨a,h⟩<;>rcases b with⟨d,rfl⟩|⟨d,b⟩
 rfl;exact absurd a d;exact absurd d a;rw[h]at b;exact PN Prod.fst (Q5 b)
def evS1(b:List Int)(kd id:Int)(tx:ByteArray)(s:jL)(y:Bar)(g:Bool)(n k:Nat)(f:Bool):List Made->St
 | [] =>mkSt [(2, .box 2 0),(3,I 0),(4, .box 14 0),(5, .box 5 0),(8,B g),(54,I n),(55,I 0)] [(2,evZ),(14,rdC b k f),(5,evCl kd id tx s y nlV nlV 0)] []
 |d::D=>mkSt [(2, .box 2 0),(3,I 0),(4, .box 14 0),(5, .box 5 0),(8,B g),(54,I n),(55,I (D.length+1))] [(2,evZ),(14,rdC b k f),(5,evCl kd id tx s y (.arr 67 D.length) nlV 0)] [(67,⟨D.length, .own,82,(d::D).map dK⟩)]
def evS2(b:List Int)(kd id:Int)(tx:ByteArray)(s:jL)(y:Bar)(C:List Made)(g:Bool)(n k:Nat)(f:Bool):List Rest->St
 | [] =>mkSt [(2, .box 2 0),(3,I 0),(4, .box 14 0),(5, .box 5 0),(8,B g),(71,I n),(72,I 0)] [(2,evZ1),(14,rdC b k f),(5,evCl kd id tx s y (.sl (C.map dK)) nlV 0)] []
 |d::D=>mkSt [(2, .box 2 0),(3,I 0),(4, .box 14 0),(5, .box 5 0),(8,B g),(71,I n),(72,I (D.length+1))] [(2,evZ1),(14,rdC b k f),(5,evCl kd id tx s y (.sl (C.map dK)) (.arr 89 D.length) 0)] [(89,⟨D.length, .own,88,(d::D).map bY⟩)]
def dEvent_vc{b:List Int}(f:Byt b)(r:V)(hy:∀x,(cEvent 200000).at b 0=some (x,b.length)->r= .tup [aS x,I 0])(hn:(∀x,(cEvent 200000).at b 0≠some (x,b.length))->r= .tup [aS event0,I 4]):fnVC T Tryz.prog Tryz.f11 [.sl (b.map byV)] r:=by
 have g0:=new_spec b f.len;obtain⟨g,k1,f1,s1,g1⟩:=mInt.step 0 rfl f (P8 _) false;obtain⟨id,k2,f2,s2,g2⟩:=mInt.step 0 rfl f s1.1 f1;obtain⟨j,k3,f3,s3,g3⟩:=(mTx 16).step aI rfl f s2.1 f2;obtain⟨E,k4,f4,b1,s4,g4⟩:=mBy_step 200000 f s3.1 f3;obtain⟨u,k5,f5,b2,s5,g5⟩:=mBy_step 200000 f s4.1 f4;have ad:(E.map byV).length=E.length:=Af;have ae:(u.map byV).length=u.length:=Af;all_goals conv=>whnf
 refine eY7 ?_;repeat' ((conv=>whnf);first|omega|refine zU ?_|refine zd (λhd=>?_) (λhd=>?_)|refine zl (λhlt=>?_) (λhlt=>?_)|refine zk (λhle=>?_) (λhle=>?_)|refine ze (λheq=>?_) (λheq=>?_)|refine zm (λx hx=>?_)|refine zb (λhbb=>?_) (λhbb=>?_))
 refine eY7 ?_;repeat' ((conv=>whnf);first|(refine call_n g0 ⟨rfl,trivial⟩ rfl rfl ?_)|refine zU ?_|refine zd (λhd=>?_) (λhd=>?_)|refine zl (λhlt=>?_) (λhlt=>?_)|refine zk (λhle=>?_) (λhle=>?_)|refine ze (λheq=>?_) (λheq=>?_)|refine zm (λx hx=>?_)|refine zb (λhbb=>?_) (λhbb=>?_))
 refine eY7 ?_;repeat' ((conv=>whnf);first|refine zh (g1) [14] ?_|refine zh (g2) [14] ?_|refine zh (g3) [14] ?_|refine zU ?_|refine zd (λhd=>?_) (λhd=>?_)|refine zl (λhlt=>?_) (λhlt=>?_)|refine zk (λhle=>?_) (λhle=>?_)|refine ze (λheq=>?_) (λheq=>?_)|refine zm (λx hx=>?_)|refine zb (λhbb=>?_) (λhbb=>?_))
 refine eY7 ?_;repeat' ((conv=>whnf);first|refine zh (g4) [14] ?_|refine zh (g5) [14] ?_|refine zU ?_|refine zd (λhd=>?_) (λhd=>?_)|refine zl (λhlt=>?_) (λhlt=>?_)|refine zk (λhle=>?_) (λhle=>?_)|refine ze (λheq=>?_) (λheq=>?_)|refine zm (λx hx=>?_)|refine zb (λhbb=>?_) (λhbb=>?_))
 refine eY7 ?_;repeat' ((conv=>whnf);first|omega|refine zU ?_|refine zd (λhd=>?_) (λhd=>?_)|refine zl (λhlt=>?_) (λhlt=>?_)|refine zk (λhle=>?_) (λhle=>?_)|refine ze (λheq=>?_) (λheq=>?_)|refine zm (λx hx=>?_)|refine zb (λhbb=>?_) (λhbb=>?_))
 all_goals conv=>whnf
 refine dJ4 (jL×Bool) (λp=>mkSt [(2, .box 2 0),(3,I 0),(4, .box 14 0),(5, .box 5 0),(7, .sl (u.map byV)),(8,B p.2)] [(2,evZ),(14,rdC b k5 f5),(5,evCl g id j p.1 bar0 nlV nlV 0)] []) (λp=>(p.2=true/\POpt cSheet dN E p.1)\/(p.2=false/\∀s,¬POpt cSheet dN E s)) ?_ ?_
 ·by_cases l:E=[]
  ·have K:E.length=0:=by rw[l];rfl
   repeat' ((conv=>whnf);first|omega|refine zS ?_|refine zd (λhd=>?_) (λhd=>?_)|refine zl (λhlt=>?_) (λhlt=>?_)|refine zk (λhle=>?_) (λhle=>?_)|refine ze (λheq=>?_) (λheq=>?_)|refine zm (λx hx=>?_)|refine zb (λhbb=>?_) (λhbb=>?_))
   all_goals conv=>whnf
   refine⟨(dN,true),Le.trans (le_nilBx isShB _) ?_, .inl ⟨rfl, .inl ⟨l,rfl⟩⟩⟩;exact zj
  have K:0<E.length:=Rw.2 l;rcases dSheet_cases b1 with⟨s,e,gs⟩|⟨e,gs⟩
  ·repeat' ((conv=>whnf);first|omega|refine zS ?_|refine zd (λhd=>?_) (λhd=>?_)|refine zl (λhlt=>?_) (λhlt=>?_)|refine zk (λhle=>?_) (λhle=>?_)|refine ze (λheq=>?_) (λheq=>?_)|refine zm (λx hx=>?_)|refine zb (λhbb=>?_) (λhbb=>?_))
   all_goals conv=>whnf
   rw[show eqB (0:Int) 0=true by simp[aA1]];refine⟨(s,true),Le.trans (le_nilBx isShB _) ?_, .inl ⟨rfl, .inr ⟨l,e⟩⟩⟩;exact zj
  repeat' ((conv=>whnf);first|omega|refine zS ?_|refine zd (λhd=>?_) (λhd=>?_)|refine zl (λhlt=>?_) (λhlt=>?_)|refine zk (λhle=>?_) (λhle=>?_)|refine ze (λheq=>?_) (λheq=>?_)|refine zm (λx hx=>?_)|refine zb (λhbb=>?_) (λhbb=>?_))
  all_goals conv=>whnf
  rw[show eqB (4:Int) 0=false by rw[Bool.eq_false_iff];simp[aA1]];refine⟨(dN,false),Le.trans (le_nilBx isShB _) ?_, .inr ⟨rfl,λs h=>by rcases h with⟨a,_⟩|⟨_,a⟩;exact l a;exact e s a⟩⟩;exact zj
 rintro⟨s,F⟩ hs;all_goals conv=>whnf
 refine dJ4 (Bar×Bool) (λp=>mkSt [(2, .box 2 0),(3,I 0),(4, .box 14 0),(5, .box 5 0),(8,B p.2)] [(2,evZ),(14,rdC b k5 f5),(5,evCl g id j s p.1 nlV nlV 0)] []) (λp=>(p.2=true/\F=true/\POpt cBar bar0 u p.1)\/(p.2=false/\(F=false\/∀y,¬POpt cBar bar0 u y))) ?_ ?_
 ·by_cases l:u=[]
  ·have K:u.length=0:=by rw[l];rfl
   repeat' ((conv=>whnf);first|omega|refine zS ?_|refine zd (λhd=>?_) (λhd=>?_)|refine zl (λhlt=>?_) (λhlt=>?_)|refine zk (λhle=>?_) (λhle=>?_)|refine ze (λheq=>?_) (λheq=>?_)|refine zm (λx hx=>?_)|refine zb (λhbb=>?_) (λhbb=>?_))
   all_goals conv=>whnf
   refine⟨(bar0,F),Le.trans (le_nilBx isBaB _) ?_,?_⟩;exact zj;cases F;exact .inr ⟨rfl, .inl rfl⟩;exact .inl ⟨rfl,rfl, .inl ⟨l,rfl⟩⟩
  have K:0<u.length:=Rw.2 l;rcases dBar_cases b2 with⟨y,e,gy⟩|⟨e,gy⟩
  ·repeat' ((conv=>whnf);first|omega|refine zS ?_|refine zd (λhd=>?_) (λhd=>?_)|refine zl (λhlt=>?_) (λhlt=>?_)|refine zk (λhle=>?_) (λhle=>?_)|refine ze (λheq=>?_) (λheq=>?_)|refine zm (λx hx=>?_)|refine zb (λhbb=>?_) (λhbb=>?_))
   all_goals conv=>whnf
   have X:F=true:=hbb;rw[show eqB (0:Int) 0=true by simp[aA1]];refine⟨(y,true),Le.trans (le_nilBx isBaB _) ?_, .inl ⟨rfl,X, .inr ⟨l,e⟩⟩⟩;exact zj;have X:F=false:=hbb;refine⟨(y,false),Le.trans (le_nilBx isBaB _) ?_, .inr ⟨rfl, .inl X⟩⟩;exact zj
  repeat' ((conv=>whnf);first|omega|refine zS ?_|refine zd (λhd=>?_) (λhd=>?_)|refine zl (λhlt=>?_) (λhlt=>?_)|refine zk (λhle=>?_) (λhle=>?_)|refine ze (λheq=>?_) (λheq=>?_)|refine zm (λx hx=>?_)|refine zb (λhbb=>?_) (λhbb=>?_))
  all_goals conv=>whnf
  rw[show eqB (4:Int) 0=false by rw[Bool.eq_false_iff];simp[aA1]];refine⟨(bar0,false),Le.trans (le_nilBx isBaB _) ?_, .inr ⟨rfl, .inr λy h=>by rcases h with⟨a,_⟩|⟨_,a⟩;exact l a;exact e y a⟩⟩;exact zj;have X:F=false:=hbb;refine⟨(bar0,false),Le.trans (le_nilBx isBaB _) ?_, .inr ⟨rfl, .inl X⟩⟩;exact zj
 rintro⟨y,q2⟩ N;obtain⟨n,k6,f6,af,s6,g6⟩:=mBd_step (M:=60) Ai f s5.1 f5;all_goals conv=>whnf
 refine dJ4 (List Made×Nat×Bool) (λp=>mkSt [(2, .box 2 0),(3,I 0),(4, .box 14 0),(5, .box 5 0),(8,B q2)] [(2,evZ1),(14,rdC b p.2.1 p.2.2),(5,evCl g id j s y (.sl (p.1.map dK)) nlV 0)] []) (λp=>Stp (cMade.list 60) b k5 f5 p.1 p.2.1 p.2.2) ?_ ?_
 ·refine eY7 ?_
  repeat' ((conv=>whnf);first|omega|refine zh (g6) [14] ?_|refine zU ?_|refine zd (λhd=>?_) (λhd=>?_)|refine zl (λhlt=>?_) (λhlt=>?_)|refine zk (λhle=>?_) (λhle=>?_)|refine ze (λheq=>?_) (λheq=>?_)|refine zm (λx hx=>?_)|refine zb (λhbb=>?_) (λhbb=>?_))
  all_goals conv=>whnf
  refine lD (A:=List Made×Nat×Bool) (λp=>match p with|(D,m,f')=>evS1 b g id j s y q2 n m f' D) (λp=>p.1.length<=n/\RStp cMade b k6 f6 p.1 p.2.1 p.2.2) (λp=>n-p.1.length) ([],k6,f6) ?_ ⟨P8 _,RStp.nil _ s6.1 _⟩ ?_;show Le T _ (mkSt _ _ _);exact zj;rintro⟨D,m,f'⟩ ⟨hD,w⟩;simp only at hD w;by_cases c:D.length=n
  ·have hS:=Stp.list f s5.1 Ai s6 w c
   cases D with
   |nil=>
    have L:n=0:=c.symm;all_goals conv=>whnf
    repeat' ((conv=>whnf);first|omega|refine zS ?_|refine zd (λhd=>?_) (λhd=>?_)|refine zl (λhlt=>?_) (λhlt=>?_)|refine zk (λhle=>?_) (λhle=>?_)|refine ze (λheq=>?_) (λheq=>?_)|refine zm (λx hx=>?_)|refine zb (λhbb=>?_) (λhbb=>?_))
    all_goals conv=>whnf
    refine⟨([],m,f'),Le.trans (le_nilBx isMdB _) ?_,hS⟩;exact zj
   |cons d D=>
    have L:n=D.length+1:=c.symm;all_goals conv=>whnf
    repeat' ((conv=>whnf);first|omega|refine zS ?_|refine zd (λhd=>?_) (λhd=>?_)|refine zl (λhlt=>?_) (λhlt=>?_)|refine zk (λhle=>?_) (λhle=>?_)|refine ze (λheq=>?_) (λheq=>?_)|refine zm (λx hx=>?_)|refine zb (λhbb=>?_) (λhbb=>?_))
    all_goals conv=>whnf
    refine⟨(d::D,m,f'),Le.trans (le_nilBx isMdB _) (Le.trans (fB (k:=67) rfl (.inl rfl)) ?_),hS⟩;exact zj
  obtain⟨i,m1,H,t1,u1⟩:=mInt.step 0 rfl f w.1 f';obtain⟨O,m2,J,t2,u2⟩:=(mTx 16).step aI rfl f t1.1 H;obtain⟨z,m3,v,t3,u3⟩:=mInt.step 0 rfl f t2.1 J;have o:=w.snoc (t1.made t2 t3);cases D with
  |nil=>
   have S:0<n:=Gz;all_goals conv=>whnf
   repeat' ((conv=>whnf);first|omega|refine bW8 [(5,5),(57,5),(68,5)] [(60,[14]),(62,[14]),(64,[14])] Ae Ak ?_|refine zh (u1) [14] ?_|refine zh (u2) [14] ?_|refine zh (u3) [14] ?_|refine gX (OZ rfl) (dA rfl) AX ?_|refine zS ?_|refine zd (λhd=>?_) (λhd=>?_)|refine zl (λhlt=>?_) (λhlt=>?_)|refine zk (λhle=>?_) (λhle=>?_)|refine ze (λheq=>?_) (λheq=>?_)|refine zm (λx hx=>?_)|refine zb (λhbb=>?_) (λhbb=>?_))
   all_goals conv=>whnf
   refine⟨([⟨i,O,z⟩],m3,v),?_,⟨S,o⟩,F6⟩;show Le T _ (mkSt _ _ _);exact zj
  |cons d D=>
   have S:D.length+1<n:=F7;have hl:((d::D).map dK).length=D.length+1:=Af;have ec:(d::(D++[(⟨i,O,z⟩:Made)])).map dK=(d::D).map dK++[dK ⟨i,O,z⟩] :=Af;have G:(D++[(⟨i,O,z⟩:Made)]).length=D.length+1:=Af;all_goals conv=>whnf
   repeat' ((conv=>whnf);first|omega|refine bW8 [(5,5),(57,5),(68,5)] [(60,[14]),(62,[14]),(64,[14])] Ae Ak ?_|refine zh (u1) [14] ?_|refine zh (u2) [14] ?_|refine zh (u3) [14] ?_|refine iH rfl (.inl rfl) rfl (OZ rfl) (dA rfl) (by show((d::D).map dK).length+1<=1000000000;omega) ?_|refine zS ?_|refine zd (λhd=>?_) (λhd=>?_)|refine zl (λhlt=>?_) (λhlt=>?_)|refine zk (λhle=>?_) (λhle=>?_)|refine ze (λheq=>?_) (λheq=>?_)|refine zm (λx hx=>?_)|refine zb (λhbb=>?_) (λhbb=>?_))
   all_goals conv=>whnf
   refine⟨(d::(D++[(⟨i,O,z⟩:Made)]),m3,v),?_,⟨by show(D++[(⟨i,O,z⟩:Made)]).length+1<=n;rw[G];omega,o⟩,by show n- ((D++[(⟨i,O,z⟩:Made)]).length+1)<n- (D.length+1);rw[G];omega⟩;show Le T _ (mkSt _ _ _);rw[ec,G];exact zj
 rintro⟨C,k7,f7⟩ s7;obtain⟨n,k8,f8,ag,s8,g8⟩:=mBd_step (M:=6) Ai f s7.1 f7;all_goals conv=>whnf
 refine dJ4 (List Rest×Nat×Bool) (λp=>mkSt [(2, .box 2 0),(3,I 0),(4, .box 14 0),(5, .box 5 0),(8,B q2)] [(2,evZ2),(14,rdC b p.2.1 p.2.2),(5,evCl g id j s y (.sl (C.map dK)) (.sl (p.1.map bY)) 0)] []) (λp=>Stp (cRest.list 6) b k7 f7 p.1 p.2.1 p.2.2) ?_ ?_
 ·refine eY7 ?_
  repeat' ((conv=>whnf);first|omega|refine zh (g8) [14] ?_|refine zU ?_|refine zd (λhd=>?_) (λhd=>?_)|refine zl (λhlt=>?_) (λhlt=>?_)|refine zk (λhle=>?_) (λhle=>?_)|refine ze (λheq=>?_) (λheq=>?_)|refine zm (λx hx=>?_)|refine zb (λhbb=>?_) (λhbb=>?_))
  all_goals conv=>whnf
  refine lD (A:=List Rest×Nat×Bool) (λp=>match p with|(D,m,f')=>evS2 b g id j s y C q2 n m f' D) (λp=>p.1.length<=n/\RStp cRest b k8 f8 p.1 p.2.1 p.2.2) (λp=>n-p.1.length) ([],k8,f8) ?_ ⟨P8 _,RStp.nil _ s8.1 _⟩ ?_;show Le T _ (mkSt _ _ _);exact zj;rintro⟨D,m,f'⟩ ⟨hD,w⟩;simp only at hD w;by_cases c:D.length=n
  ·have hS:=Stp.list f s7.1 Ai s8 w c
   cases D with
   |nil=>
    have L:n=0:=c.symm;all_goals conv=>whnf
    repeat' ((conv=>whnf);first|omega|refine zS ?_|refine zd (λhd=>?_) (λhd=>?_)|refine zl (λhlt=>?_) (λhlt=>?_)|refine zk (λhle=>?_) (λhle=>?_)|refine ze (λheq=>?_) (λheq=>?_)|refine zm (λx hx=>?_)|refine zb (λhbb=>?_) (λhbb=>?_))
    all_goals conv=>whnf
    refine⟨([],m,f'),Le.trans (le_nilBx isRsB _) ?_,hS⟩;exact zj
   |cons d D=>
    have L:n=D.length+1:=c.symm;all_goals conv=>whnf
    repeat' ((conv=>whnf);first|omega|refine zS ?_|refine zd (λhd=>?_) (λhd=>?_)|refine zl (λhlt=>?_) (λhlt=>?_)|refine zk (λhle=>?_) (λhle=>?_)|refine ze (λheq=>?_) (λheq=>?_)|refine zm (λx hx=>?_)|refine zb (λhbb=>?_) (λhbb=>?_))
    all_goals conv=>whnf
    refine⟨(d::D,m,f'),Le.trans (le_nilBx isRsB _) (Le.trans (fB (k:=89) rfl (.inl rfl)) ?_),hS⟩;exact zj
  obtain⟨i,m1,H,t1,u1⟩:=mInt.step 0 rfl f w.1 f';obtain⟨P,m2,J,t2,u2⟩:=mVc.step z0 rfl f t1.1 H;obtain⟨vb,m3,v,t3,u3⟩:=mVc.step z0 rfl f t2.1 J;obtain⟨lo,m4,aa,t4,u4⟩:=mInt.step 0 rfl f t3.1 v;obtain⟨hi,m5,W,t5,u5⟩:=mInt.step 0 rfl f t4.1 aa;have o:=w.snoc (t1.rest t2 t3 t4 t5);cases D with
  |nil=>
   have S:0<n:=Gz;all_goals conv=>whnf
   repeat' ((conv=>whnf);first|omega|refine bW8 [(5,5),(74,5),(90,5)] [(77,[14]),(79,[14]),(81,[14]),(84,[14]),(86,[14])] Ae Ak ?_|refine zh (u1) [14] ?_|refine zh (u2) [14] ?_|refine zh (u3) [14] ?_|refine zh (u4) [14] ?_|refine zh (u5) [14] ?_|refine gX (OZ rfl) (dA rfl) AX ?_|refine zS ?_|refine zd (λhd=>?_) (λhd=>?_)|refine zl (λhlt=>?_) (λhlt=>?_)|refine zk (λhle=>?_) (λhle=>?_)|refine ze (λheq=>?_) (λheq=>?_)|refine zm (λx hx=>?_)|refine zb (λhbb=>?_) (λhbb=>?_))
   all_goals conv=>whnf
   refine⟨([(⟨i,(P,vb),lo,hi⟩:Rest)],m5,W),?_,⟨S,o⟩,F6⟩;show Le T _ (mkSt _ _ _);exact zj
  |cons d D=>
   have S:D.length+1<n:=F7;have hl:((d::D).map bY).length=D.length+1:=Af;have ec:(d::(D++[(⟨i,(P,vb),lo,hi⟩:Rest)])).map bY=(d::D).map bY++[bY ⟨i,(P,vb),lo,hi⟩] :=Af;have G:(D++[(⟨i,(P,vb),lo,hi⟩:Rest)]).length=D.length+1:=Af;all_goals conv=>whnf
   repeat' ((conv=>whnf);first|omega|refine bW8 [(5,5),(74,5),(90,5)] [(77,[14]),(79,[14]),(81,[14]),(84,[14]),(86,[14])] Ae Ak ?_|refine zh (u1) [14] ?_|refine zh (u2) [14] ?_|refine zh (u3) [14] ?_|refine zh (u4) [14] ?_|refine zh (u5) [14] ?_|refine iH rfl (.inl rfl) rfl (OZ rfl) (dA rfl) (by show((d::D).map bY).length+1<=1000000000;omega) ?_|refine zS ?_|refine zd (λhd=>?_) (λhd=>?_)|refine zl (λhlt=>?_) (λhlt=>?_)|refine zk (λhle=>?_) (λhle=>?_)|refine ze (λheq=>?_) (λheq=>?_)|refine zm (λx hx=>?_)|refine zb (λhbb=>?_) (λhbb=>?_))
   all_goals conv=>whnf
   refine⟨(d::(D++[(⟨i,(P,vb),lo,hi⟩:Rest)]),m5,W),?_,⟨by show(D++[(⟨i,(P,vb),lo,hi⟩:Rest)]).length+1<=n;rw[G];omega,o⟩,by show n- ((D++[(⟨i,(P,vb),lo,hi⟩:Rest)]).length+1)<n- (D.length+1);rw[G];omega⟩;show Le T _ (mkSt _ _ _);rw[ec,G];exact zj
 rintro⟨R,k9,f9⟩ s9;simp only at hs N s7 s9;obtain⟨Q,m,f',ac,g10⟩:=mInt.step 0 rfl f s9.1 f9;have hS:=s1.pair (s2.pair (s3.pair (s4.pair (s5.pair (s7.pair (s9.pair ac))))));have hE:=end_spec b m f';all_goals conv=>whnf
 by_cases he:f'=true\/m<b.length;rw[Pm he]at hE
 have hr:=hn λx e=>by
  obtain⟨Y,Z,e2,_⟩:=ev_at.1 e;rcases he with he|he;exact Jq;exact Ii
 exact Ld;rw[Ph he]at hE;have hf:f'=false:=A7;have hm:m=b.length:=by have:=hS.1;have:¬m<b.length:=λh=>he (.inr h);omega
 have t:=(hS.2.1 hf).2;rw[hm]at t;cases q2 with
 |false=>
  have hr:=hn λx e=>by
   obtain⟨Y,Z,e2,p1,p2,_⟩:=ev_at.1 e;rw[t]at e2;have U:=PN Prod.fst (Q5 e2);simp only[QY]at U;obtain⟨_,_,_,rfl,rfl,_⟩:=U;rcases N with⟨a,_⟩|⟨_,a|a⟩;cases a;rcases hs with⟨c,_⟩|⟨_,c⟩;rw[a]at c;cases c;exact c _ p1;exact a _ p2
  exact Ld
 |true=>
  obtain⟨_,ab,py⟩:true=true/\F=true/\POpt cBar bar0 u y:=by
   rcases N with h|⟨h,_⟩;exact h;cases h
  have ps:POpt cSheet dN E s:=by
   rcases hs with⟨_,h⟩|⟨h,_⟩;exact h;rw[ab]at h;cases h
  have hz:iY ⟨g,id,j,s,y,C,R,Q⟩:=by
   obtain⟨_,_,_,o1,o2,o3,o4,o5,⟨o6,_⟩,⟨o7,_⟩,_⟩:=(Cod.at_iff _).1 t;have o6:(C.length:Int)<=60:=o6;have o7:(R.length:Int)<=6:=o7;refine⟨?_,?_,by show C.length<=_;omega,by show R.length<=_;omega⟩;rcases ps with⟨_,rfl⟩|⟨_,h⟩;show tN dN;exact⟨⟨Ai,Ai,λ_ h=>Ag⟩,Ai,λ_ h=>Ag⟩;exact sheet_fits (sheet_at.1 h).1;rcases py with⟨_,rfl⟩|⟨_,h⟩;show 0<=1000000;omega;exact bar_fits (bar_at.1 h).1
  have hV:=aE0 ⟨g,id,j,s,y,C,R,Q⟩ hz;by_cases hv:iD ⟨g,id,j,s,y,C,R,Q⟩;have hr:=hy ⟨g,id,j,s,y,C,R,Q⟩ (ev_at.2 ⟨E,u,t,ps,py,hv⟩);rw[show DB (iD ⟨g,id,j,s,y,C,R,Q⟩)=B true from PN B (dH.2 hv)]at hV;exact Ld
  have hr:=hn λx e=>by
   obtain⟨Y,Z,e2,p1,p2,p3⟩:=ev_at.1 e;rw[t]at e2;have U:=PN Prod.fst (Q5 e2);obtain⟨a1,a2,a3,a4,a5,a6,a7,a8⟩:=x;simp only[QY]at U;obtain⟨rfl,rfl,rfl,rfl,rfl,rfl,rfl,rfl⟩:=U;have es:=popt_inj ps p1;have ey:=popt_inj py p2;subst es;subst ey;exact hv p3
  rw[show DB (iD ⟨g,id,j,s,y,C,R,Q⟩)=B false from PN B (dW.2 hv)]at hV;exact Ld
end Go.Proofs.Led
