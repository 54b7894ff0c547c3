/- Lemmas. -/
import Derived.Test.YtcmgfjaiegpddaaGreatB33
import Derived.Test.YtcmgfjaiegpddaaGreatB20
set_option linter.all false
set_option maxRecDepth 100000
set_option maxHeartbeats 8000000
noncomputable section
namespace Go.Proofs.Led
open Go Go.Proofs Go.Ab Tryz
def Stp.listF{d:Type}{c:Cod d}{M:Int}{b:List Int}{k k1 m n:Nat}{f a:Bool}{D:List d}(hb:Byt b)(hk:k<=b.length)(i:M<=1000000)(h1:Stp (cBd 0 M) b k f (n:Int) k1 a)(h2:RStp c b k1 a D m true)(g:D.length<=n):Stp (c.list M) b k f D m true:=by
 refine⟨h2.1,λh=>Ah,λh=>?_⟩;cases a with
 |true=>exact Nv
 |false=>exact JG
def rBy_step(M:Int){b:List Int}{k:Nat}(hb:Byt b)(hk:k<=b.length)(f:Bool):∃(l:List Int) (m:Nat) (d:Bool),Byt l/\Stp (cBytes M) b k f l m d/\SpB 52 [.box 100000 0,I M] [rdC b k f] (.sl (l.map byV)) [rdC b m d] :=by
 have a:Byt [] :=⟨λ_ h=>Ah,Ai⟩;cases f;cases e:(cBytes M).at b k with
 |none=>exact⟨[],k,true,a,⟨hk,λh=>Ah,λ_=> .inr e⟩,(rBy rInt M).n hb hk e⟩
 |some p=>
  refine⟨p.1,p.2,false,?_,⟨(Cod.at_le e hk).2,λ_=>⟨rfl,e⟩,λh=>Ah⟩,(rBy rInt M).y hb hk e⟩;exact OV
 exact⟨[],k,true,a,⟨hk,λh=>Ah,λ_=> .inl rfl⟩,(rBy rInt M).s hb hk⟩
def rdSheet_cases{l:List Int}(a:Byt l):(∃s,cSheet.at l 0=some (s,l.length)/\Sp 55 [.sl (l.map byV)] (.tup [zJ s,I 0]))\/((∀s,cSheet.at l 0≠some (s,l.length))/\Sp 55 [.sl (l.map byV)] (.tup [zJ dN,I 4])):=by
 by_cases h:∃s,cSheet.at l 0=some (s,l.length);obtain⟨s,h⟩:=h;refine .inl ⟨s,h,zsp func55 (rdSheet_vc a _ (λb e=>?_) (λe=>absurd h (e s)))⟩;rw[h]at e;cases e;rfl;have h:∀s,cSheet.at l 0≠some (s,l.length):=λs e=>h ⟨s,e⟩;exact .inr ⟨h,zsp func55 (rdSheet_vc a _ (λb e=>absurd e (h b)) (λ_=>rfl))⟩
def rdBar_cases{l:List Int}(a:Byt l):(∃s,cBar.at l 0=some (s,l.length)/\Sp 56 [.sl (l.map byV)] (.tup [barV s,I 0]))\/((∀s,cBar.at l 0≠some (s,l.length))/\Sp 56 [.sl (l.map byV)] (.tup [barV bar0,I 4])):=by
 by_cases h:∃s,cBar.at l 0=some (s,l.length);obtain⟨s,h⟩:=h;refine .inl ⟨s,h,zsp func56 (rdBar_vc a _ (λb e=>?_) (λe=>absurd h (e s)))⟩;rw[h]at e;cases e;rfl;have h:∀s,cBar.at l 0≠some (s,l.length):=λs e=>h ⟨s,e⟩;exact .inr ⟨h,zsp func56 (rdBar_vc a _ (λb e=>absurd e (h b)) (λ_=>rfl))⟩
def revS1(b:List Int)(kd id:Int)(tx:ByteArray)(l1 l2:List Int)(n k:Nat)(f:Bool):List Made->St
 | [] =>mkSt [(2, .box 2 0),(3,I 0),(4, .box 15 0),(5, .box 5 0),(6, .sl (l1.map byV)),(7, .sl (l2.map byV)),(8,I n),(9,I 0)] [(2,evZ),(15,rdC b k f),(5,evCl kd id tx dN bar0 nlV nlV 0)] []
 |d::D=>mkSt [(2, .box 2 0),(3,I 0),(4, .box 15 0),(5, .box 5 0),(6, .sl (l1.map byV)),(7, .sl (l2.map byV)),(8,I n),(9,I (D.length+1))] [(2,evZ),(15,rdC b k f),(5,evCl kd id tx dN bar0 (.arr 55 D.length) nlV 0)] [(55,⟨D.length, .own,94,(d::D).map dK⟩)]
def revS2(b:List Int)(kd id:Int)(tx:ByteArray)(l1 l2:List Int)(C:List Made)(n k:Nat)(f:Bool):List Rest->St
 | [] =>mkSt [(2, .box 2 0),(3,I 0),(4, .box 15 0),(5, .box 5 0),(6, .sl (l1.map byV)),(7, .sl (l2.map byV)),(8,I n),(10,I 0)] [(2,evZ1),(15,rdC b k f),(5,evCl kd id tx dN bar0 (.sl (C.map dK)) nlV 0)] []
 |d::D=>mkSt [(2, .box 2 0),(3,I 0),(4, .box 15 0),(5, .box 5 0),(6, .sl (l1.map byV)),(7, .sl (l2.map byV)),(8,I n),(10,I (D.length+1))] [(2,evZ1),(15,rdC b k f),(5,evCl kd id tx dN bar0 (.sl (C.map dK)) (.arr 86 D.length) 0)] [(86,⟨D.length, .own,101,(d::D).map bY⟩)]
def rdEvent_vc{b:List Int}(g:Byt b)(r:V)(hy:∀x,(cEvent b.length).at b 0=some (x,b.length)->r= .tup [aS x,I 0])(hn:(∀x,(cEvent b.length).at b 0≠some (x,b.length))->r= .tup [aS event0,I 4]):fnVC T Tryz.prog Tryz.f12 [.sl (b.map byV)] r:=by
 have ab:(b.map byV).length=b.length:=Af;obtain⟨o,k1,f1,s1,g1⟩:=rInt.step 0 rfl g (SH _) false;obtain⟨id,k2,f2,s2,g2⟩:=rInt.step 0 rfl g s1.1 f1;obtain⟨t,k3,f3,s3,g3⟩:=(rTx rInt 16).step aI rfl g s2.1 f2;obtain⟨l,k4,f4,b1,s4,g4⟩:=rBy_step b.length g s3.1 f3;obtain⟨j,k5,f5,b2,U,g5⟩:=rBy_step b.length g s4.1 f4;obtain⟨n,k6,f6,ah,s6,g6⟩:=rBd_step rInt (M:=60) Ai g U.1 f5;have af:(l.map byV).length=l.length:=Af;have ag:(j.map byV).length=j.length:=Af;rw[<-ab]at g4 g5;all_goals conv=>whnf
 refine eY7 ?_;repeat' ((conv=>whnf);first|omega|refine zU ?_|refine zd (λhd=>?_) (λhd=>?_)|refine zl (λhlt=>?_) (λhlt=>?_)|refine zk (λhle=>?_) (λhle=>?_)|refine ze (λheq=>?_) (λheq=>?_)|refine zm (λx hx=>?_)|refine zb (λhbb=>?_) (λhbb=>?_))
 refine eY7 ?_;repeat' ((conv=>whnf);first|omega|refine zU ?_|refine zd (λhd=>?_) (λhd=>?_)|refine zl (λhlt=>?_) (λhlt=>?_)|refine zk (λhle=>?_) (λhle=>?_)|refine ze (λheq=>?_) (λheq=>?_)|refine zm (λx hx=>?_)|refine zb (λhbb=>?_) (λhbb=>?_))
 refine eY7 ?_;repeat' ((conv=>whnf);first|refine zh (g1) [15] ?_|refine zh (g2) [15] ?_|refine zh (g3) [15] ?_|refine zU ?_|refine zd (λhd=>?_) (λhd=>?_)|refine zl (λhlt=>?_) (λhlt=>?_)|refine zk (λhle=>?_) (λhle=>?_)|refine ze (λheq=>?_) (λheq=>?_)|refine zm (λx hx=>?_)|refine zb (λhbb=>?_) (λhbb=>?_))
 refine eY7 ?_;repeat' ((conv=>whnf);first|refine zh (g4) [15] ?_|refine zh (g5) [15] ?_|refine zU ?_|refine zd (λhd=>?_) (λhd=>?_)|refine zl (λhlt=>?_) (λhlt=>?_)|refine zk (λhle=>?_) (λhle=>?_)|refine ze (λheq=>?_) (λheq=>?_)|refine zm (λx hx=>?_)|refine zb (λhbb=>?_) (λhbb=>?_))
 refine eY7 ?_;repeat' ((conv=>whnf);first|refine zh (g6) [15] ?_|refine zU ?_|refine zd (λhd=>?_) (λhd=>?_)|refine zl (λhlt=>?_) (λhlt=>?_)|refine zk (λhle=>?_) (λhle=>?_)|refine ze (λheq=>?_) (λheq=>?_)|refine zm (λx hx=>?_)|refine zb (λhbb=>?_) (λhbb=>?_))
 all_goals conv=>whnf
 refine dJ4 (List Made×Nat×Bool) (λp=>mkSt [(2, .box 2 0),(3,I 0),(4, .box 15 0),(5, .box 5 0),(6, .sl (l.map byV)),(7, .sl (j.map byV))] [(2,evZ1),(15,rdC b p.2.1 p.2.2),(5,evCl o id t dN bar0 (.sl (p.1.map dK)) nlV 0)] []) (λp=>Stp (cMade.list 60) b k5 f5 p.1 p.2.1 p.2.2) ?_ ?_
 ·refine eY7 ?_
  repeat' ((conv=>whnf);first|omega|refine zU ?_|refine zd (λhd=>?_) (λhd=>?_)|refine zl (λhlt=>?_) (λhlt=>?_)|refine zk (λhle=>?_) (λhle=>?_)|refine ze (λheq=>?_) (λheq=>?_)|refine zm (λx hx=>?_)|refine zb (λhbb=>?_) (λhbb=>?_))
  all_goals conv=>whnf
  refine lD (A:=List Made×Nat×Bool) (λp=>match p with|(D,m,f')=>revS1 b o id t l j n m f' D) (λp=>p.1.length<=n/\RStp cMade b k6 f6 p.1 p.2.1 p.2.2) (λp=>n-p.1.length) ([],k6,f6) ?_ ⟨SH _,RStp.nil _ s6.1 _⟩ ?_;refine Le.trans (le_nilBx isShB _) ?_;show Le T _ (mkSt _ _ _);exact zj;rintro⟨D,m,f'⟩ ⟨hD,u⟩;simp only at hD u;by_cases c:f'=true\/D.length=n
  ·have hS:Stp (cMade.list 60) b k5 f5 D m f':=by
    cases f' with
    |true=>exact Stp.listF g U.1 Ai s6 u hD
    |false=>exact Stp.list g U.1 Ai s6 u (c.resolve_left (λh=>Ah))
   cases D with
   |nil=>
    have f:f'=false->n=0:=λh=>LH;all_goals conv=>whnf
    cases f' with
    |true=>
     repeat' ((conv=>whnf);first|omega|refine zS ?_|refine zd (λhd=>?_) (λhd=>?_)|refine zl (λhlt=>?_) (λhlt=>?_)|refine zk (λhle=>?_) (λhle=>?_)|refine ze (λheq=>?_) (λheq=>?_)|refine zm (λx hx=>?_)|refine zb (λhbb=>?_) (λhbb=>?_))
     all_goals conv=>whnf
     all_goals
      refine⟨([],m,true),Le.trans (le_nilBx isMdB _) ?_,hS⟩;exact zj
    |false=>
     have f:=f rfl;repeat' ((conv=>whnf);first|omega|refine zS ?_|refine zd (λhd=>?_) (λhd=>?_)|refine zl (λhlt=>?_) (λhlt=>?_)|refine zk (λhle=>?_) (λhle=>?_)|refine ze (λheq=>?_) (λheq=>?_)|refine zm (λx hx=>?_)|refine zb (λhbb=>?_) (λhbb=>?_))
     all_goals conv=>whnf
     all_goals
      refine⟨([],m,false),Le.trans (le_nilBx isMdB _) ?_,hS⟩;exact zj
   |cons d D=>
    have f:f'=false->n=D.length+1:=λh=>LH;all_goals conv=>whnf
    cases f' with
    |true=>
     repeat' ((conv=>whnf);first|omega|refine zS ?_|refine zd (λhd=>?_) (λhd=>?_)|refine zl (λhlt=>?_) (λhlt=>?_)|refine zk (λhle=>?_) (λhle=>?_)|refine ze (λheq=>?_) (λheq=>?_)|refine zm (λx hx=>?_)|refine zb (λhbb=>?_) (λhbb=>?_))
     all_goals conv=>whnf
     all_goals
      refine⟨(d::D,m,true),Le.trans (le_nilBx isMdB _) (Le.trans (fB (k:=55) rfl (.inl rfl)) ?_),hS⟩;exact zj
    |false=>
     have f:=f rfl;repeat' ((conv=>whnf);first|omega|refine zS ?_|refine zd (λhd=>?_) (λhd=>?_)|refine zl (λhlt=>?_) (λhlt=>?_)|refine zk (λhle=>?_) (λhle=>?_)|refine ze (λheq=>?_) (λheq=>?_)|refine zm (λx hx=>?_)|refine zb (λhbb=>?_) (λhbb=>?_))
     all_goals conv=>whnf
     all_goals
      refine⟨(d::D,m,false),Le.trans (le_nilBx isMdB _) (Le.trans (fB (k:=55) rfl (.inl rfl)) ?_),hS⟩;exact zj
  obtain⟨X,Y⟩:f'=false/\D.length≠n:=⟨Eg,λh=>c (.inr h)⟩;subst X;clear c;have c:=Y;obtain⟨i,m1,F,L,O⟩:=rInt.step 0 rfl g u.1 false;obtain⟨pt,m2,G,N,P⟩:=(rTx rInt 16).step aI rfl g L.1 F;obtain⟨z,m3,f3',W,Q⟩:=rInt.step 0 rfl g N.1 G;have hR2:=u.snoc (L.made N W);cases D with
  |nil=>
   have c0:0<n:=CO;all_goals conv=>whnf
   repeat' ((conv=>whnf);first|omega|refine bW8 [(5,5),(45,5),(56,5)] [(48,[15]),(50,[15]),(52,[15])] Ad Ak ?_|refine zh (O) [15] ?_|refine zh (P) [15] ?_|refine zh (Q) [15] ?_|refine gX (Q9 rfl) (dA rfl) A8 ?_|refine zS ?_|refine zd (λhd=>?_) (λhd=>?_)|refine zl (λhlt=>?_) (λhlt=>?_)|refine zk (λhle=>?_) (λhle=>?_)|refine ze (λheq=>?_) (λheq=>?_)|refine zm (λx hx=>?_)|refine zb (λhbb=>?_) (λhbb=>?_))
   all_goals conv=>whnf
   refine⟨([(⟨i,pt,z⟩:Made)],m3,f3'),?_,⟨c0,hR2⟩,BQ⟩;show Le T _ (mkSt _ _ _);exact zj
  |cons d D=>
   have c0:D.length+1<n:=BR;have hl:((d::D).map dK).length=D.length+1:=Af;have ec:(d::(D++[(⟨i,pt,z⟩:Made)])).map dK=(d::D).map dK++[dK (⟨i,pt,z⟩:Made)] :=Af;have el:(D++[(⟨i,pt,z⟩:Made)]).length=D.length+1:=Af;all_goals conv=>whnf
   repeat' ((conv=>whnf);first|omega|refine bW8 [(5,5),(45,5),(56,5)] [(48,[15]),(50,[15]),(52,[15])] Ad Ak ?_|refine zh (O) [15] ?_|refine zh (P) [15] ?_|refine zh (Q) [15] ?_|refine iH rfl (.inl rfl) rfl (Q9 rfl) (dA rfl) F9 ?_|refine zS ?_|refine zd (λhd=>?_) (λhd=>?_)|refine zl (λhlt=>?_) (λhlt=>?_)|refine zk (λhle=>?_) (λhle=>?_)|refine ze (λheq=>?_) (λheq=>?_)|refine zm (λx hx=>?_)|refine zb (λhbb=>?_) (λhbb=>?_))
   all_goals conv=>whnf
   exact Qb
 rintro⟨C,k7,f7⟩ K;obtain⟨n,k8,f8,ai,s8,g8⟩:=rBd_step rInt (M:=6) Ai g K.1 f7;all_goals conv=>whnf
 refine eY7 ?_;repeat' ((conv=>whnf);first|omega|refine zh (g8) [15] ?_|refine zU ?_|refine zd (λhd=>?_) (λhd=>?_)|refine zl (λhlt=>?_) (λhlt=>?_)|refine zk (λhle=>?_) (λhle=>?_)|refine ze (λheq=>?_) (λheq=>?_)|refine zm (λx hx=>?_)|refine zb (λhbb=>?_) (λhbb=>?_))
 all_goals conv=>whnf
 refine dJ4 (List Rest×Nat×Bool) (λp=>mkSt [(2, .box 2 0),(3,I 0),(4, .box 15 0),(5, .box 5 0),(6, .sl (l.map byV)),(7, .sl (j.map byV))] [(2,evZ2),(15,rdC b p.2.1 p.2.2),(5,evCl o id t dN bar0 (.sl (C.map dK)) (.sl (p.1.map bY)) 0)] []) (λp=>Stp (cRest.list 6) b k7 f7 p.1 p.2.1 p.2.2) ?_ ?_
 ·refine eY7 ?_
  repeat' ((conv=>whnf);first|omega|refine zU ?_|refine zd (λhd=>?_) (λhd=>?_)|refine zl (λhlt=>?_) (λhlt=>?_)|refine zk (λhle=>?_) (λhle=>?_)|refine ze (λheq=>?_) (λheq=>?_)|refine zm (λx hx=>?_)|refine zb (λhbb=>?_) (λhbb=>?_))
  all_goals conv=>whnf
  refine lD (A:=List Rest×Nat×Bool) (λp=>match p with|(D,m,f')=>revS2 b o id t l j C n m f' D) (λp=>p.1.length<=n/\RStp cRest b k8 f8 p.1 p.2.1 p.2.2) (λp=>n-p.1.length) ([],k8,f8) ?_ ⟨SH _,RStp.nil _ s8.1 _⟩ ?_;show Le T _ (mkSt _ _ _);exact zj;rintro⟨D,m,f'⟩ ⟨hD,u⟩;simp only at hD u;by_cases c:f'=true\/D.length=n
  ·have hS:Stp (cRest.list 6) b k7 f7 D m f':=by
    cases f' with
    |true=>exact Stp.listF g K.1 Ai s8 u hD
    |false=>exact Stp.list g K.1 Ai s8 u (c.resolve_left (λh=>Ah))
   cases D with
   |nil=>
    have f:f'=false->n=0:=λh=>LH;all_goals conv=>whnf
    cases f' with
    |true=>
     repeat' ((conv=>whnf);first|omega|refine zS ?_|refine zd (λhd=>?_) (λhd=>?_)|refine zl (λhlt=>?_) (λhlt=>?_)|refine zk (λhle=>?_) (λhle=>?_)|refine ze (λheq=>?_) (λheq=>?_)|refine zm (λx hx=>?_)|refine zb (λhbb=>?_) (λhbb=>?_))
     all_goals conv=>whnf
     all_goals
      refine⟨([],m,true),Le.trans (le_nilBx isRsB _) ?_,hS⟩;exact zj
    |false=>
     have f:=f rfl;repeat' ((conv=>whnf);first|omega|refine zS ?_|refine zd (λhd=>?_) (λhd=>?_)|refine zl (λhlt=>?_) (λhlt=>?_)|refine zk (λhle=>?_) (λhle=>?_)|refine ze (λheq=>?_) (λheq=>?_)|refine zm (λx hx=>?_)|refine zb (λhbb=>?_) (λhbb=>?_))
     all_goals conv=>whnf
     all_goals
      refine⟨([],m,false),Le.trans (le_nilBx isRsB _) ?_,hS⟩;exact zj
   |cons d D=>
    have f:f'=false->n=D.length+1:=λh=>LH;all_goals conv=>whnf
    cases f' with
    |true=>
     repeat' ((conv=>whnf);first|omega|refine zS ?_|refine zd (λhd=>?_) (λhd=>?_)|refine zl (λhlt=>?_) (λhlt=>?_)|refine zk (λhle=>?_) (λhle=>?_)|refine ze (λheq=>?_) (λheq=>?_)|refine zm (λx hx=>?_)|refine zb (λhbb=>?_) (λhbb=>?_))
     all_goals conv=>whnf
     all_goals
      refine⟨(d::D,m,true),Le.trans (le_nilBx isRsB _) (Le.trans (fB (k:=86) rfl (.inl rfl)) ?_),hS⟩;exact zj
    |false=>
     have f:=f rfl;repeat' ((conv=>whnf);first|omega|refine zS ?_|refine zd (λhd=>?_) (λhd=>?_)|refine zl (λhlt=>?_) (λhlt=>?_)|refine zk (λhle=>?_) (λhle=>?_)|refine ze (λheq=>?_) (λheq=>?_)|refine zm (λx hx=>?_)|refine zb (λhbb=>?_) (λhbb=>?_))
     all_goals conv=>whnf
     all_goals
      refine⟨(d::D,m,false),Le.trans (le_nilBx isRsB _) (Le.trans (fB (k:=86) rfl (.inl rfl)) ?_),hS⟩;exact zj
  obtain⟨X,Y⟩:f'=false/\D.length≠n:=⟨Eg,λh=>c (.inr h)⟩;subst X;clear c;have c:=Y;obtain⟨i,m1,F,L,O⟩:=rInt.step 0 rfl g u.1 false;obtain⟨va,m2,G,N,P⟩:=(rVc rInt).step z0 rfl g L.1 F;obtain⟨vb,m3,f3',W,Q⟩:=(rVc rInt).step z0 rfl g N.1 G;obtain⟨lo,m4,Z,t4,u4⟩:=rInt.step 0 rfl g W.1 f3';obtain⟨hi,m5,f5',t5,u5⟩:=rInt.step 0 rfl g t4.1 Z;have hR2:=u.snoc (L.rest N W t4 t5);cases D with
  |nil=>
   have c0:0<n:=CO;all_goals conv=>whnf
   repeat' ((conv=>whnf);first|omega|refine bW8 [(5,5),(71,5),(87,5)] [(74,[15]),(76,[15]),(78,[15]),(81,[15]),(83,[15])] Ad Ak ?_|refine zh (O) [15] ?_|refine zh (P) [15] ?_|refine zh (Q) [15] ?_|refine zh (u4) [15] ?_|refine zh (u5) [15] ?_|refine gX (Q9 rfl) (dA rfl) A8 ?_|refine zS ?_|refine zd (λhd=>?_) (λhd=>?_)|refine zl (λhlt=>?_) (λhlt=>?_)|refine zk (λhle=>?_) (λhle=>?_)|refine ze (λheq=>?_) (λheq=>?_)|refine zm (λx hx=>?_)|refine zb (λhbb=>?_) (λhbb=>?_))
   all_goals conv=>whnf
   exact Qj
  |cons d D=>
   have c0:D.length+1<n:=BR;have hl:((d::D).map bY).length=D.length+1:=Af;have ec:(d::(D++[(⟨i,(va,vb),lo,hi⟩:Rest)])).map bY=(d::D).map bY++[bY (⟨i,(va,vb),lo,hi⟩:Rest)] :=Af;have el:(D++[(⟨i,(va,vb),lo,hi⟩:Rest)]).length=D.length+1:=Af;all_goals conv=>whnf
   repeat' ((conv=>whnf);first|omega|refine bW8 [(5,5),(71,5),(87,5)] [(74,[15]),(76,[15]),(78,[15]),(81,[15]),(83,[15])] Ad Ak ?_|refine zh (O) [15] ?_|refine zh (P) [15] ?_|refine zh (Q) [15] ?_|refine zh (u4) [15] ?_|refine zh (u5) [15] ?_|refine iH rfl (.inl rfl) rfl (Q9 rfl) (dA rfl) FB ?_|refine zS ?_|refine zd (λhd=>?_) (λhd=>?_)|refine zl (λhlt=>?_) (λhlt=>?_)|refine zk (λhle=>?_) (λhle=>?_)|refine ze (λheq=>?_) (λheq=>?_)|refine zm (λx hx=>?_)|refine zb (λhbb=>?_) (λhbb=>?_))
   all_goals conv=>whnf
   exact PX
 rintro⟨R,k9,f9⟩ s9;simp only at K s9;obtain⟨E,m,f',J,aa⟩:=rInt.step 0 rfl g s9.1 f9;have hS:=s1.pair (s2.pair (s3.pair (s4.pair (U.pair (K.pair (s9.pair J))))));have hE:=rEnd_spec b m f' J.1;all_goals conv=>whnf
 refine eY7 ?_;repeat' ((conv=>whnf);first|omega|refine zh (aa) [15] ?_|refine zU ?_|refine zd (λhd=>?_) (λhd=>?_)|refine zl (λhlt=>?_) (λhlt=>?_)|refine zk (λhle=>?_) (λhle=>?_)|refine ze (λheq=>?_) (λheq=>?_)|refine zm (λx hx=>?_)|refine zb (λhbb=>?_) (λhbb=>?_))
 refine eY7 ?_;repeat' ((conv=>whnf);first|omega|refine zU ?_|refine zd (λhd=>?_) (λhd=>?_)|refine zl (λhlt=>?_) (λhlt=>?_)|refine zk (λhle=>?_) (λhle=>?_)|refine ze (λheq=>?_) (λheq=>?_)|refine zm (λx hx=>?_)|refine zb (λhbb=>?_) (λhbb=>?_))
 all_goals conv=>whnf
 refine dJ4 (jL×Int) (λp=>mkSt [(2, .box 2 0),(3,I 0),(4, .box 15 0),(5, .box 5 0),(7, .sl (j.map byV)),(11,I p.2),(12,I 0)] [(2,evZ2),(15,rdC b m f'),(5,evCl o id t p.1 bar0 (.sl (C.map dK)) (.sl (R.map bY)) E)] []) (λp=>(p.2=0/\POpt cSheet dN l p.1)\/(p.2=4/\∀s,¬POpt cSheet dN l s)) ?_ ?_
 ·by_cases h0:l=[]
  ·have H:l.length=0:=by rw[h0];rfl
   repeat' ((conv=>whnf);first|omega|refine zS ?_|refine zd (λhd=>?_) (λhd=>?_)|refine zl (λhlt=>?_) (λhlt=>?_)|refine zk (λhle=>?_) (λhle=>?_)|refine ze (λheq=>?_) (λheq=>?_)|refine zm (λx hx=>?_)|refine zb (λhbb=>?_) (λhbb=>?_))
   all_goals conv=>whnf
   refine⟨(dN,0),?_, .inl ⟨rfl, .inl ⟨h0,rfl⟩⟩⟩;exact zj
  have H:0<l.length:=U9.2 h0;rcases rdSheet_cases b1 with⟨s,e,gs⟩|⟨e,gs⟩
  ·repeat' ((conv=>whnf);first|omega|refine zS ?_|refine zd (λhd=>?_) (λhd=>?_)|refine zl (λhlt=>?_) (λhlt=>?_)|refine zk (λhle=>?_) (λhle=>?_)|refine ze (λheq=>?_) (λheq=>?_)|refine zm (λx hx=>?_)|refine zb (λhbb=>?_) (λhbb=>?_))
   all_goals conv=>whnf
   refine⟨(s,0),?_, .inl ⟨rfl, .inr ⟨h0,e⟩⟩⟩;exact zj
  repeat' ((conv=>whnf);first|omega|refine zS ?_|refine zd (λhd=>?_) (λhd=>?_)|refine zl (λhlt=>?_) (λhlt=>?_)|refine zk (λhle=>?_) (λhle=>?_)|refine ze (λheq=>?_) (λheq=>?_)|refine zm (λx hx=>?_)|refine zb (λhbb=>?_) (λhbb=>?_))
  all_goals conv=>whnf
  refine⟨(dN,4),?_, .inr ⟨rfl,λs h=>CZ⟩⟩;exact zj
 rintro⟨s,q1⟩ S;all_goals conv=>whnf
 refine dJ4 (Bar×Int) (λp=>mkSt [(2, .box 2 0),(3,I 0),(4, .box 15 0),(5, .box 5 0),(11,I q1),(12,I p.2)] [(2,evZ2),(15,rdC b m f'),(5,evCl o id t s p.1 (.sl (C.map dK)) (.sl (R.map bY)) E)] []) (λp=>(p.2=0/\POpt cBar bar0 j p.1)\/(p.2=4/\∀y,¬POpt cBar bar0 j y)) ?_ ?_
 ·by_cases h0:j=[]
  ·have H:j.length=0:=by rw[h0];rfl
   repeat' ((conv=>whnf);first|omega|refine zS ?_|refine zd (λhd=>?_) (λhd=>?_)|refine zl (λhlt=>?_) (λhlt=>?_)|refine zk (λhle=>?_) (λhle=>?_)|refine ze (λheq=>?_) (λheq=>?_)|refine zm (λx hx=>?_)|refine zb (λhbb=>?_) (λhbb=>?_))
   all_goals conv=>whnf
   refine⟨(bar0,0),?_, .inl ⟨rfl, .inl ⟨h0,rfl⟩⟩⟩;exact zj
  have H:0<j.length:=U9.2 h0;rcases rdBar_cases b2 with⟨y,e,gy⟩|⟨e,gy⟩
  ·repeat' ((conv=>whnf);first|omega|refine zS ?_|refine zd (λhd=>?_) (λhd=>?_)|refine zl (λhlt=>?_) (λhlt=>?_)|refine zk (λhle=>?_) (λhle=>?_)|refine ze (λheq=>?_) (λheq=>?_)|refine zm (λx hx=>?_)|refine zb (λhbb=>?_) (λhbb=>?_))
   all_goals conv=>whnf
   refine⟨(y,0),?_, .inl ⟨rfl, .inr ⟨h0,e⟩⟩⟩;exact zj
  repeat' ((conv=>whnf);first|omega|refine zS ?_|refine zd (λhd=>?_) (λhd=>?_)|refine zl (λhlt=>?_) (λhlt=>?_)|refine zk (λhle=>?_) (λhle=>?_)|refine ze (λheq=>?_) (λheq=>?_)|refine zm (λx hx=>?_)|refine zb (λhbb=>?_) (λhbb=>?_))
  all_goals conv=>whnf
  refine⟨(bar0,4),?_, .inr ⟨rfl,λs h=>CZ⟩⟩;exact zj
 rintro⟨y,q2⟩ w;simp only at S w;all_goals conv=>whnf
 by_cases he:f'=true\/m<b.length;rw[Sj he]at hE;have hr:=hn λx e=>NI;rw[hr];exact NP;rw[RZ he]at hE;have hf:f'=false:=Am;have hm:m=b.length:=by have:=hS.1;have:¬m<b.length:=λh=>he (.inr h);omega
 have hat:=(hS.2.1 hf).2;rw[hm]at hat;by_cases hq:q1=0/\q2=0;rotate_left
 ·have hr:=hn λx e=>by
   obtain⟨l1',l2',e2,p1,p2,_⟩:=ev_at.1 e;rw[hat]at e2;have e3:=SK Prod.fst (TF e2);simp only[Us]at e3;obtain⟨_,_,_,rfl,rfl,_⟩:=e3;rcases S with⟨a,_⟩|⟨_,a⟩;rcases w with⟨a2,_⟩|⟨_,a2⟩;exact hq ⟨a,a2⟩;exact a2 _ p2;exact a _ p1
  rw[hr];have v:q1≠0\/(q1=0/\q2≠0):=Aa;clear S w;rcases v with v|⟨v,ae⟩
  ·repeat' ((conv=>whnf);first|omega|(exfalso;contradiction)|refine zh (hE) [15] ?_|refine zS ?_|refine zd (λhd=>?_) (λhd=>?_)|refine zl (λhlt=>?_) (λhlt=>?_)|refine zk (λhle=>?_) (λhle=>?_)|refine ze (λheq=>?_) (λheq=>?_)|refine zm (λx hx=>?_)|refine zb (λhbb=>?_) (λhbb=>?_))
   all_goals conv=>whnf
   all_goals (first|(refine⟨_,rfl,?_⟩;(repeat' (first|exact trivial|refine And.intro ?_ ?_|with_reducible rfl|exact(λ_ h=>Ah)|exact(λh=>Ah)|exact rfl))))
  subst v;exact NP
 obtain⟨rfl,rfl⟩:=hq
 have py:POpt cBar bar0 j y:=by
  rcases w with⟨_,h⟩|⟨h,_⟩;exact h;cases h
 have ps:POpt cSheet dN l s:=by
  rcases S with⟨_,h⟩|⟨h,_⟩;exact h;cases h
 have hz:iY ⟨o,id,t,s,y,C,R,E⟩:=Jv
 have ad:aA4 s:=by
  have ac:tN s:=hz.1;obtain⟨⟨a1,a2,a3⟩,b1,b2⟩:=ac;exact Pm
 have hV:=fL6 ⟨o,id,t,s,y,C,R,E⟩ hz ad;by_cases hv:iD ⟨o,id,t,s,y,C,R,E⟩;have hr:=hy ⟨o,id,t,s,y,C,R,E⟩ (ev_at.2 ⟨l,j,hat,ps,py,hv⟩);rw[show DB (iD ⟨o,id,t,s,y,C,R,E⟩)=B true from SK B (dH.2 hv)]at hV;rw[hr];exact NP
 have hr:=hn λx e=>by
  exact O3
 rw[show DB (iD ⟨o,id,t,s,y,C,R,E⟩)=B false from SK B (dW.2 hv)]at hV;rw[hr];exact NP
end Go.Proofs.Led
