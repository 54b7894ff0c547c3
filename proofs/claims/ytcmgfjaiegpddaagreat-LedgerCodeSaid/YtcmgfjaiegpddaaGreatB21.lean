/- Lemmas. -/
import Derived.Test.YtcmgfjaiegpddaaGreatB18
set_option linter.all false
set_option maxRecDepth 100000
set_option maxHeartbeats 4000000
noncomputable section
namespace Go.Proofs.Led
open Go Go.Proofs Go.Ab Tryz
def aV5(s:Sh):Prop:=s.outer.length<=9223372036854775807/\s.holes.length<=9223372036854775807/\∀h∈s.holes,h.length<=9223372036854775807
def aA4(s:jL):Prop:=aV5 s.shape/\s.defects.length<=9223372036854775807/\∀d∈s.defects,aV5 d
structure bI1(e:Event):Prop where
 sh:aA4 e.sheet
 br:e.bar.defects.length<=9223372036854775807
 ct:e.cuts.length<=9223372036854775807
 rs:e.rests.length<=9223372036854775807
def cntS(n:Int)(l:List Rg):Int:=l.foldl (λn h=>W (n+(h.length:Int))) n
def dP1(n:Int)(D:List Rg)(h:Rg):cntS n (D++[h])=W (cntS n D+(h.length:Int)):=by unfold cntS;simp
def fewS(s:Sh):Prop:=s.holes.length<=3/\cntS s.outer.length s.holes<=24
def xY(s:jL):Prop:=(∀d∈s.defects,fewS d)/\s.grade.size<=40/\s.heat.size<=40/\s.defects.length<=8/\fewS s.shape
def aJ9(b:Bar):Prop:=b.grade.size<=40/\b.heat.size<=40/\b.defects.length<=10
def fewE(e:Event):Prop:=(e.cuts.length<=12/\e.rests.length<=8/\e.text.size<=40/\xY e.sheet/\aJ9 e.bar)/\∀c∈e.cuts,c.part.size<=40
def fewL(l:List Event)(n:Int):Prop:=(∀e∈l,fewE e)/\(l.length:Int)<=n
def bR9(s:Sh)(m:aV5 s):Sp 84 [shV s] (DB (fewS s)):=by
 refine zsp func84 ?_;obtain⟨o,q,f⟩:=m;have d:(s.outer.map vcV).length=s.outer.length:=Af;have l:(s.holes.map rgV).length=s.holes.length:=Af;have b:fewS s↔s.holes.length<=3/\cntS s.outer.length s.holes<=24:=Tn;generalize fewS s=P at*;repeat' ((conv=>whnf);first|refine zS ?_|fail)
 refine aU (A:=List Rg) (B:=List Rg) (λD R=>mkSt [(1, .box 1 0),(3,I (cntS s.outer.length D)),(4,I D.length)] [(1,(shV s).cells)] []) (λD R=>s.holes=D++R) (λD R=>R.length) [] s.holes ?_ rfl (λD R hp=>?_);show Le _ _ (mkSt [(1, .box 1 0),(3,I (s.outer.length:Int)),(4,I 0)] [(1,(shV s).cells)] []);rw[<-d];exact zj;cases R with
 |cons h R=>
  have i:=dP1 s.outer.length D;generalize cntS (s.outer.length:Int) D=n at*;have a:=aO hp;have k:h.length<=9223372036854775807:=f h Ae;have c:(h.map vcV).length=h.length:=Af;have j:=i h;repeat' ((conv=>whnf);first|omega|refine zS ?_|refine zT ?_ ?_<;>intro _|fail)
  all_goals conv=>whnf
  refine⟨(D++[h],R),?_,Ae,Af⟩;simp only[Q5,SA,j];rw[<-c];show Le _ _ (mkSt [(1, .box 1 0),(3,I (W (n+((h.map vcV).length:Int)))),(4,I ((D.length:Int)+1))] [(1,(shV s).cells)] []);exact zj
 |nil=>
  have a:s.holes.length=D.length:=Ae;have e:s.holes=D:=Ae;have g:cntS (s.outer.length:Int) s.holes=cntS (s.outer.length:Int) D:=by rw[e]
  rw[g]at b;generalize cntS (s.outer.length:Int) D=n at*;clear hp e g;repeat' ((conv=>whnf);first|omega|refine zS ?_|refine zT ?_ ?_<;>intro _|fail)
  all_goals conv=>whnf
  exact aA (le_dec ⟨λh=>b.2 ⟨Aa,h⟩,λh=>(b.1 h).2⟩);exact aA (aC λh=>by have:=(b.1 h).1;omega)
def bM5(s:jL)(m:aA4 s):Sp 23 [zJ s] (DB (xY s)):=by
 refine zsp func23 ?_;obtain⟨g,n,i⟩:=m;have l:(s.defects.map shV).length=s.defects.length:=Af;have e:xY s↔(∀d∈s.defects,fewS d)/\s.grade.size<=40/\s.heat.size<=40/\s.defects.length<=8/\fewS s.shape:=Tn;have q:=bR9 s.shape g;generalize xY s=P at*;generalize fewS s.shape=t at*;repeat' ((conv=>whnf);first|refine zS ?_|fail)
 refine aU (A:=List Sh) (B:=List Sh) (λD R=>mkSt [(1, .box 1 0),(3,I D.length)] [(1,aA7 s)] []) (λD R=>s.defects=D++R/\∀d∈D,fewS d) (λD R=>R.length) [] s.defects ?_ ⟨rfl,Af⟩ (λD R hp=>?_);exact zj;obtain⟨hp,f⟩:=hp;cases R with
 |cons d R=>
  have b:=aO hp;have a:d∈s.defects:=Ae;have o:=bR9 d (i d a);have r:fewS d↔fewS d:=Tn;generalize j:fewS d=u at*;repeat' ((conv=>whnf);first|omega|refine zS ?_|refine zT ?_ ?_<;>intro _|fail)
  all_goals conv=>whnf
  all_goals first
   |exact aA (aC λh=>absurd ((e.1 h).1 d a) (by rw[j];assumption))
   |skip
  refine⟨(D++[d],R),?_,⟨Ae,λz c=>?_⟩,Af⟩;exact Jg;rcases Sz.1 c with c|c;exact f z c;rw[S9.1 c,j];assumption
 |nil=>
  have b:s.defects.length=D.length:=Ae;have k:∀d∈s.defects,fewS d:=λd h=>f d BF;clear hp f;repeat' ((conv=>whnf);first|omega|refine zS ?_|refine zT ?_ ?_<;>intro _|fail)
  all_goals conv=>whnf
  all_goals first
   |exact aA (aC λh=>by have:=(e.1 h).2;omega)
   |exact aA (fQ ⟨λh=>e.2 ⟨k,Aa,Aa,Aa,h⟩,λh=>(e.1 h).2.2.2.2⟩)
def aT9(b:Bar):Sp 24 [barV b] (DB (aJ9 b)):=by
 refine zsp func24 ?_;have c:(b.defects.map ivV).length=b.defects.length:=Af;have a:aJ9 b↔b.grade.size<=40/\b.heat.size<=40/\b.defects.length<=10:=Tn;generalize aJ9 b=P at*;repeat' ((conv=>whnf);first|refine zS ?_|refine zT ?_ ?_<;>intro _|fail)
 all_goals conv=>whnf
 all_goals first
  |exact aA (aC λh=>by have:=(a.1 h);omega)
  |exact aA (le_dec ⟨λh=>a.2 ⟨Aa,Aa,Aa⟩,λh=>by have:=(a.1 h).2.2;omega⟩)
def aS2(l:List Event)(n:Int)(L:l.length<=9223372036854775807)(x:∀e∈l,bI1 e):Sp 6 [.sl (l.map aS),I n] (DB (fewL l n)):=by
 refine zsp func6 ?_;have M:(l.map aS).length=l.length:=Af;have v:fewL l n↔(∀e∈l,fewE e)/\(l.length:Int)<=n:=Tn;generalize fewL l n=P at*;repeat' ((conv=>whnf);first|refine zS ?_|fail)
 refine aU (A:=List Event) (B:=List Event) (λD R=>mkSt [(0, .sl (l.map aS)),(1,I n),(5,I D.length)] [] []) (λD R=>l=D++R/\∀d∈D,fewE d) (λD R=>R.length) [] l ?_ ⟨rfl,Af⟩ (λD R hp=>?_);exact zj;obtain⟨hp,r⟩:=hp;cases R with
 |cons e R=>
  have k:=aO hp;have j:e∈l:=Ae;obtain⟨w,F,G,H⟩:=x e j;have J:=bM5 e.sheet w;have K:=aT9 e.bar;have y:(e.cuts.map dK).length=e.cuts.length:=Af;have C:(e.rests.map bY).length=e.rests.length:=Af;have m:fewE e↔(e.cuts.length<=12/\e.rests.length<=8/\e.text.size<=40/\xY e.sheet/\aJ9 e.bar)/\∀c∈e.cuts,c.part.size<=40:=Tn;have b:P->fewE e:=λh=>(v.1 h).1 e j
  have s:fewE e->∀d∈D++[e],fewE d:=λh d g=>by
   rcases Sz.1 g with g|g;exact r d g;rw[S9.1 g];exact h
  generalize fewE e=Q at*;generalize xY e.sheet=N at*;generalize aJ9 e.bar=O at*;repeat' ((conv=>whnf);first|omega|refine zS ?_|refine zd (λg=>?_) (λg=>?_)|refine zl (λa=>?_) (λa=>?_))
  all_goals conv=>whnf
  all_goals first
   |exact aA (aC λh=>by have:=(m.1 (b h)).1;omega)
   |exact aA (aC λh=>absurd (m.1 (b h)).1.2.2.2.1 Ag)
   |exact aA (aC λh=>absurd (m.1 (b h)).1.2.2.2.2 Ag)
   |skip
  refine aU (A:=List Made) (B:=List Made) (λE S=>mkSt [(0, .sl (l.map aS)),(1,I n),(5,I D.length),(6,I E.length)] [] []) (λE S=>e.cuts=E++S/\∀c∈E,c.part.size<=40) (λE S=>S.length) [] e.cuts ?_ ⟨rfl,Af⟩ (λE S f=>?_);exact zj;obtain⟨f,t⟩:=f;cases S with
  |cons c S=>
   have i:=aO f;have u:c∈e.cuts:=by rw[f];simp
   repeat' ((conv=>whnf);first|omega|refine zS ?_|refine zl (λa=>?_) (λa=>?_))
   all_goals conv=>whnf
   all_goals first
    |exact aA (aC λh=>by have:=(m.1 (b h)).2 c u;omega)
    |skip
   refine⟨(E++[c],S),?_,⟨by rw[f];simp,λz o=>?_⟩,Af⟩;exact Jg;rcases Sz.1 o with o|o;exact t z o;rw[S9.1 o];omega
  |nil=>
   have i:e.cuts.length=E.length:=by rw[f];simp
   have q:∀c∈e.cuts,c.part.size<=40:=λc h=>t c (by rw[f,SB]at h;exact h);clear f t;repeat' ((conv=>whnf);first|omega|refine zS ?_|refine zl (λa=>?_) (λa=>?_))
   all_goals conv=>whnf
   refine⟨(D++[e],R),?_,⟨Ae,s (m.2 ⟨⟨Aa,Aa,Aa,Ag,Ag⟩,q⟩)⟩,Af⟩;exact NQ
 |nil=>
  have k:l.length=D.length:=Ae;have q:∀d∈l,fewE d:=λd h=>r d BF;clear hp r;repeat' ((conv=>whnf);first|omega|refine zS ?_|refine zl (λa=>?_) (λa=>?_))
  all_goals conv=>whnf
  exact aA (le_dec ⟨λh=>v.2 ⟨q,Aa⟩,λh=>by have:=(v.1 h).2;omega⟩)
def pow_le{i:Nat}(h:i<=55):2^i<=36028797018963968:=SX (Nat.pow_le_pow_right Ai h) Ai
def lim_pow:∀ {k:Nat},1<=k->k<=7->lim k=((2^(8*k-1):Nat):Int):=by
 intro k j l;obtain⟨b,c,d,e,f,g,i,_⟩:=lims;have a:k=1\/k=2\/k=3\/k=4\/k=5\/k=6\/k=7:=Aa;rcases a with rfl|rfl|rfl|rfl|rfl|rfl|rfl;rw[b];rfl;rw[c];rfl;rw[d];rfl;rw[e];rfl;rw[f];rfl;rw[g];rfl;rw[i];rfl
def rWidth_spec(n:Int)(o:R64 n):Sp 89 [I n] (I (widN n)):=by
 refine zsp func89 ?_;have u:=wid_le n;have d:=wid_fits o;by_cases f:n=0;have e:(widN n:Int)=0:=by rw[wid_zero.2 f];rfl
 rw[e];exact Ol;have v:=mt wid_zero.1 f;repeat' ((conv=>whnf);first|omega|refine zS ?_|refine zm (λx hx=>?_)|refine zT ?_ ?_<;>intro _|fail)
 all_goals conv=>whnf
 refine lD (A:=Nat) (λk=>mkSt [(0,I n),(3,I k)] [] []) (λk=>1<=k/\k<=widN n) (λk=>8-k) 1 ?_ ⟨Sr _,Aa⟩ (λk l=>?_);exact zj;obtain⟨s,w⟩:=l;by_cases y:k=8;have e:(widN n:Int)=8:=by omega
 rw[e];exact Ol;have m:=lim_pow s Aa;have t:=pow_le (i:=8*k-1) Aa;have g:fits k n↔-lim k<=n/\n<lim k:=by unfold fits;rw[RZ (by omega)]
 repeat' ((conv=>whnf);first|omega|refine zS ?_|refine zm (λx hx=>?_)|refine zT ?_ ?_<;>intro _|fail)
 all_goals conv=>whnf
 refine lD (A:=Nat) (λi=>mkSt [(0,I n),(3,I k),(4,I ((2^i:Nat):Int)),(5,I i)] [] []) (λi=>i<=8*k-1) (λi=>8*k-1-i) 0 ?_ (SH _) (λi hi=>?_);exact zj;have r:=pow_le (i:=i) Aa;by_cases c:i=8*k-1
 ·rw[<-c]at m
  by_cases a:fits k n;have e:(widN n:Int)=k:=by have:=fits_wid a Aa;omega
  rw[e];have b:=g.1 a;generalize 2^i=Z at*;exact Ol;have q:k≠widN n:=λe=>a (by rw[e];exact d);have b:=mt g.2 a;generalize 2^i=Z at*;repeat' ((conv=>whnf);first|omega|refine zS ?_|refine zm (λx hx=>?_)|refine zT ?_ ?_<;>intro _|fail)
  all_goals conv=>whnf
  all_goals refine⟨k+1,?_,⟨Aa,Aa⟩,by show 8- (k+1)<8-k;omega⟩
  all_goals refine dV ?_ ?_ ?_ ?_
  all_goals repeat' (first|exact trivial|refine And.intro ?_ ?_|with_reducible rfl|exact(λh=>Ah)|exact Sr _|omega|exact rfl)
 have j:((2^(i+1):Nat):Int)=2*((2^i:Nat):Int):=by rw[Nat.pow_succ];omega
 generalize 2^i=Z at*;repeat' ((conv=>whnf);first|omega|refine zS ?_|refine zm (λx hx=>?_)|refine zT ?_ ?_<;>intro _|fail)
 all_goals conv=>whnf
 refine⟨i+1,?_,Aa,Aa⟩;rw[j];exact zj
theorem dropB_comm:∀(j:Nat) (n:Int),dropB j (n/256)=dropB j n/256
 |0,n=>rfl
 |j+1,n=>by unfold dropB;rw[dropB_comm j n]
theorem bytes_front:∀(j:Nat) (n:Int),bytesN (j+1) n=dropB j n% 256::bytesN j n
 |0,n=>rfl
 |j+1,n=>by
  rw[show bytesN (j+1+1) n=bytesN (j+1) (n/256)++[n% 256]from rfl,bytes_front j (n/256),dropB_comm];rfl
def drop_u64{n:Int}{j:Nat}(h:j<8):dropB j (n% 18446744073709551616)% 256=dropB j n% 256:=by
 have a:j=0\/j=1\/j=2\/j=3\/j=4\/j=5\/j=6\/j=7:=Aa;rcases a with rfl|rfl|rfl|rfl|rfl|rfl|rfl|rfl<;>(simp only[dropB];omega)
def dropB_nn:∀(j:Nat) {n:Int},0<=n/\n<18446744073709551616->0<=dropB j n/\dropB j n<18446744073709551616
 |0,n,h=>h
 |j+1,n,h=>by have:=dropB_nn j h;unfold dropB;omega
theorem u64_wrap(n:Int):IntKind.u64.wrap n=n% 18446744073709551616:=by
 simp[IntKind.wrap,IntKind.signed,IntKind.bits]
def map_set_mid{a β:Type}(f:a->β){A B:List a}{x y:a}{i:Nat}(h:i=A.length):((A++x::B).map f).set i (f y)=(A++y::B).map f:=by subst h;simp
def rInt_spec(n:Int)(w:R64 n):Sp 33 [I n] (.own 5 ((encI n).map byV)):=by
 refine zsp func33 ?_;have H:=wid_le n;have d:=rWidth_spec n w;have u:encI n=(widN n:Int)::bytesN (widN n) n:=rfl;rw[u];generalize widN n=k at*;have r:(T.row (T.row 37).elem).bytes=1:=Ac;have t:rU (T.row (T.row 37).elem) (mapR .lit (T.row (T.row 37).elem).zero)=byV 0:=Ac
 have s:List.replicate ((k:Int)+1).toNat (byV 0)=(List.replicate (k+1) (0:Int)).map byV:=by
  rw[List.map_replicate,show((k:Int)+1).toNat=k+1 from Aa]
 all_goals conv=>whnf
 refine eY7 ?_;repeat' ((conv=>whnf);first|refine zc d ?_|refine zU ?_|refine zm (λx hx=>?_)|refine zT ?_ ?_<;>intro _|fail)
 refine eY7 ?_;repeat' ((conv=>whnf);first|refine zc d ?_|refine zU ?_|refine zm (λx hx=>?_)|refine zT ?_ ?_<;>intro _|fail)
 all_goals conv=>whnf
 refine dJ4 Unit (λ_=>mkSt [(0,I n),(3,I k),(4, .arr 11 0)] [] [(11,⟨0, .own,5,(List.replicate (k+1) (0:Int)).map byV⟩)]) (λ_=>True) ?_ ?_
 ·repeat' ((conv=>whnf);first|refine fU ⟨Aa,rfl,by rw[r];omega,Aa⟩ ?_|refine zS ?_|refine zm (λx hx=>?_)|refine zT ?_ ?_<;>intro _|fail)
  all_goals conv=>whnf
  refine⟨(),?_,trivial⟩;rw[<-s,<-t];exact zj
 intro _ _;all_goals conv=>whnf
 refine dJ4 Unit (λ_=>mkSt [(0,I n),(3,I k),(4, .arr 11 0)] [] [(11,⟨0, .own,5,((k:Int)::List.replicate k 0).map byV⟩)]) (λ_=>True) ?_ ?_
 ·have G:((List.replicate (k+1) (0:Int)).map byV).length=k+1:=by simp
  have E:(List.replicate (k+1) (0:Int)).map byV=byV 0::(List.replicate k (0:Int)).map byV:=rfl
  have es:((List.replicate (k+1) (0:Int)).map byV).set 0 (byV ((k:Int)% 256))=((k:Int)::List.replicate k 0).map byV:=by
   rw[show(k:Int)% 256=k from Aa];rfl
  repeat' ((conv=>whnf);first|refine fK (byte_wrap _) ?_|refine dS rfl rfl (by show 0<=_/\_< (((List.replicate (k+1) (0:Int)).map byV).length:Int);omega) ?_|refine dB8 rfl rfl ?_|refine aF (l:=List.replicate (k+1) (0:Int)) (A:=[]) (x:=0) (B:=List.replicate k 0) rfl rfl ?_|refine zS ?_|refine zm (λx hx=>?_)|refine zT ?_ ?_<;>intro _|fail)
  all_goals conv=>whnf
  refine⟨(),?_,trivial⟩;rw[<-es];exact zj
 intro _ _;have f:0<=n% 18446744073709551616/\n% 18446744073709551616<18446744073709551616:=Aa;have a:∀j,j<8->dropB j (n% 18446744073709551616)% 256=dropB j n% 256:=λj h=>drop_u64 h;repeat' ((conv=>whnf);first|refine fK (u64_wrap _) ?_|refine zS ?_|refine zm (λx hx=>?_)|refine zT ?_ ?_<;>intro _|fail)
 all_goals conv=>whnf
 generalize n% 18446744073709551616=U at*;refine lD (A:=Nat) (λj=>mkSt [(4, .arr 11 0),(5, .lit (.int .u64 (dropB j U))),(6,I ((k:Int)-j))] [] [(11,⟨0, .own,5,((k:Int)::(List.replicate (k-j) 0++bytesN j n)).map byV⟩)]) (λj=>j<=k) (λj=>k-j) 0 ?_ (SH _) (λj F=>?_);have e:(k:Int)::(List.replicate (k-0) 0++bytesN 0 n)=(k:Int)::List.replicate k 0:=by rw[show bytesN 0 n=[]from rfl,SB];rfl
 have o:(k:Int)- (0:Nat)=k:=Aa;rw[e,o];exact zj;by_cases c:j=k;have e:(k:Int)::(List.replicate (k-j) 0++bytesN j n)=(k:Int)::bytesN k n:=by rw[c,Nat.sub_self];rfl
 rw[e];exact Ol;obtain⟨m,v⟩:∃m,k-j=m+1:=⟨k-j-1,Aa⟩;have i:=dropB_nn j f;have y:(dropB j U).tmod 256=dropB j n% 256:=by rw[Int.tmod_eq_emod_of_nonneg i.1];exact a j (by omega)
 have z:(dropB j U).tdiv 256=dropB (j+1) U:=by rw[Int.tdiv_eq_ediv_of_nonneg i.1];rfl
 have C:IntKind.u64.wrap (dropB (j+1) U)=dropB (j+1) U:=by
  have:=dropB_nn (j+1) f;rw[u64_wrap];omega
 have hi:((k:Int)::(List.replicate (k-j) 0++bytesN j n))=((k:Int)::List.replicate m 0)++0::bytesN j n:=by
  rw[v,List.replicate_succ',Sv];rfl
 have b:((k:Int)::(List.replicate (k- (j+1)) 0++bytesN (j+1) n))=((k:Int)::List.replicate m 0)++(dropB j n% 256)::bytesN j n:=by
  rw[show k- (j+1)=m from Aa,bytes_front];rfl
 have g:((((k:Int)::List.replicate m 0)++0::bytesN j n).map byV).length=k+1:=by simp[bytesN_len];omega
 have es:((((k:Int)::List.replicate m 0)++0::bytesN j n).map byV).set ((k:Int)-j).toNat (byV (dropB j n% 256))=(((k:Int)::List.replicate m 0)++(dropB j n% 256)::bytesN j n).map byV:=
  map_set_mid byV Fp
 have D:IntKind.u8.wrap (dropB j n% 256)=dropB j n% 256:=by rw[byte_wrap];omega
 rw[hi];all_goals conv=>whnf
 repeat' ((conv=>whnf);first|omega|refine fK (by rw[y,D]) ?_|refine fK (by rw[z,C]) ?_|refine dS rfl rfl (by show 0<=_/\_< (((((k:Int)::List.replicate m 0)++0::bytesN j n).map byV).length:Int);omega) ?_|refine dB8 rfl rfl ?_|refine aF (l:=((k:Int)::List.replicate m 0)++0::bytesN j n) (A:=(k:Int)::List.replicate m 0) (x:=0) (B:=bytesN j n) rfl Fp ?_|refine zS ?_|refine zm (λx hx=>?_)|refine zT ?_ ?_<;>intro _|fail)
 all_goals conv=>whnf
 refine⟨j+1,?_,Aa,Aa⟩;have q:(k:Int)- ((j+1:Nat):Int)=(k:Int)-j-1:=Aa;rw[b,<-es,q];exact zj
end Go.Proofs.Led
