/- Lemmas. -/
import Derived.Test.YtcmgfjaiegpddaaGreatB21
set_option linter.all false
set_option maxRecDepth 100000
set_option maxHeartbeats 4000000
noncomputable section
namespace Go.Proofs.Led
open Go Go.Proofs Go.Ab Tryz
def aV5(s:Sh):Prop:=s.outer.length<=9223372036854775807/\s.holes.length<=9223372036854775807/\∀h∈s.holes,h.length<=9223372036854775807
def aA4(s:jL):Prop:=aV5 s.shape/\s.defects.length<=9223372036854775807/\∀d∈s.defects,aV5 d
structure bI1(e:Event):Prop where
 sh:aA4 e.sheet
 br:e.bar.defects.length<=9223372036854775807
 ct:e.cuts.length<=9223372036854775807
 rs:e.rests.length<=9223372036854775807
def cntS(n:Int)(l:List Rg):Int:=l.foldl (λn h=>W (n+(h.length:Int))) n
def dP1(n:Int)(D:List Rg)(h:Rg):cntS n (D++[h])=W (cntS n D+(h.length:Int)):=by unfold cntS;simp
def fewS(s:Sh):Prop:=s.holes.length<=3/\cntS s.outer.length s.holes<=24
def xY(s:jL):Prop:=(∀d∈s.defects,fewS d)/\s.grade.size<=40/\s.heat.size<=40/\s.defects.length<=8/\fewS s.shape
def aJ9(b:Bar):Prop:=b.grade.size<=40/\b.heat.size<=40/\b.defects.length<=10
def fewE(e:Event):Prop:=(e.cuts.length<=12/\e.rests.length<=8/\e.text.size<=40/\xY e.sheet/\aJ9 e.bar)/\∀c∈e.cuts,c.part.size<=40
def fewL(l:List Event)(n:Int):Prop:=(∀e∈l,fewE e)/\(l.length:Int)<=n
def bR9(s:Sh)(m:aV5 s):Sp 84 [shV s] (DB (fewS s)):=by
 refine zsp func84 ?_;obtain⟨o,q,f⟩:=m;have d:(s.outer.map vcV).length=s.outer.length:=Af;have l:(s.holes.map rgV).length=s.holes.length:=Af;have b:fewS s↔s.holes.length<=3/\cntS s.outer.length s.holes<=24:=Qn;generalize fewS s=P at*;repeat' ((conv=>whnf);first|refine zS ?_|fail)
 refine aU (A:=List Rg) (B:=List Rg) (λD R=>mkSt [(1, .box 1 0),(3,I (cntS s.outer.length D)),(4,I D.length)] [(1,(shV s).cells)] []) (λD R=>s.holes=D++R) (λD R=>R.length) [] s.holes ?_ rfl (λD R hp=>?_);show Le _ _ (mkSt [(1, .box 1 0),(3,I (s.outer.length:Int)),(4,I 0)] [(1,(shV s).cells)] []);rw[<-d];exact zj;cases R with
 |cons h R=>
  have i:=dP1 s.outer.length D;generalize cntS (s.outer.length:Int) D=n at*;have a:=aO hp;have k:h.length<=9223372036854775807:=f h Ad;have c:(h.map vcV).length=h.length:=Af;have j:=i h;repeat' ((conv=>whnf);first|omega|refine zS ?_|refine zT ?_ ?_<;>intro _|fail)
  all_goals conv=>whnf
  refine⟨(D++[h],R),?_,Ad,Af⟩;simp only[OY,PL,j];rw[<-c];show Le _ _ (mkSt [(1, .box 1 0),(3,I (W (n+((h.map vcV).length:Int)))),(4,I ((D.length:Int)+1))] [(1,(shV s).cells)] []);exact zj
 |nil=>
  have a:s.holes.length=D.length:=Ad;have e:s.holes=D:=Ad;have g:cntS (s.outer.length:Int) s.holes=cntS (s.outer.length:Int) D:=by rw[e]
  rw[g]at b;generalize cntS (s.outer.length:Int) D=n at*;clear hp e g;repeat' ((conv=>whnf);first|omega|refine zS ?_|refine zT ?_ ?_<;>intro _|fail)
  all_goals conv=>whnf
  exact aA (le_dec ⟨λh=>b.2 ⟨Aa,h⟩,λh=>(b.1 h).2⟩);exact aA (aC λh=>by have:=(b.1 h).1;omega)
def bM5(s:jL)(m:aA4 s):Sp 23 [zJ s] (DB (xY s)):=by
 refine zsp func23 ?_;obtain⟨g,n,i⟩:=m;have l:(s.defects.map shV).length=s.defects.length:=Af;have e:xY s↔(∀d∈s.defects,fewS d)/\s.grade.size<=40/\s.heat.size<=40/\s.defects.length<=8/\fewS s.shape:=Qn;have q:=bR9 s.shape g;generalize xY s=P at*;generalize fewS s.shape=t at*;repeat' ((conv=>whnf);first|refine zS ?_|fail)
 refine aU (A:=List Sh) (B:=List Sh) (λD R=>mkSt [(1, .box 1 0),(3,I D.length)] [(1,aA7 s)] []) (λD R=>s.defects=D++R/\∀d∈D,fewS d) (λD R=>R.length) [] s.defects ?_ ⟨rfl,Af⟩ (λD R hp=>?_);exact zj;obtain⟨hp,f⟩:=hp;cases R with
 |cons d R=>
  have b:=aO hp;have a:d∈s.defects:=Ad;have o:=bR9 d (i d a);have r:fewS d↔fewS d:=Qn;generalize j:fewS d=u at*;repeat' ((conv=>whnf);first|omega|refine zS ?_|refine zT ?_ ?_<;>intro _|fail)
  all_goals conv=>whnf
  all_goals first
   |exact aA (aC λh=>absurd ((e.1 h).1 d a) (by rw[j];assumption))
   |skip
  refine⟨(D++[d],R),?_,⟨Ad,λz c=>?_⟩,Af⟩;exact Ih;rcases Pv.1 c with c|c;exact f z c;rw[Py.1 c,j];assumption
 |nil=>
  have b:s.defects.length=D.length:=Ad;have k:∀d∈s.defects,fewS d:=λd h=>f d Cc;clear hp f;repeat' ((conv=>whnf);first|omega|refine zS ?_|refine zT ?_ ?_<;>intro _|fail)
  all_goals conv=>whnf
  all_goals first
   |exact aA (aC λh=>by have:=(e.1 h).2;omega)
   |exact aA (fQ ⟨λh=>e.2 ⟨k,Aa,Aa,Aa,h⟩,λh=>(e.1 h).2.2.2.2⟩)
def aT9(b:Bar):Sp 24 [barV b] (DB (aJ9 b)):=by
 refine zsp func24 ?_;have c:(b.defects.map ivV).length=b.defects.length:=Af;have a:aJ9 b↔b.grade.size<=40/\b.heat.size<=40/\b.defects.length<=10:=Qn;generalize aJ9 b=P at*;repeat' ((conv=>whnf);first|refine zS ?_|refine zT ?_ ?_<;>intro _|fail)
 all_goals conv=>whnf
 all_goals first
  |exact aA (aC λh=>by have:=(a.1 h);omega)
  |exact aA (le_dec ⟨λh=>a.2 ⟨Aa,Aa,Aa⟩,λh=>by have:=(a.1 h).2.2;omega⟩)
def aS2(l:List Event)(n:Int)(L:l.length<=9223372036854775807)(x:∀e∈l,bI1 e):Sp 6 [.sl (l.map aS),I n] (DB (fewL l n)):=by
 refine zsp func6 ?_;have M:(l.map aS).length=l.length:=Af;have v:fewL l n↔(∀e∈l,fewE e)/\(l.length:Int)<=n:=Qn;generalize fewL l n=P at*;repeat' ((conv=>whnf);first|refine zS ?_|fail)
 refine aU (A:=List Event) (B:=List Event) (λD R=>mkSt [(0, .sl (l.map aS)),(1,I n),(5,I D.length)] [] []) (λD R=>l=D++R/\∀d∈D,fewE d) (λD R=>R.length) [] l ?_ ⟨rfl,Af⟩ (λD R hp=>?_);exact zj;obtain⟨hp,r⟩:=hp;cases R with
 |cons e R=>
  have k:=aO hp;have j:e∈l:=Ad;obtain⟨w,F,G,H⟩:=x e j;have J:=bM5 e.sheet w;have K:=aT9 e.bar;have y:(e.cuts.map dK).length=e.cuts.length:=Af;have C:(e.rests.map bY).length=e.rests.length:=Af;have m:fewE e↔(e.cuts.length<=12/\e.rests.length<=8/\e.text.size<=40/\xY e.sheet/\aJ9 e.bar)/\∀c∈e.cuts,c.part.size<=40:=Qn;have b:P->fewE e:=λh=>(v.1 h).1 e j
  have s:fewE e->∀d∈D++[e],fewE d:=λh d g=>by
   rcases Pv.1 g with g|g;exact r d g;rw[Py.1 g];exact h
  generalize fewE e=Q at*;generalize xY e.sheet=N at*;generalize aJ9 e.bar=O at*;repeat' ((conv=>whnf);first|omega|refine zS ?_|refine zd (λg=>?_) (λg=>?_)|refine zl (λa=>?_) (λa=>?_))
  all_goals conv=>whnf
  all_goals first
   |exact aA (aC λh=>by have:=(m.1 (b h)).1;omega)
   |exact aA (aC λh=>absurd (m.1 (b h)).1.2.2.2.1 Ah)
   |exact aA (aC λh=>absurd (m.1 (b h)).1.2.2.2.2 Ah)
   |skip
  refine aU (A:=List Made) (B:=List Made) (λE S=>mkSt [(0, .sl (l.map aS)),(1,I n),(5,I D.length),(6,I E.length)] [] []) (λE S=>e.cuts=E++S/\∀c∈E,c.part.size<=40) (λE S=>S.length) [] e.cuts ?_ ⟨rfl,Af⟩ (λE S f=>?_);exact zj;obtain⟨f,t⟩:=f;cases S with
  |cons c S=>
   have i:=aO f;have u:c∈e.cuts:=by rw[f];simp
   repeat' ((conv=>whnf);first|omega|refine zS ?_|refine zl (λa=>?_) (λa=>?_))
   all_goals conv=>whnf
   all_goals first
    |exact aA (aC λh=>by have:=(m.1 (b h)).2 c u;omega)
    |skip
   refine⟨(E++[c],S),?_,⟨by rw[f];simp,λz o=>?_⟩,Af⟩;exact Ih;rcases Pv.1 o with o|o;exact t z o;rw[Py.1 o];omega
  |nil=>
   have i:e.cuts.length=E.length:=by rw[f];simp
   have q:∀c∈e.cuts,c.part.size<=40:=λc h=>t c (by rw[f,Pz]at h;exact h);clear f t;repeat' ((conv=>whnf);first|omega|refine zS ?_|refine zl (λa=>?_) (λa=>?_))
   all_goals conv=>whnf
   refine⟨(D++[e],R),?_,⟨Ad,s (m.2 ⟨⟨Aa,Aa,Aa,Ah,Ah⟩,q⟩)⟩,Af⟩;exact L8
 |nil=>
  have k:l.length=D.length:=Ad;have q:∀d∈l,fewE d:=λd h=>r d Cc;clear hp r;repeat' ((conv=>whnf);first|omega|refine zS ?_|refine zl (λa=>?_) (λa=>?_))
  all_goals conv=>whnf
  exact aA (le_dec ⟨λh=>v.2 ⟨q,Aa⟩,λh=>by have:=(v.1 h).2;omega⟩)
end Go.Proofs.Led
