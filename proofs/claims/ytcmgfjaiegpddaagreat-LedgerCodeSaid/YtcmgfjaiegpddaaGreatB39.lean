/- Lemmas. -/
import Derived.Test.YtcmgfjaiegpddaaGreatB22
import Derived.Test.YtcmgfjaiegpddaaGreatB34
import Derived.Test.YtcmgfjaiegpddaaGreatB38
set_option linter.all false
set_option maxRecDepth 100000
set_option maxHeartbeats 8000000
noncomputable section
namespace Go.Proofs.Led
open Go Go.Proofs Go.Ab Tryz
variable{α β:Type}
def AllB(l:List Int):Prop:=∀c∈l,isB c
def AllB.app{l m:List Int}(h:AllB l)(k:AllB m):AllB (l++m):=λc a=>(Sz.1 a).elim (h c) (k c)
def allB_int(n:Int):AllB (encI n):=enc_isB n
def allB_many{c:Cod α}(h:∀x,AllB (c.enc x))(l:List α):AllB (c.many l):=λb a=>by
 obtain⟨x,_,d⟩:=Vh.1 a;exact h x b d
def allB_bytes{m:Int}{l:List Int}(h:AllB l):AllB ((cBytes m).enc l):=by
 rw[cBytes_enc];exact(allB_int _).app h
def allB_text{m:Int}(s:ByteArray):AllB ((cText m).enc s):=by
 rw[cText_enc];exact(allB_int _).app (bys_isB s)
def allB_vec(v:Vc):AllB (cVec.enc v):=(allB_int v.1).app (allB_int v.2)
def allB_ring{m:Int}(l:Rg):AllB ((cRing m).enc l):=(allB_int _).app (allB_many allB_vec l)
def allB_shape(s:Sh):AllB (cShape.enc s):=(allB_ring s.outer).app ((allB_int _).app (allB_many allB_ring s.holes))
def allB_sheet(s:jL):AllB (cSheet.enc s):=(allB_int s.id).app ((allB_text s.grade).app ((allB_text s.heat).app ((allB_int s.grain).app ((allB_shape s.shape).app ((allB_int _).app (allB_many allB_shape s.defects))))))
def allB_bar(s:Bar):AllB (cBar.enc s):=(allB_int s.id).app ((allB_text s.grade).app ((allB_text s.heat).app ((allB_int s.length).app ((allB_int _).app (allB_many allB_vec s.defects)))))
def allB_opt{c:Cod α}{z:α}(h:∀x,AllB (c.enc x))(x:α):AllB (optE c z x):=by
 by_cases a:x=z;rw[optE_t a];exact λc b=>by cases b
 rw[optE_f a];exact h x
def allB_event(m:Int)(x:Event):AllB ((cEvent m).enc x):=
 (allB_int x.kind).app ((allB_int x.id).app ((allB_text x.text).app ((allB_bytes (m:=m) (allB_opt allB_sheet x.sheet)).app ((allB_bytes (m:=m) (allB_opt allB_bar x.bar)).app (((allB_int _).app (allB_many (λc=>(allB_int c.id).app ((allB_text c.part).app (allB_int c.size))) x.cuts)).app
  (((allB_int _).app (allB_many (λr=>(allB_int r.id).app (((allB_vec r.box.1).app (allB_vec r.box.2)).app ((allB_int r.lo).app (allB_int r.hi)))) x.rests)).app (allB_int x.scrap)))))))
def name_ok{t:ByteArray}(h:iM t\/t=aI):(cText 16).ok t:=by
 refine⟨⟨?_,λ_ _=>trivial⟩,trivial⟩;show((bys t).length:Int)<=16;rw[bys_len];rcases h with h|rfl;have:=h.2.1;omega;decide
def shape_ok{s:Sh}(h:bG s):cShape.ok s:=by
 obtain⟨c,a,_⟩:=h;refine⟨⟨?_,λv _=>⟨trivial,trivial⟩⟩,?_,λr b=>⟨?_,λv _=>⟨trivial,trivial⟩⟩⟩;have:=(a s.outer (UC ..)).2.1;show(s.outer.length:Int)<=40;omega;show(s.holes.length:Int)<=6;omega;have:=(a r (Ud _ b)).2.1;show(r.length:Int)<=40;omega
def sheet_ok{s:jL}(h:dB s):cSheet.ok s:=by
 have a:=h;obtain⟨⟨_,_,b,c⟩,_,_,e,i,_,_,f⟩:=h;refine⟨⟨trivial,name_ok (.inl b),name_ok (.inl c),trivial,shape_ok e.1,?_,λd g=>shape_ok (f d g).1.1⟩,a⟩;show(s.defects.length:Int)<=6;omega
def bar_ok{s:Bar}(h:fM s):cBar.ok s:=by
 have a:=h;obtain⟨⟨_,_,b,c⟩,_,_,e,_⟩:=h;refine⟨⟨trivial,name_ok (.inl b),name_ok (.inl c),trivial,?_,λd f=>⟨trivial,trivial⟩⟩,a⟩;show(s.defects.length:Int)<=6;omega
def formed_parts{x:Event}(h:iD x):(x.sheet=dN\/cSheet.ok x.sheet)/\(x.bar=bar0\/cBar.ok x.bar)/\(cText 16).ok x.text/\(∀c∈x.cuts,(cText 16).ok c.part)/\x.cuts.length<=60/\x.rests.length<=6:=by
 obtain⟨g,i,d,j,l,n,e,a,q,m⟩:=h;have o:x.kind=1\/x.kind=2\/x.kind=3\/x.kind=4\/x.kind=5\/x.kind=6\/x.kind=7\/x.kind=8:=Aa;refine⟨?_,?_,?_,?_,?_,?_⟩;by_cases c:x.kind=1;exact .inr (sheet_ok (j c).2);by_cases b:x.kind=2;exact .inl (no_sheet.1 (l b).1);exact .inl (no_sheet.1 (i Aa).1);by_cases c:x.kind=2;exact .inr (bar_ok (l c).2);by_cases b:x.kind=1;exact .inl (no_bar.1 (j b).1);exact .inl (no_bar.1 (i Aa).2);refine name_ok ?_;by_cases c:x.kind=3\/x.kind=7;exact .inl (n c);right;rcases o with k|k|k|k|k|k|k|k;exact(g (.inl k)).2;exact(g (.inr k)).2;exact absurd (.inl k) c;exact e (.inl k);exact(a k).2.2.2.2.2;exact e (.inr (.inl k));exact absurd (.inr k) c;exact e (.inr (.inr k));intro c f;by_cases k:x.kind=5;exact name_ok (.inl ((a k).1 c f).2.1);have:=(d k).1;rw[Tm.1 this]at f;cases f;by_cases k:x.kind=5;exact(a k).2.2.1;have:=(d k).1;omega;by_cases k:x.kind=5;exact(a k).2.2.2.1;have:=(d k).2.1;omega
def back_iff{m:Int}{x y:Event}(h:EvIn x)(a:fewE x)(f:6143<=m):(cEvent m).at ((cEvent m).enc x) 0=some (y,((cEvent m).enc x).length)↔y=x/\iD x:=by
 constructor;intro e;obtain⟨b,c,d⟩:=at_all.1 e;have:=((cEvent m).uni (r:=[]) (s:=[]) (event_rng h a) c (by rw[b])).1;exact⟨this.symm,by rw[this];exact d.2⟩;rintro⟨rfl,hv⟩;obtain⟨g,i,j⟩:=formed_parts hv;exact event_back h a f g i j hv
def read_sized{m:Int}{b:List Int}{e:Nat}{x:Event}(h:(cEvent m).at b 0=some (x,e)):iY x/\aA4 x.sheet/\Len6 x.bar.defects/\x.cuts.length<=60/\x.rests.length<=6/\(cEvent m).rng x/\iD x:=by
 obtain⟨y,z,k,l⟩:=(Cod.at_iff _).1 h;obtain⟨⟨o1,o2,A,⟨⟨B,o⟩,a⟩,⟨⟨C,q⟩,c⟩,⟨i,_⟩,⟨j,_⟩,D⟩,hv⟩:=l;have i:(x.cuts.length:Int)<=60:=i;have j:(x.rests.length:Int)<=6:=j
 have g:tN x.sheet:=by
  rcases a with e|e;have e:x.sheet=dN:=e;rw[e];exact⟨⟨Ai,Ai,λ_ h=>Ah⟩,Ai,λ_ h=>Ah⟩;obtain⟨⟨_,_,_,_,s,f,t⟩,_⟩:=e;have f:(x.sheet.defects.length:Int)<=6:=f;exact⟨shape_fits s,Aa,λd hd=>shape_fits (t d hd)⟩
 have n:x.bar.defects.length<=1000000:=by
  rcases c with e|e;have e:x.bar=bar0:=e;rw[e];exact SH _;obtain⟨⟨_,_,_,_,f,_⟩,_⟩:=e;have f:(x.bar.defects.length:Int)<=6:=f;omega
 refine⟨⟨g,n,Aa,Aa⟩,?_,BJ,Aa,Aa,k,hv⟩;obtain⟨⟨u,v,a3⟩,w,b2⟩:=g;exact Pm
def dEvent_cases{b:List Int}(a:Byt b):(∃x,(cEvent 200000).at b 0=some (x,b.length)/\Sp 11 [.sl (b.map byV)] (.tup [aS x,I 0]))\/((∀x,(cEvent 200000).at b 0≠some (x,b.length))/\Sp 11 [.sl (b.map byV)] (.tup [aS event0,I 4])):=by
 by_cases h:∃s,(cEvent 200000).at b 0=some (s,b.length);obtain⟨s,h⟩:=h;refine .inl ⟨s,h,zsp func11 (dEvent_vc a _ (λc e=>?_) (λe=>absurd h (e s)))⟩;rw[h]at e;cases e;rfl;have h:∀s,(cEvent 200000).at b 0≠some (s,b.length):=λs e=>h ⟨s,e⟩;exact .inr ⟨h,zsp func11 (dEvent_vc a _ (λc e=>absurd e (h c)) (λ_=>rfl))⟩
def rdEvent_y{b:List Int}{x:Event}(a:Byt b)(h:(cEvent b.length).at b 0=some (x,b.length)):Sp 12 [.sl (b.map byV)] (.tup [aS x,I 0]):=by
 refine zsp func12 (rdEvent_vc a _ (λc e=>?_) (λe=>absurd h (e x)));rw[h]at e;cases e;rfl
def rdEvent_n{b:List Int}(a:Byt b)(h:∀x,(cEvent b.length).at b 0≠some (x,b.length)):Sp 12 [.sl (b.map byV)] (.tup [aS event0,I 4]):=
 zsp func12 (rdEvent_vc a _ (λc e=>absurd e (h c)) (λ_=>rfl))
def rSame_spec{b:List Int}(a:b.length<=100000000):Sp 9 [.sl (b.map byV), .sl (b.map byV)] (.lit (.bool true)):=by
 refine zsp func9 ?_;repeat' ((conv=>whnf);first|refine bytes_i b rfl ?_|refine zS ?_|refine zm (λx c=>?_)|refine zT ?_ ?_<;>intro _|fail)
 all_goals conv=>whnf
 have e:eqS (strOf b) (strOf b)=true:=by unfold eqS;simp
 exact aK e
def lawCode_spec(x:Event)(b:List Int)(i:EvIn x)(hb:AllB b)(hl:b.length<=9223372036854775807):Sp 3 [aS x, .sl (b.map byV)] (.lit (.bool true)):=by
 refine zsp func3 ?_;have aa:(b.map byV).length=b.length:=Af;have w:=zB;have A:=aS2 [x] 1 (by show(1:Nat)<=_;decide) (λe R=>by rw[S9.1 R];exact i.big);by_cases hf:fewL [x] 1;rotate_left
 ·repeat' ((conv=>whnf);first|(exfalso;contradiction)|refine zc w ?_|refine zc A ?_|refine zS ?_|refine zd (λj=>?_) (λj=>?_)|refine zl (λf=>?_) (λf=>?_)|refine zk (λd=>?_) (λd=>?_)|refine ze (λc=>?_) (λc=>?_)|refine zm (λx i=>?_)|refine zb (λa=>?_) (λa=>?_))
  all_goals exact zE
 by_cases h9:900<b.length
 ·repeat' ((conv=>whnf);first|omega|(exfalso;contradiction)|refine zc w ?_|refine zc A ?_|refine zS ?_|refine zd (λj=>?_) (λj=>?_)|refine zl (λf=>?_) (λf=>?_)|refine zk (λd=>?_) (λd=>?_)|refine ze (λc=>?_) (λc=>?_)|refine zm (λx i=>?_)|refine zb (λa=>?_) (λa=>?_))
  all_goals exact zE
 have k:fewE x:=hf.1 x (S9.2 rfl);obtain⟨Z,z2,z3,z4⟩:=aQ4 i.big k;have U:=event_rng (m:=200000) i k;have hL:=event_len (m:=200000) i k;have t:Byt b:=⟨hb,Aa⟩;have O:Byt ((cEvent 200000).enc x):=⟨allB_event _ x,Aa⟩;have D:=bB8 x Aa Aa;have F:=encEvent_spec x 200000 Z U Aa;have G:=rEncode_spec x 200000 i.big.sh i.big.br U Aa;have H:=rSame_spec (b:=(cEvent 200000).enc x) Aa;have n:=aE0 x Z;have B:=sEvent_spec x x i.big.sh i.big.br i.big.ct i.big.rs;rw[DB_t rfl]at B;have P:=back_iff (m:=200000) (y:=x) i k Ai
 obtain⟨y,e,R,K,L,M,N,n5⟩:∃(y:Event) (e:Int),(e=0\/e=4)/\Sp 11 [.sl (b.map byV)] (.tup [aS y,I e])/\Sp 12 [.sl (b.map byV)] (.tup [aS y,I e])/\
  Sp 14 [aS y] (aS y)/\Sp 13 [aS y,aS y] (.lit (.bool true))/\(e=0->Sp 7 [aS y] (.own 5 (b.map byV))):=by
  rcases dEvent_cases t with⟨y,l,s⟩|⟨l,s⟩
  ·obtain⟨w1,w2,w3,w4,w5,w6,w7⟩:=read_sized l
   have T:=at_all.1 l;have Y:=encEvent_spec y 200000 w1 w6 (by rw[<-T.1];omega);rw[<-T.1]at Y;have C:=sEvent_spec y y w2 w3 BJ BJ;rw[DB_t rfl]at C;exact⟨y,0, .inl rfl,s,rdEvent_y t (event_at_m (Int.le_refl _) l),their_spec y Aa Aa,C,λ_=>Y⟩
  ·have C:=sEvent_spec event0 event0 ⟨⟨Ai,Ai,λ_ h=>Ah⟩,Ai,λ_ h=>Ah⟩ EH EH EH
   rw[DB_t rfl]at C;exact⟨event0,4, .inr rfl,s,rdEvent_n t (λz hz=>l z (event_at_m Aa hz)),their_spec event0 EH EH,C,λh=>Ah⟩
 have o:=rSame_spec (b:=b) Aa
 obtain⟨u,g,V,J,W⟩:∃(u:Event) (g:Int),((g=0/\u=x/\iD x)\/(g=4/\¬iD x))/\Sp 11 [.sl (((cEvent 200000).enc x).map byV)] (.tup [aS u,I g])/\(g=0->Sp 14 [aS x] (aS x)):=by
  rcases dEvent_cases O with⟨y,l,s⟩|⟨l,s⟩;obtain⟨b1,b2⟩:=(back_iff i k Ai).1 l;exact⟨y,0, .inl ⟨rfl,b1,b2⟩,s,λ_=>their_spec x Aa Aa⟩;exact⟨event0,4, .inr ⟨rfl,λh=>l x (P.2 ⟨rfl,h⟩)⟩,s,λh=>Ah⟩
 generalize (cEvent 200000).enc x=E at*;generalize iD x=Q at*;have q:eqBB (eqB (0:Int) 0) true=true:=by rw[cA1];simp[aA1]
 have r:eqBB (eqB (4:Int) 0) false=true:=by rw[cA1,Bool.eq_false_iff.2 (mt aA1.1 (by decide:¬(4:Int)=0))];rfl
 rcases R with rfl|rfl
 ·have X:=n5 rfl
  rcases V with⟨rfl,rfl,v⟩|⟨rfl,v⟩
  ·have S:=W rfl
   rw[DB_t v]at n;repeat' ((conv=>whnf);first|omega|(exfalso;contradiction)|refine eZ1 Ak ?_|refine cC0 [(2,2),(6,6),(8,8),(10,10)] Ad Ak ?_|refine zc w ?_|refine zc A ?_|refine zc D ?_|refine zc F ?_|refine zc G ?_|refine zc H ?_|refine zc K ?_|refine zc L ?_|refine zc M ?_|refine zc N ?_|refine zc X ?_|refine zc o ?_|(refine aS5 (o) true ?_ rfl ?_;focus ((repeat' (first|exact trivial|refine And.intro ?_ ?_|with_reducible rfl|exact(λh=>Ah)|exact rfl));done))|refine zc J ?_|refine zc S ?_|refine zc n ?_|refine zc B ?_|refine zS ?_|refine zd (λj=>?_) (λj=>?_)|refine zl (λf=>?_) (λf=>?_)|refine zk (λd=>?_) (λd=>?_)|refine ze (λc=>?_) (λc=>?_)|refine zm (λx i=>?_)|refine zb (λa=>?_) (λa=>?_))
   all_goals conv=>whnf
   all_goals first
    |exact aK rfl
    |(exfalso;simp only[q,r]at*;done)
    |(exfalso;rw[q]at a;cases a)
    |(exfalso;rw[r]at a;cases a)
    |skip
  rw[DB_f v]at n;repeat' ((conv=>whnf);first|omega|(exfalso;contradiction)|refine eZ1 Ak ?_|refine cC0 [(2,2),(6,6),(8,8),(10,10)] Ad Ak ?_|refine zc w ?_|refine zc A ?_|refine zc D ?_|refine zc F ?_|refine zc G ?_|refine zc H ?_|refine zc K ?_|refine zc L ?_|refine zc M ?_|refine zc N ?_|refine zc X ?_|refine zc o ?_|(refine aS5 (o) true ?_ rfl ?_;focus ((repeat' (first|exact trivial|refine And.intro ?_ ?_|with_reducible rfl|exact(λh=>Ah)|exact rfl));done))|refine zc J ?_|refine zc n ?_|refine zc B ?_|refine zS ?_|refine zd (λj=>?_) (λj=>?_)|refine zl (λf=>?_) (λf=>?_)|refine zk (λd=>?_) (λd=>?_)|refine ze (λc=>?_) (λc=>?_)|refine zm (λx i=>?_)|refine zb (λa=>?_) (λa=>?_))
  all_goals conv=>whnf
  all_goals first
   |exact aK rfl
   |(exfalso;simp only[q,r]at*;done)
   |(exfalso;rw[q]at a;cases a)
   |(exfalso;rw[r]at a;cases a)
   |skip
 rcases V with⟨rfl,rfl,v⟩|⟨rfl,v⟩
 ·have S:=W rfl
  rw[DB_t v]at n;repeat' ((conv=>whnf);first|omega|(exfalso;contradiction)|refine eZ1 Ak ?_|refine cC0 [(2,2),(6,6),(8,8),(10,10)] Ad Ak ?_|refine zc w ?_|refine zc A ?_|refine zc D ?_|refine zc F ?_|refine zc G ?_|refine zc H ?_|refine zc K ?_|refine zc L ?_|refine zc M ?_|refine zc N ?_|refine zc o ?_|(refine aS5 (o) true ?_ rfl ?_;focus ((repeat' (first|exact trivial|refine And.intro ?_ ?_|with_reducible rfl|exact(λh=>Ah)|exact rfl));done))|refine zc J ?_|refine zc S ?_|refine zc n ?_|refine zc B ?_|refine zS ?_|refine zd (λj=>?_) (λj=>?_)|refine zl (λf=>?_) (λf=>?_)|refine zk (λd=>?_) (λd=>?_)|refine ze (λc=>?_) (λc=>?_)|refine zm (λx i=>?_)|refine zb (λa=>?_) (λa=>?_))
  all_goals conv=>whnf
  all_goals first
   |exact aK rfl
   |(exfalso;simp only[q,r]at*;done)
   |(exfalso;rw[q]at a;cases a)
   |(exfalso;rw[r]at a;cases a)
   |skip
 rw[DB_f v]at n;repeat' ((conv=>whnf);first|omega|(exfalso;contradiction)|refine eZ1 Ak ?_|refine cC0 [(2,2),(6,6),(8,8),(10,10)] Ad Ak ?_|refine zc w ?_|refine zc A ?_|refine zc D ?_|refine zc F ?_|refine zc G ?_|refine zc H ?_|refine zc K ?_|refine zc L ?_|refine zc M ?_|refine zc N ?_|refine zc o ?_|(refine aS5 (o) true ?_ rfl ?_;focus ((repeat' (first|exact trivial|refine And.intro ?_ ?_|with_reducible rfl|exact(λh=>Ah)|exact rfl));done))|refine zc J ?_|refine zc n ?_|refine zc B ?_|refine zS ?_|refine zd (λj=>?_) (λj=>?_)|refine zl (λf=>?_) (λf=>?_)|refine zk (λd=>?_) (λd=>?_)|refine ze (λc=>?_) (λc=>?_)|refine zm (λx i=>?_)|refine zb (λa=>?_) (λa=>?_))
 all_goals conv=>whnf
 all_goals first
  |exact aK rfl
  |(exfalso;simp only[q,r]at*;done)
  |(exfalso;rw[q]at a;cases a)
  |(exfalso;rw[r]at a;cases a)
  |skip
end Go.Proofs.Led
