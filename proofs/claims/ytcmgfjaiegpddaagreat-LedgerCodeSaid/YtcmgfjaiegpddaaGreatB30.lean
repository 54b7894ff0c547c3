/- Lemmas. -/
import Derived.Test.YtcmgfjaiegpddaaGreatB16
import Derived.Test.YtcmgfjaiegpddaaGreatB21
import Derived.Test.YtcmgfjaiegpddaaGreatB27
import Derived.Test.YtcmgfjaiegpddaaGreatB29
import Derived.Test.YtcmgfjaiegpddaaGreatB19
set_option linter.all false
set_option maxRecDepth 100000
set_option maxHeartbeats 8000000
noncomputable section
namespace Go.Proofs.Led
open Go Go.Proofs Go.Ab Tryz
def rInt_s{b:List Int}{k:Nat}:jR T Tryz.prog Tryz.f50 [.box 100000 0] [rdC b k true] (I 0) [rdC b k true] :=Jb
def rInt_e{b:List Int}{k:Nat}(c:Byt b)(h:b.length<=k):jR T Tryz.prog Tryz.f50 [.box 100000 0] [rdC b k false] (I 0) [rdC b k true] :=by
 have d:(b.map byV).length=b.length:=Af;have a:=c.len;exact Oi
def rInt_b{b:List Int}{k:Nat}{x:Int}(d:Byt b)(h:k<b.length)(hx:b[k]? =some x)(a:isB x)(f:8<x\/(b.length:Int)-k-1<x):jR T Tryz.prog Tryz.f50 [.box 100000 0] [rdC b k false] (I 0) [rdC b k true] :=by
 have e:(b.map byV).length=b.length:=Af;have c:=d.len;obtain⟨g,i⟩:=a;exact Oi
def accU(y:Int)(l:List Int):Nat->Int
 |0=>if 128<=y then-1 else 0
 |i+1=>valB (l.take (i+1))
def accU_step{y c:Int}{l:List Int}{i:Nat}(b:l[0]? =some y)(d:l[i]? =some c):accU y l (i+1)=accU y l i*256+c:=by
 have hi:=(Si.1 d).1;cases i with
 |zero=>
  rw[b]at d;cases d;cases l with
  |nil=>cases b
  |cons a l=>
   cases b;show s8 y=(if 128<=y then-1 else 0)*256+y;unfold s8;split<;>omega
 |succ i=>
  show valB (l.take (i+1+1))=valB (l.take (i+1))*256+c;rw[Vb,d];refine valB_snoc ?_ c;cases l with
  |nil=>cases b
  |cons a l=>simp
theorem u64_step(A c:Int):IntKind.u64.wrap (IntKind.u64.wrap (A% 18446744073709551616*256)+c)=(A*256+c)% 18446744073709551616:=by
 rw[u64_wrap,u64_wrap];omega
def i64_back{A:Int}(h:R64 A):IntKind.i64.wrap (A% 18446744073709551616)=A:=by
 unfold R64 at h;exact Rk
def rInt_l{b:List Int}{k:Nat}{n:Nat}{y:Int}(f:Byt b)(h:k<b.length)(hx:b[k]? =some (n:Int))(R:1<=n)(L:n<=8)(S:k+n<b.length)(D:b[k+1]? =some y)(v:isB y)(r:V)(w:Nat)(e:Bool)
 (t:widN (valB ((b.drop (k+1)).take n))=n->r=I (valB ((b.drop (k+1)).take n))/\w=k+(n+1)/\e=false)(u:widN (valB ((b.drop (k+1)).take n))≠n->r=I 0/\w=k/\e=true):
 jR T Tryz.prog Tryz.f50 [.box 100000 0] [rdC b k false] r [rdC b w e] :=by
 have O:(b.map byV).length=b.length:=Af;have B:=f.len;obtain⟨U,W⟩:=v;have m:(b.drop (k+1))[0]? =some y:=by rw[Tz];exact D
 repeat' ((conv=>whnf);first|omega|refine gK (l:=b) hx Aa ?_|refine gK (l:=b) D Aa ?_|refine zS ?_|refine zm (λx hx=>?_)|refine zT ?_ ?_<;>intro _|fail)
 all_goals conv=>whnf
 all_goals
  refine lD (A:=Nat) (λi=>mkSt [(0, .box 100000 0),(2,I 0),(3,I n),(4, .lit (.int .u64 (accU y (b.drop (k+1)) i% 18446744073709551616))),(5,I ((i:Int)+1))] [(100000,rdC b k false)] []) (λi=>i<=n) (λi=>n-i) 0 ?_ (SH _) (λi hi=>?_)
  ·have F:accU y (b.drop (k+1)) 0% 18446744073709551616=if 128<=y then 18446744073709551615 else 0:=by unfold accU;split<;>omega
   rw[F];first
   |rw[Sj Aa]
    exact zj
   |rw[RZ Aa]
    exact zj
  by_cases c:i=n
  ·obtain⟨j,Q⟩:∃j,n=j+1:=⟨n-1,Aa⟩
   have J:accU y (b.drop (k+1)) i=valB ((b.drop (k+1)).take n):=by rw[c,Q];rfl
   rw[J];have s:((b.drop (k+1)).take n).length=n:=BZ;have z:R64 (valB ((b.drop (k+1)).take n)):=enc_dec_r (val_fits n _ s (λc P=>f.drop (k+1) c (SS P))).1 L;generalize valB ((b.drop (k+1)).take n)=N at*;have g:=rWidth_spec N z;have eb:=i64_back z;by_cases C:widN N=n
   ·obtain⟨rfl,rfl,rfl⟩:=t C
    exact OQ
   ·obtain⟨rfl,rfl,rfl⟩:=u C
    exact OQ
  ·have q:k+(i+1)<b.length:=by omega
   obtain⟨x,a⟩:∃x,b[k+(i+1)]? =some x:=⟨_,RY q⟩;have o:(b.drop (k+1))[i]? =some x:=by rw[Tz,show k+1+i=k+(i+1) by omega];exact a
   have M:isB x:=f.isb x (Sl a);have es:=accU_step m o;unfold isB at M;generalize accU y (b.drop (k+1)) i=A at*;generalize d:accU y (b.drop (k+1)) (i+1)=E at*;have G:IntKind.u64.wrap (IntKind.u64.wrap (A% 18446744073709551616*256)+x)=E% 18446744073709551616:=by rw[u64_step,<-es]
   have K:IntKind.u64.wrap x=x:=by rw[u64_wrap];omega
   repeat' ((conv=>whnf);first|omega|refine gK (l:=b) a Aa ?_|refine fK K ?_|refine fK G ?_|refine fK (rfl:IntKind.u64.wrap (A% 18446744073709551616*256)=IntKind.u64.wrap (A% 18446744073709551616*256)) ?_|refine zS ?_|refine zm (λx hx=>?_)|refine zT ?_ ?_<;>intro _|fail)
   all_goals conv=>whnf
   all_goals
    refine⟨i+1,?_,Aa,Aa⟩;have H:((i+1:Nat):Int)+1=(i:Int)+1+1:=Aa;rw[H,d];exact zj
def rInt_z{b:List Int}{k:Nat}(d:Byt b)(h:k<b.length)(a:b[k]? =some (0:Int)):jR T Tryz.prog Tryz.f50 [.box 100000 0] [rdC b k false] (I 0) [rdC b (k+1) false] :=by
 have e:(b.map byV).length=b.length:=Af;have c:=d.len;have g:=rWidth_spec 0 G8;have f:widN 0=0:=wid_zero.2 rfl;rw[f]at g;repeat' ((conv=>whnf);first|omega|refine gK (l:=b) a Aa ?_|refine zS ?_|refine zm (λx a=>?_)|refine zT ?_ ?_<;>intro _|fail)
 all_goals conv=>whnf
 refine lD (A:=Nat) (λi=>mkSt [(0, .box 100000 0),(2,I 0),(3,I 0),(4, .lit (.int .u64 0)),(5,I 1)] [(100000,rdC b k false)] []) (λi=>i=0) (λi=>i) 0 ?_ rfl (λi hi=>?_);exact zj;repeat' ((conv=>whnf);first|omega|refine zc g ?_|refine zS ?_|refine zm (λx a=>?_)|refine zT ?_ ?_<;>intro _|fail)
 all_goals conv=>whnf
 all_goals first|exact⟨_,rfl,zc1⟩|exact zc1
def rInt:RInt where
 y:=by
  intro b k x m hb hk h;refine b_of func50 Ac Ac rfl rfl ?_;rcases decI_cases hb k hk with⟨n,m',h1,s,q1,q2,q3,q4,q5,q6⟩|⟨h1,_⟩;rw[h1]at h;cases h;have hx:b[k]? =some (s:Int):=by rw[<-q2,SN,RY q1];rfl
  have hfl:flI b (k+1) s=false:=by
   cases e:flI b (k+1) s with
   |false=>rfl
   |true=>rw[e]at q6;cases q6
  have hl:k+1+s<=b.length:=by unfold flI at hfl;simpa using hfl
  have hm:k+1+s=m:=by unfold atI at q5;omega
  rw[hfl,Bool.false_or]at q6;have hw:widN (accN b (k+1) s)=s:=by simpa using q6
  by_cases h0:s=0;subst h0;have:(0:Int)=x:=q4;rw[<-this,<-hm];exact rInt_z hb q1 hx;have hN:=accN_val hb (k:=k+1) (i:=s) Aa q3 hl;rw[q4]at hN;rw[q4]at hw;obtain⟨y,hy⟩:∃y,b[k+1]? =some y:=⟨_,RY Aa⟩;refine rInt_l hb q1 hx Aa q3 Aa hy (hb.isb y (Sl hy)) _ _ _ (λ_=>⟨by rw[hN],Aa,rfl⟩) (λhq=>?_);rw[<-hN]at hq;exact absurd hw hq;rw[h1]at h;cases h
 n:=by
  intro b k hb hk h;refine b_of func50 Ac Ac rfl rfl ?_;rcases decI_cases hb k hk with⟨n,m',h1,_⟩|⟨_,q|⟨s,q1,q2,q3,q4⟩⟩;rw[h1]at h;cases h;by_cases hlt:k<b.length;obtain⟨x,hx⟩:∃x,b[k]? =some x:=⟨_,RY hlt⟩;have hd:b.getD k 0=x:=by rw[SN,hx];rfl
  refine rInt_b hb hlt hx (hb.isb x (Sl hx)) (.inl ?_);rcases q with q|q;omega;rw[<-hd];exact q;exact rInt_e hb Aa;have hx:b[k]? =some (s:Int):=by rw[<-q2,SN,RY q1];rfl
  by_cases hl:k+1+s<=b.length;have hfl:flI b (k+1) s=false:=by unfold flI;simp;omega
  rw[hfl,Bool.false_or]at q4;have hw:widN (accN b (k+1) s)≠s:=by simpa using q4
  by_cases h0:s=0;subst h0;exact absurd (wid_zero.2 rfl) hw;have hN:=accN_val hb (k:=k+1) (i:=s) Aa q3 hl;obtain⟨y,hy⟩:∃y,b[k+1]? =some y:=⟨_,RY Aa⟩;refine rInt_l hb q1 hx Aa q3 Aa hy (hb.isb y (Sl hy)) _ _ _ (λhq=>?_) (λ_=>⟨rfl,rfl,rfl⟩);rw[<-hN]at hq;exact absurd hq hw;exact rInt_b hb q1 hx (hb.isb _ (Sl hx)) (.inr Aa)
 s:=by
  intro b k hb hk;exact b_of func50 Ac Ac rfl rfl rInt_s
def gC4{a b:Bool}{A B:Prop}(c:a=b->A)(d:a≠b->B):branch (eqBB a b) A B:=by
 rw[cA1];exact jU (λh=>c GL) (λh=>d GL)
def fH5(u v:Vc):Sp 269 [vcV u,vcV v] (DB (aP5 u v)):=by
 refine zsp func269 ?_;have b:=fF0 u v;have e:=fR2 u v;have a:aP5 u v↔bZ u v=0/\0<vdot u v:=Tn;generalize aP5 u v=P at*;generalize bZ u v=c at*;generalize vdot u v=d at*;repeat' ((conv=>whnf);first|refine zc b ?_|refine zc e ?_|refine zS ?_|refine zT ?_ ?_<;>intro _|fail)
 all_goals conv=>whnf
 all_goals refine aA ?_
 all_goals first
  |exact aC (λh=>by have:=a.1 h;omega)
  |(refine aS1 ?_;rw[a];omega)
def fL8(u v:Vc):Sp 310 [vcV u,vcV v] (DB (dG5 u v)):=by
 refine zsp func310 ?_;have b:=fF0 u v;have e:=fR2 u v;have a:dG5 u v↔bZ u v<0\/(bZ u v=0/\vdot u v<0):=Tn;generalize dG5 u v=P at*;generalize bZ u v=c at*;generalize vdot u v=d at*;repeat' ((conv=>whnf);first|refine zc b ?_|refine zc e ?_|refine zS ?_|refine zT ?_ ?_<;>intro _|fail)
 all_goals conv=>whnf
 all_goals refine aA ?_
 all_goals first
  |exact fE (a.2 Aa)
  |exact aC (λh=>by have:=a.1 h;omega)
  |(refine aS1 ?_;rw[a];omega)
def fI1(x:Sg)(d:Vc):Sp 270 [sgV x,vcV d] (DB (aP1 x d)):=by
 refine zsp func270 ?_;have h1:=fH5 x.1 d;have h2:=fH5 x.2 d;have h3:=fL8 x.1 d;have h4:=fL8 x.1 x.2;have h5:=fF0 d x.2
 have hr:aP1 x d↔¬(aP5 x.1 d\/aP5 x.2 d)/\((¬(dG5 x.1 d↔dG5 x.1 x.2)/\dG5 x.1 x.2)\/((dG5 x.1 d↔dG5 x.1 x.2)/\0<bZ d x.2)):=by
  unfold aP1;by_cases q:aP5 x.1 d\/aP5 x.2 d;rw[Sj q];exact⟨λh=>h.elim,λh=>h.1 q⟩;rw[RZ q];by_cases a:(dG5 x.1 d↔dG5 x.1 x.2);rw[RZ (λh=>h a)];exact⟨λh=>⟨q, .inr ⟨a,h⟩⟩,λh=>h.2.elim (λk=>absurd a k.1) (λk=>k.2)⟩;rw[Sj a];exact⟨λh=>⟨q, .inl ⟨a,h⟩⟩,λh=>h.2.elim (λk=>k.2) (λk=>absurd k.1 a)⟩
 generalize aP1 x d=P at*;generalize aP5 x.1 d=s1 at*;generalize aP5 x.2 d=s2 at*;generalize dG5 x.1 d=b at*;generalize dG5 x.1 x.2=e at*;generalize bZ d x.2=c at*;by_cases q3:b<;>by_cases q4:e;rw[dbT q3]at h3;rw[dbT q4]at h4;exact Oe;rw[dbT q3]at h3;rw[dbF q4]at h4;have hr2:P↔¬(s1\/s2)/\False:=Ho;exact Oh;rw[dbF q3]at h3;rw[dbT q4]at h4;have hr2:P↔¬(s1\/s2)/\True:=Ho;exact Oh;rw[dbF q3]at h3;rw[dbF q4]at h4;exact Oe
def fP9(x y:Sg):Sp 222 [sgV x,sgV y] (DB (dI3 x y)):=by
 refine zsp func222 ?_;have b:=fH5 x.1 y.1;have c:=fI1 x y.1;have d:=fI1 y x.1;have a:dI3 x y↔aP5 x.1 y.1\/aP1 x y.1\/aP1 y x.1:=Tn;generalize dI3 x y=P at*;generalize aP5 x.1 y.1=e at*;generalize aP1 x y.1=f at*;generalize aP1 y x.1=g at*;repeat' ((conv=>whnf);first|refine zc b ?_|refine zc c ?_|refine zc d ?_|refine zS ?_|refine zT ?_ ?_<;>intro _|fail)
 all_goals conv=>whnf
 all_goals refine aA ?_
 all_goals first
  |(refine fE (a.2 ?_);simp_all;done)
  |(refine fQ ?_;rw[a];simp_all;done)
def DB_t{p:Prop}(h:p):DB p= .lit (.bool true):=SK (λb=>V.lit (.bool b)) (dH.2 h)
def DB_f{p:Prop}(h:¬p):DB p= .lit (.bool false):=SK (λb=>V.lit (.bool b)) (dW.2 h)
def aQ4{e:Event}(l:bI1 e)(m:fewE e):iY e/\e.cuts.length<=12/\e.rests.length<=8/\more e<=21:=by
 obtain⟨⟨v,w,x,j,k⟩,y⟩:=m;obtain⟨⟨⟨g,q,i⟩,r,f⟩,s,t,u⟩:=l;obtain⟨n,z,A,B,o⟩:=j;have a:e.cuts.length<=12:=Aa;have b:e.rests.length<=8:=Aa;refine⟨⟨⟨⟨g,?_,i⟩,Aa,λd c=>⟨(f d c).1,?_,(f d c).2.2⟩⟩,by have:=k.2.2;omega,Aa,Aa⟩,a,b,H8⟩;have:=o.1;omega;have:=(n d c).1;omega
def aL9{s:aJ}{n:Nat}(h:Good s n)(a:n<=1000000):Sp 22 [invV s] (.lit (.bool true)):=by
 have g:=bN0 s (SX h.ok.ls a) (SX h.ok.lp a) h.ok.sz;rw[DB_t (eZ9 h.bal)]at g;exact g
def zB:Sp 5 [] (.lit (.bool true)):=by
 refine zsp func5 ?_;obtain⟨q,a,u,r,c,d,g,i,j,e⟩:=eX6;have b:=vX awL eA5 (by show 1+(1+(1+2+1))<=1000000;decide) (by show 3<=1000000;decide);rw[d]at b;change Sp _ _ (.tup [invV ⟨[q],a,u,r,c⟩,I 3,I 0])at b;have f:=aL9 e Ai;have k:(a.map aZ).length=a.length:=Af;repeat' ((conv=>whnf);first|omega|refine bB4 (Le.trans (Le.trans (aZ8 10 rfl (.inl rfl)) (aZ8 12 rfl (.inl rfl))) (le_nil _)) ?_|refine dE3 _ rfl ?_|refine zS ?_|refine zT ?_ ?_<;>intro _|fail)
 all_goals conv=>whnf
 all_goals first
  |exact aK rfl
  |(exfalso;simp_all;done)
  |(exfalso;simp_all;omega)
end Go.Proofs.Led
