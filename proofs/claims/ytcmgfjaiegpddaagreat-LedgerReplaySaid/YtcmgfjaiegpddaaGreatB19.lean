/- Lemmas. -/
import Derived.Test.YtcmgfjaiegpddaaGreatB18
set_option linter.all false
set_option maxRecDepth 100000
set_option maxHeartbeats 4000000
noncomputable section
namespace Go.Proofs.Led
open Go Go.Proofs Go.Ab Tryz
def s11_vc{b:List Int}{k m:Nat}{x:List V}{f a:Bool}(g:SpB 139 [.box 100000 0,I 40] [rdC b k f] (.sl x) [rdC b m a]):jR T Tryz.prog Tryz.f138 [.box 100001 0] [rdC b k f,[.box 100000 0]] (.sl x) [rdC b m a,[.box 100000 0]] :=Jl
def s11{b:List Int}{k m:Nat}{x:List V}{f a:Bool}(g:SpB 139 [.box 100000 0,I 40] [rdC b k f] (.sl x) [rdC b m a]):SpB 138 [.box 100001 0] [rdC b k f,[.box 100000 0]] (.sl x) [rdC b m a,[.box 100000 0]] :=
 b_of func138 Ac Ac rfl rfl (s11_vc g)
abbrev oneR:V:= .fn 138 [.box 100004 0]
abbrev oneQ:V:= .fn 138 [.box 100001 0]
def rdGy_vc{M:Int}(g:FuncId)(b:List Int)(k m:Nat)(x:List V)(hg:SpB g [.box 100001 0, .box 100002 0, .box 100003 0] [rdC b k false,[.box 100000 0],[I M],[oneR],[.box 100000 0]] (.sl x) [rdC b m false,[.box 100000 0],[I M],[oneR],[.box 100000 0]]):jR T Tryz.prog Tryz.f175 [.box 100000 0, .fn g [.box 100001 0, .box 100002 0, .box 100003 0]] [rdC b k false,[.box 100000 0],[I M],[oneR],[.box 100000 0]] (.sl x) [rdC b m false,[.box 100000 0],[I M],[oneR],[.box 100000 0]] :=Ja
def rdGy{M:Int}(g:FuncId)(b:List Int)(k m:Nat)(x:List V)(a:SpB g [.box 100001 0, .box 100002 0, .box 100003 0] [rdC b k false,[.box 100000 0],[I M],[oneR],[.box 100000 0]] (.sl x) [rdC b m false,[.box 100000 0],[I M],[oneR],[.box 100000 0]]):SpB 175 [.box 100000 0, .fn g [.box 100001 0, .box 100002 0, .box 100003 0]] [rdC b k false,[.box 100000 0],[I M],[oneR],[.box 100000 0]] (.sl x) [rdC b m false,[.box 100000 0],[I M],[oneR],[.box 100000 0]] :=
 b_of func175 Ac Ac rfl rfl (rdGy_vc g b k m x a)
def rdGn_vc{M:Int}(g:FuncId)(b:List Int)(k m:Nat)(x:List V)(hg:SpB g [.box 100001 0, .box 100002 0, .box 100003 0] [rdC b k false,[.box 100000 0],[I M],[oneR],[.box 100000 0]] (.sl x) [rdC b m true,[.box 100000 0],[I M],[oneR],[.box 100000 0]]):jR T Tryz.prog Tryz.f175 [.box 100000 0, .fn g [.box 100001 0, .box 100002 0, .box 100003 0]] [rdC b k false,[.box 100000 0],[I M],[oneR],[.box 100000 0]] (.sl []) [rdC b k true,[.box 100000 0],[I M],[oneR],[.box 100000 0]] :=Ja
def rdGn{M:Int}(g:FuncId)(b:List Int)(k m:Nat)(x:List V)(a:SpB g [.box 100001 0, .box 100002 0, .box 100003 0] [rdC b k false,[.box 100000 0],[I M],[oneR],[.box 100000 0]] (.sl x) [rdC b m true,[.box 100000 0],[I M],[oneR],[.box 100000 0]]):SpB 175 [.box 100000 0, .fn g [.box 100001 0, .box 100002 0, .box 100003 0]] [rdC b k false,[.box 100000 0],[I M],[oneR],[.box 100000 0]] (.sl []) [rdC b k true,[.box 100000 0],[I M],[oneR],[.box 100000 0]] :=
 b_of func175 Ac Ac rfl rfl (rdGn_vc g b k m x a)
def rdGs_vc{M:Int}(g:FuncId)(b:List Int)(k:Nat):jR T Tryz.prog Tryz.f175 [.box 100000 0, .fn g [.box 100001 0, .box 100002 0, .box 100003 0]] [rdC b k true,[.box 100000 0],[I M],[oneR],[.box 100000 0]] (.sl []) [rdC b k true,[.box 100000 0],[I M],[oneR],[.box 100000 0]] :=Ib
def rdGs{M:Int}(g:FuncId)(b:List Int)(k:Nat):SpB 175 [.box 100000 0, .fn g [.box 100001 0, .box 100002 0, .box 100003 0]] [rdC b k true,[.box 100000 0],[I M],[oneR],[.box 100000 0]] (.sl []) [rdC b k true,[.box 100000 0],[I M],[oneR],[.box 100000 0]] :=
 b_of func175 Ac Ac rfl rfl (rdGs_vc g b k)
def lsGy_vc{b:List Int}{k m:Nat}{x:List V}{M:Int}{f a:Bool}(g:SpB 175 [.box 100000 0, .fn 176 [.box 100001 0, .box 100002 0, .box 100003 0]] [rdC b k f,[.box 100000 0],[I M],[oneR],[.box 100000 0]] (.sl x) [rdC b m a,[.box 100000 0],[I M],[oneR],[.box 100000 0]]):jR T Tryz.prog Tryz.f140 [.box 100000 0,I M,oneQ] [rdC b k f,[.box 100000 0]] (.sl x) [rdC b m a,[.box 100000 0]] :=by
 repeat' ((conv=>whnf);first|refine zh (g) [100000,3,4,5,100001] ?_|refine zS ?_|refine zm (λx c=>?_)|refine zT ?_ ?_<;>intro _|fail)
 all_goals conv=>whnf
 all_goals first|exact⟨_,rfl,zc1⟩|exact zc1
def lsG_of{b:List Int}{k m:Nat}{x:List V}{M:Int}{f a:Bool}(g:SpB 175 [.box 100000 0, .fn 176 [.box 100001 0, .box 100002 0, .box 100003 0]] [rdC b k f,[.box 100000 0],[I M],[oneR],[.box 100000 0]] (.sl x) [rdC b m a,[.box 100000 0],[I M],[oneR],[.box 100000 0]]):SpB 140 [.box 100000 0,I M,oneQ] [rdC b k f,[.box 100000 0]] (.sl x) [rdC b m a,[.box 100000 0]] :=
 b_of func140 Ac Ac rfl rfl (lsGy_vc g)
def lg1{b:List Int}{k d n:Nat}{M:Int}(c:Byt b)(a:k<=b.length)(e:M<=1000000)(h:(cBd 0 M).at b k=some ((n:Int),d)):SpB 176 [.box 100001 0, .box 100002 0, .box 100003 0] [rdC b k false,[.box 100000 0],[I M],[oneR],[.box 100000 0]] (.sl ((runL (cRing 40) ([] :Rg) b n d).1.map rgV)) [rdC b (runL (cRing 40) ([] :Rg) b n d).2.1 (runL (cRing 40) ([] :Rg) b n d).2.2,[.box 100000 0],[I M],[oneR],[.box 100000 0]] :=by
 have f:=(cBd_at.1 h).2.2;exact b_of func176 Ac Ac rfl rfl (lg1_vc c (Cod.at_le h a).2 Aa ((mBd 0 M).y c a h) (λa h=>s11 ((mRg 40 Ai).y c a h)) (λa h=>s11 ((mRg 40 Ai).n c a h)))
def lg0{b:List Int}{k:Nat}{M:Int}(a:Byt b)(c:k<=b.length)(h:(cBd 0 M).at b k=none):SpB 176 [.box 100001 0, .box 100002 0, .box 100003 0] [rdC b k false,[.box 100000 0],[I M],[oneR],[.box 100000 0]] (.sl []) [rdC b k true,[.box 100000 0],[I M],[oneR],[.box 100000 0]] :=
 b_of func176 Ac Ac rfl rfl (lg0_vc ((mBd 0 M).n a c h))
def lsG_y{b:List Int}{k m:Nat}{l:List Rg}{M:Int}(a:Byt b)(d:k<=b.length)(j:M<=1000000)(h:((cRing 40).list M).at b k=some (l,m)):SpB 140 [.box 100000 0,I M,oneQ] [rdC b k false,[.box 100000 0]] (.sl (l.map rgV)) [rdC b m false,[.box 100000 0]] :=by
 cases e:(cBd 0 M).at b k with
 |none=>rw[list_none a d e]at h;cases h
 |some p=>
  obtain⟨n,hn⟩:=cBd_nat e;have i:(cBd 0 M).at b k=some ((n:Int),p.2):=Hg;have g:=lg1 a d j i;rcases list_run (c:=cRing 40) (z:=([] :Rg)) a d j i with⟨q,r,f,o⟩|⟨f,_⟩;rw[f]at h;cases h;rw[o]at g;exact lsG_of (rdGy _ b k _ _ g);rw[f]at h;cases h
def lsG_n{b:List Int}{k:Nat}{M:Int}(a:Byt b)(d:k<=b.length)(j:M<=1000000)(h:((cRing 40).list M).at b k=none):SpB 140 [.box 100000 0,I M,oneQ] [rdC b k false,[.box 100000 0]] (.sl []) [rdC b k true,[.box 100000 0]] :=by
 cases e:(cBd 0 M).at b k with
 |none=>exact lsG_of (rdGn _ b k _ _ (lg0 a d e))
 |some p=>
  obtain⟨n,hn⟩:=cBd_nat e;have i:(cBd 0 M).at b k=some ((n:Int),p.2):=Hg;have g:=lg1 a d j i;rcases list_run (c:=cRing 40) (z:=([] :Rg)) a d j i with⟨l,o,f,m⟩|⟨f,m⟩;rw[h]at f;cases f;rw[m]at g;exact lsG_of (rdGn _ b k _ _ g)
def lsG_s{b:List Int}{k:Nat}{M:Int}:SpB 140 [.box 100000 0,I M,oneQ] [rdC b k true,[.box 100000 0]] (.sl []) [rdC b k true,[.box 100000 0]] :=lsG_of (rdGs _ b k)
def sh1_vc{b:List Int}{k d m:Nat}{a c:Bool}{x y:List V}(e:SpB 138 [.box 100001 0] [rdC b k false,[.box 100000 0]] (.sl x) [rdC b d a,[.box 100000 0]])(f:SpB 140 [.box 100000 0,I 6,oneQ] [rdC b d a,[.box 100000 0]] (.sl y) [rdC b m c,[.box 100000 0]]):jR T Tryz.prog Tryz.f137 [.box 100001 0] [rdC b k false,[.box 100000 0]] (.agg [.sl x, .sl y]) [rdC b m c,[.box 100000 0]] :=by
 repeat' ((conv=>whnf);first|refine zh (e) [100000,100001] ?_|refine zh (f) [100000,100001] ?_|refine zS ?_|refine zm (λx g=>?_)|refine zT ?_ ?_<;>intro _|fail)
 all_goals conv=>whnf
 all_goals first|exact⟨_,rfl,zc1⟩|exact zc1
def rdSy_vc(g:FuncId)(b:List Int)(k m:Nat)(x:List V×List V)(hg:SpB g [.box 100001 0] [rdC b k false,[.box 100000 0]] (.agg [.sl x.1, .sl x.2]) [rdC b m false,[.box 100000 0]]):jR T Tryz.prog Tryz.f136 [.box 100000 0, .fn g [.box 100001 0]] [rdC b k false,[.box 100000 0]] (.agg [.sl x.1, .sl x.2]) [rdC b m false,[.box 100000 0]] :=Ia
def rdSy(g:FuncId)(b:List Int)(k m:Nat)(x:List V×List V)(a:SpB g [.box 100001 0] [rdC b k false,[.box 100000 0]] (.agg [.sl x.1, .sl x.2]) [rdC b m false,[.box 100000 0]]):SpB 136 [.box 100000 0, .fn g [.box 100001 0]] [rdC b k false,[.box 100000 0]] (.agg [.sl x.1, .sl x.2]) [rdC b m false,[.box 100000 0]] :=
 b_of func136 Ac Ac rfl rfl (rdSy_vc g b k m x a)
def rdSn_vc(g:FuncId)(b:List Int)(k m:Nat)(x:List V×List V)(hg:SpB g [.box 100001 0] [rdC b k false,[.box 100000 0]] (.agg [.sl x.1, .sl x.2]) [rdC b m true,[.box 100000 0]]):jR T Tryz.prog Tryz.f136 [.box 100000 0, .fn g [.box 100001 0]] [rdC b k false,[.box 100000 0]] (.agg [.sl [], .sl []]) [rdC b k true,[.box 100000 0]] :=Ia
def rdSn(g:FuncId)(b:List Int)(k m:Nat)(x:List V×List V)(a:SpB g [.box 100001 0] [rdC b k false,[.box 100000 0]] (.agg [.sl x.1, .sl x.2]) [rdC b m true,[.box 100000 0]]):SpB 136 [.box 100000 0, .fn g [.box 100001 0]] [rdC b k false,[.box 100000 0]] (.agg [.sl [], .sl []]) [rdC b k true,[.box 100000 0]] :=
 b_of func136 Ac Ac rfl rfl (rdSn_vc g b k m x a)
def rdSs_vc(g:FuncId)(b:List Int)(k:Nat):jR T Tryz.prog Tryz.f136 [.box 100000 0, .fn g [.box 100001 0]] [rdC b k true,[.box 100000 0]] (.agg [.sl [], .sl []]) [rdC b k true,[.box 100000 0]] :=Ib
def rdSs(g:FuncId)(b:List Int)(k:Nat):SpB 136 [.box 100000 0, .fn g [.box 100001 0]] [rdC b k true,[.box 100000 0]] (.agg [.sl [], .sl []]) [rdC b k true,[.box 100000 0]] :=
 b_of func136 Ac Ac rfl rfl (rdSs_vc g b k)
def mShy_vc{b:List Int}{k m:Nat}{x y:List V}{f a:Bool}(g:SpB 136 [.box 100000 0, .fn 137 [.box 100001 0]] [rdC b k f,[.box 100000 0]] (.agg [.sl x, .sl y]) [rdC b m a,[.box 100000 0]]):jR T Tryz.prog Tryz.f97 [.box 100000 0] [rdC b k f] (.agg [.sl x, .sl y]) [rdC b m a] :=Io
def sh1{b:List Int}{k d m:Nat}{a c:Bool}{x y:List V}(e:SpB 138 [.box 100001 0] [rdC b k false,[.box 100000 0]] (.sl x) [rdC b d a,[.box 100000 0]])(f:SpB 140 [.box 100000 0,I 6,oneQ] [rdC b d a,[.box 100000 0]] (.sl y) [rdC b m c,[.box 100000 0]]):SpB 137 [.box 100001 0] [rdC b k false,[.box 100000 0]] (.agg [.sl x, .sl y]) [rdC b m c,[.box 100000 0]] :=
 b_of func137 Ac Ac rfl rfl (sh1_vc e f)
def shape_at{b:List Int}{k m:Nat}{s:Sh}:cShape.at b k=some (s,m)↔∃a,(cRing 40).at b k=some (s.outer,a)/\((cRing 40).list 6).at b a=some (s.holes,m):=by
 rw[<-pair_at];rw[Cod.at_iff,Cod.at_iff];exact Qn
def mSh:Rds 97 [] cShape (shV sh0) shV where
 y:=by
  intro b k s m hb hk h;obtain⟨k1,h1,h2⟩:=shape_at.1 h;have hle:=Cod.at_le h1 hk;exact b_of func97 Ac Ac rfl rfl (mShy_vc (rdSy _ b k m (s.outer.map vcV,s.holes.map rgV) (sh1 (s11 ((mRg 40 Ai).y hb hk h1)) (lsG_y hb hle.2 Ai h2))))
 n:=by
  intro b k hb hk h
  obtain⟨x,y,m,hg⟩:∃(x y:List V) (m:Nat),SpB 137 [.box 100001 0] [rdC b k false,[.box 100000 0]] (.agg [.sl x, .sl y]) [rdC b m true,[.box 100000 0]] :=by
   cases e:(cRing 40).at b k with
   |none=>exact⟨_,_,_,sh1 (s11 ((mRg 40 Ai).n hb hk e)) lsG_s⟩
   |some p=>
    have hle:=Cod.at_le e hk;cases e2:((cRing 40).list 6).at b p.2 with
    |none=>exact⟨_,_,_,sh1 (s11 ((mRg 40 Ai).y hb hk e)) (lsG_n hb hle.2 Ai e2)⟩
    |some q=>exact absurd (shape_at.2 ⟨p.2,e,e2⟩:cShape.at b k=some ((⟨p.1,q.1⟩:Sh),q.2)) Ed
  exact b_of func97 Ac Ac rfl rfl (mShy_vc (rdSn _ b k m (x,y) hg))
 s:=by
  intro b k hb hk;exact b_of func97 Ac Ac rfl rfl (mShy_vc (rdSs _ b k))
def new_vc(b:List Int)(a:b.length<=100000000):fnVCN T Tryz.prog Tryz.f41 [.sl (b.map byV)] (rdC b 0 false):=by
 have g:=cloneY_spec b a;repeat' ((conv=>whnf);first|refine retN_i ?_|refine zS ?_|refine zm (λx c=>?_)|refine zT ?_ ?_<;>intro _|fail)
 all_goals conv=>whnf
 repeat' (first|exact trivial|refine And.intro ?_ ?_|with_reducible rfl|exact(λ_ h=>Ag)|exact(λh=>Ag)|exact rfl)
def new_spec(b:List Int)(a:b.length<=100000000):SpecN T Tryz.prog 41 [.sl (b.map byV)] (rdC b 0 false):=
 fnN_sound uG mixed func41 Ac (QA Ac) (new_vc b a)
def end_vc(b:List Int)(k:Nat)(f:Bool):jR T Tryz.prog Tryz.f49 [.box 100000 0] [rdC b k f] (I (if f=true\/k<b.length then 4 else 0)) [rdC b k f] :=by
 have a:(b.map byV).length=b.length:=Af;cases f;by_cases c:k<b.length;rw[Pm (.inr c)];exact Ls;rw[Ph (by simp[c])];exact Ls;rw[Pm (.inl rfl)];exact Ls
def end_spec(b:List Int)(k:Nat)(f:Bool):SpB 49 [.box 100000 0] [rdC b k f] (I (if f=true\/k<b.length then 4 else 0)) [rdC b k f] :=
 b_of func49 Ac Ac rfl rfl (end_vc b k f)
def Stp{α:Type}(c:Cod α)(b:List Int)(k:Nat)(f:Bool)(x:α)(m:Nat)(f':Bool):Prop:=
 m<=b.length/\(f'=false->f=false/\c.at b k=some (x,m))/\(f'=true->f=true\/c.at b k=none)
def Rds.step{i:Type}{F:FuncId}{ys:List V}{c:Cod i}{z:V}{g:i->V}(h:Rds F ys c z g)(z0:i)(l:z=g z0){b:List Int}{k:Nat}(d:Byt b)(a:k<=b.length)(f:Bool):
 ∃x m j,Stp c b k f x m j/\SpB F (.box 100000 0::ys) [rdC b k f] (g x) [rdC b m j] :=by
 subst l;cases f
 ·cases e:c.at b k with
  |none=>exact⟨z0,k,true,⟨a,λh=>Ag,λ_=> .inr e⟩,h.n d a e⟩
  |some p=>exact⟨p.1,p.2,false,⟨(Cod.at_le e a).2,λ_=>⟨rfl,e⟩,λh=>Ag⟩,h.y d a e⟩
 ·exact⟨z0,k,true,⟨a,λh=>Ag,λ_=> .inl rfl⟩,h.s d a⟩
def Stp.pair{t β:Type}{c:Cod t}{d:Cod β}{b:List Int}{k l m:Nat}{f g r:Bool}{x:t}{y:β}(i:Stp c b k f x l g)(j:Stp d b l g y m r):Stp (c.pair d) b k f (x,y) m r:=by
 refine⟨j.1,λh=>?_,λh=>?_⟩;obtain⟨v,w⟩:=j.2.1 h;obtain⟨s,n⟩:=i.2.1 v;exact⟨s,pair_at.2 ⟨l,n,w⟩⟩;cases g with
 |true=>rcases i.2.2 rfl with q|q
        ·exact .inl q
        ·exact .inr (at_none_of λp m e=>by obtain⟨u,a,_⟩:=pair_at.1 e;rw[q]at a;cases a)
 |false=>
  obtain⟨s,n⟩:=i.2.1 rfl;rcases j.2.2 h with q|q;cases q;exact .inr (at_none_of λp m e=>by obtain⟨u,a,o⟩:=pair_at.1 e;rw[n]at a;cases a;rw[q]at o;cases o)
def lbl_vc{b:List Int}{k g h m:Nat}{f c d e:Bool}{i:Int}{s t:ByteArray}(j:SpB 42 [.box 100000 0] [rdC b k f] (I i) [rdC b g c])(l:SpB 43 [.box 100000 0,I 16] [rdC b g c] (S s) [rdC b h d])(n:SpB 43 [.box 100000 0,I 16] [rdC b h d] (S t) [rdC b m e]):jR T Tryz.prog Tryz.f96 [.box 100000 0] [rdC b k f] (.agg [I i,S s,S t]) [rdC b m e] :=by
 all_goals conv=>whnf
 refine eY7 ?_;repeat' ((conv=>whnf);first|omega|refine zU ?_|refine zm (λx a=>?_)|refine zT ?_ ?_<;>intro _|fail)
 refine eY7 ?_;repeat' ((conv=>whnf);first|refine zh (j) [100000] ?_|refine zU ?_|refine zm (λx a=>?_)|refine zT ?_ ?_<;>intro _|fail)
 refine eY7 ?_;repeat' ((conv=>whnf);first|refine zh (l) [100000] ?_|refine zU ?_|refine zm (λx a=>?_)|refine zT ?_ ?_<;>intro _|fail)
 repeat' ((conv=>whnf);first|refine zh (n) [100000] ?_|refine zS ?_|refine zm (λx a=>?_)|refine zT ?_ ?_<;>intro _|fail)
 all_goals conv=>whnf
 all_goals first|exact⟨_,rfl,zc1⟩|exact zc1
def run_split{e:Type}{c:Cod e}{b:List Int}:∀ {D l:List e} {k a m:Nat},c.run b k D a->c.run b k l m->D.length<=l.length->∃E,l=D++E/\c.run b a E m
 | [],l,k,a,m,h,f,_=>by
   have h:a=k:=h;exact⟨l,rfl,by rw[h];exact f⟩
 |x::D,y::l,k,a,m,⟨o,g,i⟩,⟨q,d,j⟩,hl=>by
  rw[g]at d;cases d;obtain⟨E,rfl,n⟩:=run_split i j AQ;exact⟨E,rfl,n⟩
 |_::_,[],_,_,_,_,_,hl=>by cases hl
def run_snoc{e:Type}{c:Cod e}{b:List Int}:∀ {D:List e} {k a m:Nat} {x:e},c.run b k D a->c.at b a=some (x,m)->c.run b k (D++[x]) m
 | [],k,a,m,x,h,d=>by
   have h:a=k:=h;exact⟨m,by rw[<-h];exact d,rfl⟩
 |y::D,k,a,m,x,⟨i,f,g⟩,d=>⟨i,f,run_snoc g d⟩
def RStp{α:Type}(c:Cod α)(b:List Int)(k:Nat)(f:Bool)(D:List α)(m:Nat)(f':Bool):Prop:=
 m<=b.length/\(f'=false->f=false/\c.run b k D m)/\(f'=true->f=true\/∀l j,D.length<=l.length->¬c.run b k l j)
def RStp.nil{d:Type}(c:Cod d){b:List Int}{k:Nat}(a:k<=b.length)(f:Bool):RStp c b k f [] k f:=⟨a,λh=>⟨h,rfl⟩,λh=> .inl h⟩
def RStp.snoc{o:Type}{c:Cod o}{b:List Int}{k s m:Nat}{f d r:Bool}{D:List o}{x:o}(g:RStp c b k f D s d)(i:Stp c b s d x m r):RStp c b k f (D++[x]) m r:=by
 refine⟨i.1,λh=>?_,λh=>?_⟩;obtain⟨w,z⟩:=i.2.1 h;obtain⟨t,n⟩:=g.2.1 w;exact⟨t,run_snoc n z⟩;cases d with
 |true=>
  rcases g.2.2 rfl with q|q;exact .inl q;exact .inr λl j a=>q l j (by rw[OY]at a;omega)
 |false=>
  obtain⟨t,n⟩:=g.2.1 rfl;rcases i.2.2 h with q|q;cases q;refine .inr λl j a v=>?_;rw[OY,PL]at a;obtain⟨E,rfl,u⟩:=run_split n v Aa;cases E with
  |nil=>rw[Pz]at a;omega
  |cons y E=>
   obtain⟨A,e,_⟩:=u;rw[q]at e;cases e
def Stp.list{w:Type}{c:Cod w}{M:Int}{b:List Int}{k d m n:Nat}{f i u:Bool}{D:List w}(s:Byt b)(t:k<=b.length)(E:M<=1000000)(o:Stp (cBd 0 M) b k f (n:Int) d i)(r:RStp c b d i D m u)(y:D.length=n):Stp (c.list M) b k f D m u:=by
 refine⟨r.1,λh=>?_,λh=>?_⟩;obtain⟨A,B⟩:=r.2.1 h;obtain⟨v,g⟩:=o.2.1 A;have:=(cBd_at.1 g).2.2;exact⟨v,(list_at s t).2 ⟨d,by rw[y];exact g,Aa,B⟩⟩;cases i with
 |true=>
  rcases o.2.2 rfl with q|q;exact .inl q;exact .inr (list_none s t q)
 |false=>
  obtain⟨v,g⟩:=o.2.1 rfl;rcases r.2.2 h with q|q;cases q;refine .inr (at_none_of λl j e=>?_);obtain⟨z,a,_,x⟩:=(list_at s t).1 e;rw[g]at a;have a:=Q5 a;have F:(n:Int)=l.length:=PN Prod.fst a;have C:d=z:=PN Prod.snd a;subst C;exact q l j Aa x
def mBd_step{M:Int}(i:0<=M){b:List Int}{k:Nat}(d:Byt b)(a:k<=b.length)(f:Bool):∃(n:Nat) (m:Nat) (g:Bool),(n:Int)<=M/\Stp (cBd 0 M) b k f (n:Int) m g/\SpB 47 [.box 100000 0,I 0,I M] [rdC b k f] (I n) [rdC b m g] :=by
 cases f;cases e:(cBd 0 M).at b k with
 |none=>exact⟨0,k,true,i,⟨a,λh=>Ag,λ_=> .inr e⟩,(mBd 0 M).n d a e⟩
 |some p=>
  obtain⟨n,hn⟩:=cBd_nat e;have c:(cBd 0 M).at b k=some ((n:Int),p.2):=Hg;exact⟨n,p.2,false,(cBd_at.1 c).2.2,⟨(Cod.at_le e a).2,λ_=>⟨rfl,c⟩,λh=>Ag⟩,(mBd 0 M).y d a c⟩
 exact⟨0,k,true,i,⟨a,λh=>Ag,λ_=> .inl rfl⟩,(mBd 0 M).s d a⟩
def lbl_step2{b:List Int}{k:Nat}(j:Byt b)(v:k<=b.length)(f:Bool):∃i s t e g m a c d,Stp cI b k f i e a/\Stp (cText 16) b e a s g c/\Stp (cText 16) b g c t m d/\SpB 96 [.box 100000 0] [rdC b k f] (.agg [I i,S s,S t]) [rdC b m d] :=by
 obtain⟨i,e,a,l,o⟩:=mInt.step 0 rfl j v f;obtain⟨s,g,c,n,q⟩:=(mTx 16).step aI rfl j l.1 a;obtain⟨t,m,d,u,r⟩:=(mTx 16).step aI rfl j n.1 c;exact⟨i,s,t,e,g,m,a,c,d,l,n,u,b_of func96 Ac Ac rfl rfl (lbl_vc o q r)⟩
abbrev shtZ:List V:=[I 0,S aI,S aI,I 0, .lit (.slice none 0 0), .lit (.slice none 0 0), .lit (.slice none 0 0)]
def dsSt(b:List Int)(s:jL)(n:Nat)(k:Nat)(f:Bool):List Sh->St
 | [] =>mkSt [(2, .box 2 0),(3,I 0),(4, .box 8 0),(6, .box 6 0),(24,I n),(25,I 0)] [(2,shtZ),(8,rdC b k f),(6,[I s.id,S s.grade,S s.heat,I s.grain,rgV s.shape.outer, .sl (s.shape.holes.map rgV), .lit (.slice none 0 0)])] []
 |d::D=>mkSt [(2, .box 2 0),(3,I 0),(4, .box 8 0),(6, .box 6 0),(24,I n),(25,I (D.length+1))] [(2,shtZ),(8,rdC b k f),(6,[I s.id,S s.grade,S s.heat,I s.grain,rgV s.shape.outer, .sl (s.shape.holes.map rgV), .arr 32 D.length])] [(32,⟨D.length, .own,26,(d::D).map shV⟩)]
abbrev cSheetP:Cod (Int×ByteArray×ByteArray×Int×Sh×List Sh):=cI.pair ((cText 16).pair ((cText 16).pair (cI.pair (cShape.pair (cShape.list 6)))))
def sheet_at{b:List Int}{k m:Nat}{s:jL}:cSheet.at b k=some (s,m)↔cSheetP.at b k=some ((s.id,s.grade,s.heat,s.grain,s.shape,s.defects),m)/\dB s:=J6
def shape_fits{s:Sh}(h:cShape.ok s):Fits s:=by
 obtain⟨⟨a,_⟩,b,c⟩:=h;have a:(s.outer.length:Int)<=40:=a;have b:(s.holes.length:Int)<=6:=b;exact⟨Aa,Aa,λr d=>by have:(r.length:Int)<=40:=(c r d).1;omega⟩
def sheet_fits{b:List Int}{m:Nat}{i:Int}{g h:ByteArray}{a:Int}{f:Sh}{D:List Sh}(e:cSheetP.at b 0=some ((i,g,h,a,f,D),m)):tN ⟨i,g,h,a,f,D⟩:=by
 obtain⟨_,_,_,_,_,_,_,j,c,k⟩:=(Cod.at_iff _).1 e;have c:(D.length:Int)<=6:=c;exact⟨shape_fits j,by show D.length<=_;omega,λd l=>shape_fits (k d l)⟩
def dSheet_vc{b:List Int}(k:Byt b)(r:V)(G:∀s,cSheet.at b 0=some (s,b.length)->r= .tup [zJ s,I 0])(hn:(∀s,cSheet.at b 0≠some (s,b.length))->r= .tup [zJ dN,I 4]):fnVC T Tryz.prog Tryz.f45 [.sl (b.map byV)] r:=by
 have S:=new_spec b k.len;obtain⟨i,f,g,k1,k2,k3,f1,f2,P,s1,s2,K,U⟩:=lbl_step2 k (P8 _) false;obtain⟨a,k4,Q,L,W⟩:=mInt.step 0 rfl k K.1 P;obtain⟨j,k5,R,z,X⟩:=mSh.step sh0 rfl k L.1 Q;obtain⟨n,H,E,Z,N,Y⟩:=mBd_step (M:=6) Ai k z.1 R;repeat' ((conv=>whnf);first|omega|(refine call_n S ⟨rfl,trivial⟩ rfl rfl ?_)|refine bW8 [(5,5),(11,5),(13,5),(15,5)] [(18,[8])] Ae Ak ?_|refine zh (U) [8] ?_|refine zh (W) [8] ?_|refine zh (X) [8] ?_|refine zh (Y) [8] ?_|refine zS ?_|refine zm (λx hx=>?_)|refine zT ?_ ?_<;>intro _|fail)
 all_goals conv=>whnf
 refine lD (A:=List Sh×Nat×Bool) (λp=>match p with|(D,m,f')=>dsSt b ⟨i,f,g,a,j,[]⟩ n m f' D) (λp=>p.1.length<=n/\RStp cShape b H E p.1 p.2.1 p.2.2) (λp=>n-p.1.length) ([],H,E) ?_ ⟨P8 _,RStp.nil _ N.1 _⟩ ?_;show Le T _ (mkSt _ _ _);exact zj;rintro⟨D,m,f'⟩ ⟨hD,u⟩;simp only at hD u;by_cases c:D.length=n
 ·have hS:=s1.pair (s2.pair (K.pair (L.pair (z.pair (Stp.list k z.1 Ai N u c)))))
  cases D with
  |nil=>
   have y:n=0:=c.symm;all_goals conv=>whnf
   have hE:=end_spec b m f';by_cases he:f'=true\/m<b.length;exact KY;rw[Ph he]at hE;have hf:f'=false:=A7;have w:m=b.length:=by have:=hS.1;have:¬m<b.length:=λh=>he (.inr h);omega
   have hat:=(hS.2.1 hf).2;rw[w]at hat;have t:=aR2 ⟨i,f,g,a,j,[]⟩ (sheet_fits hat);by_cases hv:dB ⟨i,f,g,a,j,[]⟩;have hr:=G ⟨i,f,g,a,j,[]⟩ (sheet_at.2 ⟨hat,hv⟩);rw[show DB (dB ⟨i,f,g,a,j,[]⟩)=B true from PN B (dH.2 hv)]at t;exact Lj
   have hr:=hn λs e=>by
    exact Nk
   rw[show DB (dB ⟨i,f,g,a,j,[]⟩)=B false from PN B (dW.2 hv)]at t;exact Lj
  |cons d D=>
   have y:n=D.length+1:=c.symm;all_goals conv=>whnf
   have hE:=end_spec b m f';by_cases he:f'=true\/m<b.length;exact KY;rw[Ph he]at hE;have hf:f'=false:=A7;have w:m=b.length:=by have:=hS.1;have:¬m<b.length:=λh=>he (.inr h);omega
   have hat:=(hS.2.1 hf).2;rw[w]at hat;have t:=aR2 ⟨i,f,g,a,j,d::D⟩ (sheet_fits hat);by_cases hv:dB ⟨i,f,g,a,j,d::D⟩;have hr:=G ⟨i,f,g,a,j,d::D⟩ (sheet_at.2 ⟨hat,hv⟩);rw[show DB (dB ⟨i,f,g,a,j,d::D⟩)=B true from PN B (dH.2 hv)]at t;exact Lj
   have hr:=hn λs e=>by
    exact Nk
   rw[show DB (dB ⟨i,f,g,a,j,d::D⟩)=B false from PN B (dW.2 hv)]at t;exact Lj
 obtain⟨x,J,l,sx,F⟩:=mSh.step sh0 rfl k u.1 f';have o:=u.snoc sx;cases D with
 |nil=>
  have C:0<n:=Gz;all_goals conv=>whnf
  repeat' ((conv=>whnf);first|omega|refine bW8 [(6,6),(27,6),(33,6)] [(30,[8])] Ae Ak ?_|refine zh (F) [8] ?_|refine gX (OZ rfl) (dA rfl) AX ?_|refine zS ?_|refine zm (λx hx=>?_)|refine zT ?_ ?_<;>intro _|fail)
  all_goals conv=>whnf
  refine⟨([x],J,l),?_,⟨C,o⟩,F6⟩;show Le T _ (mkSt _ _ _);exact zj
 |cons d D=>
  have C:D.length+1<n:=F7;have hl:((d::D).map shV).length=D.length+1:=Af;have O:(d::(D++[x])).map shV=(d::D).map shV++[shV x] :=Af;have v:(D++[x]).length=D.length+1:=Af;all_goals conv=>whnf
  repeat' ((conv=>whnf);first|omega|refine bW8 [(6,6),(27,6),(33,6)] [(30,[8])] Ae Ak ?_|refine zh (F) [8] ?_|refine iH rfl (.inl rfl) rfl (OZ rfl) (dA rfl) (by show((d::D).map shV).length+1<=1000000000;omega) ?_|refine zS ?_|refine zm (λx hx=>?_)|refine zT ?_ ?_<;>intro _|fail)
  all_goals conv=>whnf
  refine⟨(d::(D++[x]),J,l),?_,⟨by show(D++[x]).length+1<=n;rw[v];omega,o⟩,by show n- ((D++[x]).length+1)<n- (D.length+1);rw[v];omega⟩;show Le T _ (mkSt _ _ _);rw[O,v];exact zj
abbrev brZ:List V:=[I 0,S aI,S aI,I 0, .lit (.slice none 0 0)]
def dbSt(b:List Int)(s:Bar)(n:Nat)(k:Nat)(f:Bool):List Iv->St
 | [] =>mkSt [(2, .box 2 0),(3,I 0),(4, .box 9 0),(6, .box 6 0),(22,I n),(23,I 0)] [(2,brZ),(9,rdC b k f),(6,[I s.id,S s.grade,S s.heat,I s.length, .lit (.slice none 0 0)])] []
 |d::D=>mkSt [(2, .box 2 0),(3,I 0),(4, .box 9 0),(6, .box 6 0),(22,I n),(23,I (D.length+1))] [(2,brZ),(9,rdC b k f),(6,[I s.id,S s.grade,S s.heat,I s.length, .arr 34 D.length])] [(34,⟨D.length, .own,64,(d::D).map ivV⟩)]
abbrev cBarP:Cod (Int×ByteArray×ByteArray×Int×List Iv):=cI.pair ((cText 16).pair ((cText 16).pair (cI.pair ((cI.pair cI).list 6))))
def bar_at{b:List Int}{k m:Nat}{s:Bar}:cBar.at b k=some (s,m)↔cBarP.at b k=some ((s.id,s.grade,s.heat,s.length,s.defects),m)/\fM s:=J6
def bar_fits{b:List Int}{m:Nat}{i:Int}{g h:ByteArray}{a:Int}{D:List Iv}(e:cBarP.at b 0=some ((i,g,h,a,D),m)):D.length<=1000000:=by
 obtain⟨_,_,_,_,_,_,_,c,d⟩:=(Cod.at_iff _).1 e;have c:(D.length:Int)<=6:=c;omega
def dBar_vc{b:List Int}(j:Byt b)(r:V)(K:∀s,cBar.at b 0=some (s,b.length)->r= .tup [barV s,I 0])(hn:(∀s,cBar.at b 0≠some (s,b.length))->r= .tup [barV bar0,I 4]):fnVC T Tryz.prog Tryz.f46 [.sl (b.map byV)] r:=by
 have W:=new_spec b j.len;obtain⟨i,f,g,k1,k2,k3,f1,f2,S,s1,s2,O,X⟩:=lbl_step2 j (P8 _) false;obtain⟨a,k4,U,E,Y⟩:=mInt.step 0 rfl j O.1 S;obtain⟨n,L,G,aa,P,Z⟩:=mBd_step (M:=6) Ai j E.1 U;repeat' ((conv=>whnf);first|omega|(refine call_n W ⟨rfl,trivial⟩ rfl rfl ?_)|refine bW8 [(5,5),(12,5),(14,5),(16,5)] [(19,[9])] Ae Ak ?_|refine zh (X) [9] ?_|refine zh (Y) [9] ?_|refine zh (Z) [9] ?_|refine zS ?_|refine zm (λx hx=>?_)|refine zT ?_ ?_<;>intro _|fail)
 all_goals conv=>whnf
 refine lD (A:=List Iv×Nat×Bool) (λp=>match p with|(D,m,f')=>dbSt b ⟨i,f,g,a,[]⟩ n m f' D) (λp=>p.1.length<=n/\RStp (cI.pair cI) b L G p.1 p.2.1 p.2.2) (λp=>n-p.1.length) ([],L,G) ?_ ⟨P8 _,RStp.nil _ P.1 _⟩ ?_;show Le T _ (mkSt _ _ _);exact zj;rintro⟨D,m,f'⟩ ⟨hD,v⟩;simp only at hD v;by_cases c:D.length=n
 ·have hS:=s1.pair (s2.pair (O.pair (E.pair (Stp.list j E.1 Ai P v c))))
  cases D with
  |nil=>
   have C:n=0:=c.symm;all_goals conv=>whnf
   have hE:=end_spec b m f';by_cases he:f'=true\/m<b.length;exact KZ;rw[Ph he]at hE;have hf:f'=false:=A7;have z:m=b.length:=by have:=hS.1;have:¬m<b.length:=λh=>he (.inr h);omega
   have hat:=(hS.2.1 hf).2;rw[z]at hat;have u:=qP ⟨i,f,g,a,[]⟩ (bar_fits hat);by_cases hv:fM ⟨i,f,g,a,[]⟩;have hr:=K ⟨i,f,g,a,[]⟩ (bar_at.2 ⟨hat,hv⟩);rw[show DB (fM ⟨i,f,g,a,[]⟩)=B true from PN B (dH.2 hv)]at u;exact Ll
   have hr:=hn λs e=>by
    exact Nq
   rw[show DB (fM ⟨i,f,g,a,[]⟩)=B false from PN B (dW.2 hv)]at u;exact Ll
  |cons d D=>
   have C:n=D.length+1:=c.symm;all_goals conv=>whnf
   have hE:=end_spec b m f';by_cases he:f'=true\/m<b.length;exact KZ;rw[Ph he]at hE;have hf:f'=false:=A7;have z:m=b.length:=by have:=hS.1;have:¬m<b.length:=λh=>he (.inr h);omega
   have hat:=(hS.2.1 hf).2;rw[z]at hat;have u:=qP ⟨i,f,g,a,d::D⟩ (bar_fits hat);by_cases hv:fM ⟨i,f,g,a,d::D⟩;have hr:=K ⟨i,f,g,a,d::D⟩ (bar_at.2 ⟨hat,hv⟩);rw[show DB (fM ⟨i,f,g,a,d::D⟩)=B true from PN B (dH.2 hv)]at u;exact Ll
   have hr:=hn λs e=>by
    exact Nq
   rw[show DB (fM ⟨i,f,g,a,d::D⟩)=B false from PN B (dW.2 hv)]at u;exact Ll
 obtain⟨k,m1,y,Q,H⟩:=mInt.step 0 rfl j v.1 f';obtain⟨l,N,o,sy,J⟩:=mInt.step 0 rfl j Q.1 y;have t:=v.snoc (Q.pair sy);cases D with
 |nil=>
  have F:0<n:=Gz;all_goals conv=>whnf
  repeat' ((conv=>whnf);first|omega|refine bW8 [(6,6),(27,6),(35,6)] [(31,[9])] Ae Ak ?_|refine zh (H) [9] ?_|refine zh (J) [9] ?_|refine gX (OZ rfl) (dA rfl) AX ?_|refine zS ?_|refine zm (λx hx=>?_)|refine zT ?_ ?_<;>intro _|fail)
  all_goals conv=>whnf
  refine⟨([(k,l)],N,o),?_,⟨F,t⟩,F6⟩;show Le T _ (mkSt _ _ _);exact zj
 |cons d D=>
  have F:D.length+1<n:=F7;have hl:((d::D).map ivV).length=D.length+1:=Af;have R:(d::(D++[(k,l)])).map ivV=(d::D).map ivV++[ivV (k,l)] :=Af;have w:(D++[(k,l)]).length=D.length+1:=Af;all_goals conv=>whnf
  repeat' ((conv=>whnf);first|omega|refine bW8 [(6,6),(27,6),(35,6)] [(31,[9])] Ae Ak ?_|refine zh (H) [9] ?_|refine zh (J) [9] ?_|refine iH rfl (.inl rfl) rfl (OZ rfl) (dA rfl) (by show((d::D).map ivV).length+1<=1000000000;omega) ?_|refine zS ?_|refine zm (λx hx=>?_)|refine zT ?_ ?_<;>intro _|fail)
  all_goals conv=>whnf
  refine⟨(d::(D++[(k,l)]),N,o),?_,⟨by show(D++[(k,l)]).length+1<=n;rw[w];omega,t⟩,by show n- ((D++[(k,l)]).length+1)<n- (D.length+1);rw[w];omega⟩;show Le T _ (mkSt _ _ _);rw[R,w];exact zj
end Go.Proofs.Led
