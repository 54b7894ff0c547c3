/- Lemmas. -/
import Derived.Test.YtcmgfjaiegpddaaGreatB16
set_option linter.all false
set_option maxRecDepth 100000
set_option maxHeartbeats 4000000
noncomputable section
namespace Go.Proofs.Led
open Go Go.Proofs Go.Ab Tryz
def s8(c:Int):Int:=if 128<=c then c-256 else c
def accN(b:List Int)(k:Nat):Nat->Int
 |0=>0
 |i+1=>if i=0 then s8 (b.getD (k+i) 0)else Go.Ab.orI .i64 (W (accN b k i*256)) (b.getD (k+i) 0)
def getD_isB{b:List Int}(a:Byt b)(k:Nat):isB (b.getD k 0):=by
 rw[PY];cases h:b[k]? with
 |none=>exact⟨Int.le_refl _,Ai⟩
 |some c=>exact a.isb c (Pn h)
def take_next{b:List Int}{k i:Nat}(h:k+i<b.length):(b.drop k).take (i+1)=(b.drop k).take i++[b.getD (k+i) 0] :=by
 rw[List.take_add_one,Qe,Pj h,PY,Pj h];rfl
def accN_val{b:List Int}(f:Byt b){k:Nat}:∀ {i:Nat},1<=i->i<=8->k+i<=b.length->accN b k i=valB ((b.drop k).take i)
 |0,h,_,_=>Aa
 |1,_,_,h=>by
  have:=take_next (b:=b) (k:=k) (i:=0) Aa;rw[this];show(if 0=0 then s8 (b.getD (k+0) 0)else _)=_;rw[Pm rfl];rfl
 |i+2,_,v,h=>by
  have l:=accN_val f (k:=k) (i:=i+1) Aa Aa Aa;have g:((b.drop k).take (i+1)).length=i+1:=CG;obtain⟨a,_⟩:=val_fits (i+1) _ g (λc d=>f.drop k c (PO d))
  have m: -(2^55)<=valB ((b.drop k).take (i+1))/\valB ((b.drop k).take (i+1))<2^55:=by
   obtain⟨n,o,q,r,s,t,u,_⟩:=lims;have hi:i=0\/i=1\/i=2\/i=3\/i=4\/i=5\/i=6:=Aa;unfold fits at a;rw[Ph Aa]at a;rcases hi with rfl|rfl|rfl|rfl|rfl|rfl|rfl;rw[n]at a;omega;rw[o]at a;omega;rw[q]at a;omega;rw[r]at a;omega;rw[s]at a;omega;rw[t]at a;omega;rw[u]at a;omega
  have j:(b.drop k).take (i+1)≠ [] :=λe=>by rw[e]at g;cases g
  rw[take_next Aa,valB_snoc j,<-l];rw[<-l]at m;have d:=getD_isB f (k+(i+1));unfold isB at d;show(if i+1=0 then _ else Go.Ab.orI .i64 (W (accN b k (i+1)*256)) (b.getD (k+(i+1)) 0))=_;rw[Ph Aa,w_in Aa];exact orI_byte Fe Aa d
def atI(b:List Int)(k i:Nat):Nat:=min (k+i) b.length
def flI(b:List Int)(k i:Nat):Bool:=decide (b.length<k+i)
def rnx_i{b:List Int}{k i:Nat}(a:Byt b):SpB 93 [.box 100000 0] [rdC b (atI b k i) (flI b k i)] (.lit (.int .u8 (b.getD (k+i) 0))) [rdC b (atI b k (i+1)) (flI b k (i+1))] :=by
 have:=rnx_spec b (atI b k i) (flI b k i) a Ff;by_cases c:k+i<b.length
 rw[show(if atI b k i<b.length then atI b k i+1 else atI b k i)=atI b k (i+1) by unfold atI;rw[Pm (by omega)];omega,
  show(flI b k i||decide (b.length<=atI b k i))=flI b k (i+1) from EI,show atI b k i=k+i from Ff]at this
 rw[show atI b k i=k+i from Ff];exact this
 have e:b.getD (atI b k i) 0=b.getD (k+i) 0:=by
  rw[PY,PY,Qj Ff,Qj Aa]
 rw[show(if atI b k i<b.length then atI b k i+1 else atI b k i)=atI b k (i+1) by unfold atI;rw[Ph (by omega)];omega,
  show(flI b k i||decide (b.length<=atI b k i))=flI b k (i+1) from EI,e]at this
 exact this
def i8_wrap{c:Int}(h:isB c):IntKind.i8.wrap c=s8 c:=by
 unfold isB at h;unfold s8;simp[IntKind.wrap,IntKind.signed,IntKind.bits];split<;>split<;>omega
def enc_dec_r{i:Nat}{N:Int}(a:fits i N)(l:i<=8):R64 N:=by
 obtain⟨b,c,d,e,f,g,j,k⟩:=lims;have hi:i=0\/i=1\/i=2\/i=3\/i=4\/i=5\/i=6\/i=7\/i=8:=Aa;unfold fits at a;unfold R64;rcases hi with rfl|rfl|rfl|rfl|rfl|rfl|rfl|rfl|rfl;rw[Pm rfl]at a;omega;all_goals (rw[Ph Aa]at a;first|rw[b]at a|rw[c]at a|rw[d]at a|rw[e]at a|rw[f]at a|rw[g]at a|rw[j]at a|rw[k]at a)
 all_goals omega
def int1_vc(b:List Int)(k s:Nat)(o:Byt b)(K:k<b.length)(M:b.getD k 0=s)(y:s<=8):jR T Tryz.prog Tryz.f92 [.box 100001 0] [rdC b k false,[.box 100000 0]] (I (accN b (k+1) s)) [rdC b (atI b (k+1) s) (flI b (k+1) s||decide (widN (accN b (k+1) s)≠s)),[.box 100000 0]] :=by
 have w:SpB 93 [.box 100000 0] [rdC b k false] (.lit (.int .u8 s)) [rdC b (k+1) false] :=by
  refine rnx_y o ?_;rw[<-M,PY,Pj K];rfl
 repeat' ((conv=>whnf);first|omega|refine zh (w) [100000] ?_|refine zS ?_|refine zd (λj=>?_) (λj=>?_)|refine zl (λg=>?_) (λg=>?_)|refine zk (λf=>?_) (λf=>?_)|refine ze (λa=>?_) (λa=>?_)|refine zm (λx r=>?_)|refine zb (λd=>?_) (λd=>?_))
 all_goals conv=>whnf
 refine lD (A:=Nat) (λi=>mkSt [(0, .box 100001 0),(2,I s),(3,I (accN b (k+1) i)),(20,I s),(21,I i)] [(100000,rdC b (atI b (k+1) i) (flI b (k+1) i)),(100001,[.box 100000 0])] []) (λi=>i<=s) (λi=>s-i) 0 ?_ (P8 _) (λi hi=>?_);have C:atI b (k+1) 0=k+1:=by unfold atI;omega
 have D:flI b (k+1) 0=false:=by unfold flI;simp;omega
 rw[C,D];exact zj;by_cases c:i=s
 ·subst c
  clear w;by_cases m:flI b (k+1) i=true
  ·have e:(flI b (k+1) i||decide (widN (accN b (k+1) i)≠i))=true:=by rw[m];rfl
   rw[e,m];repeat' ((conv=>whnf);first|omega|refine zS ?_|refine zd (λj=>?_) (λj=>?_)|refine zl (λg=>?_) (λg=>?_)|refine zk (λf=>?_) (λf=>?_)|refine ze (λa=>?_) (λa=>?_)|refine zm (λx r=>?_)|refine zb (λd=>?_) (λd=>?_))
   all_goals conv=>whnf
   all_goals first|exact⟨_,rfl,zc1⟩|exact zc1
  have m:flI b (k+1) i=false:=by simpa using m
  have q:k+1+i<=b.length:=by unfold flI at m;simpa using m
  have H:R64 (accN b (k+1) i):=by
   by_cases l:i=0;subst l;exact⟨show(-9223372036854775808:Int)<=0 from Ai,show(0:Int)<=9223372036854775807 from Ai⟩;rw[accN_val o Aa y q];have L:((b.drop (k+1)).take i).length=i:=CG;obtain⟨G,P⟩:=val_fits i _ L (λc J=>o.drop (k+1) c (PO J));exact(enc_dec_r G y)
  have n:=wInt_spec [] (accN b (k+1) i) H Af;have O:((([] :List Int)++encI (accN b (k+1) i)).map byV).length=widN (accN b (k+1) i)+1:=by simp[enc_len]
  generalize accN b (k+1) i=N at*;generalize ([] ++encI N).map byV=E at*;have e:(flI b (k+1) i||decide (widN N≠i))=decide (widN N≠i):=by rw[m];rfl
  rw[e,m];by_cases B:widN N=i
  ·rw[show decide (widN N≠i)=false by simp[B]]
   repeat' ((conv=>whnf);first|omega|(exfalso;exact a (show(E.length:Int)=i+1 from Aa))|(refine aS5 n false ⟨⟨OZ Ac,rfl⟩,rfl,trivial⟩ rfl ?_)|refine zS ?_|refine zd (λj=>?_) (λj=>?_)|refine zl (λg=>?_) (λg=>?_)|refine zk (λf=>?_) (λf=>?_)|refine ze (λa=>?_) (λa=>?_)|refine zm (λx r=>?_)|refine zb (λd=>?_) (λd=>?_))
   all_goals conv=>whnf
   all_goals first|exact⟨_,rfl,zc1⟩|exact zc1
  rw[show decide (widN N≠i)=true by simp[B]];repeat' ((conv=>whnf);first|omega|(exfalso;have Q:(E.length:Int)=i+1:=a;omega)|(refine aS5 n false ⟨⟨OZ Ac,rfl⟩,rfl,trivial⟩ rfl ?_)|refine zS ?_|refine zd (λj=>?_) (λj=>?_)|refine zl (λg=>?_) (λg=>?_)|refine zk (λf=>?_) (λf=>?_)|refine ze (λa=>?_) (λa=>?_)|refine zm (λx r=>?_)|refine zb (λd=>?_) (λd=>?_))
  all_goals conv=>whnf
  all_goals first|exact⟨_,rfl,zc1⟩|exact zc1
 have n:=rnx_i (b:=b) (k:=k+1) (i:=i) o;have z:=getD_isB o (k+1+i);have t:accN b (k+1) (i+1)=if i=0 then s8 (b.getD (k+1+i) 0)else Go.Ab.orI .i64 (W (accN b (k+1) i*256)) (b.getD (k+1+i) 0):=rfl
 have F:=i8_wrap z;unfold isB at z;have u:IntKind.i64.wrap (s8 (b.getD (k+1+i) 0))=s8 (b.getD (k+1+i) 0):=w_in (by unfold s8;split<;>omega);have v:shlI .i64 (accN b (k+1) i) 8=accN b (k+1) i*256:=by unfold shlI;rfl
 generalize b.getD (k+1+i) 0=x at*;generalize accN b (k+1) i=N at*;by_cases l:i=0
 ·rw[Pm l]at t
  repeat' ((conv=>whnf);first|omega|refine zh (n) [100000] ?_|refine fK F ?_|refine fK u ?_|refine zS ?_|refine zd (λj=>?_) (λj=>?_)|refine zl (λg=>?_) (λg=>?_)|refine zk (λf=>?_) (λf=>?_)|refine ze (λa=>?_) (λa=>?_)|refine zm (λx r=>?_)|refine zb (λd=>?_) (λd=>?_))
  all_goals conv=>whnf
  refine⟨i+1,?_,Aa,Aa⟩;rw[t];exact zj
 rw[Ph l]at t;repeat' ((conv=>whnf);first|omega|refine zh (n) [100000] ?_|refine zS ?_|refine zd (λj=>?_) (λj=>?_)|refine zl (λg=>?_) (λg=>?_)|refine zk (λf=>?_) (λf=>?_)|refine ze (λa=>?_) (λa=>?_)|refine zm (λx r=>?_)|refine zb (λd=>?_) (λd=>?_))
 all_goals conv=>whnf
 refine⟨i+1,?_,Aa,Aa⟩;rw[t,<-v];exact zj
def int1_spec(b:List Int)(k s:Nat)(c:Byt b)(d:k<b.length)(e:b.getD k 0=s)(a:s<=8):SpB 92 [.box 100001 0] [rdC b k false,[.box 100000 0]] (I (accN b (k+1) s)) [rdC b (atI b (k+1) s) (flI b (k+1) s||decide (widN (accN b (k+1) s)≠s)),[.box 100000 0]] :=
 b_of func92 Ac Ac rfl rfl (int1_vc b k s c d e a)
def int1e_vc(b:List Int)(k:Nat)(a:Byt b)(g:k<=b.length)(h:k=b.length\/8<b.getD k 0):∃m,m<=b.length/\jR T Tryz.prog Tryz.f92 [.box 100001 0] [rdC b k false,[.box 100000 0]] (I 0) [rdC b m true,[.box 100000 0]] :=by
 by_cases c:k=b.length;subst c;refine⟨b.length,Po _,?_⟩;have g1:=rnx_n (f:=false) a;exact ML;have e:8<b.getD k 0:=by rcases h with h|h;exact absurd h c;exact h
 refine⟨k+1,Aa,?_⟩;have d:=getD_isB a k
 have g1:SpB 93 [.box 100000 0] [rdC b k false] (.lit (.int .u8 (b.getD k 0))) [rdC b (k+1) false] :=by
  refine rnx_y a ?_;rw[PY,Pj Aa];rfl
 generalize b.getD k 0=x at*;unfold isB at d;exact ML
def decI_cases{b:List Int}(e:Byt b)(k:Nat)(t:k<=b.length):
 (∃n m,cI.at b k=some (n,m)/\∃s:Nat,k<b.length/\b.getD k 0=s/\s<=8/\accN b (k+1) s=n/\atI b (k+1) s=m/\(flI b (k+1) s||decide (widN (accN b (k+1) s)≠s))=false)\/
 (cI.at b k=none/\((k=b.length\/8<b.getD k 0)\/∃s:Nat,k<b.length/\b.getD k 0=s/\s<=8/\(flI b (k+1) s||decide (widN (accN b (k+1) s)≠s))=true)):=by
 by_cases c:k=b.length
 ·refine .inr ⟨?_, .inl (.inl c)⟩
  rw[Cod.at_none,cI_dec (e.drop k),List.drop_of_length_le Aa];rfl
 have a:k<b.length:=Aa
 have j:b.drop k=b.getD k 0::b.drop (k+1):=by
  rw[List.drop_eq_getElem_cons a,PY,Pj a];rfl
 have q:=getD_isB e k;obtain⟨s,f⟩:∃s:Nat,b.getD k 0=s:=⟨(b.getD k 0).toNat,by unfold isB at q;omega⟩;by_cases i:s<=8
 ·by_cases r:k+1+s<=b.length
  ·have l:accN b (k+1) s=valB ((b.drop (k+1)).take s):=by
    by_cases o:s=0
    ·subst o;rfl
    ·exact accN_val e Aa i r
   have d:flI b (k+1) s=false:=by unfold flI;simp;omega
   by_cases g:widN (accN b (k+1) s)=s
   ·refine .inl ⟨accN b (k+1) s,k+1+s,?_,s,a,f,i,rfl,Ff,by rw[d];simp[g]⟩
    unfold Cod.at;rw[cI_dec (e.drop k),j,f];unfold decI;simp only[Qc];rw[<-l,Pm ⟨Aa,CB,g⟩];simp only[Qg];have:(cI.enc (accN b (k+1) s)).length=s+1:=by show(encI _).length=_;rw[enc_len,g]
    rw[this];congr 2;omega
   ·refine .inr ⟨?_, .inr ⟨s,a,f,i,by rw[d];simp[g]⟩⟩
    rw[Cod.at_none,cI_dec (e.drop k),j,f];unfold decI;simp only[Qc];rw[<-l,Ph (λh=>g h.2.2)]
  ·have d:flI b (k+1) s=true:=by unfold flI;simp;omega
   refine .inr ⟨?_, .inr ⟨s,a,f,i,by rw[d];rfl⟩⟩;rw[Cod.at_none,cI_dec (e.drop k),j,f];unfold decI;simp only[Qc];rw[Ph (λh=>by have:=h.2.1;rw[Qm]at this;omega)]
 ·refine .inr ⟨?_, .inl (.inr Aa)⟩
  rw[Cod.at_none,cI_dec (e.drop k),j,f];unfold decI;simp only;rw[Ph (λh=>Aa)]
def rdIy_vc(g:FuncId)(b:List Int)(k m:Nat)(x:Int)(hg:SpB g [.box 100001 0] [rdC b k false,[.box 100000 0]] (I x) [rdC b m false,[.box 100000 0]]):jR T Tryz.prog Tryz.f91 [.box 100000 0, .fn g [.box 100001 0]] [rdC b k false,[.box 100000 0]] (I x) [rdC b m false,[.box 100000 0]] :=Ia
def rdIy(g:FuncId)(b:List Int)(k m:Nat)(x:Int)(a:SpB g [.box 100001 0] [rdC b k false,[.box 100000 0]] (I x) [rdC b m false,[.box 100000 0]]):SpB 91 [.box 100000 0, .fn g [.box 100001 0]] [rdC b k false,[.box 100000 0]] (I x) [rdC b m false,[.box 100000 0]] :=
 b_of func91 Ac Ac rfl rfl (rdIy_vc g b k m x a)
def rdIn_vc(g:FuncId)(b:List Int)(k m:Nat)(x:Int)(hg:SpB g [.box 100001 0] [rdC b k false,[.box 100000 0]] (I x) [rdC b m true,[.box 100000 0]]):jR T Tryz.prog Tryz.f91 [.box 100000 0, .fn g [.box 100001 0]] [rdC b k false,[.box 100000 0]] (I 0) [rdC b k true,[.box 100000 0]] :=Ia
def rdIn(g:FuncId)(b:List Int)(k m:Nat)(x:Int)(a:SpB g [.box 100001 0] [rdC b k false,[.box 100000 0]] (I x) [rdC b m true,[.box 100000 0]]):SpB 91 [.box 100000 0, .fn g [.box 100001 0]] [rdC b k false,[.box 100000 0]] (I 0) [rdC b k true,[.box 100000 0]] :=
 b_of func91 Ac Ac rfl rfl (rdIn_vc g b k m x a)
def rdIs_vc(g:FuncId)(b:List Int)(k:Nat):jR T Tryz.prog Tryz.f91 [.box 100000 0, .fn g [.box 100001 0]] [rdC b k true,[.box 100000 0]] (I 0) [rdC b k true,[.box 100000 0]] :=Ib
def rdIs(g:FuncId)(b:List Int)(k:Nat):SpB 91 [.box 100000 0, .fn g [.box 100001 0]] [rdC b k true,[.box 100000 0]] (I 0) [rdC b k true,[.box 100000 0]] :=
 b_of func91 Ac Ac rfl rfl (rdIs_vc g b k)
def rdBy_vc{lo hi:Int}(g:FuncId)(b:List Int)(k m:Nat)(x:Int)(hg:SpB g [.box 100001 0, .box 100002 0, .box 100003 0] [rdC b k false,[.box 100000 0],[I lo],[I hi]] (I x) [rdC b m false,[.box 100000 0],[I lo],[I hi]]):jR T Tryz.prog Tryz.f91 [.box 100000 0, .fn g [.box 100001 0, .box 100002 0, .box 100003 0]] [rdC b k false,[.box 100000 0],[I lo],[I hi]] (I x) [rdC b m false,[.box 100000 0],[I lo],[I hi]] :=Ik
def rdBy{lo hi:Int}(g:FuncId)(b:List Int)(k m:Nat)(x:Int)(a:SpB g [.box 100001 0, .box 100002 0, .box 100003 0] [rdC b k false,[.box 100000 0],[I lo],[I hi]] (I x) [rdC b m false,[.box 100000 0],[I lo],[I hi]]):SpB 91 [.box 100000 0, .fn g [.box 100001 0, .box 100002 0, .box 100003 0]] [rdC b k false,[.box 100000 0],[I lo],[I hi]] (I x) [rdC b m false,[.box 100000 0],[I lo],[I hi]] :=
 b_of func91 Ac Ac rfl rfl (rdBy_vc g b k m x a)
def rdBn_vc{lo hi:Int}(g:FuncId)(b:List Int)(k m:Nat)(x:Int)(hg:SpB g [.box 100001 0, .box 100002 0, .box 100003 0] [rdC b k false,[.box 100000 0],[I lo],[I hi]] (I x) [rdC b m true,[.box 100000 0],[I lo],[I hi]]):jR T Tryz.prog Tryz.f91 [.box 100000 0, .fn g [.box 100001 0, .box 100002 0, .box 100003 0]] [rdC b k false,[.box 100000 0],[I lo],[I hi]] (I 0) [rdC b k true,[.box 100000 0],[I lo],[I hi]] :=Ik
def rdBn{lo hi:Int}(g:FuncId)(b:List Int)(k m:Nat)(x:Int)(a:SpB g [.box 100001 0, .box 100002 0, .box 100003 0] [rdC b k false,[.box 100000 0],[I lo],[I hi]] (I x) [rdC b m true,[.box 100000 0],[I lo],[I hi]]):SpB 91 [.box 100000 0, .fn g [.box 100001 0, .box 100002 0, .box 100003 0]] [rdC b k false,[.box 100000 0],[I lo],[I hi]] (I 0) [rdC b k true,[.box 100000 0],[I lo],[I hi]] :=
 b_of func91 Ac Ac rfl rfl (rdBn_vc g b k m x a)
def rdBs_vc{lo hi:Int}(g:FuncId)(b:List Int)(k:Nat):jR T Tryz.prog Tryz.f91 [.box 100000 0, .fn g [.box 100001 0, .box 100002 0, .box 100003 0]] [rdC b k true,[.box 100000 0],[I lo],[I hi]] (I 0) [rdC b k true,[.box 100000 0],[I lo],[I hi]] :=Ib
def rdBs{lo hi:Int}(g:FuncId)(b:List Int)(k:Nat):SpB 91 [.box 100000 0, .fn g [.box 100001 0, .box 100002 0, .box 100003 0]] [rdC b k true,[.box 100000 0],[I lo],[I hi]] (I 0) [rdC b k true,[.box 100000 0],[I lo],[I hi]] :=
 b_of func91 Ac Ac rfl rfl (rdBs_vc g b k)
structure Rds{α:Type}(F:FuncId)(ys:List V)(c:Cod α)(z:V)(rv:α->V):Prop where
 y:∀ {b k x m},Byt b->k<=b.length->c.at b k=some (x,m)->SpB F (.box 100000 0::ys) [rdC b k false] (rv x) [rdC b m false]
 n:∀ {b k},Byt b->k<=b.length->c.at b k=none->SpB F (.box 100000 0::ys) [rdC b k false] z [rdC b k true]
 s:∀ {b k},Byt b->k<=b.length->SpB F (.box 100000 0::ys) [rdC b k true] z [rdC b k true]
def mInty_vc{b:List Int}{k m:Nat}{x:Int}(g:SpB 91 [.box 100000 0, .fn 92 [.box 100001 0]] [rdC b k false,[.box 100000 0]] (I x) [rdC b m false,[.box 100000 0]]):jR T Tryz.prog Tryz.f42 [.box 100000 0] [rdC b k false] (I x) [rdC b m false] :=Io
def mIntn_vc{b:List Int}{k:Nat}{f:Bool}(g:SpB 91 [.box 100000 0, .fn 92 [.box 100001 0]] [rdC b k f,[.box 100000 0]] (I 0) [rdC b k true,[.box 100000 0]]):jR T Tryz.prog Tryz.f42 [.box 100000 0] [rdC b k f] (I 0) [rdC b k true] :=Io
def mInt:Rds 42 [] cI (I 0) I where
 y:=by
  intro b k x m hb hk h;refine b_of func42 Ac Ac rfl rfl (mInty_vc (rdIy _ b k m x ?_));rcases decI_cases hb k hk with⟨n,m',h1,s,q1,q2,q3,q4,q5,q6⟩|⟨h1,_⟩;rw[h1]at h;cases h;have:=int1_spec b k s hb q1 q2 q3;rw[q6,q4,q5]at this;exact this;rw[h1]at h;cases h
 n:=by
  intro b k hb hk h
  obtain⟨n,m,hg⟩:∃n m,SpB 92 [.box 100001 0] [rdC b k false,[.box 100000 0]] (I n) [rdC b m true,[.box 100000 0]] :=by
   rcases decI_cases hb k hk with⟨n,m',h1,_⟩|⟨_,q|⟨s,q1,q2,q3,q4⟩⟩;rw[h1]at h;cases h;obtain⟨m,_,hm⟩:=int1e_vc b k hb hk q;exact⟨0,m,b_of func92 Ac Ac rfl rfl hm⟩;have:=int1_spec b k s hb q1 q2 q3;rw[q4]at this;exact⟨_,_,this⟩
  exact b_of func42 Ac Ac rfl rfl (mIntn_vc (rdIn _ b k m n hg))
 s:=by
  intro b k hb hk;exact b_of func42 Ac Ac rfl rfl (mIntn_vc (rdIs _ b k))
def cBd_at{lo hi:Int}{b:List Int}{k m:Nat}{n:Int}:(cBd lo hi).at b k=some (n,m)↔cI.at b k=some (n,m)/\lo<=n/\n<=hi:=by
 rw[Cod.at_iff,Cod.at_iff];exact⟨λ⟨a,c,d,_,e⟩=>⟨⟨a,c,d,trivial⟩,e⟩,λ⟨⟨a,c,d,_⟩,e⟩=>⟨a,c,d,trivial,e⟩⟩
def at_none_of{a:Type}{c:Cod a}{b:List Int}{k:Nat}(h:∀x m,c.at b k≠some (x,m)):c.at b k=none:=by
 cases e:c.at b k with
 |none=>rfl
 |some p=>exact absurd e (h p.1 p.2)
def bd1_vc{b:List Int}{k m:Nat}{f:Bool}{n lo hi:Int}(g:SpB 42 [.box 100000 0] [rdC b k false] (I n) [rdC b m f]):jR T Tryz.prog Tryz.f98 [.box 100001 0, .box 100002 0, .box 100003 0] [rdC b k false,[.box 100000 0],[I lo],[I hi]] (I n) [rdC b m (f||decide (n<lo)||decide (hi<n)),[.box 100000 0],[I lo],[I hi]] :=by
 cases f;by_cases a:n<lo;rw[show(false||decide (n<lo)||decide (hi<n))=true by simp[a]];exact L9
 have e:(false||decide (n<lo)||decide (hi<n))=ltB hi n:=by
  rw[Qv,dC8];simp;omega
 rw[e];exact L9;rw[show(true||decide (n<lo)||decide (hi<n))=true from Af];exact L9
def mBdy_vc{b:List Int}{k m:Nat}{x lo hi:Int}(g:SpB 91 [.box 100000 0, .fn 98 [.box 100001 0, .box 100002 0, .box 100003 0]] [rdC b k false,[.box 100000 0],[I lo],[I hi]] (I x) [rdC b m false,[.box 100000 0],[I lo],[I hi]]):jR T Tryz.prog Tryz.f47 [.box 100000 0,I lo,I hi] [rdC b k false] (I x) [rdC b m false] :=Iz
def mBdn_vc{b:List Int}{k:Nat}{f:Bool}{lo hi:Int}(g:SpB 91 [.box 100000 0, .fn 98 [.box 100001 0, .box 100002 0, .box 100003 0]] [rdC b k f,[.box 100000 0],[I lo],[I hi]] (I 0) [rdC b k true,[.box 100000 0],[I lo],[I hi]]):jR T Tryz.prog Tryz.f47 [.box 100000 0,I lo,I hi] [rdC b k f] (I 0) [rdC b k true] :=Iz
def bd1_spec{b:List Int}{k m:Nat}{f:Bool}{n:Int}(lo hi:Int)(g:SpB 42 [.box 100000 0] [rdC b k false] (I n) [rdC b m f]):SpB 98 [.box 100001 0, .box 100002 0, .box 100003 0] [rdC b k false,[.box 100000 0],[I lo],[I hi]] (I n) [rdC b m (f||decide (n<lo)||decide (hi<n)),[.box 100000 0],[I lo],[I hi]] :=
 b_of func98 Ac Ac rfl rfl (bd1_vc g)
def mBd(lo hi:Int):Rds 47 [I lo,I hi] (cBd lo hi) (I 0) I where
 y:=by
  intro b k x m hb hk h;obtain⟨h1,h2,h3⟩:=cBd_at.1 h;have:=bd1_spec lo hi (mInt.y hb hk h1);rw[show(false||decide (x<lo)||decide (hi<x))=false from Be]at this;exact b_of func47 Ac Ac rfl rfl (mBdy_vc (rdBy _ b k m x this))
 n:=by
  intro b k hb hk h
  obtain⟨n,m,hg⟩:∃n m,SpB 98 [.box 100001 0, .box 100002 0, .box 100003 0] [rdC b k false,[.box 100000 0],[I lo],[I hi]] (I n) [rdC b m true,[.box 100000 0],[I lo],[I hi]] :=by
   cases e:cI.at b k with
   |none=>
    have:=bd1_spec lo hi (mInt.n hb hk e);rw[show(true||decide ((0:Int)<lo)||decide (hi<0))=true from Af]at this;exact⟨_,_,this⟩
   |some p=>
    have:=bd1_spec lo hi (mInt.y hb hk e)
    rw[show(false||decide (p.1<lo)||decide (hi<p.1))=true by
     by_cases c:lo<=p.1/\p.1<=hi;exact absurd (cBd_at.2 ⟨e,c⟩) Ed
     simp;omega]at this
    exact⟨_,_,this⟩
  exact b_of func47 Ac Ac rfl rfl (mBdn_vc (rdBn _ b k m n hg))
 s:=by
  intro b k hb hk;exact b_of func47 Ac Ac rfl rfl (mBdn_vc (rdBs _ b k))
def cloneY_spec(l:List Int)(d:l.length<=100000000):Sp 79 [.sl (l.map byV)] (.own 5 (l.map byV)):=by
 refine zsp func79 ?_;have c:(l.map byV).length=l.length:=Af;have a:∀y∈l.map byV,y.cells.length=1:=byV_cells l;repeat' ((conv=>whnf);first|(refine bV3.mk rfl (OZ Ac) Ac (.inl rfl) ?_;intro b hb;cases b)|refine iH rfl (.inl rfl) rfl (OZ rfl) a (by show 0+(List.map byV l).length<=_;omega) ?_|refine zS ?_|refine zm (λx f=>?_)|refine zT ?_ ?_<;>intro _|fail)
 all_goals conv=>whnf
 exact Ji;exact Iq
def cBytes_at{M:Int}{b:List Int}{k m:Nat}{l:List Int}(q:Byt b)(s:k<=b.length):
 (cBytes M).at b k=some (l,m)↔∃n c:Nat,(cBd 0 M).at b k=some ((n:Int),c)/\n<=b.length-c/\l=(b.drop c).take n/\m=c+n:=by
 constructor
 ·intro h
  obtain⟨f,d,i,g⟩:=(Cod.at_iff _).1 h;have t:=Cod.at_le h s;rw[cBytes_enc]at f d;have j:l.length<=1000000000000:=i.1;have o:(l.length:Int)<=M:=g.1
  have a:b.drop (k+(encI l.length).length)=l++b.drop m:=by
   rw[<-List.drop_drop,d,Pq,List.drop_left]
  have e:=PN List.length a;rw[Qm,OY,Qm]at e;rw[OY]at f;refine⟨l.length,k+(encI l.length).length,cBd_at.2 ⟨(Cod.at_iff _).2 ⟨rfl,?_,?_,trivial⟩,Aa,o⟩,Aa,?_,Aa⟩
  ·rw[a,d,Pq];rfl
  ·show R64 (l.length:Int);unfold R64;omega
  ·rw[a,SK]
 ·rintro⟨n,c,h,f,rfl,rfl⟩
  obtain⟨d,i,g⟩:=cBd_at.1 h;obtain⟨u,v,w,_⟩:=(Cod.at_iff _).1 d;have hl:((b.drop c).take n).length=n:=CG;have r:=q.len;refine(Cod.at_iff _).2 ⟨?_,?_,⟨Gy,λ_ _=>trivial⟩,by rw[hl];exact g,λ_ _=>trivial⟩
  ·rw[cBytes_enc,OY,hl]
   have:cI.enc (n:Int)=encI n:=rfl;rw[this]at u;omega
  ·rw[cBytes_enc,hl,v,Pq]
   congr 1;rw[<-List.drop_drop,Qq]
def by1y_vc{b:List Int}{k a n:Nat}{M:Int}(f:Byt b)(j:a<=b.length)(h:n<=b.length-a)(g:SpB 47 [.box 100000 0,I 0,I M] [rdC b k false] (I n) [rdC b a false]):jR T Tryz.prog Tryz.f95 [.box 100001 0, .box 100002 0] [rdC b k false,[.box 100000 0],[I M]] (.sl (((b.drop a).take n).map byV)) [rdC b (a+n) false,[.box 100000 0],[I M]] :=by
 have c:(b.map byV).length=b.length:=Af;have e:=f.len
 have d:List.drop ((a:Int)+n-n).toNat (List.take ((a:Int)+n).toNat (b.map byV))=((b.drop a).take n).map byV:=by
  rw[show((a:Int)+n-n).toNat=a from Aa,show((a:Int)+n).toNat=a+n from Aa,SB,List.map_drop,Rz];congr 1;omega
 have i:Sp 79 [.sl (List.drop ((a:Int)+n-n).toNat (List.take ((a:Int)+n).toNat (b.map byV)))] (.own 5 (((b.drop a).take n).map byV)):=by
  rw[d];exact cloneY_spec _ Bd
 clear d;generalize ((b.drop a).take n).map byV=L at*;repeat' ((conv=>whnf);first|omega|refine zh (g) [100000] ?_|refine fU ⟨Aa,Aa,by rw[c];omega, .inr (byV_cells b)⟩ ?_|refine zS ?_|refine zm (λx l=>?_)|refine zT ?_ ?_<;>intro _|fail)
 all_goals conv=>whnf
 repeat' (first|exact trivial|refine And.intro ?_ ?_|with_reducible rfl|exact(λ_ h=>Ag)|exact(λh=>Ag)|exact rfl)
def by1n_vc{b:List Int}{k a:Nat}{n M:Int}{f:Bool}(d:Byt b)(j:a<=b.length)(i:R64 n)(h:f=true\/(b.length:Int)-a<n)(g:SpB 47 [.box 100000 0,I 0,I M] [rdC b k false] (I n) [rdC b a f]):jR T Tryz.prog Tryz.f95 [.box 100001 0, .box 100002 0] [rdC b k false,[.box 100000 0],[I M]] (.sl []) [rdC b a true,[.box 100000 0],[I M]] :=by
 have e:(b.map byV).length=b.length:=Af;have c:=d.len;cases f;have h:(b.length:Int)-a<n:=by simpa using h
 exact L9;repeat' ((conv=>whnf);first|omega|refine zh (g) [100000] ?_|refine zS ?_|refine zm (λx hx=>?_)|refine zT ?_ ?_<;>intro _|fail)
 all_goals conv=>whnf
 all_goals first|exact⟨_,rfl,zc1⟩|exact zc1
def rdYy_vc{M:Int}(g:FuncId)(b:List Int)(k m:Nat)(x:List V)(hg:SpB g [.box 100001 0, .box 100002 0] [rdC b k false,[.box 100000 0],[I M]] (.sl x) [rdC b m false,[.box 100000 0],[I M]]):jR T Tryz.prog Tryz.f94 [.box 100000 0, .fn g [.box 100001 0, .box 100002 0]] [rdC b k false,[.box 100000 0],[I M]] (.sl x) [rdC b m false,[.box 100000 0],[I M]] :=Jc
def rdYy{M:Int}(g:FuncId)(b:List Int)(k m:Nat)(x:List V)(a:SpB g [.box 100001 0, .box 100002 0] [rdC b k false,[.box 100000 0],[I M]] (.sl x) [rdC b m false,[.box 100000 0],[I M]]):SpB 94 [.box 100000 0, .fn g [.box 100001 0, .box 100002 0]] [rdC b k false,[.box 100000 0],[I M]] (.sl x) [rdC b m false,[.box 100000 0],[I M]] :=
 b_of func94 Ac Ac rfl rfl (rdYy_vc g b k m x a)
def rdYn_vc{M:Int}(g:FuncId)(b:List Int)(k m:Nat)(x:List V)(hg:SpB g [.box 100001 0, .box 100002 0] [rdC b k false,[.box 100000 0],[I M]] (.sl x) [rdC b m true,[.box 100000 0],[I M]]):jR T Tryz.prog Tryz.f94 [.box 100000 0, .fn g [.box 100001 0, .box 100002 0]] [rdC b k false,[.box 100000 0],[I M]] (.sl []) [rdC b k true,[.box 100000 0],[I M]] :=Jc
def rdYn{M:Int}(g:FuncId)(b:List Int)(k m:Nat)(x:List V)(a:SpB g [.box 100001 0, .box 100002 0] [rdC b k false,[.box 100000 0],[I M]] (.sl x) [rdC b m true,[.box 100000 0],[I M]]):SpB 94 [.box 100000 0, .fn g [.box 100001 0, .box 100002 0]] [rdC b k false,[.box 100000 0],[I M]] (.sl []) [rdC b k true,[.box 100000 0],[I M]] :=
 b_of func94 Ac Ac rfl rfl (rdYn_vc g b k m x a)
def rdYs_vc{M:Int}(g:FuncId)(b:List Int)(k:Nat):jR T Tryz.prog Tryz.f94 [.box 100000 0, .fn g [.box 100001 0, .box 100002 0]] [rdC b k true,[.box 100000 0],[I M]] (.sl []) [rdC b k true,[.box 100000 0],[I M]] :=Ib
def rdYs{M:Int}(g:FuncId)(b:List Int)(k:Nat):SpB 94 [.box 100000 0, .fn g [.box 100001 0, .box 100002 0]] [rdC b k true,[.box 100000 0],[I M]] (.sl []) [rdC b k true,[.box 100000 0],[I M]] :=
 b_of func94 Ac Ac rfl rfl (rdYs_vc g b k)
def mByy_vc{b:List Int}{k m:Nat}{x:List V}{M:Int}{f a:Bool}(g:SpB 94 [.box 100000 0, .fn 95 [.box 100001 0, .box 100002 0]] [rdC b k f,[.box 100000 0],[I M]] (.sl x) [rdC b m a,[.box 100000 0],[I M]]):jR T Tryz.prog Tryz.f44 [.box 100000 0,I M] [rdC b k f] (.sl x) [rdC b m a] :=by
 repeat' ((conv=>whnf);first|refine zh (g) [100000,2,3] ?_|refine zS ?_|refine zm (λx c=>?_)|refine zT ?_ ?_<;>intro _|fail)
 all_goals conv=>whnf
 all_goals first|exact⟨_,rfl,zc1⟩|exact zc1
def mBy(M:Int):Rds 44 [I M] (cBytes M) (.sl []) (λl=> .sl (l.map byV))where
 y:=by
  intro b k l m a c h;obtain⟨n,g,i,o,rfl,rfl⟩:=(cBytes_at a c).1 h;have d:=Cod.at_le i c;have:=by1y_vc (M:=M) a d.2 o ((mBd 0 M).y a c i);exact b_of func44 Ac Ac rfl rfl (mByy_vc (rdYy _ b k _ _ (b_of func95 Ac Ac rfl rfl this)))
 n:=by
  intro b k a c h
  obtain⟨m,q⟩:∃m,jR T Tryz.prog Tryz.f95 [.box 100001 0, .box 100002 0] [rdC b k false,[.box 100000 0],[I M]] (.sl []) [rdC b m true,[.box 100000 0],[I M]] :=by
   cases e:(cBd 0 M).at b k with
   |none=>exact⟨k,by1n_vc a c (show R64 0 from⟨Ai,Ai⟩) (.inl rfl) ((mBd 0 M).n a c e)⟩
   |some p=>
    obtain⟨n,g⟩:=p;have d:=Cod.at_le e c;have t:=cBd_at.1 e;have f:R64 n:=((Cod.at_iff _).1 t.1).2.2.1;refine⟨g,by1n_vc a d.2 f (.inr ?_) ((mBd 0 M).y a c e)⟩;refine Int.not_le.1 λu=>?_;obtain⟨j,r⟩:∃j:Nat,n=j:=⟨n.toNat,Aa⟩;subst r;exact absurd ((cBytes_at a c).2 ⟨j,g,e,Aa,rfl,rfl⟩) Ed
  exact b_of func44 Ac Ac rfl rfl (mByy_vc (rdYn _ b k m [] (b_of func95 Ac Ac rfl rfl q)))
 s:=by
  intro b k a c;exact b_of func44 Ac Ac rfl rfl (mByy_vc (rdYs _ b k))
def cText_at{M:Int}{b:List Int}{k m:Nat}{s:ByteArray}(a:Byt b):(cText M).at b k=some (s,m)↔(cBytes M).at b k=some (bys s,m):=II
def mTxy_vc{b:List Int}{k m:Nat}{f a:Bool}{l:List Int}{M:Int}(d:∀c∈l,isB c)(g:SpB 44 [.box 100000 0,I M] [rdC b k f] (.sl (l.map byV)) [rdC b m a]):jR T Tryz.prog Tryz.f43 [.box 100000 0,I M] [rdC b k f] (S (strOf l)) [rdC b m a] :=by
 repeat' ((conv=>whnf);first|refine zh (g) [100000] ?_|refine bytes_i l rfl ?_|refine zS ?_|refine zm (λx e=>?_)|refine zT ?_ ?_<;>intro _|fail)
 all_goals conv=>whnf
 all_goals first|exact⟨_,rfl,zc1⟩|exact zc1
def mTx(M:Int):Rds 43 [I M] (cText M) (S aI) S where
 y:=by
  intro b k s m hb hk h;have:=mTxy_vc (bys_isB s) ((mBy M).y hb hk ((cText_at hb).1 h));rw[of_bys]at this;exact b_of func43 Ac Ac rfl rfl this
 n:=by
  intro b k hb hk h;refine b_of func43 Ac Ac rfl rfl (mTxy_vc (l:=[]) (λ_ h=>Ag) ((mBy M).n hb hk (at_none_of λl m e=>?_)))
  have hbl:∀c∈l,isB c:=by
   obtain⟨n,k1,_,_,rfl,_⟩:=(cBytes_at hb hk).1 e;exact λc hc=>hb.drop k1 c (PO hc)
  have:=(cText_at (M:=M) (s:=strOf l) (m:=m) (k:=k) hb).2 (by rw[bys_of hbl];exact e);rw[h]at this;cases this
 s:=by
  intro b k hb hk;exact b_of func43 Ac Ac rfl rfl (mTxy_vc (l:=[]) (λ_ h=>Ag) ((mBy M).s hb hk))
theorem pair_at{l β:Type}{c:Cod l}{d:Cod β}{b:List Int}{k m:Nat}{x:l}{y:β}:(c.pair d).at b k=some ((x,y),m)↔∃g,c.at b k=some (x,g)/\d.at b g=some (y,m):=by
 constructor;intro h;obtain⟨i,h2,⟨a,f⟩,o,q⟩:=(Cod.at_iff _).1 h;have e:(c.pair d).enc (x,y)=c.enc x++d.enc y:=rfl;rw[e]at i h2;rw[OY]at i;have j:b.drop (k+(c.enc x).length)=d.enc y++b.drop m:=BN;refine⟨k+(c.enc x).length,(Cod.at_iff _).2 ⟨rfl,?_,a,o⟩,(Cod.at_iff _).2 ⟨Aa,j,f,q⟩⟩;rw[j,h2,Pq];rintro⟨g,h,n⟩;obtain⟨rfl,h2,a,f⟩:=(Cod.at_iff _).1 h;obtain⟨rfl,r,s,t⟩:=(Cod.at_iff _).1 n;refine(Cod.at_iff _).2 ⟨?_,?_,⟨a,s⟩,f,t⟩;show _=k+(c.enc x++d.enc y).length;rw[OY];omega;show b.drop k=(c.enc x++d.enc y)++_;rw[h2,r,Pq]
abbrev L64(n:Int):V:= .lit (.int .u64 n)
def digM(h c:Int):Int:=IntKind.u64.wrap (Go.Ab.xorI .u64 h c*11400714819323198485)
def digS(h c:Int):Int:=Go.Ab.xorI .u64 (digM h c) (shrI .u64 (digM h c) 29)
def digF(h:Int)(l:List Int):Int:=l.foldl digS h
def digF_snoc(h:Int)(D:List Int)(c:Int):digF h (D++[c])=digS (digF h D) c:=by unfold digF;rw[QN];rfl
def digF_spec(h:Int)(l:List Int)(g:∀c∈l,isB c)(k:l.length<=100000000):Sp 128 [L64 h, .sl (l.map byV)] (L64 (digF h l)):=by
 refine zsp func128 ?_;have j:(l.map byV).length=l.length:=Af;repeat' ((conv=>whnf);first|omega|refine zS ?_|refine zm (λx hx=>?_)|refine zT ?_ ?_<;>intro _|fail)
 all_goals conv=>whnf
 refine aU (A:=List Int) (B:=List Int) (λD R=>mkSt [(5,L64 (digF h D)),(9, .sl (l.map byV)),(10,I l.length),(11,I D.length)] [] []) (λD R=>l=D++R) (λD R=>R.length) [] l ?_ rfl (λD R hp=>?_);rw[<-j];exact zj;cases R with
 |nil=>
  have a:l.length=D.length:=Ad;have e:digF h l=digF h D:=C9;rw[e];generalize digF h D=z;clear hp e;exact MB
 |cons c R=>
  have a:=aO hp;have i:isB c:=g c Ad;have es:=digF_snoc h D c;unfold isB at i;have f:IntKind.u64.wrap c=c:=GX;have d:((D++[c]).length:Int)=(D.length:Int)+1:=Af;generalize m:digF h D=z at*;generalize b:digF h (D++[c])=n at*;repeat' ((conv=>whnf);first|omega|refine fK f ?_|refine fK (rfl:IntKind.u64.wrap (Go.Ab.xorI .u64 z c*11400714819323198485)=digM z c) ?_|refine zS ?_|refine zm (λx hx=>?_)|refine zT ?_ ?_<;>intro _|fail)
  all_goals conv=>whnf
  refine⟨(D++[c],R),?_,Ad,Af⟩;simp only[d,b,es];exact zj
def orU_byte{a c:Int}(h:a% 256=0)(i:0<=c/\c<256)(g:0<=a/\a<18446744073709551616):Go.Ab.orI .u64 a c=a+c:=by
 unfold Go.Ab.orI;have b:(BitVec.ofInt 64 a).toNat=a.toNat:=F9;have d:(BitVec.ofInt 64 c).toNat=c.toNat:=F9;obtain⟨q,f⟩:∃q:Nat,a.toNat=2^8*q:=⟨a.toNat/256,Aa⟩
 have e:(BitVec.ofInt 64 a|||BitVec.ofInt 64 c).toNat=a.toNat+c.toNat:=by
  rw[BitVec.toNat_or,b,d,f,<-Nat.two_pow_add_eq_or_of_lt Aa q]
 show IntKind.u64.wrap ((BitVec.ofInt 64 a|||BitVec.ofInt 64 c).toNat:Int)=_;rw[e,u64_wrap];omega
def numV(l:List Int):Int:=l.foldl (λn c=>n*256+c) 0
theorem numV_snoc(D:List Int)(c:Int):numV (D++[c])=numV D*256+c:=by unfold numV;rw[QN];rfl
def numV_nn:∀ {k:Nat} {l:List Int},l.length=k->(∀c∈l,isB c)->0<=numV l/\numV l<256^k
 |0,l,hl,_=>by rw[PV.1 hl];exact⟨Int.le_refl _,by decide⟩
 |k+1,l,hl,a=>by
  obtain⟨D,c,rfl⟩:∃D c,l=D++[c] :=⟨l.dropLast,l.getLast (by intro h;rw[h]at hl;cases hl),(List.dropLast_concat_getLast _).symm⟩;have d:=numV_nn (k:=k) (l:=D) AQ (λz hz=>a z GK);have b:isB c:=a c Af;unfold isB at b;rw[numV_snoc,Int.pow_succ];omega
def numV_bytes:∀(k:Nat) {c:Int},0<=c->c<256^k->numV (bytesN k c)=c
 |0,c,h,a=>by
  have:c=0:=by have:(256:Int)^0=1:=rfl;omega
  rw[this];rfl
 |k+1,c,h,a=>by
  rw[Int.pow_succ]at a;show numV (bytesN k (c/256)++[c% 256])=c;rw[numV_snoc,numV_bytes k Aa Aa];omega
def pow_mono{k:Nat}(h:k<=7):(256:Int)^k<=72057594037927936:=by
 have a:k=0\/k=1\/k=2\/k=3\/k=4\/k=5\/k=6\/k=7:=Aa;rcases a with rfl|rfl|rfl|rfl|rfl|rfl|rfl|rfl<;>decide
def num_spec(l:List Int)(d:∀c∈l,isB c)(s:l.length<=8):Sp 129 [.sl (l.map byV)] (L64 (numV l)):=by
 refine zsp func129 ?_;have o:(l.map byV).length=l.length:=Af;repeat' ((conv=>whnf);first|omega|refine zS ?_|refine zm (λx hx=>?_)|refine zT ?_ ?_<;>intro _|fail)
 all_goals conv=>whnf
 refine aU (A:=List Int) (B:=List Int) (λD R=>mkSt [(3,L64 (numV D)),(6, .sl (l.map byV)),(7,I l.length),(8,I D.length)] [] []) (λD R=>l=D++R) (λD R=>R.length) [] l ?_ rfl (λD R hp=>?_);rw[<-o];exact zj;cases R with
 |nil=>
  have a:l.length=D.length:=Ad;have e:numV l=numV D:=C9;rw[e];generalize numV D=z;clear hp e;exact MB
 |cons c R=>
  have a:=aO hp;have f:isB c:=d c Ad;have es:=numV_snoc D c;have t:=numV_nn (k:=D.length) (l:=D) rfl (λz g=>d z (by rw[hp];simp[g]));have q:=pow_mono (k:=D.length) Aa;unfold isB at f;have n:IntKind.u64.wrap c=c:=GX;have m:((D++[c]).length:Int)=(D.length:Int)+1:=Af;generalize g:numV D=z at*;generalize b:numV (D++[c])=r at*
  have i:IntKind.u64.wrap (shlI .u64 z 8)=z*256:=by
   have:shlI .u64 z 8=z*256:=by unfold shlI;rfl
   rw[this,u64_wrap];omega
  have j:Go.Ab.orI .u64 (z*256) c=r:=by rw[orU_byte (by omega) f (by omega)];omega
  repeat' ((conv=>whnf);first|omega|refine fK n ?_|refine fK i ?_|refine zS ?_|refine zm (λx hx=>?_)|refine zT ?_ ?_<;>intro _|fail)
  all_goals conv=>whnf
  refine⟨(D++[c],R),?_,Ad,Af⟩;simp only[m,b];rw[<-j];exact zj
end Go.Proofs.Led
