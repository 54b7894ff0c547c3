/- Lemmas. -/
import Derived.Test.YtcmgfjaiegpddaaGreatB13
set_option linter.all false
set_option maxRecDepth 100000
set_option maxHeartbeats 4000000
noncomputable section
namespace Go.Proofs.Led
open Go Go.Proofs Go.Ab Tryz
def s8(c:Int):Int:=if 128<=c then c-256 else c
def accN(b:List Int)(k:Nat):Nat->Int
 |0=>0
 |i+1=>if i=0 then s8 (b.getD (k+i) 0)else Go.Ab.orI .i64 (W (accN b k i*256)) (b.getD (k+i) 0)
def getD_isB{b:List Int}(a:Byt b)(k:Nat):isB (b.getD k 0):=by
 rw[SN];cases h:b[k]? with
 |none=>exact⟨Int.le_refl _,Ai⟩
 |some c=>exact a.isb c (Sl h)
def take_next{b:List Int}{k i:Nat}(h:k+i<b.length):(b.drop k).take (i+1)=(b.drop k).take i++[b.getD (k+i) 0] :=by
 rw[Vb,Tz,RY h,SN,RY h];rfl
def accN_val{b:List Int}(f:Byt b){k:Nat}:∀ {i:Nat},1<=i->i<=8->k+i<=b.length->accN b k i=valB ((b.drop k).take i)
 |0,h,_,_=>Aa
 |1,_,_,h=>by
  have:=take_next (b:=b) (k:=k) (i:=0) Aa;rw[this];show(if 0=0 then s8 (b.getD (k+0) 0)else _)=_;rw[Sj rfl];rfl
 |i+2,_,v,h=>by
  have l:=accN_val f (k:=k) (i:=i+1) Aa Aa Aa;have g:((b.drop k).take (i+1)).length=i+1:=BZ;obtain⟨a,_⟩:=val_fits (i+1) _ g (λc d=>f.drop k c (SS d))
  have m: -(2^55)<=valB ((b.drop k).take (i+1))/\valB ((b.drop k).take (i+1))<2^55:=by
   obtain⟨n,o,q,r,s,t,u,_⟩:=lims;have hi:i=0\/i=1\/i=2\/i=3\/i=4\/i=5\/i=6:=Aa;unfold fits at a;rw[RZ Aa]at a;rcases hi with rfl|rfl|rfl|rfl|rfl|rfl|rfl;rw[n]at a;omega;rw[o]at a;omega;rw[q]at a;omega;rw[r]at a;omega;rw[s]at a;omega;rw[t]at a;omega;rw[u]at a;omega
  have j:(b.drop k).take (i+1)≠ [] :=λe=>by rw[e]at g;cases g
  rw[take_next Aa,valB_snoc j,<-l];rw[<-l]at m;have d:=getD_isB f (k+(i+1));unfold isB at d;show(if i+1=0 then _ else Go.Ab.orI .i64 (W (accN b k (i+1)*256)) (b.getD (k+(i+1)) 0))=_;rw[RZ Aa,w_in Aa];exact orI_byte G8 Aa d
def atI(b:List Int)(k i:Nat):Nat:=min (k+i) b.length
def flI(b:List Int)(k i:Nat):Bool:=decide (b.length<k+i)
def rnx_i{b:List Int}{k i:Nat}(a:Byt b):SpB 93 [.box 100000 0] [rdC b (atI b k i) (flI b k i)] (.lit (.int .u8 (b.getD (k+i) 0))) [rdC b (atI b k (i+1)) (flI b k (i+1))] :=by
 have:=rnx_spec b (atI b k i) (flI b k i) a G9;by_cases c:k+i<b.length
 rw[show(if atI b k i<b.length then atI b k i+1 else atI b k i)=atI b k (i+1) by unfold atI;rw[Sj (by omega)];omega,
  show(flI b k i||decide (b.length<=atI b k i))=flI b k (i+1) from FN,show atI b k i=k+i from G9]at this
 rw[show atI b k i=k+i from G9];exact this
 have e:b.getD (atI b k i) 0=b.getD (k+i) 0:=by
  rw[SN,SN,TS G9,TS Aa]
 rw[show(if atI b k i<b.length then atI b k i+1 else atI b k i)=atI b k (i+1) by unfold atI;rw[RZ (by omega)];omega,
  show(flI b k i||decide (b.length<=atI b k i))=flI b k (i+1) from FN,e]at this
 exact this
def i8_wrap{c:Int}(h:isB c):IntKind.i8.wrap c=s8 c:=by
 unfold isB at h;unfold s8;simp[IntKind.wrap,IntKind.signed,IntKind.bits];split<;>split<;>omega
def enc_dec_r{i:Nat}{N:Int}(a:fits i N)(l:i<=8):R64 N:=by
 obtain⟨b,c,d,e,f,g,j,k⟩:=lims;have hi:i=0\/i=1\/i=2\/i=3\/i=4\/i=5\/i=6\/i=7\/i=8:=Aa;unfold fits at a;unfold R64;rcases hi with rfl|rfl|rfl|rfl|rfl|rfl|rfl|rfl|rfl;rw[Sj rfl]at a;omega;all_goals (rw[RZ Aa]at a;first|rw[b]at a|rw[c]at a|rw[d]at a|rw[e]at a|rw[f]at a|rw[g]at a|rw[j]at a|rw[k]at a)
 all_goals omega
def int1_vc(b:List Int)(k s:Nat)(o:Byt b)(K:k<b.length)(M:b.getD k 0=s)(y:s<=8):jR T Tryz.prog Tryz.f92 [.box 100001 0] [rdC b k false,[.box 100000 0]] (I (accN b (k+1) s)) [rdC b (atI b (k+1) s) (flI b (k+1) s||decide (widN (accN b (k+1) s)≠s)),[.box 100000 0]] :=by
 have w:SpB 93 [.box 100000 0] [rdC b k false] (.lit (.int .u8 s)) [rdC b (k+1) false] :=by
  refine rnx_y o ?_;rw[<-M,SN,RY K];rfl
 repeat' ((conv=>whnf);first|omega|refine zh (w) [100000] ?_|refine zS ?_|refine zd (λj=>?_) (λj=>?_)|refine zl (λg=>?_) (λg=>?_)|refine zk (λf=>?_) (λf=>?_)|refine ze (λa=>?_) (λa=>?_)|refine zm (λx r=>?_)|refine zb (λd=>?_) (λd=>?_))
 all_goals conv=>whnf
 refine lD (A:=Nat) (λi=>mkSt [(0, .box 100001 0),(2,I s),(3,I (accN b (k+1) i)),(20,I s),(21,I i)] [(100000,rdC b (atI b (k+1) i) (flI b (k+1) i)),(100001,[.box 100000 0])] []) (λi=>i<=s) (λi=>s-i) 0 ?_ (SH _) (λi hi=>?_);have C:atI b (k+1) 0=k+1:=by unfold atI;omega
 have D:flI b (k+1) 0=false:=by unfold flI;simp;omega
 rw[C,D];exact zj;by_cases c:i=s
 ·subst c
  clear w;by_cases m:flI b (k+1) i=true
  ·have e:(flI b (k+1) i||decide (widN (accN b (k+1) i)≠i))=true:=by rw[m];rfl
   rw[e,m];repeat' ((conv=>whnf);first|omega|refine zS ?_|refine zd (λj=>?_) (λj=>?_)|refine zl (λg=>?_) (λg=>?_)|refine zk (λf=>?_) (λf=>?_)|refine ze (λa=>?_) (λa=>?_)|refine zm (λx r=>?_)|refine zb (λd=>?_) (λd=>?_))
   all_goals conv=>whnf
   all_goals first|exact⟨_,rfl,zc1⟩|exact zc1
  have m:flI b (k+1) i=false:=by simpa using m
  have q:k+1+i<=b.length:=by unfold flI at m;simpa using m
  have H:R64 (accN b (k+1) i):=by
   by_cases l:i=0;subst l;exact⟨show(-9223372036854775808:Int)<=0 from Ai,show(0:Int)<=9223372036854775807 from Ai⟩;rw[accN_val o Aa y q];have L:((b.drop (k+1)).take i).length=i:=BZ;obtain⟨G,P⟩:=val_fits i _ L (λc J=>o.drop (k+1) c (SS J));exact(enc_dec_r G y)
  have n:=wInt_spec [] (accN b (k+1) i) H Af;have O:((([] :List Int)++encI (accN b (k+1) i)).map byV).length=widN (accN b (k+1) i)+1:=by simp[enc_len]
  generalize accN b (k+1) i=N at*;generalize ([] ++encI N).map byV=E at*;have e:(flI b (k+1) i||decide (widN N≠i))=decide (widN N≠i):=by rw[m];rfl
  rw[e,m];by_cases B:widN N=i
  ·rw[show decide (widN N≠i)=false by simp[B]]
   repeat' ((conv=>whnf);first|omega|(exfalso;exact a (show(E.length:Int)=i+1 from Aa))|(refine aS5 n false ⟨⟨Q9 Ac,rfl⟩,rfl,trivial⟩ rfl ?_)|refine zS ?_|refine zd (λj=>?_) (λj=>?_)|refine zl (λg=>?_) (λg=>?_)|refine zk (λf=>?_) (λf=>?_)|refine ze (λa=>?_) (λa=>?_)|refine zm (λx r=>?_)|refine zb (λd=>?_) (λd=>?_))
   all_goals conv=>whnf
   all_goals first|exact⟨_,rfl,zc1⟩|exact zc1
  rw[show decide (widN N≠i)=true by simp[B]];repeat' ((conv=>whnf);first|omega|(exfalso;have Q:(E.length:Int)=i+1:=a;omega)|(refine aS5 n false ⟨⟨Q9 Ac,rfl⟩,rfl,trivial⟩ rfl ?_)|refine zS ?_|refine zd (λj=>?_) (λj=>?_)|refine zl (λg=>?_) (λg=>?_)|refine zk (λf=>?_) (λf=>?_)|refine ze (λa=>?_) (λa=>?_)|refine zm (λx r=>?_)|refine zb (λd=>?_) (λd=>?_))
  all_goals conv=>whnf
  all_goals first|exact⟨_,rfl,zc1⟩|exact zc1
 have n:=rnx_i (b:=b) (k:=k+1) (i:=i) o;have z:=getD_isB o (k+1+i);have t:accN b (k+1) (i+1)=if i=0 then s8 (b.getD (k+1+i) 0)else Go.Ab.orI .i64 (W (accN b (k+1) i*256)) (b.getD (k+1+i) 0):=rfl
 have F:=i8_wrap z;unfold isB at z;have u:IntKind.i64.wrap (s8 (b.getD (k+1+i) 0))=s8 (b.getD (k+1+i) 0):=w_in (by unfold s8;split<;>omega);have v:shlI .i64 (accN b (k+1) i) 8=accN b (k+1) i*256:=by unfold shlI;rfl
 generalize b.getD (k+1+i) 0=x at*;generalize accN b (k+1) i=N at*;by_cases l:i=0
 ·rw[Sj l]at t
  repeat' ((conv=>whnf);first|omega|refine zh (n) [100000] ?_|refine fK F ?_|refine fK u ?_|refine zS ?_|refine zd (λj=>?_) (λj=>?_)|refine zl (λg=>?_) (λg=>?_)|refine zk (λf=>?_) (λf=>?_)|refine ze (λa=>?_) (λa=>?_)|refine zm (λx r=>?_)|refine zb (λd=>?_) (λd=>?_))
  all_goals conv=>whnf
  refine⟨i+1,?_,Aa,Aa⟩;rw[t];exact zj
 rw[RZ l]at t;repeat' ((conv=>whnf);first|omega|refine zh (n) [100000] ?_|refine zS ?_|refine zd (λj=>?_) (λj=>?_)|refine zl (λg=>?_) (λg=>?_)|refine zk (λf=>?_) (λf=>?_)|refine ze (λa=>?_) (λa=>?_)|refine zm (λx r=>?_)|refine zb (λd=>?_) (λd=>?_))
 all_goals conv=>whnf
 refine⟨i+1,?_,Aa,Aa⟩;rw[t,<-v];exact zj
def int1_spec(b:List Int)(k s:Nat)(c:Byt b)(d:k<b.length)(e:b.getD k 0=s)(a:s<=8):SpB 92 [.box 100001 0] [rdC b k false,[.box 100000 0]] (I (accN b (k+1) s)) [rdC b (atI b (k+1) s) (flI b (k+1) s||decide (widN (accN b (k+1) s)≠s)),[.box 100000 0]] :=
 b_of func92 Ac Ac rfl rfl (int1_vc b k s c d e a)
def int1e_vc(b:List Int)(k:Nat)(a:Byt b)(g:k<=b.length)(h:k=b.length\/8<b.getD k 0):∃m,m<=b.length/\jR T Tryz.prog Tryz.f92 [.box 100001 0] [rdC b k false,[.box 100000 0]] (I 0) [rdC b m true,[.box 100000 0]] :=by
 by_cases c:k=b.length;subst c;refine⟨b.length,Sr _,?_⟩;have g1:=rnx_n (f:=false) a;exact OU;have e:8<b.getD k 0:=by rcases h with h|h;exact absurd h c;exact h
 refine⟨k+1,Aa,?_⟩;have d:=getD_isB a k
 have g1:SpB 93 [.box 100000 0] [rdC b k false] (.lit (.int .u8 (b.getD k 0))) [rdC b (k+1) false] :=by
  refine rnx_y a ?_;rw[SN,RY Aa];rfl
 generalize b.getD k 0=x at*;unfold isB at d;exact OU
def decI_cases{b:List Int}(e:Byt b)(k:Nat)(t:k<=b.length):
 (∃n m,cI.at b k=some (n,m)/\∃s:Nat,k<b.length/\b.getD k 0=s/\s<=8/\accN b (k+1) s=n/\atI b (k+1) s=m/\(flI b (k+1) s||decide (widN (accN b (k+1) s)≠s))=false)\/
 (cI.at b k=none/\((k=b.length\/8<b.getD k 0)\/∃s:Nat,k<b.length/\b.getD k 0=s/\s<=8/\(flI b (k+1) s||decide (widN (accN b (k+1) s)≠s))=true)):=by
 by_cases c:k=b.length
 ·refine .inr ⟨?_, .inl (.inl c)⟩
  rw[Cod.at_none,cI_dec (e.drop k),List.drop_of_length_le Aa];rfl
 have a:k<b.length:=Aa
 have j:b.drop k=b.getD k 0::b.drop (k+1):=by
  rw[List.drop_eq_getElem_cons a,SN,RY a];rfl
 have q:=getD_isB e k;obtain⟨s,f⟩:∃s:Nat,b.getD k 0=s:=⟨(b.getD k 0).toNat,by unfold isB at q;omega⟩;by_cases i:s<=8
 ·by_cases r:k+1+s<=b.length
  ·have l:accN b (k+1) s=valB ((b.drop (k+1)).take s):=by
    by_cases o:s=0
    ·subst o;rfl
    ·exact accN_val e Aa i r
   have d:flI b (k+1) s=false:=by unfold flI;simp;omega
   by_cases g:widN (accN b (k+1) s)=s
   ·refine .inl ⟨accN b (k+1) s,k+1+s,?_,s,a,f,i,rfl,G9,by rw[d];simp[g]⟩
    unfold Cod.at;rw[cI_dec (e.drop k),j,f];unfold decI;simp only[TQ];rw[<-l,Sj ⟨Aa,GN,g⟩];simp only[TP];have:(cI.enc (accN b (k+1) s)).length=s+1:=by show(encI _).length=_;rw[enc_len,g]
    rw[this];congr 2;omega
   ·refine .inr ⟨?_, .inr ⟨s,a,f,i,by rw[d];simp[g]⟩⟩
    rw[Cod.at_none,cI_dec (e.drop k),j,f];unfold decI;simp only[TQ];rw[<-l,RZ (λh=>g h.2.2)]
  ·have d:flI b (k+1) s=true:=by unfold flI;simp;omega
   refine .inr ⟨?_, .inr ⟨s,a,f,i,by rw[d];rfl⟩⟩;rw[Cod.at_none,cI_dec (e.drop k),j,f];unfold decI;simp only[TQ];rw[RZ (λh=>by have:=h.2.1;rw[Tv]at this;omega)]
 ·refine .inr ⟨?_, .inl (.inr Aa)⟩
  rw[Cod.at_none,cI_dec (e.drop k),j,f];unfold decI;simp only;rw[RZ (λh=>Aa)]
def rdIy_vc(g:FuncId)(b:List Int)(k m:Nat)(x:Int)(hg:SpB g [.box 100001 0] [rdC b k false,[.box 100000 0]] (I x) [rdC b m false,[.box 100000 0]]):jR T Tryz.prog Tryz.f91 [.box 100000 0, .fn g [.box 100001 0]] [rdC b k false,[.box 100000 0]] (I x) [rdC b m false,[.box 100000 0]] :=Jh
def rdIy(g:FuncId)(b:List Int)(k m:Nat)(x:Int)(a:SpB g [.box 100001 0] [rdC b k false,[.box 100000 0]] (I x) [rdC b m false,[.box 100000 0]]):SpB 91 [.box 100000 0, .fn g [.box 100001 0]] [rdC b k false,[.box 100000 0]] (I x) [rdC b m false,[.box 100000 0]] :=
 b_of func91 Ac Ac rfl rfl (rdIy_vc g b k m x a)
def rdIn_vc(g:FuncId)(b:List Int)(k m:Nat)(x:Int)(hg:SpB g [.box 100001 0] [rdC b k false,[.box 100000 0]] (I x) [rdC b m true,[.box 100000 0]]):jR T Tryz.prog Tryz.f91 [.box 100000 0, .fn g [.box 100001 0]] [rdC b k false,[.box 100000 0]] (I 0) [rdC b k true,[.box 100000 0]] :=Jh
def rdIn(g:FuncId)(b:List Int)(k m:Nat)(x:Int)(a:SpB g [.box 100001 0] [rdC b k false,[.box 100000 0]] (I x) [rdC b m true,[.box 100000 0]]):SpB 91 [.box 100000 0, .fn g [.box 100001 0]] [rdC b k false,[.box 100000 0]] (I 0) [rdC b k true,[.box 100000 0]] :=
 b_of func91 Ac Ac rfl rfl (rdIn_vc g b k m x a)
def rdIs_vc(g:FuncId)(b:List Int)(k:Nat):jR T Tryz.prog Tryz.f91 [.box 100000 0, .fn g [.box 100001 0]] [rdC b k true,[.box 100000 0]] (I 0) [rdC b k true,[.box 100000 0]] :=Jb
def rdIs(g:FuncId)(b:List Int)(k:Nat):SpB 91 [.box 100000 0, .fn g [.box 100001 0]] [rdC b k true,[.box 100000 0]] (I 0) [rdC b k true,[.box 100000 0]] :=
 b_of func91 Ac Ac rfl rfl (rdIs_vc g b k)
def rdBy_vc{lo hi:Int}(g:FuncId)(b:List Int)(k m:Nat)(x:Int)(hg:SpB g [.box 100001 0, .box 100002 0, .box 100003 0] [rdC b k false,[.box 100000 0],[I lo],[I hi]] (I x) [rdC b m false,[.box 100000 0],[I lo],[I hi]]):jR T Tryz.prog Tryz.f91 [.box 100000 0, .fn g [.box 100001 0, .box 100002 0, .box 100003 0]] [rdC b k false,[.box 100000 0],[I lo],[I hi]] (I x) [rdC b m false,[.box 100000 0],[I lo],[I hi]] :=Jo
def rdBy{lo hi:Int}(g:FuncId)(b:List Int)(k m:Nat)(x:Int)(a:SpB g [.box 100001 0, .box 100002 0, .box 100003 0] [rdC b k false,[.box 100000 0],[I lo],[I hi]] (I x) [rdC b m false,[.box 100000 0],[I lo],[I hi]]):SpB 91 [.box 100000 0, .fn g [.box 100001 0, .box 100002 0, .box 100003 0]] [rdC b k false,[.box 100000 0],[I lo],[I hi]] (I x) [rdC b m false,[.box 100000 0],[I lo],[I hi]] :=
 b_of func91 Ac Ac rfl rfl (rdBy_vc g b k m x a)
def rdBn_vc{lo hi:Int}(g:FuncId)(b:List Int)(k m:Nat)(x:Int)(hg:SpB g [.box 100001 0, .box 100002 0, .box 100003 0] [rdC b k false,[.box 100000 0],[I lo],[I hi]] (I x) [rdC b m true,[.box 100000 0],[I lo],[I hi]]):jR T Tryz.prog Tryz.f91 [.box 100000 0, .fn g [.box 100001 0, .box 100002 0, .box 100003 0]] [rdC b k false,[.box 100000 0],[I lo],[I hi]] (I 0) [rdC b k true,[.box 100000 0],[I lo],[I hi]] :=Jo
def rdBn{lo hi:Int}(g:FuncId)(b:List Int)(k m:Nat)(x:Int)(a:SpB g [.box 100001 0, .box 100002 0, .box 100003 0] [rdC b k false,[.box 100000 0],[I lo],[I hi]] (I x) [rdC b m true,[.box 100000 0],[I lo],[I hi]]):SpB 91 [.box 100000 0, .fn g [.box 100001 0, .box 100002 0, .box 100003 0]] [rdC b k false,[.box 100000 0],[I lo],[I hi]] (I 0) [rdC b k true,[.box 100000 0],[I lo],[I hi]] :=
 b_of func91 Ac Ac rfl rfl (rdBn_vc g b k m x a)
def rdBs_vc{lo hi:Int}(g:FuncId)(b:List Int)(k:Nat):jR T Tryz.prog Tryz.f91 [.box 100000 0, .fn g [.box 100001 0, .box 100002 0, .box 100003 0]] [rdC b k true,[.box 100000 0],[I lo],[I hi]] (I 0) [rdC b k true,[.box 100000 0],[I lo],[I hi]] :=Jb
def rdBs{lo hi:Int}(g:FuncId)(b:List Int)(k:Nat):SpB 91 [.box 100000 0, .fn g [.box 100001 0, .box 100002 0, .box 100003 0]] [rdC b k true,[.box 100000 0],[I lo],[I hi]] (I 0) [rdC b k true,[.box 100000 0],[I lo],[I hi]] :=
 b_of func91 Ac Ac rfl rfl (rdBs_vc g b k)
structure Rds{α:Type}(F:FuncId)(ys:List V)(c:Cod α)(z:V)(rv:α->V):Prop where
 y:∀ {b k x m},Byt b->k<=b.length->c.at b k=some (x,m)->SpB F (.box 100000 0::ys) [rdC b k false] (rv x) [rdC b m false]
 n:∀ {b k},Byt b->k<=b.length->c.at b k=none->SpB F (.box 100000 0::ys) [rdC b k false] z [rdC b k true]
 s:∀ {b k},Byt b->k<=b.length->SpB F (.box 100000 0::ys) [rdC b k true] z [rdC b k true]
def mInty_vc{b:List Int}{k m:Nat}{x:Int}(g:SpB 91 [.box 100000 0, .fn 92 [.box 100001 0]] [rdC b k false,[.box 100000 0]] (I x) [rdC b m false,[.box 100000 0]]):jR T Tryz.prog Tryz.f42 [.box 100000 0] [rdC b k false] (I x) [rdC b m false] :=Js
def mIntn_vc{b:List Int}{k:Nat}{f:Bool}(g:SpB 91 [.box 100000 0, .fn 92 [.box 100001 0]] [rdC b k f,[.box 100000 0]] (I 0) [rdC b k true,[.box 100000 0]]):jR T Tryz.prog Tryz.f42 [.box 100000 0] [rdC b k f] (I 0) [rdC b k true] :=Js
def mInt:Rds 42 [] cI (I 0) I where
 y:=by
  intro b k x m hb hk h;refine b_of func42 Ac Ac rfl rfl (mInty_vc (rdIy _ b k m x ?_));rcases decI_cases hb k hk with⟨n,m',h1,s,q1,q2,q3,q4,q5,q6⟩|⟨h1,_⟩;rw[h1]at h;cases h;have:=int1_spec b k s hb q1 q2 q3;rw[q6,q4,q5]at this;exact this;rw[h1]at h;cases h
 n:=by
  intro b k hb hk h
  obtain⟨n,m,hg⟩:∃n m,SpB 92 [.box 100001 0] [rdC b k false,[.box 100000 0]] (I n) [rdC b m true,[.box 100000 0]] :=by
   rcases decI_cases hb k hk with⟨n,m',h1,_⟩|⟨_,q|⟨s,q1,q2,q3,q4⟩⟩;rw[h1]at h;cases h;obtain⟨m,_,hm⟩:=int1e_vc b k hb hk q;exact⟨0,m,b_of func92 Ac Ac rfl rfl hm⟩;have:=int1_spec b k s hb q1 q2 q3;rw[q4]at this;exact⟨_,_,this⟩
  exact b_of func42 Ac Ac rfl rfl (mIntn_vc (rdIn _ b k m n hg))
 s:=by
  intro b k hb hk;exact b_of func42 Ac Ac rfl rfl (mIntn_vc (rdIs _ b k))
def cBd_at{lo hi:Int}{b:List Int}{k m:Nat}{n:Int}:(cBd lo hi).at b k=some (n,m)↔cI.at b k=some (n,m)/\lo<=n/\n<=hi:=by
 rw[Cod.at_iff,Cod.at_iff];exact⟨λ⟨a,c,d,_,e⟩=>⟨⟨a,c,d,trivial⟩,e⟩,λ⟨⟨a,c,d,_⟩,e⟩=>⟨a,c,d,trivial,e⟩⟩
def at_none_of{a:Type}{c:Cod a}{b:List Int}{k:Nat}(h:∀x m,c.at b k≠some (x,m)):c.at b k=none:=by
 cases e:c.at b k with
 |none=>rfl
 |some p=>exact absurd e (h p.1 p.2)
def bd1_vc{b:List Int}{k m:Nat}{f:Bool}{n lo hi:Int}(g:SpB 42 [.box 100000 0] [rdC b k false] (I n) [rdC b m f]):jR T Tryz.prog Tryz.f98 [.box 100001 0, .box 100002 0, .box 100003 0] [rdC b k false,[.box 100000 0],[I lo],[I hi]] (I n) [rdC b m (f||decide (n<lo)||decide (hi<n)),[.box 100000 0],[I lo],[I hi]] :=by
 cases f;by_cases a:n<lo;rw[show(false||decide (n<lo)||decide (hi<n))=true by simp[a]];exact Ob
 have e:(false||decide (n<lo)||decide (hi<n))=ltB hi n:=by
  rw[TV,dC8];simp;omega
 rw[e];exact Ob;rw[show(true||decide (n<lo)||decide (hi<n))=true from Af];exact Ob
def mBdy_vc{b:List Int}{k m:Nat}{x lo hi:Int}(g:SpB 91 [.box 100000 0, .fn 98 [.box 100001 0, .box 100002 0, .box 100003 0]] [rdC b k false,[.box 100000 0],[I lo],[I hi]] (I x) [rdC b m false,[.box 100000 0],[I lo],[I hi]]):jR T Tryz.prog Tryz.f47 [.box 100000 0,I lo,I hi] [rdC b k false] (I x) [rdC b m false] :=J6
def mBdn_vc{b:List Int}{k:Nat}{f:Bool}{lo hi:Int}(g:SpB 91 [.box 100000 0, .fn 98 [.box 100001 0, .box 100002 0, .box 100003 0]] [rdC b k f,[.box 100000 0],[I lo],[I hi]] (I 0) [rdC b k true,[.box 100000 0],[I lo],[I hi]]):jR T Tryz.prog Tryz.f47 [.box 100000 0,I lo,I hi] [rdC b k f] (I 0) [rdC b k true] :=J6
def bd1_spec{b:List Int}{k m:Nat}{f:Bool}{n:Int}(lo hi:Int)(g:SpB 42 [.box 100000 0] [rdC b k false] (I n) [rdC b m f]):SpB 98 [.box 100001 0, .box 100002 0, .box 100003 0] [rdC b k false,[.box 100000 0],[I lo],[I hi]] (I n) [rdC b m (f||decide (n<lo)||decide (hi<n)),[.box 100000 0],[I lo],[I hi]] :=
 b_of func98 Ac Ac rfl rfl (bd1_vc g)
def mBd(lo hi:Int):Rds 47 [I lo,I hi] (cBd lo hi) (I 0) I where
 y:=by
  intro b k x m hb hk h;obtain⟨h1,h2,h3⟩:=cBd_at.1 h;have:=bd1_spec lo hi (mInt.y hb hk h1);rw[show(false||decide (x<lo)||decide (hi<x))=false from Bg]at this;exact b_of func47 Ac Ac rfl rfl (mBdy_vc (rdBy _ b k m x this))
 n:=by
  intro b k hb hk h
  obtain⟨n,m,hg⟩:∃n m,SpB 98 [.box 100001 0, .box 100002 0, .box 100003 0] [rdC b k false,[.box 100000 0],[I lo],[I hi]] (I n) [rdC b m true,[.box 100000 0],[I lo],[I hi]] :=by
   cases e:cI.at b k with
   |none=>
    have:=bd1_spec lo hi (mInt.n hb hk e);rw[show(true||decide ((0:Int)<lo)||decide (hi<0))=true from Af]at this;exact⟨_,_,this⟩
   |some p=>
    have:=bd1_spec lo hi (mInt.y hb hk e)
    rw[show(false||decide (p.1<lo)||decide (hi<p.1))=true by
     by_cases c:lo<=p.1/\p.1<=hi;exact absurd (cBd_at.2 ⟨e,c⟩) DI
     simp;omega]at this
    exact⟨_,_,this⟩
  exact b_of func47 Ac Ac rfl rfl (mBdn_vc (rdBn _ b k m n hg))
 s:=by
  intro b k hb hk;exact b_of func47 Ac Ac rfl rfl (mBdn_vc (rdBs _ b k))
def cloneY_spec(l:List Int)(d:l.length<=100000000):Sp 79 [.sl (l.map byV)] (.own 5 (l.map byV)):=by
 refine zsp func79 ?_;have c:(l.map byV).length=l.length:=Af;have a:∀y∈l.map byV,y.cells.length=1:=byV_cells l;repeat' ((conv=>whnf);first|(refine bV3.mk rfl (Q9 Ac) Ac (.inl rfl) ?_;intro b hb;cases b)|refine iH rfl (.inl rfl) rfl (Q9 rfl) a (by show 0+(List.map byV l).length<=_;omega) ?_|refine zS ?_|refine zm (λx f=>?_)|refine zT ?_ ?_<;>intro _|fail)
 all_goals conv=>whnf
 exact KH;exact Ju
def cBytes_at{M:Int}{b:List Int}{k m:Nat}{l:List Int}(q:Byt b)(s:k<=b.length):
 (cBytes M).at b k=some (l,m)↔∃n c:Nat,(cBd 0 M).at b k=some ((n:Int),c)/\n<=b.length-c/\l=(b.drop c).take n/\m=c+n:=by
 constructor
 ·intro h
  obtain⟨f,d,i,g⟩:=(Cod.at_iff _).1 h;have t:=Cod.at_le h s;rw[cBytes_enc]at f d;have j:l.length<=1000000000000:=i.1;have o:(l.length:Int)<=M:=g.1
  have a:b.drop (k+(encI l.length).length)=l++b.drop m:=by
   rw[<-List.drop_drop,d,Sv,List.drop_left]
  have e:=SK List.length a;rw[Tv,Q5,Tv]at e;rw[Q5]at f;refine⟨l.length,k+(encI l.length).length,cBd_at.2 ⟨(Cod.at_iff _).2 ⟨rfl,?_,?_,trivial⟩,Aa,o⟩,Aa,?_,Aa⟩
  ·rw[a,d,Sv];rfl
  ·show R64 (l.length:Int);unfold R64;omega
  ·rw[a,List.take_left]
 ·rintro⟨n,c,h,f,rfl,rfl⟩
  obtain⟨d,i,g⟩:=cBd_at.1 h;obtain⟨u,v,w,_⟩:=(Cod.at_iff _).1 d;have hl:((b.drop c).take n).length=n:=BZ;have r:=q.len;refine(Cod.at_iff _).2 ⟨?_,?_,⟨Ir,λ_ _=>trivial⟩,by rw[hl];exact g,λ_ _=>trivial⟩
  ·rw[cBytes_enc,Q5,hl]
   have:cI.enc (n:Int)=encI n:=rfl;rw[this]at u;omega
  ·rw[cBytes_enc,hl,v,Sv]
   congr 1;rw[<-List.drop_drop,TG]
def by1y_vc{b:List Int}{k k1 n:Nat}{M:Int}(e:Byt b)(i:k1<=b.length)(h:n<=b.length-k1)(g:SpB 47 [.box 100000 0,I 0,I M] [rdC b k false] (I n) [rdC b k1 false]):jR T Tryz.prog Tryz.f95 [.box 100001 0, .box 100002 0] [rdC b k false,[.box 100000 0],[I M]] (.sl (((b.drop k1).take n).map byV)) [rdC b (k1+n) false,[.box 100000 0],[I M]] :=by
 have a:(b.map byV).length=b.length:=Af;have d:=e.len;have c:List.drop ((k1:Int)+n-n).toNat (List.take ((k1:Int)+n).toNat (b.map byV))=((b.drop k1).take n).map byV:=L9
 have f:Sp 79 [.sl (List.drop ((k1:Int)+n-n).toNat (List.take ((k1:Int)+n).toNat (b.map byV)))] (.own 5 (((b.drop k1).take n).map byV)):=by
  rw[c];exact cloneY_spec _ Dq
 clear c;generalize ((b.drop k1).take n).map byV=L at*;repeat' ((conv=>whnf);first|omega|refine zh (g) [100000] ?_|refine fU ⟨Aa,Aa,by rw[a];omega, .inr (byV_cells b)⟩ ?_|refine zS ?_|refine zm (λx j=>?_)|refine zT ?_ ?_<;>intro _|fail)
 all_goals conv=>whnf
 repeat' (first|exact trivial|refine And.intro ?_ ?_|with_reducible rfl|exact(λ_ h=>Ah)|exact(λh=>Ah)|exact rfl)
def by1n_vc{b:List Int}{k a:Nat}{n M:Int}{f:Bool}(d:Byt b)(j:a<=b.length)(i:R64 n)(h:f=true\/(b.length:Int)-a<n)(g:SpB 47 [.box 100000 0,I 0,I M] [rdC b k false] (I n) [rdC b a f]):jR T Tryz.prog Tryz.f95 [.box 100001 0, .box 100002 0] [rdC b k false,[.box 100000 0],[I M]] (.sl []) [rdC b a true,[.box 100000 0],[I M]] :=by
 have e:(b.map byV).length=b.length:=Af;have c:=d.len;cases f;have h:(b.length:Int)-a<n:=by simpa using h
 exact Ob;exact J4
def rdYy_vc{M:Int}(g:FuncId)(b:List Int)(k m:Nat)(x:List V)(hg:SpB g [.box 100001 0, .box 100002 0] [rdC b k false,[.box 100000 0],[I M]] (.sl x) [rdC b m false,[.box 100000 0],[I M]]):jR T Tryz.prog Tryz.f94 [.box 100000 0, .fn g [.box 100001 0, .box 100002 0]] [rdC b k false,[.box 100000 0],[I M]] (.sl x) [rdC b m false,[.box 100000 0],[I M]] :=Ky
def rdYy{M:Int}(g:FuncId)(b:List Int)(k m:Nat)(x:List V)(a:SpB g [.box 100001 0, .box 100002 0] [rdC b k false,[.box 100000 0],[I M]] (.sl x) [rdC b m false,[.box 100000 0],[I M]]):SpB 94 [.box 100000 0, .fn g [.box 100001 0, .box 100002 0]] [rdC b k false,[.box 100000 0],[I M]] (.sl x) [rdC b m false,[.box 100000 0],[I M]] :=
 b_of func94 Ac Ac rfl rfl (rdYy_vc g b k m x a)
def rdYn_vc{M:Int}(g:FuncId)(b:List Int)(k m:Nat)(x:List V)(hg:SpB g [.box 100001 0, .box 100002 0] [rdC b k false,[.box 100000 0],[I M]] (.sl x) [rdC b m true,[.box 100000 0],[I M]]):jR T Tryz.prog Tryz.f94 [.box 100000 0, .fn g [.box 100001 0, .box 100002 0]] [rdC b k false,[.box 100000 0],[I M]] (.sl []) [rdC b k true,[.box 100000 0],[I M]] :=Ky
def rdYn{M:Int}(g:FuncId)(b:List Int)(k m:Nat)(x:List V)(a:SpB g [.box 100001 0, .box 100002 0] [rdC b k false,[.box 100000 0],[I M]] (.sl x) [rdC b m true,[.box 100000 0],[I M]]):SpB 94 [.box 100000 0, .fn g [.box 100001 0, .box 100002 0]] [rdC b k false,[.box 100000 0],[I M]] (.sl []) [rdC b k true,[.box 100000 0],[I M]] :=
 b_of func94 Ac Ac rfl rfl (rdYn_vc g b k m x a)
def rdYs_vc{M:Int}(g:FuncId)(b:List Int)(k:Nat):jR T Tryz.prog Tryz.f94 [.box 100000 0, .fn g [.box 100001 0, .box 100002 0]] [rdC b k true,[.box 100000 0],[I M]] (.sl []) [rdC b k true,[.box 100000 0],[I M]] :=Jb
def rdYs{M:Int}(g:FuncId)(b:List Int)(k:Nat):SpB 94 [.box 100000 0, .fn g [.box 100001 0, .box 100002 0]] [rdC b k true,[.box 100000 0],[I M]] (.sl []) [rdC b k true,[.box 100000 0],[I M]] :=
 b_of func94 Ac Ac rfl rfl (rdYs_vc g b k)
def mByy_vc{b:List Int}{k m:Nat}{x:List V}{M:Int}{f a:Bool}(g:SpB 94 [.box 100000 0, .fn 95 [.box 100001 0, .box 100002 0]] [rdC b k f,[.box 100000 0],[I M]] (.sl x) [rdC b m a,[.box 100000 0],[I M]]):jR T Tryz.prog Tryz.f44 [.box 100000 0,I M] [rdC b k f] (.sl x) [rdC b m a] :=by
 repeat' ((conv=>whnf);first|refine zh (g) [100000,2,3] ?_|refine zS ?_|refine zm (λx c=>?_)|refine zT ?_ ?_<;>intro _|fail)
 all_goals conv=>whnf
 all_goals first|exact⟨_,rfl,zc1⟩|exact zc1
def mBy(M:Int):Rds 44 [I M] (cBytes M) (.sl []) (λl=> .sl (l.map byV))where
 y:=by
  intro b k l m hb hk h;obtain⟨n,k1,d,f,rfl,rfl⟩:=(cBytes_at hb hk).1 h;have a:=Cod.at_le d hk;have:=by1y_vc (M:=M) hb a.2 f ((mBd 0 M).y hb hk d);exact b_of func44 Ac Ac rfl rfl (mByy_vc (rdYy _ b k _ _ (b_of func95 Ac Ac rfl rfl this)))
 n:=by
  intro b k hb hk h
  obtain⟨m,g⟩:∃m,jR T Tryz.prog Tryz.f95 [.box 100001 0, .box 100002 0] [rdC b k false,[.box 100000 0],[I M]] (.sl []) [rdC b m true,[.box 100000 0],[I M]] :=by
   cases e:(cBd 0 M).at b k with
   |none=>exact⟨k,by1n_vc hb hk (show R64 0 from⟨Ai,Ai⟩) (.inl rfl) ((mBd 0 M).n hb hk e)⟩
   |some p=>
    obtain⟨n,k1⟩:=p;have a:=Cod.at_le e hk;have i:=cBd_at.1 e;have c:R64 n:=((Cod.at_iff _).1 i.1).2.2.1;refine⟨k1,by1n_vc hb a.2 c (.inr ?_) ((mBd 0 M).y hb hk e)⟩;exact Pz
  exact b_of func44 Ac Ac rfl rfl (mByy_vc (rdYn _ b k m [] (b_of func95 Ac Ac rfl rfl g)))
 s:=by
  intro b k hb hk;exact b_of func44 Ac Ac rfl rfl (mByy_vc (rdYs _ b k))
def cText_at{M:Int}{b:List Int}{k m:Nat}{s:ByteArray}(a:Byt b):(cText M).at b k=some (s,m)↔(cBytes M).at b k=some (bys s,m):=JL
def mTxy_vc{b:List Int}{k m:Nat}{f a:Bool}{l:List Int}{M:Int}(d:∀c∈l,isB c)(g:SpB 44 [.box 100000 0,I M] [rdC b k f] (.sl (l.map byV)) [rdC b m a]):jR T Tryz.prog Tryz.f43 [.box 100000 0,I M] [rdC b k f] (S (strOf l)) [rdC b m a] :=KC
def mTx(M:Int):Rds 43 [I M] (cText M) (S aI) S where
 y:=by
  intro b k s m hb hk h;have:=mTxy_vc (bys_isB s) ((mBy M).y hb hk ((cText_at hb).1 h));rw[of_bys]at this;exact b_of func43 Ac Ac rfl rfl this
 n:=by
  intro b k hb hk h;refine b_of func43 Ac Ac rfl rfl (mTxy_vc (l:=[]) (λ_ h=>Ah) ((mBy M).n hb hk (at_none_of λl m e=>?_)));exact PG
 s:=by
  intro b k hb hk;exact b_of func43 Ac Ac rfl rfl (mTxy_vc (l:=[]) (λ_ h=>Ah) ((mBy M).s hb hk))
theorem pair_at{l β:Type}{c:Cod l}{d:Cod β}{b:List Int}{k m:Nat}{x:l}{y:β}:(c.pair d).at b k=some ((x,y),m)↔∃g,c.at b k=some (x,g)/\d.at b g=some (y,m):=by
 constructor;intro h;obtain⟨i,h2,⟨a,f⟩,o,q⟩:=(Cod.at_iff _).1 h;have e:(c.pair d).enc (x,y)=c.enc x++d.enc y:=rfl;rw[e]at i h2;rw[Q5]at i;have j:b.drop (k+(c.enc x).length)=d.enc y++b.drop m:=Ce;refine⟨k+(c.enc x).length,(Cod.at_iff _).2 ⟨rfl,?_,a,o⟩,(Cod.at_iff _).2 ⟨Aa,j,f,q⟩⟩;rw[j,h2,Sv];rintro⟨g,h,n⟩;obtain⟨rfl,h2,a,f⟩:=(Cod.at_iff _).1 h;obtain⟨rfl,r,s,t⟩:=(Cod.at_iff _).1 n;refine(Cod.at_iff _).2 ⟨?_,?_,⟨a,s⟩,f,t⟩;show _=k+(c.enc x++d.enc y).length;rw[Q5];omega;show b.drop k=(c.enc x++d.enc y)++_;rw[h2,r,Sv]
end Go.Proofs.Led
