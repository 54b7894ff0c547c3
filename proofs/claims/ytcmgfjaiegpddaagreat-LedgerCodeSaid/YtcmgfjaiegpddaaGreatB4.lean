/- Lemmas. -/
import Derived.Test.YtcmgfjaiegpddaaGreatB1
import Derived.Shelf.Spec.SlicesGrow
set_option linter.all false
set_option maxRecDepth 100000
noncomputable section
namespace Go.Proofs
open Go.Shelf Go.Ab
def Tryz.bY5:Go.Shelf.Ren:=⟨λ|4=>278|n=>n,λ|22=>23|25=>84|n=>n,λn=>n⟩
def Tryz.cH7:Go.Proofs.Lays8.n4 Tryz.prog Tryz.bY5:={
 mixed:=Ac
 f4:=⟨Tryz.f278.name,Ai,Tryz.func278.trans (SK some Ac)⟩
 t0:=Tryz.underlying0
 a0:=Tryz.isAgg0
 z0:=Tryz.sizeOf0
 v0:=Tryz.zeroValue0
 t3:=Tryz.underlying3
 a3:=Tryz.isAgg3
 z3:=Tryz.sizeOf3
 v3:=Tryz.zeroValue3
 t4:=Tryz.underlying4
 a4:=Tryz.isAgg4
 z4:=Tryz.sizeOf4
 v4:=Tryz.zeroValue4
 t9:=Tryz.underlying9
 a9:=Tryz.isAgg9
 z9:=Tryz.sizeOf9
 v9:=Tryz.zeroValue9
 t20:=Tryz.underlying20
 a20:=Tryz.isAgg20
 z20:=Tryz.sizeOf20
 v20:=Tryz.zeroValue20
 t22:=Tryz.underlying23
 a22:=Tryz.isAgg23
 z22:=Tryz.sizeOf23
 v22:=Tryz.zeroValue23}
end Go.Proofs
namespace Go.Proofs.Led
open Go Go.Proofs Go.Ab Go.RowKit Tryz
def dZ9{w:World}{G:Gh}{j:Nat}{v:Value}{u:Value}(h:Rb T w G j v (.lit u)):v=u:=h.2.bH
def arr2{cs:Array Value}(h:cs.size=2):∃a b,cs= #[a,b] :=by
 obtain⟨l⟩:=cs;match l,h with
 | [a,b],_=>exact⟨a,b,rfl⟩
def row84:aH9 Tryz.prog 84 (T.row 84):=uG 84 (Q9 Ac)
theorem size84:(T.row 84).size=2:=Ac
theorem bytes84:(T.row 84).bytes=16:=Ac
def dP8(n:Nat)(L:n<=1000000):Sp 278 [.lit (.slice none 0 0),I n] (.own 84 []):=by
 refine⟨Ac,λw G cs C o h3 x K=>?_⟩;obtain⟨A,B,rfl⟩:=arr2 C;have H:A= .slice none 0 0:=dZ9 (x 0 A _ rfl rfl);have J:B= .int .i64 n:=dZ9 (x 1 B (I n) rfl rfl);subst H J;have f:84<T.n 84:=Q9 Ac;rcases Nat.eq_zero_or_pos n with rfl|y;refine(Any8.slices_Grow_room Tryz.cH7 none 0 0 0 w (Sr _) Ai Ai Ai).mono ?_;rintro e w' ⟨rfl,rfl⟩;refine⟨_,G,rfl,⟨f,Iu, .inl ⟨.inl rfl,rfl⟩⟩,λ_ h=>h,o,h3,λb hb=>?_,λ_ _ _=>rfl,Sr _,rfl,rfl,rfl⟩;exact P6;obtain⟨F,r,t,g,z,E,u,_,m,_,_⟩:=row84.info;rw[size84]at t m;rw[bytes84]at g;have v:z.cells.size=2:=by rw[<-Tt,u,m]
 have d:Calls Tryz.prog 278 #[.slice none 0 0, .int .i64 n] w λe w'=>e= .returned (.slice (some ⟨w.heap.size,0,none⟩) 0 (grownCap w (0+n) 0 84))/\
  w'=w.drew.alloc (.cells (([] :List Value).toArray++Builtin.zeroCells z.cells (0+n-0)++Builtin.zeroCells z.cells (grownCap w (0+n) 0 84- (0+n))) 84):=
  Any8.slices_Grow_grow Tryz.cH7 F z r E Aa none 0 0 n [] w (Sr _) Aa (by rw[g];omega) Aa Af (λ_=>rfl) (λa h=>Ah)
 refine d.mono ?_;rintro e w' ⟨rfl,rfl⟩;have D:=grownCap_ge w (0+n) 0 84;have s:=grownCap_le_maxLen w (0+n) 0 84 DY;have c:(w.drew.alloc (.cells (([] :List Value).toArray++Builtin.zeroCells z.cells (0+n-0)++Builtin.zeroCells z.cells (grownCap w (0+n) 0 84- (0+n))) 84)).heap.size=w.heap.size+1:=Array.size_push _;have k:(w.drew.alloc (.cells (([] :List Value).toArray++Builtin.zeroCells z.cells (0+n-0)++Builtin.zeroCells z.cells (grownCap w (0+n) 0 84- (0+n))) 84)).heap[w.heap.size]? =some (.cells (([] :List Value).toArray++Builtin.zeroCells z.cells (0+n-0)++Builtin.zeroCells z.cells (grownCap w (0+n) 0 84- (0+n))) 84 (0,0)):=UM
 have l:∀b,b<w.heap.size->(w.drew.alloc (.cells (([] :List Value).toArray++Builtin.zeroCells z.cells (0+n-0)++Builtin.zeroCells z.cells (grownCap w (0+n) 0 84- (0+n))) 84)).heap[b]? =w.heap[b]? :=by
  intro b hb;have:(w.drew.alloc (.cells (([] :List Value).toArray++Builtin.zeroCells z.cells (0+n-0)++Builtin.zeroCells z.cells (grownCap w (0+n) 0 84- (0+n))) 84)).heap=w.heap.push _:=rfl;rw[this,Array.getElem?_push_lt hb,Array.getElem?_eq_getElem hb]
 refine⟨_,{G with O:=upd G.O w.heap.size (.ar 0)},rfl,⟨f,Iu, .inr ⟨w.heap.size,_,_,rfl,upd_same _ _ _,k,SH _,s,?_,Af,?_⟩⟩,?_,?_,?_,?_,λb hb _=>l b hb,by rw[c];omega,rfl,rfl,rfl⟩;rw[Va,Va,size_zeroCells,size_zeroCells,v,size84];show 0+(0+n-0)*2+(grownCap w (0+n) 0 84- (0+n))*2=grownCap w (0+n) 0 84*2;omega;refine⟨Af,Af,Af⟩;intro b hb;have:b≠w.heap.size:=λe=>by have:=o b AA;omega
 show upd G.O w.heap.size (.ar 0) b= .fz;rw[upd_ne _ _ this];exact hb;intro b hb;rw[c];change upd G.O w.heap.size (.ar 0) b≠ .ext at hb;by_cases e:b=w.heap.size;omega
 have q:G.O b≠ .ext:=by
  have:=hb;rw[show(upd G.O w.heap.size (Tag.ar 0)) b=G.O b from upd_ne _ _ e]at this;exact this
 have:=o b q;omega;intro b i hb;change upd G.O w.heap.size (.ar 0) b= .bx i at hb;by_cases e:b=w.heap.size;subst e;rw[show(upd G.O w.heap.size (Tag.ar 0)) w.heap.size= .ar 0 from upd_same _ _ _]at hb;cases hb;rw[show(upd G.O w.heap.size (Tag.ar 0)) b=G.O b from upd_ne _ _ e]at hb;exact h3 b i hb;intro b hb;change upd G.O w.heap.size (.ar 0) b≠ .ext at hb;show(G.O b= .fz/\upd G.O w.heap.size (.ar 0) b= .fz)\/_;by_cases e:b=w.heap.size;exact .inr (.inl Aa);rw[show(upd G.O w.heap.size (Tag.ar 0)) b=G.O b from upd_ne _ _ e]at hb⊢;exact P6
end Go.Proofs.Led
namespace Go.Proofs.Led
open Go Go.Proofs Go.Ab Tryz
def jA(c:Int):Prop:=(97<=c/\c<=122)\/(65<=c/\c<=90)
def isDigit(c:Int):Prop:=48<=c/\c<=57
def fG(c:Int):Prop:=jA c\/isDigit c\/c=95
def iM(s:ByteArray):Prop:=1<=s.size/\s.size<=16/\jA (byteAt s 0)/\∀i,i<s.size->fG (byteAt s i)
def dQ2(c:Int):fnVC T Tryz.prog Tryz.f115 [U c] (.lit (.bool (decB (jA c)))):=by
 repeat' ((conv=>whnf);first|refine zS ?_|refine zT ?_ ?_<;>intro _|fail)
 all_goals conv=>whnf
 all_goals refine aA ?_
 exact fE GZ;refine le_dec ?_;unfold jA;omega;exact aC GZ;refine le_dec ?_;unfold jA;omega;exact aC GZ
def aT4(c:Int):Sp 115 [U c] (.lit (.bool (decB (jA c)))):=zsp func115 (dQ2 c)
def eD7(c:Int):fnVC T Tryz.prog Tryz.f155 [U c] (.lit (.bool (decB (isDigit c)))):=by
 repeat' ((conv=>whnf);first|refine zS ?_|refine zT ?_ ?_<;>intro _|fail)
 all_goals conv=>whnf
 all_goals refine aA ?_
 refine le_dec ?_;unfold isDigit;omega;exact aC (by unfold isDigit;omega)
def cX6(c:Int):Sp 155 [U c] (.lit (.bool (decB (isDigit c)))):=zsp func155 (eD7 c)
def dX8(c:Int):fnVC T Tryz.prog Tryz.f117 [U c] (.lit (.bool (decB (fG c)))):=by
 repeat' ((conv=>whnf);first|refine zc (aT4 c) ?_|refine zc (cX6 c) ?_|refine zS ?_|refine zd (λa=>?_) (λa=>?_))
 all_goals conv=>whnf
 all_goals refine aA ?_
 exact fE (.inl a);exact fE (.inr (.inl a));rename_i b;refine sK ⟨λh=> .inr (.inr h),λh=>?_⟩;rcases h with h|h|h;exact(b h).elim;exact(a h).elim;exact h
def cR8(c:Int):Sp 117 [U c] (.lit (.bool (decB (fG c)))):=zsp func117 (dX8 c)
def wh(p:Nat->Bool):Nat->Nat->Nat
 |0,i=>i
 |f+1,i=>if p i then wh p f (i+1)else i
def dG8{p:Nat->Bool}{f i:Nat}(h:p i=true):wh p (f+1) i=wh p f (i+1):=by rw[wh,Sj h]
def dE4{p:Nat->Bool}{f i:Nat}(h:p i=false):wh p (f+1) i=i:=by rw[wh,RZ (by simp[h])]
def cV4(p:Nat->Bool):∀f i,wh p f i=i+f↔∀j,i<=j->j<i+f->p j=true
 |0,i=>by simp[wh];omega
 |f+1,i=>by
  rw[wh];split;rename_i h;have:=cV4 p f (i+1);grind;grind
def whS(K:Int->Prop)(s:ByteArray)(i:Nat):Nat:=wh (λj=>decB (K (byteAt s j))) (s.size-i) i
def dV7{g:FuncId}{Kd:Int->Prop}(d:∀c,Sp g [U c] (.lit (.bool (decB (Kd c)))))(s:ByteArray)(i:Nat)(l:s.size<=1000000000):
 fnVC T Tryz.prog Tryz.f116 [S s,I i, .fn g []] (I (whS Kd s i)):=by
 repeat' ((conv=>whnf);first|refine zS ?_|fail)
 refine lD (A:=Nat) (λk=>mkSt [(0,S s),(1,I k),(2, .fn g [])] [] []) (λk=>whS Kd s k=whS Kd s i) (λk=>s.size-k) i ?_ rfl (λk hk=>?_)
 ·exact zj
 ·change whS Kd s k=whS Kd s i at hk
  rcases TI k s.size with hlt|e
  ·obtain⟨f,b⟩:∃f,s.size-k=f+1:=⟨s.size-k-1,Aa⟩
   have hks:whS Kd s k=wh (λj=>decB (Kd (byteAt s j))) (f+1) k:=by unfold whS;rw[b]
   repeat' ((conv=>whnf);first|omega|refine zc (d (byteAt s k)) ?_|refine zS ?_|refine zd (λa=>?_) (λa=>?_)|refine zl (λhlt=>?_) (λhlt=>?_))
   ·conv=>whnf
    refine⟨k+1,?_,?_,Aa⟩
    ·refine dV ?_ ?_ ?_ ?_
     all_goals repeat' (first|exact trivial|refine And.intro ?_ ?_|with_reducible rfl|exact(λh=>Ah)|exact Sr _|omega|exact rfl)
    ·show whS Kd s (k+1)=_
     rw[<-hk,hks,dG8 (dH.2 a)];unfold whS;rw[show s.size- (k+1)=f from Aa]
   ·conv=>whnf
    refine aG ?_;rw[<-hk,hks,dE4 (dW.2 a)]
  ·have hks:whS Kd s k=k:=by unfold whS;rw[show s.size-k=0 from Aa];rfl
   exact PL
def cQ3{g:FuncId}{Kd:Int->Prop}(a:∀c,Sp g [U c] (.lit (.bool (decB (Kd c)))))(s:ByteArray)(i:Nat)(b:s.size<=1000000000):
 Sp 116 [S s,I i, .fn g []] (I (whS Kd s i)):=zsp func116 (dV7 a s i b)
def eL8(s:ByteArray):fnVC T Tryz.prog Tryz.f63 [S s] (.lit (.bool (decB (iM s)))):=by
 have c:=dJ7 (s:=s);rcases TI 16 s.size with d|hsm
 ·repeat' ((conv=>whnf);first|refine jI (λa=>?_) (λa=>?_)|omega|refine zS ?_|refine zk (λb=>?_) (λb=>?_))
  all_goals conv=>whnf
  all_goals refine aA ?_
  all_goals exact aC (λh=>by have:=h.2.1;omega)
 repeat' ((conv=>whnf);first|refine jI (λa=>?_) (λa=>?_)|omega|refine cK2 ⟨Aa,by have:=mt c.1 a;omega⟩ ?_|refine zc (aT4 (byteAt s 0)) ?_|refine zc (cQ3 cR8 s 0 Aa) ?_|refine zS ?_|refine zd (λhd=>?_) (λhd=>?_)|refine zk (λb=>?_) (λb=>?_))
 all_goals conv=>whnf
 all_goals refine aA ?_
 exact aC (λh=>by have:=h.1;have:=c.2 a;omega);refine sK ?_;have hw:=cV4 (λj=>decB (fG (byteAt s j))) s.size 0;have hs0:whS fG s 0=wh (λj=>decB (fG (byteAt s j))) s.size 0:=rfl;have f:=mt c.1 a;exact OA;exact aC (λh=>hd h.2.2.1)
def aG6(s:ByteArray):Sp 63 [S s] (.lit (.bool (decB (iM s)))):=zsp func63 (eL8 s)
end Go.Proofs.Led
