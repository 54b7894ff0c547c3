/- Lemmas. -/
import Derived.Test.YtecbpikbjfihmaaGreatDoorSGS6
import Derived.Test.YtecbpikbjfihmaaGreatDoorB10
set_option linter.all false
set_option autoImplicit true
set_option relaxedAutoImplicit true
set_option maxRecDepth 100000
set_option maxHeartbeats 8000000
noncomputable section
namespace Go.Proofs.Led
open Go Go.Proofs Go.Ab
def ch_suffix(h:RightF f):∀ D {x y} {R},x∈f->chN f x=D++y::R->y∈f/\chN f y=y::R
 | [],x,y,R,b,e=>by
   have i:y=x:=by
    by_cases a:x.parent=0;rw[ch_root a]at e;cases e;rfl;let⟨z,j,g,k,l,c⟩:=par_get h b a;rw[c]at e;cases e;rfl
   subst i;exact⟨b,e⟩
 |d::D,x,y,R,b,e=>by
  by_cases a:x.parent=0;rw[ch_root a]at e;simp at e;let⟨z,j,g,k,l,c⟩:=par_get h b a;rw[c,Ur]at e;exact ch_suffix h D g (List.cons.inj e).2
def ch_last(h:RightF f)(g:x∈f)(e:chN f x=D++y::R):y∈f/\(y.parent=0↔R=[]):=by
 let⟨c,b⟩:=ch_suffix h D g e;refine⟨c,?_⟩;by_cases a:y.parent=0;rw[ch_root a]at b;cases b;simp[a];let⟨z,j,k,l,m,i⟩:=par_get h c a;rw[i]at b;have d:=(List.cons.inj b).2;have:=ch_pos (f:=f) (x:=z);constructor;intro e;exact absurd e a;intro e;rw[d,e]at this;simp at this
end Go.Proofs.Led
namespace Go.Proofs.Led
open Go Go.Proofs Go.Ab Go.RowKit
def certY_spec f n x(J:f.length<=900000)(F:SzN f)(h:RightF f)(k:getN f n=some x)(E:∀y∈f,NOk y):Sp 14 [.sl (f.map nodeV),I n] (.tup [S (certL (chN f x).reverse),I 0]):=by
 have v:=nodeY_spec f n x Aa F h k;let⟨l,C⟩:=getN_mem k;have z:=climbL_spec f x Aa h l;have B:=ch_le (f:=f) (x:=x);have b:=ch_pos (f:=f) (x:=x)
 have d:∀y∈chN f x,y∈f:=λy a=>by
  let⟨D,R,e⟩:=List.append_of_mem a;exact(ch_last h l e).1
 have g:chN f x≠ [] :=λe=>by rw[e]at b;simp at b
 refine spec_of_calls Ac λw G cs r s i t=>?_;obtain⟨o,q,rfl⟩:=arr2 r;have m:=i 0 o _ rfl rfl;have H:=dZ9 (i 1 q _ rfl rfl);subst H;refine(cert_any f n x (chN f x) w G o s t m.1 m.2 v z g Aa (λy a=>E y (d y a))).mono ?_;rintro e w' ⟨rfl,A⟩;refine⟨A,_,rfl,⟨_,rfl,rfl,λj u y c a=>?_⟩⟩;match j,c,a with
 |0,c,a=>cases c;cases a;exact⟨by simp[V.pure,S,V.ok], .lit _ rfl⟩
 |1,c,a=>cases c;cases a;exact⟨by simp[V.pure,I,V.ok], .lit _ rfl⟩
end Go.Proofs.Led
namespace Go.Proofs.Led
open Go Go.Proofs Go.Ab
def awS:aJ:=cut5 (st2 awB (chB 112)) awX 0 (barS awB (chB 112))
def awP(n z:Int):Piece:=⟨n,1,chB 97,chB 115,chB 104,z,true,1,aI⟩
def awQ:aN:=⟨true,dN,⟨4,chB 115,chB 104,25,[]⟩,aI⟩
theorem awS_p:awS.pieces=[awP 2 40,awP 3 30] :=by
 unfold awS;rw[aG4];rfl
theorem awS_s:awS.stocks=[awQ] :=by
 unfold awS;rw[aF7,mV bI7];show putS _ (dZ (barS awB (chB 112)) awR)=_;rw[cK1];rfl
theorem awq2:bF0 awS 2=awP 2 40:=by
 unfold bF0;rw[awS_p,bZ0 (Q:=λx=>x.id=2) (x:=awP 2 40) Ad rfl (λy a e=>?_)];rfl;simp[Rl,TP,UL]at a;rcases a with rfl|rfl;rfl;exact absurd e Ai
theorem awq3:bF0 awS 3=awP 3 30:=by
 unfold bF0;rw[awS_p,bZ0 (Q:=λx=>x.id=3) (x:=awP 3 30) Ad rfl (λy a e=>?_)];rfl;simp[Rl,TP,UL]at a;rcases a with rfl|rfl;exact absurd e Ai;rfl
theorem awq4:bF5 awS 4=awQ:=by
 unfold bF5;rw[awS_s,bZ0 (Q:=λx=>sid x=4) (x:=awQ) Ad rfl (λy a e=>Ri.1 a)];rfl
def awN1(g:Bool)(c:Int):Node:=⟨1,2,0,chB 115,chB 104,aI,100,g,c⟩
def awN(n z:Int):Node:=⟨n,3,1,chB 115,chB 104,chB 97,z,false,0⟩
def awN4:Node:=⟨4,2,1,chB 115,chB 104,aI,25,false,0⟩
def awF1:List Node:=[awN1 false 0]
def awF:List Node:=[awN1 true 5,awN 2 40,awN 3 30,awN4]
theorem awf1:followN [] (st1 awB) (nD awB)=awF1:=by
 unfold followN;rw[Q9 Ai,QU (show(nD awB).kind=2 from rfl)];rfl
theorem awf2 s:followN awF1 s (uX 1 (chB 112))=awF1:=by
 unfold followN;rw[Q9 Ai,Q9 Ai,Q9 Ai];rfl
theorem awf3:followN awF1 awS awX=awF:=by
 unfold followN;rw[Q9 Ai,Q9 Ai,QU (.inr rfl)];show restsN (cutsN _ awS [⟨2,chB 97,40⟩,⟨3,chB 97,30⟩]) awS 1 [awR] =_;unfold restsN cutsN;simp[RV,List.foldl_nil];rw[show awR.id=4 from rfl,awq2,awq3,awq4];rfl
theorem aw_apps:appR inv0 (nD awB)=(st1 awB,0)/\appR (st1 awB) (uX 1 (chB 112))=(st2 awB (chB 112),0)/\appR (st2 awB (chB 112)) awX=(awS,0):=
 (dH7 fB9 (yM Ai) dQ9 rfl rfl eF1 bI7 eP2).2
def aw_fit:fitAll inv0 [] awL:=by
 let⟨a,b,c⟩:=aw_apps;unfold awL;intro _;rw[a];refine⟨⟨List.Pairwise.nil,RY _,λh=>absurd h Ai,λi _ x hx=>H8,?_⟩,?_⟩;simp_all [Q9,QU,Ui,newI,nD,awB];show fitAll (st1 awB) (followN [] (st1 awB) (nD awB)) _;rw[awf1];intro _;rw[b];refine⟨⟨Ui _ _,Ai,λh=>absurd h Ai,λi hi=>?_,?_⟩,?_⟩;unfold newI at hi;rw[Q9 Ai,Q9 Ai]at hi;cases hi;unfold newI;rw[Q9 Ai,Q9 Ai];exact List.Pairwise.nil;show fitAll (st2 awB (chB 112)) (followN awF1 (st2 awB (chB 112)) (uX 1 (chB 112))) _;rw[awf2];intro _;rw[c]
 have e:newI awS awX=[2,3,4] :=by
  unfold newI;rw[Q9 Ai,Q9 Ai];show [(bF0 awS 2).id,(bF0 awS 3).id] ++[sid (bF5 awS 4)] =_;rw[awq2,awq3,awq4];rfl
 refine⟨⟨Ui _ _,Ai,λ_=>⟨awN1 false 0,by unfold awF1;simp,rfl⟩,λi hi x hx=>?_,?_⟩,trivial⟩;rw[e]at hi;rw[Ri.1 hx];simp[Rl,TP,UL]at hi;show(1:Int)≠i;omega;simp_all
theorem aw_build:buildF inv0 [] 0 awL=(awF,3,0):=by
 simp_all [aw_apps,QU,awL,buildF,awf1,awf2,awf3]
def aw_right:RightF awF where
 own:=λx hx=>by
  have hn:iM (chB 97):=yM Ai;unfold awF at hx;simp[Rl,TP,UL]at hx;rcases hx with rfl|rfl|rfl|rfl;exact⟨Ai,Ai,Ai,Ai,Ai,Ai,(λh=>Ah),(λh=>absurd h Ai),λ_=>rfl⟩;exact LV;exact LV;exact⟨Ai,Ai,Ai,Ai,Ai,Ai,λ_=>rfl,λh=>absurd h Ai,λ_=>rfl⟩
 so:=by unfold SortN;decide
 par:=λx hx=>by
  have e:getN awF 1=some (awN1 true 5):=rfl;unfold awF at hx;simp[Rl,TP,UL]at hx;rcases hx with rfl|rfl|rfl|rfl;exact λh=>absurd rfl h;exact λ_=>⟨_,e,rfl,rfl,rfl, .inl rfl⟩;exact λ_=>⟨_,e,rfl,rfl,rfl, .inl rfl⟩;exact λ_=>⟨_,e,rfl,rfl,rfl, .inr rfl⟩
 up:=by
  have e:awF.all (λx=>climbR awF 4 x)=true:=rfl;exact λx hx=>Uo.1 e x hx
 sum:=λg hg h=>by
  unfold awF at hg;simp[Rl,TP,UL]at hg;rcases hg with rfl|rfl|rfl|rfl;rfl;cases h;cases h;cases h
def aw_get:getN awF 3=some (awN 3 30):=rfl
def aw_get1:getN awF 1=some (awN1 true 5):=rfl
theorem aw_chain:chN awF (awN 3 30)=[awN 3 30,awN1 true 5] :=rfl
theorem aw_path:pathL awF (awN 3 30)=[1,3] :=rfl
theorem itoa_dig(h:n<10):Lib.decDigits n=[UInt8.ofNat (48+n)] :=by rw[Lib.decDigits,dif_pos h]
theorem itoa_more(h:¬n<10):Lib.decDigits n=Lib.decDigits (n/10)++[UInt8.ofNat (48+n% 10)] :=by rw[Lib.decDigits,dif_neg h]
theorem aw_i1:itoaB 1=bs_ [49] :=by
 unfold itoaB Lib.itoa;simp_all [Q9,itoa_dig]
theorem aw_i3:itoaB 3=bs_ [51] :=by
 unfold itoaB Lib.itoa;simp_all [Q9,itoa_dig]
theorem aw_i30:itoaB 30=bs_ [51,48] :=by
 exact QF
theorem aw_i100:itoaB 100=bs_ [49,48,48] :=by
 exact QF
def awT:ByteArray:=bs_ [51,32,112,97,114,116,32,97,32,115,105,122,101,32,51,48,10,49,32,98,97,114,32,115,105,122,101,32,49,48,48,32,103,114,97,100,101,32,115,32,104,101,97,116,32,104,10]
theorem aw_cert:certL (chN awF (awN 3 30)).reverse=awT:=by
 rw[aw_chain];show aI++lineN (awN 3 30)++restN (awN 3 30)++bs_ [10] ++lineN (awN1 true 5)++restN (awN1 true 5)++bs_ [10] =_;unfold lineN;rw[show(awN 3 30).id=3 from rfl,show(awN 3 30).size=30 from rfl,show(awN1 true 5).id=1 from rfl,show(awN1 true 5).size=100 from rfl,aw_i3,aw_i30,aw_i1,aw_i100];unfold whatN restN;rw[Q9 Ai,Q9 Ai,Q9 Ai,Q9 Ai,QU Ai,QU Ai];decide
theorem aw_acc:acC awF 1=[I 25,I 70,I 5] :=by
 have a:awF.length+1<=4+(chN awF (awN1 true 5)).length:=Ai;have h:=λg=>visit_all aw_right g 4 (n:=awN1 true 5) (by unfold awF;simp) a;unfold acC;rw[show(1:Int)=(awN1 true 5).id from rfl,<-h,<-h,<-h];rw[show visitR awF g0N 4 (awN1 true 5)=25 from rfl,show visitR awF g1N 4 (awN1 true 5)=70 from rfl,show visitR awF g2N 4 (awN1 true 5)=5 from rfl,w_in Aa,w_in Aa,w_in Aa]
def sI_spec(L:List Int)(h:L.length<=1000000):Sp 16 [.sl (L.map I), .sl (L.map I)] (.lit (.bool true)):=by
 have:=cY1 (a:=L) (b:=L) (by show L.length<=9223372036854775807;omega);rwa [show DB (L=L)= .lit (.bool true)from RI (λb=>V.lit (Value.bool b)) (dH.2 rfl)]at this
end Go.Proofs.Led
