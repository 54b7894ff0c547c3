/- Lemmas. -/
import Derived.Test.YtcmgfjaiegpddaaGreatB35
import Derived.Test.YtcmgfjaiegpddaaGreatB37
set_option linter.all false
set_option maxRecDepth 100000
set_option maxHeartbeats 8000000
noncomputable section
namespace Go.Proofs.Led
open Go Go.Proofs Go.Ab
abbrev nlZ:V:= .lit (.slice none 0 0)
abbrev zSt:V:= .agg [nlZ,nlZ,nlZ,I 0,I 0,I 0,I 0]
def rpSt(l:List Event)(k:Nat)(A:List Event)(d:Int):St:=mkSt [(0, .sl (l.map aS)),(1, .lit (.int .u16 k)),(5, .box 5 0),(6, .arr 29 A.length),(7,I d)] [(5,[.sl ((filF 1 (recs A)).map byV),I 0])] [(29,⟨A.length, .own,66,zSt::(stsF inv0 A).map invV⟩)]
def rp2St(k:Nat)(F:List Int)(X:List V)(A2:List Event):List Event->St
 | [] =>mkSt [(1, .lit (.int .u16 k)),(5, .box 5 0),(6, .sl (zSt::X)),(14, .sl ((recs A2).map rcV)),(16,nlZ),(17,I 0)] [(5,[.sl (F.map byV),I 0])] []
 |d::D=>mkSt [(1, .lit (.int .u16 k)),(5, .box 5 0),(6, .sl (zSt::X)),(14, .sl ((recs A2).map rcV)),(16, .arr 96 D.length),(17,I (D.length+1))] [(5,[.sl (F.map byV),I 0])] [(96,⟨D.length, .own,45,(d::D).map aS⟩)]
def lawReplay_spec(l:List Event)(k:Nat)(hk:k<=65535)(hl:Len6 l)(hb:∀e∈l,EvIn e):Sp 4 [.sl (l.map aS), .lit (.int .u16 k)] (.lit (.bool true)):=by
 refine zsp Tryz.func4 ?_;have hm:(l.map aS).length=l.length:=Af;have g0:=zB;have g1:=aS2 l 16 hl (λe i=>(hb e i).big);by_cases hf:fewL l 16;rotate_left
 ·repeat' ((conv=>whnf);first|(exfalso;contradiction)|refine zS ?_|refine zm (λx hx=>?_)|refine zT ?_ ?_<;>intro _|fail)
  all_goals exact zE
 obtain⟨hf1,ak⟩:=hf;have L:∀e∈l,iY e/\e.cuts.length<=12/\e.rests.length<=8/\more e<=21:=λe i=>aQ4 (hb e i).big (hf1 e i)
 have bb:moreL l<=400:=by
  have gen:∀ {l:List Event},(∀e∈l,more e<=21)->moreL l<=21*l.length:=by
   intro l;induction l with
   |nil=>intro _;exact Po 0
   |cons e l ih=>
    intro h;have H:=ih (λx hx=>h x BO);have J:=h e Af;unfold moreL at*;rw[PW,RS,PE];omega
  have:=gen (λe i=>(L e i).2.2.2);omega
 have a8:fewL l 16:=⟨hf1,ak⟩;repeat' ((conv=>whnf);first|(exfalso;contradiction)|refine zS ?_|refine zm (λx hx=>?_)|refine zT ?_ ?_<;>intro _|fail)
 all_goals conv=>whnf
 refine oU (A:=List Event) (B:=List Event) (C:=List Event) (λA D R=>rpSt l k A D.length) (λA D R=>l=D++R/\okAll inv0 A/\(∀e∈A,e∈l)/\moreL A+moreL R<=400/\A.length<=D.length) (λA D R=>R.length) [] [] l ?_ ⟨rfl,trivial,λ_ h=>Ag,by show 0+_<=_;omega,Po _⟩ (λA D R hp=>?_);refine Le.trans (le_nilBx (λ_=>true) _) ?_;show Le T _ (mkSt [(0, .sl (l.map aS)),(1, .lit (.int .u16 k)),(5, .box 5 0),(6, .arr 29 0),(7,I 0)] [(5,[.sl [],I 0])] [(29,⟨0, .own,66,[zSt]⟩)]);exact zj;obtain⟨hp,P,hAl,bc,Q⟩:=hp;have s:Ok (lastS inv0 A) (0+moreL A):=ok_all ok0 P;rw[QD]at s;have hAf:=formed_all ok0 P;have ag:l.length=D.length+R.length:=Ad;cases R with
 |cons e R=>
  have ab:=aO hp;have hel:e∈l:=Ad;have em:moreL (e::R)=more e+moreL R:=FT;obtain⟨z1,z2,z3,z4⟩:=L e hel;have k1:=bB8 e Aa Aa;have k2:=(kG s (e:=e) Aa z1).1;have w:((D++[e]).length:Int)=(D.length:Int)+1:=Af;have K:((stsF inv0 A).map invV).length=A.length:=by rw[P6,stsF_len]
  have N:W (((zSt::(stsF inv0 A).map invV).length:Int)-1)=(A.length:Int):=by
   rw[PE,K,w_in Aa];omega
  have hW:0<=W (((zSt::(stsF inv0 A).map invV).length:Int)-1)/\W (((zSt::(stsF inv0 A).map invV).length:Int)-1)< ((zSt::(stsF inv0 A).map invV).length:Int):=by
   rw[N,PE,K];omega
  have U:A≠ []->(zSt::(stsF inv0 A).map invV)[A.length]? =some (invV (lastS inv0 A)):=λaq=>by
   obtain⟨m,hm⟩:∃m,A.length=m+1:=⟨A.length-1,by have:=Rw.2 aq;omega⟩;rw[hm,Qi,PK,stsF_at Aa,<-hm,Rn];rfl
  have S:(zSt::(stsF inv0 A).map invV).length+1<=1000000000:=by rw[PE,K];omega
  by_cases c:(appR (lastS inv0 A) e).2=0
  ·have am:=(aZ6 s c).1
   have hR:=event_rng (m:=200000) (hb e hel) (hf1 e hel);have ay:=formed_short (hb e hel) (hf1 e hel) am;have k4:=encEvent_spec e 200000 z1 hR (by show(recE e).length<=_;omega);have al:∀z∈filF 1 (recs A),isB z:=fil_isB λr hr=>Jr;have aa:=fil_len_le (recs A) 1 λr hr=>Jr;have ae:(recs A).length=A.length:=by unfold recs;simp
   have k5:=wapp_spec (filF 1 (recs A)) (recE e) 0 al (allB_event _ e) Aa ay;rw[<-fil_recs]at k5;change Sp _ _ (.own _ ((recE e).map byV))at k4;have j:=okAll_snoc P c;have eS:(zSt::(stsF inv0 (A++[e])).map invV)=(zSt::(stsF inv0 A).map invV)++[invV (appR (lastS inv0 A) e).1] :=by rw[stsF_snoc];simp
   have eL:(A++[e]).length=A.length+1:=Af;have ac:moreL (A++[e])=moreL A+more e:=FT;rw[c]at k2;clear s hAf;generalize appR (lastS inv0 A) e=q at*;generalize recE e=rc at*;generalize Z:filF 1 (recs (A++[e]))=F' at*;cases A with
   |nil=>
    have hY:(zSt::(stsF inv0 []).map invV)[(W (((zSt::(stsF inv0 []).map invV).length:Int)-1)).toNat]? =some zSt:=by rw[N];rfl
    all_goals conv=>whnf
    repeat' ((conv=>whnf);first|omega|(exfalso;contradiction)|refine bW8 [(5,5),(8,8),(11,11)] [(62,[])] Ae Ak ?_|refine eZ1 Ak ?_|refine cC0 [(8,8),(9,9)] Ae Ak ?_|refine iH rfl (.inl rfl) rfl (OZ rfl) (dA rfl) S ?_|refine zh (xX k5) [] ?_|refine dS rfl rfl hW ?_|refine dB8 rfl rfl ?_|refine dE3 _ hY ?_|refine zS ?_|refine zm (λx hx=>?_)|refine zT ?_ ?_<;>intro _|fail)
    all_goals conv=>whnf
    refine⟨([] ++[e],D++[e],R),?_,⟨Ad,j,λx hx=>?_,by show moreL ([] ++[e])+moreL R<=400;rw[ac];omega,by show([] ++[e]).length<=(D++[e]).length;rw[eL,OY];exact Nat.add_le_add_right Q 1⟩,Af⟩;show Le T _ (mkSt [(0, .sl (l.map aS)),(1, .lit (.int .u16 k)),(5, .box 5 0),(6, .arr 29 ([] ++[e]).length),(7,I ((D++[e]).length:Nat))] [(5,[.sl ((filF 1 (recs ([] ++[e]))).map byV),I 0])] [(29,⟨([] ++[e]).length, .own,66,zSt::(stsF inv0 ([] ++[e])).map invV⟩)]);rw[w,Z,eS,eL];exact zj;exact Ko
   |cons a A=>
    have hY:(zSt::(stsF inv0 (a::A)).map invV)[(W (((zSt::(stsF inv0 (a::A)).map invV).length:Int)-1)).toNat]? =some (invV (lastS inv0 (a::A))):=by rw[N];exact U (by simp)
    all_goals conv=>whnf
    repeat' ((conv=>whnf);first|omega|(exfalso;contradiction)|refine bW8 [(5,5),(8,8),(11,11)] [(62,[])] Ae Ak ?_|refine eZ1 Ak ?_|refine cC0 [(8,8),(9,9)] Ae Ak ?_|refine iH rfl (.inl rfl) rfl (OZ rfl) (dA rfl) S ?_|refine zh (xX k5) [] ?_|refine dS rfl rfl hW ?_|refine dB8 rfl rfl ?_|refine dE3 _ hY ?_|refine zS ?_|refine zm (λx hx=>?_)|refine zT ?_ ?_<;>intro _|fail)
    all_goals conv=>whnf
    refine⟨((a::A)++[e],D++[e],R),?_,⟨Ad,j,λx hx=>?_,by show moreL ((a::A)++[e])+moreL R<=400;rw[ac];omega,by show((a::A)++[e]).length<=(D++[e]).length;rw[eL,OY];exact Nat.add_le_add_right Q 1⟩,Af⟩;show Le T _ (mkSt [(0, .sl (l.map aS)),(1, .lit (.int .u16 k)),(5, .box 5 0),(6, .arr 29 ((a::A)++[e]).length),(7,I ((D++[e]).length:Nat))] [(5,[.sl ((filF 1 (recs ((a::A)++[e]))).map byV),I 0])] [(29,⟨((a::A)++[e]).length, .own,66,zSt::(stsF inv0 ((a::A)++[e])).map invV⟩)]);rw[w,Z,eS,eL];exact zj;exact Ko
  have h3:okAll inv0 A/\(∀e∈A,e∈l)/\moreL A+moreL R<=400/\A.length<=(D++[e]).length:=⟨P,hAl,Aa,Be⟩;cases A with
  |nil=>
   have hY:(zSt::(stsF inv0 []).map invV)[(W (((zSt::(stsF inv0 []).map invV).length:Int)-1)).toNat]? =some zSt:=by rw[N];rfl
   all_goals conv=>whnf
   repeat' ((conv=>whnf);first|omega|(exfalso;contradiction)|refine eZ1 Ak ?_|refine cC0 [(8,8),(9,9)] Ae Ak ?_|refine dS rfl rfl hW ?_|refine dB8 rfl rfl ?_|refine dE3 _ hY ?_|refine zS ?_|refine zm (λx hx=>?_)|refine zT ?_ ?_<;>intro _|fail)
   all_goals conv=>whnf
   refine⟨([],D++[e],R),?_,⟨Ad,h3⟩,Af⟩;show Le T _ (mkSt [(0, .sl (l.map aS)),(1, .lit (.int .u16 k)),(5, .box 5 0),(6, .arr 29 0),(7,I ((D++[e]).length:Nat))] [(5,[.sl ((filF 1 (recs [])).map byV),I 0])] [(29,⟨0, .own,66,zSt::(stsF inv0 []).map invV⟩)]);rw[w];exact zj
  |cons a A=>
   have hY:(zSt::(stsF inv0 (a::A)).map invV)[(W (((zSt::(stsF inv0 (a::A)).map invV).length:Int)-1)).toNat]? =some (invV (lastS inv0 (a::A))):=by rw[N];exact U (by simp)
   all_goals conv=>whnf
   repeat' ((conv=>whnf);first|omega|(exfalso;contradiction)|refine eZ1 Ak ?_|refine cC0 [(8,8),(9,9)] Ae Ak ?_|refine dS rfl rfl hW ?_|refine dB8 rfl rfl ?_|refine dE3 _ hY ?_|refine zS ?_|refine zm (λx hx=>?_)|refine zT ?_ ?_<;>intro _|fail)
   all_goals conv=>whnf
   refine⟨(a::A,D++[e],R),?_,⟨Ad,h3⟩,Af⟩;show Le T _ (mkSt [(0, .sl (l.map aS)),(1, .lit (.int .u16 k)),(5, .box 5 0),(6, .arr 29 (a::A).length),(7,I ((D++[e]).length:Nat))] [(5,[.sl ((filF 1 (recs (a::A))).map byV),I 0])] [(29,⟨(a::A).length, .own,66,zSt::(stsF inv0 (a::A)).map invV⟩)]);rw[w];exact zj
 |nil=>
  have ab:l.length=D.length:=by rw[ag];rfl
  have u:∀r∈recs A,RecOk r:=λr hr=>Jr;have aa:=fil_len_le (recs A) 1 u;have ae:(recs A).length=A.length:=by unfold recs;simp
  have az:A.length<=16:=Aa;have g5:=wcrash_spec (filF 1 (recs A)) k Aa Aa;have g6:=wopen_spec (recs A) ((filF 1 (recs A)).take k) k u rfl Aa
  obtain⟨n,bd,o⟩:∃n,n<=A.length/\fitF k (recs A)=recs (A.take n):=by
   refine⟨(fitF k (recs A)).length,by have:=fit_len (recs A) k;omega,?_⟩;rw[fit_take];unfold recs;rw[SB];congr 1;rw[PG];have:=fit_len (recs A) k;unfold recs at this;omega
  rw[o]at g6
  have hall:(filF 1 (recs A)).length<=k->n=A.length:=λh=>by
   have J:=PN List.length (fit_all h);rw[o,ae]at J;unfold recs at J;rw[P6,PG]at J;omega
  have j:=okAll_take n P;have t:Ok (lastS inv0 (A.take n)) (0+moreL (A.take n)):=ok_all ok0 j;have a9:=moreL_take A n;have ba:moreL ([] :List Event)=0:=rfl;have G:∀e∈A.take n,e∈l/\e∈A:=λe i=>⟨hAl e (PO i),PO i⟩;have O:=vX (A.take n) (λe i=>(L e (G e i).1).1) Aa Bd;rw[replay_all j]at O;have g9:=dO9 t t Aa Aa;rw[DB_t rfl]at g9
  have V:(zSt::(stsF inv0 A).map invV)[n]? =if n=0 then some zSt else some (invV (lastS inv0 (A.take n))):=by
   by_cases E:n=0;rw[Pm E,E];rfl;obtain⟨m,hm⟩:∃m,n=m+1:=⟨n-1,Aa⟩;rw[Ph E,hm,Qi,PK,stsF_at Aa];rfl
  have a5:(zSt::(stsF inv0 A).map invV).length=A.length+1:=by rw[PE,P6,stsF_len]
  have a0:((filF 1 (recs A)).map byV).length=(filF 1 (recs A)).length:=Af;have M:(A.take n).length=n:=Bd
  have Y:∀e∈A.take n,Sp 11 [rcV (recE e)] (.tup [aS e,I 0]):=λe i=>by
   obtain⟨H,J⟩:=G e i;have ai:Byt (recE e):=⟨allB_event _ e,by have:=formed_short (hb e H) (hf1 e H) (hAf e J);omega⟩;have ah:=(back_iff (m:=200000) (y:=e) (hb e H) (hf1 e H) Ai).2 ⟨rfl,hAf e J⟩;rcases dEvent_cases ai with⟨y,a1,a2⟩|⟨a1,a2⟩;have:y=e:=((back_iff (m:=200000) (y:=y) (hb e H) (hf1 e H) Ai).1 a1).1;rw[this]at a2;exact a2;exact absurd ah (a1 e)
  have aw:n=0->lastS inv0 (A.take n)=inv0:=λh=>Hw;clear u aa s t o;unfold rpSt;generalize lastS inv0 (A.take n)=s' at*;generalize filF 1 (recs A)=F at*;generalize (stsF inv0 A).map invV=X at*;generalize af:A.take n=g at*;generalize filF 1 (recs g)=F2 at*;all_goals conv=>whnf
  repeat' ((conv=>whnf);first|omega|(exfalso;contradiction)|refine zS ?_|refine zm (λx hx=>?_)|refine zT ?_ ?_<;>intro _|fail)
  all_goals conv=>whnf
  have ar:(recs g).length=n:=by unfold recs;rw[P6,M]
  have av:((recs g).map rcV).length=n:=by rw[P6,ar]
  refine aU (A:=List Event) (B:=List Event) (λD R=>rp2St k F X g D) (λD R=>g=D++R) (λD R=>R.length) [] g ?_ rfl (λb v f=>?_)
  ·refine Le.trans (aZ8 29 rfl (.inl rfl)) ?_
   show Le T _ (mkSt _ _ _);refine dV ?_ ?_ ?_ ?_;all_goals repeat' (first|exact trivial|refine And.intro ?_ ?_|with_reducible rfl|exact(λh=>Ag)|exact Po _|omega|exact rfl)
   show wkV _ _ (cond (Nat.beq A.length A.length) (.sl (zSt::X)) .bot) (.sl (zSt::X));rw[show Nat.beq A.length A.length=true from SG _];exact rfl
  have a3:n=b.length+v.length:=by rw[<-M,f];simp
  cases v with
  |cons e v=>
   have gd:=Y e (by rw[f];simp);have ad:recs g=recs b++recE e::recs v:=by rw[f];unfold recs;simp
   have au:(recs b).length=b.length:=by unfold recs;simp
   have a6:(e::v).length=v.length+1:=rfl;cases b with
   |nil=>
    all_goals conv=>whnf
    repeat' ((conv=>whnf);first|omega|(exfalso;contradiction)|refine aF (l:=recs g) (A:=recs []) (x:=recE e) (B:=recs v) ad (by show(0:Int).toNat=0;rfl) ?_|refine gX (OZ rfl) (dA rfl) AX ?_|refine zS ?_|refine zm (λx hx=>?_)|refine zT ?_ ?_<;>intro _|fail)
    all_goals conv=>whnf
    refine⟨([e],v),?_,f,Af⟩;show Le T _ (mkSt [(1, .lit (.int .u16 k)),(5, .box 5 0),(6, .sl (zSt::X)),(14, .sl ((recs g).map rcV)),(16, .arr 96 0),(17,I 1)] [(5,[.sl (F.map byV),I 0])] [(96,⟨0, .own,45,[aS e]⟩)]);exact zj
   |cons d b=>
    have aj:(d::b).length=b.length+1:=rfl;have a7:((d::b).map aS).length=b.length+1:=Af;have ec:(d::(b++[e])).map aS=(d::b).map aS++[aS e] :=Af;have el:(b++[e]).length=b.length+1:=Af;all_goals conv=>whnf
    repeat' ((conv=>whnf);first|omega|(exfalso;contradiction)|refine aF (l:=recs g) (A:=recs (d::b)) (x:=recE e) (B:=recs v) ad (by rw[au];show((b.length:Int)+1).toNat=b.length+1;omega) ?_|refine iH rfl (.inl rfl) rfl (OZ rfl) (dA rfl) (by show((d::b).map aS).length+1<=1000000000;omega) ?_|refine zS ?_|refine zm (λx hx=>?_)|refine zT ?_ ?_<;>intro _|fail)
    all_goals conv=>whnf
    refine⟨(d::(b++[e]),v),?_,by rw[f];simp,Af⟩;show Le T _ (mkSt [(1, .lit (.int .u16 k)),(5, .box 5 0),(6, .sl (zSt::X)),(14, .sl ((recs g).map rcV)),(16, .arr 96 (b++[e]).length),(17,I ((b++[e]).length+1))] [(5,[.sl (F.map byV),I 0])] [(96,⟨(b++[e]).length, .own,45,(d::(b++[e])).map aS⟩)]);rw[ec,el];exact zj
  |nil=>
   have hD:g=b:=by rw[f];simp
   have a4:([] :List Event).length=0:=rfl;have ao:b.length=n:=Aa;have an:(0:Int)+(g.length:Int)=(n:Int):=by rw[M];omega
   rw[an]at O;change Sp _ _ (.tup [invV s',I n,I 0])at O;rw[hD]at O av⊢;clear f hD af Y;have hW:0<=(n:Int)/\(n:Int)< ((zSt::X).length:Int):=Aa;cases b with
   |nil=>
    have E:n=0:=by rw[<-ao];rfl
    have hY:(zSt::X)[((n:Int)).toNat]? =some zSt:=by rw[Qc,V,Pm E]
    have ax:=aw E;rw[ax]at O g9;all_goals conv=>whnf
    exact LP
   |cons d b=>
    have aj:(d::b).length=b.length+1:=rfl;have E:n≠0:=Aa;have hY:(zSt::X)[((n:Int)).toNat]? =some (invV s'):=by rw[Qc,V,Ph E]
    all_goals conv=>whnf
    exact LP
end Go.Proofs.Led
