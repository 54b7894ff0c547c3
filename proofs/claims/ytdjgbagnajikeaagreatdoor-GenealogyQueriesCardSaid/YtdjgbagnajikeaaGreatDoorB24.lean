/-
  The inventory of the document's example.
-/
import Derived.Test.YtdjgbagnajikeaaGreatDoorB22
set_option linter.unusedVariables false
set_option linter.unusedSimpArgs false
set_option maxRecDepth 100000
set_option maxHeartbeats 8000000
noncomputable section
namespace Go.Proofs.Led
open Go Go.Proofs Go.Ab
def awB:Bar:=⟨1,chB 115,chB 104,100,[]⟩
def awR:Rest:=⟨4,bx0,75,100⟩
def awX:Event:=xC 1 [⟨2,chB 97,40⟩,⟨3,chB 97,30⟩] [awR] 5
def awL:List Event:=[nD awB,uX 1 (chB 112),awX]
theorem fB9:fM awB:=⟨⟨show(1:Int)<=1 from Ah,show(1:Int)<=1000000 from Ah,yM Ah,yM Ah⟩,show(1:Int)<=100 from Ah,show(100:Int)<=2000 from Ah,Nat.zero_le 6,trivial⟩
theorem dH6:iG (barS awB (chB 112)) awR=0:=by
 unfold iG;rw[if_neg (by show¬true=false;decide),if_neg (by show¬bx0≠bx0;simp),if_neg (by show¬((75:Int)<0\/(100:Int)<=75\/(100:Int)<100);decide)]
theorem bI7:cZ (barS awB (chB 112)) [] awX.rests=0:=by
 show cZ (barS awB (chB 112)) [] [awR] =0;unfold cZ;rw[if_neg (Classical.not_not.2 dH6),if_neg Ae];rfl
theorem cK1:dZ (barS awB (chB 112)) awR=⟨true,dN,⟨4,chB 115,chB 104,25,[]⟩,aI⟩:=by
 unfold dZ;rw[if_neg (by show¬true=false;decide),if_pos dH6]
 have:W (awR.hi-awR.lo)=25:=Ah;rw[this];rfl
theorem eP2:nJ (barS awB (chB 112)) awX=awX.scrap:=by
 unfold nJ
 have e1:eG (barS awB (chB 112)) awX.rests=[⟨true,dN,⟨4,chB 115,chB 104,25,[]⟩,aI⟩] :=by
  rw[mV bI7];show [dZ (barS awB (chB 112)) awR] =_;rw[cK1]
 rw[e1];show subL (subL 100 [40,30]) [25] =5;rw[aC6 [40,30] 100 (by unfold R6;omega) Aa (by intro c hc;simp at hc;omega) Ah]
 rw[show(100:Int)- [40,30].sum=30 from Ah,aC6 [25] 30 (by unfold R6;omega) Aa (by intro c hc;simp at hc;omega) Ah]
 decide
theorem dQ9:iD awX:=by
 refine aK5 (fun c hc=>?_) (fun r hr=>?_) (by show(2:Nat)<=60;decide) (by show(1:Nat)<=6;decide) Ah
 ·simp only[List.mem_cons,List.not_mem_nil,or_false]at hc
  rcases hc with rfl|rfl
  ·exact⟨⟨show(1:Int)<=2 from Ah,show(2:Int)<=1000000 from Ah⟩,yM Ah,show(1:Int)<=40 from Ah⟩
  ·exact⟨⟨show(1:Int)<=3 from Ah,show(3:Int)<=1000000 from Ah⟩,yM Ah,show(1:Int)<=30 from Ah⟩
 ·rw[List.mem_singleton.1 hr]
  exact⟨⟨show(1:Int)<=4 from Ah,show(4:Int)<=1000000 from Ah⟩, .inl rfl⟩
theorem eF1:dP [awB.id] (fO awX):=by
 rw[qJ];show(∀n∈([2,3,4] :List Int),n∉([1] :List Int))/\([2,3,4] :List Int).Pairwise (·≠·);exact⟨Ah,Ah⟩
theorem eA5:∀e∈awL,iY e:=by
 intro e he;have he':e=nD awB\/e=uX 1 (chB 112)\/e=awX:=by simpa [awL]using he
 have f0:tN dN:=⟨⟨Nat.zero_le _,Nat.zero_le _,fun h hh=>by cases hh⟩,Nat.zero_le _,fun h hh=>by cases hh⟩
 rcases he' with rfl|rfl|rfl
 ·exact⟨f0,Nat.zero_le _,Nat.zero_le _,Nat.zero_le _⟩
 ·exact⟨f0,Nat.zero_le _,Nat.zero_le _,Nat.zero_le _⟩
 ·exact⟨f0,Nat.zero_le _,show(2:Nat)<=1000000 from Ah,show(1:Nat)<=1000000 from Ah⟩
def nil1(x:V):V:=match x with
 | .lit u=>(match u with| .slice none 0 0=> .sl [] |u=> .lit u)
 |x=>x
def nilC(x:V):V:=match x with
 | .agg xs=> .agg (mapR nil1 xs)
 |x=>x
def nilSt(σ:St):St:=⟨fun s=>nilC (σ.env s),σ.bx,σ.ar⟩
theorem dC4{w:World}{G:Gh}{v:Value}{x:V}(h:Rv w G v x):Rv w G v (nil1 x):=by
 unfold nil1;split
 ·rename_i u
  split
  ·rw[h.bH];exact .slN
  ·exact h
 ·exact h
theorem eM7{p:Nat->Prop}{q:Nat->Nat->Prop}{x:V}(h:x.ok p q):(nil1 x).ok p q:=by
 unfold nil1;split
 ·split
  ·simp only[V.ok,V.okL]
  ·exact h
 ·exact h
theorem eQ8{w:World}{G:Gh}{v:Value}{x:V}(h:Rv w G v x):Rv w G v (nilC x):=by
 cases x with
 |agg xs=>
  show Rv w G v (.agg (mapR nil1 xs));rw[dU]
  cases h with
  |agg cs _ hl' ho hh=>
   refine .agg cs _ (by simp[hl']) ho (fun i c y hc hy=>?_)
   rw[List.getElem?_map]at hy
   cases hx:xs[i]? with
   |none=>rw[hx]at hy;cases hy
   |some z=>
    rw[hx]at hy;cases hy;exact dC4 (hh i c z hc hx)
 |_=>exact h
theorem dG1{p:Nat->Prop}{q:Nat->Nat->Prop}{x:V}(h:x.ok p q):(nilC x).ok p q:=by
 cases x with
 |agg xs=>
  show(V.agg (mapR nil1 xs)).ok p q;rw[dU];simp only[V.ok]at h⊢;refine aH.2 fun y hy=>?_;obtain⟨z,hz,rfl⟩:=List.mem_map.1 hy;exact eM7 (aH.1 h z hz)
 |_=>exact h
theorem le_nil(σ:St):Le T σ (nilSt σ):=by
 unfold Le;intro Φ a w G inv;exact⟨G,{inv with env:=fun s=>eQ8 (inv.env s),wfE:=fun s=>dG1 (inv.wfE s)}⟩
def awS:aJ:=cut5 (st2 awB (chB 112)) awX 0 (barS awB (chB 112))
def awP(n z:Int):Piece:=⟨n,1,chB 97,chB 115,chB 104,z,true,1,aI⟩
def awQ:aN:=⟨true,dN,⟨4,chB 115,chB 104,25,[]⟩,aI⟩
theorem awS_p:awS.pieces=[awP 2 40,awP 3 30] :=by
 unfold awS;rw[aG4];rfl
theorem awS_s:awS.stocks=[awQ] :=by
 unfold awS;rw[aF7,mV bI7];show putS _ (dZ (barS awB (chB 112)) awR)=_;rw[cK1];rfl
theorem awq2:bF0 awS 2=awP 2 40:=by
 unfold bF0;rw[awS_p,bZ0 (Q:=fun x=>x.id=2) (x:=awP 2 40) Ae rfl (fun y hy e=>?_)]
 ·rfl
 ·simp only[List.mem_cons,List.not_mem_nil,or_false]at hy
  rcases hy with rfl|rfl
  ·rfl
  ·exact absurd e Ah
theorem awq3:bF0 awS 3=awP 3 30:=by
 unfold bF0;rw[awS_p,bZ0 (Q:=fun x=>x.id=3) (x:=awP 3 30) Ae rfl (fun y hy e=>?_)]
 ·rfl
 ·simp only[List.mem_cons,List.not_mem_nil,or_false]at hy
  rcases hy with rfl|rfl
  ·exact absurd e Ah
  ·rfl
theorem awq4:bF5 awS 4=awQ:=by
 unfold bF5;rw[awS_s,bZ0 (Q:=fun x=>sid x=4) (x:=awQ) Ae rfl (fun y hy e=>List.mem_singleton.1 hy)];rfl
def awN1(g:Bool)(c:Int):Node:=⟨1,2,0,chB 115,chB 104,aI,100,g,c⟩
def awN(n z:Int):Node:=⟨n,3,1,chB 115,chB 104,chB 97,z,false,0⟩
def awN4:Node:=⟨4,2,1,chB 115,chB 104,aI,25,false,0⟩
def awF1:List Node:=[awN1 false 0]
def awF:List Node:=[awN1 true 5,awN 2 40,awN 3 30,awN4]
theorem awf1:followN [] (st1 awB) (nD awB)=awF1:=by
 unfold followN;rw[if_neg Ah,if_pos (show(nD awB).kind=2 from rfl)];rfl
theorem awf2(s:aJ):followN awF1 s (uX 1 (chB 112))=awF1:=by
 unfold followN;rw[if_neg Ah,if_neg Ah,if_neg Ah];rfl
theorem awf3:followN awF1 awS awX=awF:=by
 unfold followN;rw[if_neg Ah,if_neg Ah,if_pos (.inr rfl)];show restsN (cutsN _ awS [⟨2,chB 97,40⟩,⟨3,chB 97,30⟩]) awS 1 [awR] =_;unfold restsN cutsN;simp only[List.foldl_cons,List.foldl_nil];rw[show awR.id=4 from rfl,awq2,awq3,awq4];rfl
theorem aw_apps:appR inv0 (nD awB)=(st1 awB,0)/\appR (st1 awB) (uX 1 (chB 112))=(st2 awB (chB 112),0)/\appR (st2 awB (chB 112)) awX=(awS,0):=
 (dH7 fB9 (yM Ah) dQ9 rfl rfl eF1 bI7 eP2).2
theorem aw_fit:fitAll inv0 [] awL:=by
 obtain⟨r1,r2,r3⟩:=aw_apps;unfold awL;intro _;rw[r1];refine⟨⟨List.Pairwise.nil,Nat.zero_le _,fun h=>absurd h Ah,fun i _ x hx=>(by cases hx),?_⟩,?_⟩
 ·unfold newI
  rw[if_neg Ah,if_pos (show(nD awB).kind=2 from rfl)];exact List.pairwise_singleton _ _
 show fitAll (st1 awB) (followN [] (st1 awB) (nD awB)) _;rw[awf1];intro _;rw[r2];refine⟨⟨List.pairwise_singleton _ _,Ah,fun h=>absurd h Ah,fun i hi=>?_,?_⟩,?_⟩
 ·unfold newI at hi
  rw[if_neg Ah,if_neg Ah]at hi;cases hi
 ·unfold newI
  rw[if_neg Ah,if_neg Ah];exact List.Pairwise.nil
 show fitAll (st2 awB (chB 112)) (followN awF1 (st2 awB (chB 112)) (uX 1 (chB 112))) _;rw[awf2];intro _;rw[r3]
 have e:newI awS awX=[2,3,4] :=by
  unfold newI;rw[if_neg Ah,if_neg Ah];show [(bF0 awS 2).id,(bF0 awS 3).id] ++[sid (bF5 awS 4)] =_;rw[awq2,awq3,awq4];rfl
 refine⟨⟨List.pairwise_singleton _ _,Ah,fun _=>⟨awN1 false 0,by unfold awF1;simp,rfl⟩,fun i hi x hx=>?_,?_⟩,trivial⟩
 ·rw[e]at hi
  rw[List.mem_singleton.1 hx];simp only[List.mem_cons,List.not_mem_nil,or_false]at hi;show(1:Int)≠i;omega
 ·show(newI awS awX).Pairwise (·≠·)
  rw[e];decide
theorem aw_build:buildF inv0 [] 0 awL=(awF,3,0):=by
 obtain⟨r1,r2,r3⟩:=aw_apps;unfold awL;rw[buildF,r1,if_pos rfl];simp only;rw[awf1,buildF,r2,if_pos rfl];simp only;rw[awf2,buildF,r3,if_pos rfl];simp only;rw[awf3];rfl
theorem aw_right:RightF awF where
 own:=fun x hx=>by
  have hn:iM (chB 97):=yM Ah;unfold awF at hx;simp only[List.mem_cons,List.not_mem_nil,or_false]at hx;rcases hx with rfl|rfl|rfl|rfl
  ·exact⟨Ah,Ah,Ah,Ah,Ah,Ah,(fun h=>Ag),(fun h=>absurd h Ah),fun _=>rfl⟩
  ·exact JU
  ·exact JU
  ·exact⟨Ah,Ah,Ah,Ah,Ah,Ah,fun _=>rfl,fun h=>absurd h Ah,fun _=>rfl⟩
 so:=by unfold SortN;decide
 par:=fun x hx=>by
  have e:getN awF 1=some (awN1 true 5):=rfl;unfold awF at hx;simp only[List.mem_cons,List.not_mem_nil,or_false]at hx;rcases hx with rfl|rfl|rfl|rfl
  ·exact fun h=>absurd rfl h
  ·exact fun _=>⟨_,e,rfl,rfl,rfl, .inl rfl⟩
  ·exact fun _=>⟨_,e,rfl,rfl,rfl, .inl rfl⟩
  ·exact fun _=>⟨_,e,rfl,rfl,rfl, .inr rfl⟩
 up:=by
  have e:awF.all (fun x=>climbR awF 4 x)=true:=rfl;exact fun x hx=>List.all_eq_true.1 e x hx
 sum:=fun g hg h=>by
  unfold awF at hg;simp only[List.mem_cons,List.not_mem_nil,or_false]at hg;rcases hg with rfl|rfl|rfl|rfl
  ·rfl
  ·cases h
  ·cases h
  ·cases h
theorem aw_get:getN awF 3=some (awN 3 30):=rfl
theorem aw_get1:getN awF 1=some (awN1 true 5):=rfl
theorem aw_chain:chN awF (awN 3 30)=[awN 3 30,awN1 true 5] :=rfl
theorem aw_path:pathL awF (awN 3 30)=[1,3] :=rfl
theorem itoa_dig{n:Nat}(h:n<10):Lib.decDigits n=[UInt8.ofNat (48+n)] :=by rw[Lib.decDigits,dif_pos h]
theorem itoa_more{n:Nat}(h:¬n<10):Lib.decDigits n=Lib.decDigits (n/10)++[UInt8.ofNat (48+n% 10)] :=by rw[Lib.decDigits,dif_neg h]
theorem aw_i1:itoaB 1=bs_ [49] :=by
 unfold itoaB Lib.itoa;rw[if_neg Ah,show(1:Int).toNat=1 from rfl,itoa_dig Ah];rfl
theorem aw_i3:itoaB 3=bs_ [51] :=by
 unfold itoaB Lib.itoa;rw[if_neg Ah,show(3:Int).toNat=3 from rfl,itoa_dig Ah];rfl
theorem aw_i30:itoaB 30=bs_ [51,48] :=by
 unfold itoaB Lib.itoa;rw[if_neg Ah,show(30:Int).toNat=30 from rfl,itoa_more Ah,show(30:Nat)/10=3 from rfl,itoa_dig Ah];rfl
theorem aw_i100:itoaB 100=bs_ [49,48,48] :=by
 unfold itoaB Lib.itoa;rw[if_neg Ah,show(100:Int).toNat=100 from rfl,itoa_more Ah,show(100:Nat)/10=10 from rfl,itoa_more Ah,show(10:Nat)/10=1 from rfl,itoa_dig Ah];rfl
def awT:ByteArray:=bs_ [51,32,112,97,114,116,32,97,32,115,105,122,101,32,51,48,10,49,32,98,97,114,32,115,105,122,101,32,49,48,48,32,103,114,97,100,101,32,115,32,104,101,97,116,32,104,10]
theorem aw_cert:certL (chN awF (awN 3 30)).reverse=awT:=by
 rw[aw_chain];show aI++lineN (awN 3 30)++restN (awN 3 30)++bs_ [10] ++lineN (awN1 true 5)++restN (awN1 true 5)++bs_ [10] =_;unfold lineN;rw[show(awN 3 30).id=3 from rfl,show(awN 3 30).size=30 from rfl,show(awN1 true 5).id=1 from rfl,show(awN1 true 5).size=100 from rfl,aw_i3,aw_i30,aw_i1,aw_i100];unfold whatN restN;rw[if_neg Ah,if_neg Ah,if_neg Ah,if_neg Ah,if_pos Ah,if_pos Ah];decide
theorem aw_acc:acC awF 1=[I 25,I 70,I 5] :=by
 have hl:awF.length+1<=4+(chN awF (awN1 true 5)).length:=Ah;have h:=fun g=>visit_all aw_right g 4 (n:=awN1 true 5) (by unfold awF;simp) hl
 unfold acC;rw[show(1:Int)=(awN1 true 5).id from rfl,<-h,<-h,<-h];rw[show visitR awF g0N 4 (awN1 true 5)=25 from rfl,show visitR awF g1N 4 (awN1 true 5)=70 from rfl,show visitR awF g2N 4 (awN1 true 5)=5 from rfl,w_in Aa,w_in Aa,w_in Aa]
end Go.Proofs.Led
