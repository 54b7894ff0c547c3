/-
  The reference's inventory, walked: cuts.
-/
import Derived.Test.YtkhhdojgbkophaaGreatQB24
set_option linter.unusedVariables false
set_option linter.unusedSimpArgs false
set_option maxRecDepth 100000
set_option maxHeartbeats 8000000
noncomputable section
namespace Go.Proofs.Led
open Go Go.Proofs Go.Ab
def addQ(s:aJ)(x:aN):aJ:={s with stocks:=putS s.stocks x,used:=putN s.used (sid x)}
def mkQ(s:aJ)(x:Piece):aJ:={s with pieces:=putP s.pieces x,used:=putN s.used x.id}
def fH1(s:aJ)(x:aN)(D:List Rest):aJ:=D.foldl (fun s r=>addQ s (dZ x r)) s
def sumQ(n:Int)(x:aN)(D:List Rest):Int:=D.foldl (fun n r=>W (n+gG (dZ x r))) n
def mkQs(s:aJ)(e:Event)(x:aN)(D:List Made):aJ:=D.foldl (fun s c=>mkQ s (fZ e x c)) s
def fG3(size:Int):Int->List Made->Int
 |n,[] =>if n=size then 0 else 29
 |n,c::R=>if size<c.size\/size<n then 29 else fG3 size (W (n+c.size)) R
def gStk(x:aN):ByteArray:=if x.isBar then x.bar.grade else x.sheet.grade
def hK(x:aN):ByteArray:=if x.isBar then x.bar.heat else x.sheet.heat
def begQ(x:aN)(e:Event):Int:=minI e.scrap (W (gG x+1))
def finQ(s:aJ)(k:Nat)(x:aN)(e:Event):aJ:=mkQs (fH1 {s with stocks:=nN s.stocks k} x e.rests) e x e.cuts
def cutQ(s:aJ)(k:Nat)(x:aN)(e:Event):aJ×Int:=
 if cZ x [] e.rests≠0 then(inv0,cZ x [] e.rests)else if fG3 (gG x) (sumQ (begQ x e) x e.rests) e.cuts≠0 then(inv0,29)
 else({finQ s k x e with scrap:=plus x.isBar (finQ s k x e).scrap e.scrap},0)
theorem fS6(x:aN):∀(D:List Rest) (s:aJ),(fH1 s x D).stocks.length=s.stocks.length+D.length/\(fH1 s x D).used.length=s.used.length+D.length/\(fH1 s x D).pieces=s.pieces
 | [],s=>⟨rfl,rfl,rfl⟩
 |r::D,s=>by
  obtain⟨h1,h2,h3⟩:=fS6 x D (addQ s (dZ x r));refine⟨h1.trans ?_,h2.trans ?_,h3⟩
  ·rw[show(addQ s (dZ x r)).stocks.length=s.stocks.length+1 from mQ,List.length_cons];omega
  ·rw[show(addQ s (dZ x r)).used.length=s.used.length+1 from mQ,List.length_cons];omega
theorem fX0(e:Event)(x:aN):∀(D:List Made) (s:aJ),(mkQs s e x D).pieces.length=s.pieces.length+D.length/\(mkQs s e x D).used.length=s.used.length+D.length
 | [],s=>⟨rfl,rfl⟩
 |r::D,s=>by
  obtain⟨h1,h2⟩:=fX0 e x D (mkQ s (fZ e x r));refine⟨h1.trans ?_,h2.trans ?_⟩
  ·rw[show(mkQ s (fZ e x r)).pieces.length=s.pieces.length+1 from mQ,List.length_cons];omega
  ·rw[show(mkQ s (fZ e x r)).used.length=s.used.length+1 from mQ,List.length_cons];omega
theorem gA5(s:aJ)(x:aN)(D:List Rest)(r:Rest):fH1 s x (D++[r])=addQ (fH1 s x D) (dZ x r):=by unfold fH1;simp
theorem gD3(n:Int)(x:aN)(D:List Rest)(r:Rest):sumQ n x (D++[r])=W (sumQ n x D+gG (dZ x r)):=by unfold sumQ;simp
theorem gD8(s:aJ)(e:Event)(x:aN)(D:List Made)(c:Made):mkQs s e x (D++[c])=mkQ (mkQs s e x D) (fZ e x c):=by unfold mkQs;simp
theorem fN1{b:Bool}{p q:Rest}:kP b p q↔kP b q p:=by
 unfold kP;split
 ·omega
 ·constructor<;>(rintro⟨h1,h2⟩;constructor<;>omega)
def gC3(s:aJ)(k:Nat)(x:aN)(e:Event)(o:aJ)(n:Int)(i:Nat):St:=
 mkSt [(1,I k),(3, .box 3 0),(5, .box 5 0),(6, .box 6 0),(7,I 0),(8, .box 8 0),(9, .box 9 0),(10,I n),(11,I i)] [(3,invC s),(5,iJ e),(6,zInv),(8,gB x),(9,invC o)] []
def fV5(s:aJ)(k:Nat)(x:aN)(e:Event)(o:aJ)(n:Int)(i:Nat)(y:aN)(j:Nat):St:=
 mkSt [(1,I k),(3, .box 3 0),(5, .box 5 0),(6, .box 6 0),(7,I 0),(8, .box 8 0),(9, .box 9 0),(10,I n),(11,I i),(12, .box 12 0),(14,I j)] [(3,invC s),(5,iJ e),(6,zInv),(8,gB x),(9,invC o),(12,gB y)] []
def fQ1(s:aJ)(k:Nat)(x:aN)(e:Event)(o:aJ)(n:Int)(i:Nat):St:=
 mkSt [(1,I k),(3, .box 3 0),(5, .box 5 0),(6, .box 6 0),(7,I 0),(8, .box 8 0),(9, .box 9 0),(10,I n),(15,S (gStk x)),(16,S (hK x)),(17,I i)] [(3,invC s),(5,iJ e),(6,zInv),(8,gB x),(9,invC o)] []
theorem gD2(s:aJ)(k:Nat)(x:aN)(e:Event)(hx:s.stocks[k]? =some x)(hs1:s.stocks.length<=900000)(hs2:s.pieces.length<=900000)(hs3:s.used.length<=900000)(hxs:eY x)(hc:e.cuts.length<=10000)(hr:e.rests.length<=10000):Sp 72 [invV s,I k,aS e] (.tup [invV (cutQ s k x e).1,I (cutQ s k x e).2]):=by
 refine zsp Tryz.func72 ?_;have hkl:=(List.getElem?_eq_some_iff.1 hx).1;have hml:(s.stocks.map aQ).length=s.stocks.length:=Af
 have hmc:(e.cuts.map dK).length=e.cuts.length:=Af;have hmr:(e.rests.map bY).length=e.rests.length:=Af
 have g1:=fG9 s k hkl Aa;have g2:=fJ6 x hxs
 have hlo:(nN s.stocks k).length<=s.stocks.length:=by unfold nN;rw[List.length_append,List.length_take,List.length_drop];omega
 have hQ1:cZ x [] e.rests≠0->cutQ s k x e=(inv0,cZ x [] e.rests):=fun h=>if_pos h;have hQ2:cZ x [] e.rests=0->fG3 (gG x) (sumQ (begQ x e) x e.rests) e.cuts≠0->cutQ s k x e=(inv0,29):=fun h1 h2=>(if_neg (fun h=>h h1)).trans (if_pos h2)
 have hQ3:cZ x [] e.rests=0->fG3 (gG x) (sumQ (begQ x e) x e.rests) e.cuts=0->cutQ s k x e=({finQ s k x e with scrap:=plus x.isBar (finQ s k x e).scrap e.scrap},0):=fun h1 h2=>(if_neg (fun h=>h h1)).trans (if_neg (fun h=>h h2))
 generalize cutQ s k x e=Q at*;unfold begQ at*;generalize hso:({s with stocks:=nN s.stocks k}:aJ)=so at*;have hso1:so.stocks.length<=900000:=by rw[<-hso];exact Nat.le_trans hlo hs1
 have hso2:so.pieces.length<=900000:=by rw[<-hso];exact hs2
 have hso3:so.used.length<=900000:=by rw[<-hso];exact hs3
 have hfin:finQ s k x e=mkQs (fH1 so x e.rests) e x e.cuts:=by rw[<-hso];rfl
 rw[hfin]at hQ3;clear hfin hso hlo;generalize gG x=z at*
 repeat' ((conv=>whnf);first|(exfalso;omega)|refine eZ1 Ak ?_|refine aB (l:=s.stocks) Aa ?_|refine gK (l:=s.stocks) hx Aa ?_|refine zc g1 ?_|refine zc g2 ?_|refine zg ?_|refine zi ?_|refine za ?_|refine zw ?_|refine zy ?_|refine zo ?_|refine zn ?_|refine zm (fun x hx=>?_)|refine zv ?_|refine zz (fun _=>?_) fun _=>?_|refine zb (fun _=>?_) fun _=>?_|refine zr ?_|refine zq ?_)
 generalize hb:minI e.scrap (W (z+1))=b0 at*;refine aU (A:=List Rest) (B:=List Rest) (fun D R=>gC3 s k x e (fH1 so x D) (sumQ b0 x D) D.length) (fun D R=>e.rests=D++R/\cZ x [] e.rests=cZ x D R) (fun D R=>R.length) [] e.rests ?_ ⟨rfl,rfl⟩ (fun D R hp=>?_)
 ·show Le T _ (gC3 s k x e so b0 0)
  exact zj
 obtain⟨hp,hE⟩:=hp;obtain⟨a1,a2,a3⟩:=fS6 x D so;generalize hDo:fH1 so x D=o at*;generalize hDn:sumQ b0 x D=n at*
 cases R with
 |cons r R=>
  have hlen:=aO hp;have hrm:r∈e.rests:=Ac
  have k1:=gB3 x r hxs;have hE':cZ x [] e.rests=(open Classical in if iG x r≠0 then iG x r else if∃q∈D,kP x.isBar q r then 12 else cZ x (D++[r]) R):=hE
  by_cases he:iG x r=0;rotate_left
  ·have hv:cZ x [] e.rests=iG x r:=by rw[hE',if_pos he]
   have hQ:=hQ1 (by rw[hv];exact he)
   rw[hQ,hv];generalize iG x r=er at*;generalize dZ x r=yr at*
   repeat' ((conv=>whnf);first|(exfalso;omega)|refine eZ1 Ak ?_|refine cC0 [(5,5),(8,8),(42,5),(12,12)] Ae Ak ?_|refine aB (l:=e.rests) Aa ?_|refine aF (l:=e.rests) (A:=D) (x:=r) (B:=R) hp Aa ?_|refine zc k1 ?_|refine zg ?_|refine zi ?_|refine za ?_|refine zw ?_|refine zy ?_|refine zo ?_|refine zn ?_|refine zm (fun x hx=>?_)|refine zv ?_|refine zz (fun _=>?_) fun _=>?_|refine zb (fun _=>?_) fun _=>?_|refine zr ?_|refine zq ?_)
   all_goals conv=>whnf
   all_goals first|exact aG rfl|exact aK rfl|exact aP rfl|exact zt|exact zu
  have hE2:cZ x [] e.rests=(open Classical in if∃q∈D,kP x.isBar q r then 12 else cZ x (D++[r]) R):=by rw[hE',if_neg (fun h=>h he)]
  have k2:=fJ6 (dZ x r) (aX5 hxs);have k3:=fN8 o (dZ x r) Aa Aa
  rw[he]at k1;have hso':=gA5 so x D r;have hsn':=gD3 b0 x D r
  rw[hDo]at hso';rw[hDn]at hsn';change Sp _ _ (invV (addQ o (dZ x r)))at k3;generalize dZ x r=yr at*;generalize addQ o yr=o2 at*;generalize gG yr=zrr at*
  repeat' ((conv=>whnf);first|(exfalso;omega)|refine eZ1 Ak ?_|refine cC0 [(5,5),(8,8),(42,5),(12,12)] Ae Ak ?_|refine aB (l:=e.rests) Aa ?_|refine aF (l:=e.rests) (A:=D) (x:=r) (B:=R) hp Aa ?_|refine zc k1 ?_|refine zg ?_|refine zi ?_|refine za ?_|refine zw ?_|refine zy ?_|refine zo ?_|refine zn ?_|refine zm (fun x hx=>?_)|refine zv ?_|refine zz (fun _=>?_) fun _=>?_|refine zb (fun _=>?_) fun _=>?_|refine zr ?_|refine zq ?_)
  refine aU (A:=List Rest) (B:=List Rest) (fun E S=>fV5 s k x e o n D.length yr E.length) (fun E S=>D=E++S/\∀q∈E,¬kP x.isBar q r) (fun E S=>S.length) [] D ?_ ⟨rfl,Af⟩ (fun E S hq=>?_)
  ·show Le T _ (fV5 s k x e o n D.length yr 0)
   exact zj
  obtain⟨hq,hEv⟩:=hq
  cases S with
  |nil=>
   have hlen2:D.length=E.length:=Am;have hno:¬∃q∈D,kP x.isBar q r:=by rintro⟨q,q1,q2⟩;rw[hq,List.append_nil]at q1;exact hEv q q1 q2
   rw[if_neg hno]at hE2
   repeat' ((conv=>whnf);first|(exfalso;omega)|refine eZ1 Ak ?_|refine zc k2 ?_|refine zc k3 ?_|refine zg ?_|refine zi ?_|refine za ?_|refine zw ?_|refine zy ?_|refine zo ?_|refine zn ?_|refine zm (fun x hx=>?_)|refine zv ?_|refine zz (fun _=>?_) fun _=>?_|refine zb (fun _=>?_) fun _=>?_|refine zr ?_|refine zq ?_)
   all_goals conv=>whnf
   refine⟨(D++[r],R),?_,⟨Ac,hE2⟩,Af⟩;show Le T _ (gC3 s k x e (fH1 so x (D++[r])) (sumQ b0 x (D++[r])) (D++[r]).length);rw[hso',hsn',List.length_append,List.length_singleton];unfold gC3;exact zj
  |cons q S=>
   have hlen2:=aO hq;have hp2:e.rests=E++q::(S++r::R):=GI
   have k4:=fR9 x.isBar r q;have hbad:kP x.isBar r q->cZ x [] e.rests=12:=fun h=>by rw[hE2,if_pos ⟨q,by rw[hq];simp,fN1.1 h⟩]
   have hgood:¬kP x.isBar r q->∀z∈E++[q],¬kP x.isBar z r:=fun h z hz=>by
    rcases List.mem_append.1 hz with hz|hz
    ·exact hEv z hz
    ·rw[List.mem_singleton.1 hz];exact fun w=>h (fN1.1 w)
   generalize kP x.isBar r q=ov at*
   repeat' ((conv=>whnf);first|(exfalso;omega)|refine eZ1 Ak ?_|refine aB (l:=e.rests) Aa ?_|refine aF (l:=e.rests) (A:=D) (x:=r) (B:=R) hp Aa ?_|refine aF (l:=e.rests) (A:=E) (x:=q) (B:=S++r::R) hp2 Aa ?_|refine zc k4 ?_|refine zg ?_|refine zi ?_|refine za ?_|refine zw ?_|refine zy ?_|refine zo ?_|refine zn ?_|refine zm (fun x hx=>?_)|refine zv ?_|refine zz (fun _=>?_) fun _=>?_|refine zb (fun _=>?_) fun _=>?_|refine zr ?_|refine zq ?_)
   all_goals conv=>whnf
   ·have hv:=hbad Ag
    rw[hQ1 (by rw[hv];decide),hv]
    all_goals conv=>whnf
    all_goals first|exact aG rfl|exact aK rfl|exact aP rfl|exact zt|exact zu
   ·refine⟨(E++[q],S),?_,⟨Am,hgood Ag⟩,Af⟩
    show Le T _ (fV5 s k x e o n D.length yr (E++[q]).length);rw[List.length_append,List.length_singleton];unfold fV5;exact zj
 |nil=>
 have hlen:e.rests.length=D.length:=Ac;have hDe:e.rests=D:=Ac
 have hE0:cZ x [] e.rests=0:=hE;replace hQ2:=hQ2 hE0;replace hQ3:=hQ3 hE0;rw[hDe,hDo,hDn]at hQ3;rw[hDe,hDn]at hQ2;clear hQ1 hE hE0
 repeat' ((conv=>whnf);first|(exfalso;omega)|refine eZ1 Ak ?_|refine zg ?_|refine zi ?_|refine za ?_|refine zw ?_|refine zy ?_|refine zo ?_|refine zn ?_|refine zm (fun x hx=>?_)|refine zv ?_|refine zz (fun _=>?_) fun _=>?_|refine zb (fun _=>?_) fun _=>?_|refine zr ?_|refine zq ?_)
 all_goals
  refine aU (A:=List Made) (B:=List Made) (fun D R=>fQ1 s k x e (mkQs o e x D) (D.foldl (fun n c=>W (n+c.size)) n) D.length) (fun D R=>e.cuts=D++R/\fG3 z n e.cuts=fG3 z (D.foldl (fun n c=>W (n+c.size)) n) R) (fun D R=>R.length) [] e.cuts ?_ ⟨rfl,rfl⟩ (fun D R hp=>?_)
  ·show Le T _ (fQ1 s k x e o n 0)
   unfold fQ1
   first
    |rw[show gStk x=x.bar.grade from if_pos Ag,show hK x=x.bar.heat from if_pos Ag]
    |rw[show gStk x=x.sheet.grade from if_neg (by simp_all),show hK x=x.sheet.heat from if_neg (by simp_all)]
   exact zj
  obtain⟨hp,hE⟩:=hp;obtain⟨b1,b2⟩:=fX0 e x D o;have hns:=gD8 o e x D;have hfs:∀c:Made,(D++[c]).foldl (fun n c=>W (n+c.size)) n=W (D.foldl (fun n c=>W (n+c.size)) n+c.size):=fun c=>Af
  generalize hDo3:mkQs o e x D=o3 at b1 b2 hns⊢;generalize D.foldl (fun n c=>W (n+c.size)) n=m at hE hfs⊢
  cases R with
  |cons c R=>
   have hlen:=aO hp;have hE':fG3 z n e.cuts=if z<c.size\/z<m then 29 else fG3 z (W (m+c.size)) R:=hE
   have k3:=fW8 o3 (fZ e x c) (by rw[b1,a3];omega) Aa
   change Sp _ _ (invV (mkQ o3 (fZ e x c)))at k3;by_cases hbad:z<c.size\/z<m
   ·rw[if_pos hbad]at hE'
    rw[hQ2 (by rw[hE'];decide)]
    repeat' ((conv=>whnf);first|(exfalso;omega)|refine eZ1 Ak ?_|refine aB (l:=e.cuts) Aa ?_|refine aF (l:=e.cuts) (A:=D) (x:=c) (B:=R) hp Aa ?_|refine zc g2 ?_|refine zg ?_|refine zi ?_|refine za ?_|refine zw ?_|refine zy ?_|refine zo ?_|refine zn ?_|refine zm (fun x hx=>?_)|refine zv ?_|refine zz (fun _=>?_) fun _=>?_|refine zb (fun _=>?_) fun _=>?_|refine zr ?_|refine zq ?_)
    all_goals conv=>whnf
    all_goals first|exact aG rfl|exact aK rfl|exact aP rfl|exact zt|exact zu
   ·rw[if_neg hbad]at hE'
    have hn1:=hns c;have hf1:=hfs c
    repeat' ((conv=>whnf);first|(exfalso;omega)|refine eZ1 Ak ?_|refine aB (l:=e.cuts) Aa ?_|refine aF (l:=e.cuts) (A:=D) (x:=c) (B:=R) hp Aa ?_|refine zc g2 ?_|refine zc k3 ?_|refine zg ?_|refine zi ?_|refine za ?_|refine zw ?_|refine zy ?_|refine zo ?_|refine zn ?_|refine zm (fun x hx=>?_)|refine zv ?_|refine zz (fun _=>?_) fun _=>?_|refine zb (fun _=>?_) fun _=>?_|refine zr ?_|refine zq ?_)
    all_goals conv=>whnf
    refine⟨(D++[c],R),?_,⟨Ac,by rw[hf1];exact hE'⟩,Af⟩
    show Le T _ (fQ1 s k x e (mkQs o e x (D++[c])) ((D++[c]).foldl (fun n c=>W (n+c.size)) n) (D++[c]).length);rw[hn1,hf1,List.length_append,List.length_singleton];unfold fQ1;exact zj
  |nil=>
   have hlen:e.cuts.length=D.length:=Ac;have hDe3:e.cuts=D:=Ac
   have hE':fG3 z n e.cuts=if m=z then 0 else 29:=hE
   by_cases hm:m=z;rotate_left
   ·rw[if_neg hm]at hE'
    rw[hQ2 (by rw[hE'];decide)]
    repeat' ((conv=>whnf);first|(exfalso;omega)|(exfalso;contradiction)|refine eZ1 Ak ?_|refine zc g2 ?_|refine zg ?_|refine zi ?_|refine za ?_|refine zw ?_|refine zy ?_|refine zo ?_|refine zn ?_|refine zm (fun x hx=>?_)|refine zv ?_|refine zz (fun _=>?_) fun _=>?_|refine zb (fun _=>?_) fun _=>?_|refine zr ?_|refine zq ?_)
    all_goals conv=>whnf
    all_goals first|exact aG rfl|exact aK rfl|exact aP rfl|exact zt|exact zu
   ·rw[if_pos hm]at hE'
    rw[hQ3 hE',hDe3,hDo3];rcases Bool.eq_false_or_eq_true x.isBar with hb9|hb9
    ·have gi:Sp 70 [B x.isBar] (I 1):=by rw[hb9];exact fG6 true
     exact PY
    ·have gi:Sp 70 [B x.isBar] (I 0):=by rw[hb9];exact fG6 false
     exact PY
def idsR(e:Event):List Int:=if e.kind=1 then [e.sheet.id]else if e.kind=2 then [e.bar.id]else fO e
def idSt(e:Event)(D:List Made):St:=match D with
 | [] =>mkSt [(1, .box 1 0),(3,nilV),(4,I 0)] [(1,iJ e)] []
 |d::D=>mkSt [(1, .box 1 0),(3, .arr 35 D.length),(4,I ((D.length:Int)+1))] [(1,iJ e)] [(35,⟨D.length, .own,3,((d::D).map Made.id).map I⟩)]
def fX5(e:Event)(D:List Rest):St:=match D with
 | [] =>mkSt [(1, .box 1 0),(3,nilV),(5,I 0)] [(1,iJ e)] []
 |d::D=>mkSt [(1, .box 1 0),(3, .arr 51 D.length),(5,I ((D.length:Int)+1))] [(1,iJ e)] [(51,⟨D.length, .own,3,((d::D).map Rest.id).map I⟩)]
def gE7(e:Event)(n:Nat)(C:List Int)(D:List Rest):St:=mkSt [(1, .box 1 0),(3, .arr 35 (n+D.length)),(5,I D.length)] [(1,iJ e)] [(35,⟨n+D.length, .own,3,(C++D.map Rest.id).map I⟩)]
theorem gC6(e:Event)(hc:e.cuts.length<=10000)(hr:e.rests.length<=10000):Sp 64 [aS e] (.own 3 ((idsR e).map I)):=by
 refine zsp Tryz.func64 ?_;have hmc:(e.cuts.map dK).length=e.cuts.length:=Af;have hmr:(e.rests.map bY).length=e.rests.length:=Af
 by_cases c1:e.kind=1
 ·have h:idsR e=[e.sheet.id] :=if_pos c1
  exact RN
 by_cases c2:e.kind=2
 ·have h:idsR e=[e.bar.id] :=(if_neg c1).trans (if_pos c2)
  exact RN
 have h:idsR e=fO e:=(if_neg c1).trans (if_neg c2);rw[h];clear h;have hids:fO e=e.cuts.map Made.id++e.rests.map Rest.id:=rfl
 generalize fO e=L at*
 repeat' ((conv=>whnf);first|(exfalso;omega)|refine zS ?_|refine ze (fun heq=>?_) (fun heq=>?_))
 refine aU (A:=List Made) (B:=List Made) (fun D R=>idSt e D) (fun D R=>e.cuts=D++R) (fun D R=>R.length) [] e.cuts ?_ rfl (fun D R hp=>?_)
 ·show Le T _ (idSt e [])
  exact zj
 cases R with
 |cons c R=>
  have hlen:=aO hp
  cases D with
  |nil=>
   have h0:([] :List Made).length=0:=rfl
   repeat' ((conv=>whnf);first|(exfalso;omega)|refine gX (of_decide_eq_true rfl) (dA rfl) (of_decide_eq_true rfl) ?_|refine zS ?_|refine zl (fun hlt=>?_) (fun hlt=>?_))
   all_goals conv=>whnf
   refine⟨([c],R),?_,Ac,Af⟩;show Le T _ (idSt e [c]);exact zj
  |cons d D=>
   have hd:(d::D).length=D.length+1:=rfl
   repeat' ((conv=>whnf);first|(exfalso;omega)|refine iH rfl (.inl rfl) rfl (of_decide_eq_true rfl) (dA rfl) (show(((d::D).map Made.id).map I).length+1<=1000000000 from Ef) ?_|refine zS ?_|refine zl (fun hlt=>?_) (fun hlt=>?_))
   all_goals conv=>whnf
   refine⟨(d::D++[c],R),?_,Ac,Af⟩;show Le T _ (idSt e (d::(D++[c])));unfold idSt;exact PK
 |nil=>
 have hlen:e.cuts.length=D.length:=Ac;have hDe:e.cuts=D:=Ac
 rw[hDe]at hids;clear hp hDe
 cases D with
 |nil=>
  have h0:([] :List Made).length=0:=rfl
  repeat' ((conv=>whnf);first|(exfalso;omega)|refine zS ?_|refine zl (fun hlt=>?_) (fun hlt=>?_))
  refine aU (A:=List Rest) (B:=List Rest) (fun D R=>fX5 e D) (fun D R=>e.rests=D++R) (fun D R=>R.length) [] e.rests ?_ rfl (fun D R hp=>?_)
  ·show Le T _ (fX5 e [])
   exact zj
  cases R with
  |cons c R=>
   have hlen:=aO hp
   cases D with
   |nil=>
    have h0:([] :List Rest).length=0:=rfl
    repeat' ((conv=>whnf);first|(exfalso;omega)|refine gX (of_decide_eq_true rfl) (dA rfl) (of_decide_eq_true rfl) ?_|refine zS ?_|refine zl (fun hlt=>?_) (fun hlt=>?_))
    all_goals conv=>whnf
    refine⟨([c],R),?_,Ac,Af⟩;show Le T _ (fX5 e [c]);exact zj
   |cons d D=>
    have hd:(d::D).length=D.length+1:=rfl
    repeat' ((conv=>whnf);first|(exfalso;omega)|refine iH rfl (.inl rfl) rfl (of_decide_eq_true rfl) (dA rfl) (show(((d::D).map Rest.id).map I).length+1<=1000000000 from Ef) ?_|refine zS ?_|refine zl (fun hlt=>?_) (fun hlt=>?_))
    all_goals conv=>whnf
    refine⟨(d::D++[c],R),?_,Ac,Af⟩;show Le T _ (fX5 e (d::(D++[c])));unfold fX5;exact PK
  |nil=>
   have hlen:e.rests.length=D.length:=Ac;have hDe:e.rests=D:=Ac
   have hL:L=D.map Rest.id:=by rw[hids,hDe];rfl
   rw[hL]
   cases D with
   |nil=>
    have h0:([] :List Rest).length=0:=rfl;exact QJ
   |cons d D=>exact MZ
 |cons d0 D0=>
  have hd0:(d0::D0).length=D0.length+1:=rfl
  repeat' ((conv=>whnf);first|(exfalso;omega)|refine zS ?_|refine zl (fun hlt=>?_) (fun hlt=>?_))
  have hCl:((d0::D0).map Made.id).length=D0.length+1:=Af;refine aU (A:=List Rest) (B:=List Rest) (fun D R=>gE7 e D0.length ((d0::D0).map Made.id) D) (fun D R=>e.rests=D++R) (fun D R=>R.length) [] e.rests ?_ rfl (fun D R hp=>?_)
  ·unfold gE7
   rw[List.map_nil,List.append_nil];exact zj
  generalize (d0::D0).map Made.id=C at*
  cases R with
  |cons c R=>
   have hlen:=aO hp;have hml:((C++D.map Rest.id).map I).length=C.length+D.length:=Af
   repeat' ((conv=>whnf);first|(exfalso;omega)|refine iH rfl (.inl rfl) rfl (of_decide_eq_true rfl) (dA rfl) (show((C++D.map Rest.id).map I).length+1<=1000000000 from Aa) ?_|refine zS ?_|refine zl (fun hlt=>?_) (fun hlt=>?_))
   all_goals conv=>whnf
   refine⟨(D++[c],R),?_,Ac,Af⟩;unfold gE7;simp only[List.length_append,List.length_singleton,List.map_cons,List.map_append,List.map_nil,<-List.append_assoc];exact zj
  |nil=>
   have hlen:e.rests.length=D.length:=Ac;have hDe:e.rests=D:=Ac
   rw[hDe]at hids;rw[hids];exact Qm
theorem fJ1:∀(l used:List Int),dP used l↔(∀x∈l,x∉used)/\l.Pairwise (·≠·)
 | [],used=>⟨fun _=>⟨fun x hx=>IX, .nil⟩,fun _=>trivial⟩
 |n::r,used=>by
  show(n∉used/\dP (putN used n) r)↔_;rw[fJ1 r (putN used n),List.pairwise_cons];constructor
  ·rintro⟨h1,h2,h3⟩
   refine⟨fun x hx=>?_,fun x hx e=>?_,h3⟩
   ·rcases List.mem_cons.1 hx with rfl|hx
    ·exact h1
    ·exact fun q=>h2 x hx (fH.2 (.inr q))
   ·exact h2 x hx (fH.2 (.inl e.symm))
  ·rintro⟨h1,h2,h3⟩
   refine⟨h1 n Af,fun x hx q=>?_,h3⟩;rcases fH.1 q with q|q
   ·exact h2 x hx q.symm
   ·exact h1 x Bq q
theorem fP6:∀ {l m:List Int},l.Pairwise (·<·)->m.Pairwise (·<·)->(∀x,x∈l↔x∈m)->l=m
 | [],[],_,_,_=>rfl
 | [],y::m,_,_,h=>by have:=(h y).2 (by simp);cases this
 |x::l,[],_,_,h=>by have:=(h x).1 (by simp);cases this
 |x::l,y::m,hl,hm,h=>by
  obtain⟨l1,l2⟩:=List.pairwise_cons.1 hl;obtain⟨m1,m2⟩:=List.pairwise_cons.1 hm
  have hxy:x=y:=by
   rcases List.mem_cons.1 ((h x).1 Af)with q|q
   ·exact q
   ·rcases List.mem_cons.1 ((h y).2 Af)with q'|q'
    ·exact q'.symm
    ·have:=m1 x q;have:=l1 y q';omega
  subst hxy;rw[fP6 l2 m2 fun z=>?_];constructor
  ·intro hz
   rcases List.mem_cons.1 ((h z).1 (by simp[hz]))with q|q
   ·have:=l1 z hz;omega
   ·exact q
  ·intro hz
   rcases List.mem_cons.1 ((h z).2 (by simp[hz]))with q|q
   ·have:=m1 z hz;omega
   ·exact q
theorem fL1:∀ {l used:List Int} {y:Int},y∈cO used l↔y∈used\/y∈l
 | [],used,y=>⟨.inl,fun h=>h.elim id (fun h=>Ah)⟩
 |n::r,used,y=>by
  show y∈cO (putN used n) r↔_;rw[fL1 (l:=r),List.mem_cons,show(y∈putN used n↔y=n\/y∈used)from fH];constructor
  ·rintro((h|h)|h)
   ·exact .inr (.inl h)
   ·exact .inl h
   ·exact .inr (.inr h)
  ·rintro(h|h|h)
   ·exact .inl (.inr h)
   ·exact .inl (.inl h)
   ·exact .inr h
theorem gB2(used a b:List Int):cO used (a++b)=cO (cO used a) b:=by unfold cO;rw[List.foldl_append]
theorem fU5{used a b:List Int}(h:dP used (a++b)):dP used (b++a):=by
 rw[fJ1]at h⊢;obtain⟨h1,h2⟩:=h;rw[List.pairwise_append]at h2⊢;exact⟨fun x hx=>h1 x (by simpa [or_comm]using hx),h2.2.1,h2.1,fun x hx y hy e=>h2.2.2 y hy x hx e.symm⟩
theorem fZ3{used a b:List Int}(hs:(used.map id).Pairwise (·<·))(h:dP used (a++b)):cO used (a++b)=cO used (b++a):=by
 have h1:=(aA8 _ _ hs h).1;have h2:=(aA8 _ _ hs (fU5 h)).1
 rw[List.map_id]at h1 h2;refine fP6 h1 h2 fun x=>?_;rw[fL1,fL1,List.mem_append,List.mem_append];constructor<;>(rintro(q|q|q)<;>simp[q])
theorem fF9{α:Type}{key:α->Int}:∀ {l:List α} {n:Int},(l.map key).Pairwise (·<·)->(∃m∈l,key m=n)->aC2 key l n=bs key l n:=fun {l n} hs hex=>by
 obtain⟨m,h1,h2⟩:=aB8 hs hex;have hlt:=(List.getElem?_eq_some_iff.1 h1).1;have hge:=(List.getElem?_eq_some_iff.1 h1).2
 have hsp:l=l.take (bs key l n)++m::l.drop (bs key l n+1):=by
  rw[<-hge,List.getElem_cons_drop,List.take_append_drop]
 have hD:∀x∈l.take (bs key l n),key x≠n:=fun x hx=>by
  rw[hsp,List.map_append,List.map_cons,List.pairwise_append]at hs;have:=hs.2.2 (key x) (List.mem_map_of_mem hx) (key m) Af;omega
 have:=fI9 (R:=l.drop (bs key l n+1)) hD h2;rw[<-hsp,List.length_take]at this;rw[this];omega
theorem fZ8(x:aN):∀(D:List Rest) (s:aJ),(∀r∈D,sid (dZ x r)=r.id)->fH1 s x D={s with stocks:=(D.map (dZ x)).foldl putS s.stocks,used:=cO s.used (D.map Rest.id)}
 | [],s,_=>rfl
 |r::D,s,h=>by
  show fH1 (addQ s (dZ x r)) x D=_;rw[fZ8 x D _ (fun q hq=>h q (by simp[hq]))]
  unfold addQ;rw[h r Af];rfl
theorem gB8(e:Event)(x:aN):∀(D:List Made) (s:aJ),mkQs s e x D={s with pieces:=D.foldl (fun p c=>putP p (fZ e x c)) s.pieces,used:=cO s.used (D.map Made.id)}
 | [],s=>rfl
 |c::D,s=>by
  show mkQs (mkQ s (fZ e x c)) e x D=_;rw[gB8 e x D];rfl
theorem fI0(x:aN):∀(R D:List Rest),cZ x D R=0->∀r∈R,iG x r=0
 | [],D,_,r,hr=>by cases hr
 |q::R,D,h,r,hr=>by
  classical
  unfold cZ at h;split at h
  ·rename_i hq;exact absurd h hq
  ·rename_i hq
   split at h
   ·cases h
   ·rcases List.mem_cons.1 hr with rfl|hr
    ·exact Classical.not_not.1 hq
    ·exact fI0 x R _ h r hr
theorem gH7{s:aJ}{e:Event}{k:Nat}{x:aN}(hs:(s.used.map id).Pairwise (·<·))(hr:cZ x [] e.rests=0)(hf:dP s.used (fO e)):finQ s k x e=cut4 s e k x (eG x e.rests) e.cuts:=by
 have h1:eG x e.rests=e.rests.map (dZ x):=by unfold eG;rw[if_pos hr]
 have h2:cO (cO s.used (e.rests.map Rest.id)) (e.cuts.map Made.id)=cO s.used (fO e):=by
  rw[<-gB2];exact(fZ3 hs hf).symm
 unfold finQ;rw[fZ8 x e.rests _ (fun r hr'=>cL1 (fI0 x _ _ hr r hr')),gB8,h1];unfold cut4 cut3 cut2 cut1;simp only;rw[h2]
theorem fN3:∀ {l:List Int},(∀c∈l,0<=c)->0<=l.sum
 | [],_=>Int.le_refl _
 |c::l,h=>by
  have h1:=h c Af;have h2:=fN3 (l:=l) (fun x hx=>h x Bq)
  rw[List.sum_cons];omega
theorem gI9{n c:Int}(h1: -1<=n)(h2:n<=1000000000000000000)(hc:0<=c):sub1 n c=if 0<=n/\c<=n then n-c else-1:=by
 unfold sub1;rw[lH,w_in (n:=n+1) Aa];split
 ·rw[w_in Aa];omega
 ·rw[w_in Aa];omega
theorem fP3:∀(l:List Int) (n:Int),-1<=n->n<=1000000000000000000->(∀c∈l,0<=c)->subL n l=if 0<=n/\l.sum<=n then n-l.sum else-1
 | [],n,h1,h2,_=>by
   show n=_;rw[List.sum_nil];split<;>omega
 |c::l,n,h1,h2,h=>by
  have hc:=h c Af;have hl:=fN3 (l:=l) (fun x hx=>h x Bq)
  show subL (sub1 n c) l=_;rw[gI9 h1 h2 hc,List.sum_cons];split
  ·rw[fP3 l _ Aa Aa (fun x hx=>h x Bq)]
   split<;>split<;>omega
  ·rw[fP3 l _ Aa Aa (fun x hx=>h x Bq)]
   split<;>split<;>omega
theorem fU4{z:Int}(hz:0<=z)(hz2:z<=1000000000000000000):∀(l:List Made) (n:Int),0<=n->(∀c∈l,1<=c.size)->(fG3 z n l=0↔n+(l.map Made.size).sum=z)
 | [],n,hn,_=>by
   show(if n=z then(0:Int)else 29)=0↔n+0=z
   split<;>omega
 |c::l,n,hn,h=>by
  have hc:=h c Af;have hl:=fN3 (l:=l.map Made.size) (fun x hx=>by obtain⟨m,hm,rfl⟩:=List.mem_map.1 hx;have:=h m (by simp[hm]);omega)
  show(if z<c.size\/z<n then(29:Int)else fG3 z (W (n+c.size)) l)=0↔_
  rw[List.map_cons,List.sum_cons];split
  ·constructor
   ·intro q;omega
   ·intro q;omega
  ·rw[w_in Aa,fU4 hz hz2 l _ Aa (fun x hx=>h x Bq)]
   omega
theorem fU9(x:aN):∀(D:List Rest) (n:Int),-1000000000000000<=n->n+D.length*100000000000000<=9000000000000000000->(∀r∈D,0<=gG (dZ x r)/\gG (dZ x r)<=100000000000000)->sumQ n x D=n+(D.map fun r=>gG (dZ x r)).sum
 | [],n,_,_,_=>by show n=n+0;omega
 |r::D,n,h1,h2,h=>by
  have hr:=h r Af;rw[List.length_cons]at h2;show sumQ (W (n+gG (dZ x r))) x D=_;rw[w_in Aa,fU9 x D _ Aa (by push_cast at h2;omega) (fun q hq=>h q (by simp[hq])),List.map_cons,List.sum_cons]
  omega
theorem gE9{x:aN}{e:Event}(hz:0<=gG x)(hz2:gG x<=100000000000000)(hsc:0<=e.scrap)(hc:∀c∈e.cuts,1<=c.size)(hl:e.rests.length<=10000)(hr0:cZ x [] e.rests=0)
 (hr:∀r∈e.rests,0<=gG (dZ x r)/\gG (dZ x r)<=100000000000000):fG3 (gG x) (sumQ (begQ x e) x e.rests) e.cuts=0↔nJ x e=e.scrap:=by
 have hb:begQ x e=min e.scrap (gG x+1):=by unfold begQ;rw[lH,w_in (by omega)]
 have h1:eG x e.rests=e.rests.map (dZ x):=by unfold eG;rw[if_pos hr0]
 have hR:=fN3 (l:=e.rests.map fun r=>gG (dZ x r)) (fun y hy=>CZ);have hC:=fN3 (l:=e.cuts.map Made.size) (fun y hy=>CU)
 rw[hb,fU9 x e.rests _ Aa Aa hr,fU4 hz Aa e.cuts _ Aa hc];unfold nJ;have hi:=fP3 (e.cuts.map Made.size) (gG x) Aa Aa (fun y hy=>CU);rw[h1,List.map_map,show(gG∘dZ x)=(fun r=>gG (dZ x r))from rfl,hi];clear hi;have hLn:∀c∈(e.rests.map fun r=>gG (dZ x r)),0<=c:=fun y hy=>CZ
 generalize (e.rests.map fun r=>gG (dZ x r))=L at*;rw[fP3 L _ (by split<;>omega) (by split<;>omega) hLn]
 generalize L.sum=a at*;generalize (e.cuts.map Made.size).sum=b at*;split
 ·split<;>omega
 ·split<;>omega
theorem fP5:∀(l:List Int) (n:Int),-1000000000000000<=n->n<0->(∀c∈l,0<=c)->subL n l<0
 | [],n,_,h,_=>h
 |c::l,n,h1,h2,hc=>by
  have e:subL n (c::l)=subL (sub1 n c) l:=rfl;have e1:sub1 n c= -1:=OW
  rw[e,e1];exact fP5 l (-1) Aa Aa (fun y hy=>hc y Hg)
theorem gH2{x:aN}{e:Event}(hz: -100000000000000<=gG x)(hz2:gG x<0)(hsc:0<=e.scrap)(hc:∀c∈e.cuts,1<=c.size)(hl:e.rests.length<=10000)(hr0:cZ x [] e.rests=0)
 (hr:∀r∈e.rests,0<=gG (dZ x r)/\gG (dZ x r)<=100000000000000):fG3 (gG x) (sumQ (begQ x e) x e.rests) e.cuts=0↔nJ x e=e.scrap:=by
 have hb:begQ x e=gG x+1:=by unfold begQ;rw[lH,w_in (by omega)];exact Int.min_eq_right (by omega)
 have h1:eG x e.rests=e.rests.map (dZ x):=by unfold eG;rw[if_pos hr0]
 have hR:=fN3 (l:=e.rests.map fun r=>gG (dZ x r)) (fun y hy=>CZ);rw[hb,fU9 x e.rests _ Aa Aa hr]
 have hL:nJ x e<0:=by
  unfold nJ;have g1:subL (gG x) (e.cuts.map Made.size)<0:=fP5 _ _ Aa hz2 (fun y hy=>CU)
  have g2: -1000000000000000<=subL (gG x) (e.cuts.map Made.size):=by
   cases hcc:e.cuts with
   |nil=>show-1000000000000000<=gG x;omega
   |cons c l=>
    have key:∀(l:List Int) (n:Int),-1<=n->n<0->(∀c∈l,0<=c)->-1<=subL n l:=by
     intro l
     induction l with
     |nil=>exact fun n h _ _=>h
     |cons c l ih=>
      intro n h1 h2 hc;have e1:sub1 n c= -1:=OW;show-1<=subL (sub1 n c) l;rw[e1];exact ih _ Aa Aa (fun y hy=>hc y Hg)
    rw[hcc]at hc;have hc0:=hc c (List.mem_cons_self ..)
    have e1:sub1 (gG x) c.size= -1:=by
     rw[sub1,lH,w_in (n:=gG x+1) Aa,Int.min_eq_right Aa,w_in Aa];omega
    show-1000000000000000<=subL (sub1 (gG x) c.size) (l.map Made.size);rw[e1];have:=key (l.map Made.size) (-1) Aa Aa (fun y hy=>by obtain⟨m,hm,rfl⟩:=List.mem_map.1 hy;have:=hc m (List.mem_cons_of_mem _ hm);omega)
    omega
  refine fP5 _ _ g2 g1 ?_;rw[h1];intro y hy;obtain⟨m,hm,rfl⟩:=List.mem_map.1 hy;obtain⟨q,hq,rfl⟩:=List.mem_map.1 hm;exact(hr q hq).1
 refine⟨fun h=>?_,fun h=>Aa⟩;exfalso;generalize (e.rests.map fun r=>gG (dZ x r)).sum=a at*
 cases hcc:e.cuts with
 |nil=>
  rw[hcc]at h;have h':(if gG x+1+a=gG x then(0:Int)else 29)=0:=h
  rw[if_neg Aa]at h';cases h'
 |cons c l=>
  have hc0:=hc c (by rw[hcc];exact List.mem_cons_self ..)
  rw[hcc]at h;have h':(if gG x<c.size\/gG x<gG x+1+a then(29:Int)else fG3 (gG x) (W (gG x+1+a+c.size)) l)=0:=h
  rw[if_pos Aa]at h';cases h'
end Go.Proofs.Led
