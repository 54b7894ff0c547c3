/-
  The library's Insert at one type of elements: the element x put in at the place i.
-/
import Derived.Test.YtkhhdojgbkophaaGreatQSI1
import Derived.Test.YtkhhdojgbkophaaGreatQSI3
import Derived.Test.YtkhhdojgbkophaaGreatQSI4
set_option linter.unusedVariables false
set_option linter.unusedSimpArgs false
set_option maxRecDepth 1000000
set_option maxHeartbeats 4000000
noncomputable section
namespace Go.Proofs.Led
open Go Go.Proofs Go.Ab
theorem dO8(l:List V)(x:V)(i:Nat)(hi:i<=l.length)(hl:l.length<=1000000000):Sp 141 [.own 90 l,I i, .own 90 [x]] (.own 90 (l.take i++x::l.drop i)):=by
 have eZ:(T.row 90).size=9:=Ad;refine⟨Ad,fun w G cs h1 h2 h3 h4 h5=>?_⟩;obtain⟨v0,v1,v2,rfl⟩:=arr3 h1;have r0:Rb T w G 0 v0 (.own 90 l):=h4 0 v0 _ rfl rfl
 have r1:v1= .int .i64 i:=aN3 (h4 1 v1 (I i) rfl rfl);have r2:Rb T w G 2 v2 (.own 90 [x]):=h4 2 v2 _ rfl rfl
 subst r1;obtain⟨hE,hpl,ho⟩:=r0;obtain⟨_,hpx,hx⟩:=r2;obtain⟨vb,vc,vcur,rfl,hvO,hv,hvs,hxl,hxr⟩:=bY9 hx;rw[eZ]at hvs hxr;have hxl':=hxl;rw[eZ]at hxl';have hpx':x.pure:=aH.1 hpx x Af
 have hpL:bM (l.take i++x::l.drop i):=aH.2 fun y hy=>Kr;have hlen:(l.take i++x::l.drop i).length=l.length+1:=AV
 have hone:∀v∈vcur.toList.take 9,v.oneCell'=true:=hxr.one;have hvl:(vcur.toList.take 9).length=9:=Be
 have hvw:vb<w.heap.size:=(Array.getElem?_eq_some_iff.1 hv).1;have hflat:(l.take i++x::l.drop i).flatMap V.cells=(l.take i).flatMap V.cells++x.cells++(l.drop i).flatMap V.cells:=DI
 rcases ho with⟨hn0,rfl⟩|⟨b,c,cur,rfl,hO,hb,hlc,hcm,hcs,hzl,hrl⟩
 ·have hi0:i=0:=by simpa using hi
  subst hi0;obtain⟨base,rfl⟩:∃base,v0= .slice base 0 0:=Nl;refine(bU5 base 0 0 vb vc [] vcur w (Nat.le_refl _) Aa Aa (fun _=>⟨rfl,rfl⟩) (fun a h j v hj=>by simp at hj) rfl hv hvs).mono ?_
  rintro e w' ⟨c',z,rfl,hc1,hc2,hzz,rfl⟩;have hz':∀y∈([x] :List V),y.cells.length=(T.row 90).size:=fun y hy=>ED;refine jM (L:=[x]) (n:=0+1) hE hpx rfl hz' ?_ Array.getElem?_push_size ?_ hc1 hc2 h2 h3 (.inr (Nat.le_refl _)) (fun q hq _=>?_) AU rfl rfl rfl
  ·rw[eZ]
   have e2:((([] :List Value).toArray++(vcur.toList.take 9).toArray++z).toList.take ((0+1)*9))=vcur.toList.take 9:=LG;rw[e2];simpa using hxr
  ·exact MX
  ·exact JL
 ·rw[eZ]at hcs hrl
  have hcur0:cur.toList.length=c*9:=Dx;have hzl':=hzl
  rw[eZ]at hzl';have hbw:b<w.heap.size:=(Array.getElem?_eq_some_iff.1 hb).1;have hne:vb≠b:=by rintro rfl;rw[hvO]at hO;cases hO
  have hz':∀y∈l.take i++x::l.drop i,y.cells.length=(T.row 90).size:=fun y hy=>Ky;obtain⟨f1,f2⟩:=xW hzl' hi
  have hA:RvL w G (cur.toList.take (i*9)) ((l.take i).flatMap V.cells):=by
   have:=aM1 hrl (i*9);exact TY
  have hM:RvL w G ((cur.toList.drop (i*9)).take ((l.length-i)*9)) ((l.drop i).flatMap V.cells):=by
   have:=aL4 hrl (i*9);rw[f2,List.drop_take,show l.length*9-i*9=(l.length-i)*9 from Aa]at this;exact this
  have hml:((cur.toList.drop (i*9)).take ((l.length-i)*9)).length=(l.length-i)*9:=BQ
  have hX:RvL w G (cur.toList.take (i*9)++vcur.toList.take 9++(cur.toList.drop (i*9)).take ((l.length-i)*9)) ((l.take i++x::l.drop i).flatMap V.cells):=by
   rw[hflat];exact oH (oH hA hxr) hM
  have ep:i*9+(vcur.toList.take 9).length=(i+1)*9:=CY;have et:i*9+(vcur.toList.take 9).length+((cur.toList.drop (i*9)).take ((l.length-i)*9)).length=(l.length+1)*9:=Jo
  have hc63:c<=9223372036854775807:=EX;by_cases hroom:l.length+1<=c
  ·by_cases hin:i<l.length
   ·refine(cU1 b l.length c i vb vc cur vcur w hin hroom hc63 hne hb hv hcs hvs hrl.one hone).mono ?_
    rintro e w' ⟨rfl,rfl⟩;have hs1:=lay_size (cur:=cur) (o:=(i+1)*9) (vs:=(cur.toList.drop (i*9)).take ((l.length-i)*9)) Ir;refine jM hE hpL hlen hz' (X:=lay (lay cur ((i+1)*9) ((cur.toList.drop (i*9)).take ((l.length-i)*9))) (i*9) (vcur.toList.take 9)) ?_ (setRow_heap _ b _ _ _ _ (setRow_heap w.drew b cur _ _ _ hb)) ?_ hroom hcm h2 h3 (.inl hO) (fun q hq hqb=>?_) ?_ rfl rfl rfl
    ·exact O5
    ·rw[lay_size II,hs1,hcs,eZ]
    ·exact Nj
    ·exact NP
   ·have hin':i=l.length:=by omega
    subst hin';refine(eJ1 b l.length c vb vc cur vcur w hroom hc63 hb hv hcs hvs hone).mono ?_;rintro e w' ⟨rfl,rfl⟩;refine jM hE hpL hlen hz' (X:=lay cur (l.length*9) (vcur.toList.take 9)) ?_ (setRow_heap w b cur _ _ _ hb) ?_ hroom hcm h2 h3 (.inl hO) (fun q hq hqb=>?_) ?_ rfl rfl rfl
    ·rw[eZ]
     have e0:(cur.toList.drop (l.length*9)).take ((l.length-l.length)*9)=[] :=List.length_eq_zero_iff.1 FY;rw[e0,List.append_nil]at hX;rw[show(l.length+1)*9=l.length*9+(vcur.toList.take 9).length from CY,layC Ff];exact hX
    ·rw[lay_size Ff,hcs,eZ]
    ·rw[setRow_other _ b q _ hqb]
    ·rw[size_setRow];exact Nat.le_refl _
  ·have hroom':c<l.length+1:=by omega
   by_cases hin:i<l.length
   ·refine(dT2 b l.length c i vb vc cur vcur w hin hlc hroom' hl hb hv hcs hvs hrl.one hone).mono ?_
    rintro e w' ⟨c',R,rfl,hc1,hc2,hRs,hRt,hN,hO',hsz,q1,q2,q3⟩;exact Qq
   ·have hin':i=l.length:=by omega
    subst hin';refine(bU5 (some ⟨b,0,none⟩) l.length c vb vc (cur.toList.take (l.length*9)) vcur w hlc hroom' hl (fun h=>Ah) (fun a ha j v hj=>?_) BZ hv hvs).mono ?_
    ·exact KL
    rintro e w' ⟨c',z,rfl,hc1,hc2,hzz,rfl⟩;have hcl:(cur.toList.take (l.length*9)).length=l.length*9:=BZ;refine jM hE hpL hlen hz' ?_ Array.getElem?_push_size ?_ hc1 hc2 h2 h3 (.inr (Nat.le_refl _)) (fun q hq _=>?_) AU rfl rfl rfl
    ·rw[eZ]
     have e0:(cur.toList.drop (l.length*9)).take ((l.length-l.length)*9)=[] :=List.length_eq_zero_iff.1 FY;rw[e0,List.append_nil]at hX
     have e2:(((cur.toList.take (l.length*9)).toArray++(vcur.toList.take 9).toArray++z).toList.take ((l.length+1)*9))=cur.toList.take (l.length*9)++vcur.toList.take 9:=by
      simp only[Array.toList_append];exact uI Jq
     rw[e2];exact hX
    ·exact N7
    ·exact JL
theorem dL7(l:List V)(x:V)(i:Nat)(hi:i<=l.length)(hl:l.length<=1000000000):Sp 196 [.own 88 l,I i, .own 88 [x]] (.own 88 (l.take i++x::l.drop i)):=by
 have eZ:(T.row 88).size=14:=Ad;refine⟨Ad,fun w G cs h1 h2 h3 h4 h5=>?_⟩;obtain⟨v0,v1,v2,rfl⟩:=arr3 h1;have r0:Rb T w G 0 v0 (.own 88 l):=h4 0 v0 _ rfl rfl
 have r1:v1= .int .i64 i:=aN3 (h4 1 v1 (I i) rfl rfl);have r2:Rb T w G 2 v2 (.own 88 [x]):=h4 2 v2 _ rfl rfl
 subst r1;obtain⟨hE,hpl,ho⟩:=r0;obtain⟨_,hpx,hx⟩:=r2;obtain⟨vb,vc,vcur,rfl,hvO,hv,hvs,hxl,hxr⟩:=bY9 hx;rw[eZ]at hvs hxr;have hxl':=hxl;rw[eZ]at hxl';have hpx':x.pure:=aH.1 hpx x Af
 have hpL:bM (l.take i++x::l.drop i):=aH.2 fun y hy=>Kr;have hlen:(l.take i++x::l.drop i).length=l.length+1:=AV
 have hone:∀v∈vcur.toList.take 14,v.oneCell'=true:=hxr.one;have hvl:(vcur.toList.take 14).length=14:=Be
 have hvw:vb<w.heap.size:=(Array.getElem?_eq_some_iff.1 hv).1;have hflat:(l.take i++x::l.drop i).flatMap V.cells=(l.take i).flatMap V.cells++x.cells++(l.drop i).flatMap V.cells:=DI
 rcases ho with⟨hn0,rfl⟩|⟨b,c,cur,rfl,hO,hb,hlc,hcm,hcs,hzl,hrl⟩
 ·have hi0:i=0:=by simpa using hi
  subst hi0;obtain⟨base,rfl⟩:∃base,v0= .slice base 0 0:=Nl;refine(bV1 base 0 0 vb vc [] vcur w (Nat.le_refl _) Aa Aa (fun _=>⟨rfl,rfl⟩) (fun a h j v hj=>by simp at hj) rfl hv hvs).mono ?_
  rintro e w' ⟨c',z,rfl,hc1,hc2,hzz,rfl⟩;have hz':∀y∈([x] :List V),y.cells.length=(T.row 88).size:=fun y hy=>ED;refine jM (L:=[x]) (n:=0+1) hE hpx rfl hz' ?_ Array.getElem?_push_size ?_ hc1 hc2 h2 h3 (.inr (Nat.le_refl _)) (fun q hq _=>?_) AU rfl rfl rfl
  ·rw[eZ]
   have e2:((([] :List Value).toArray++(vcur.toList.take 14).toArray++z).toList.take ((0+1)*14))=vcur.toList.take 14:=LG;rw[e2];simpa using hxr
  ·exact MX
  ·exact JL
 ·rw[eZ]at hcs hrl
  have hcur0:cur.toList.length=c*14:=Dx;have hzl':=hzl
  rw[eZ]at hzl';have hbw:b<w.heap.size:=(Array.getElem?_eq_some_iff.1 hb).1;have hne:vb≠b:=by rintro rfl;rw[hvO]at hO;cases hO
  have hz':∀y∈l.take i++x::l.drop i,y.cells.length=(T.row 88).size:=fun y hy=>Ky;obtain⟨f1,f2⟩:=xW hzl' hi;have hA:RvL w G (cur.toList.take (i*14)) ((l.take i).flatMap V.cells):=OL
  have hM:RvL w G ((cur.toList.drop (i*14)).take ((l.length-i)*14)) ((l.drop i).flatMap V.cells):=by
   have:=aL4 hrl (i*14);rw[f2,List.drop_take,show l.length*14-i*14=(l.length-i)*14 from Aa]at this;exact this
  have hml:((cur.toList.drop (i*14)).take ((l.length-i)*14)).length=(l.length-i)*14:=BQ
  have hX:RvL w G (cur.toList.take (i*14)++vcur.toList.take 14++(cur.toList.drop (i*14)).take ((l.length-i)*14)) ((l.take i++x::l.drop i).flatMap V.cells):=by
   rw[hflat];exact oH (oH hA hxr) hM
  have ep:i*14+(vcur.toList.take 14).length=(i+1)*14:=CY;have et:i*14+(vcur.toList.take 14).length+((cur.toList.drop (i*14)).take ((l.length-i)*14)).length=(l.length+1)*14:=Jo
  have hc63:c<=9223372036854775807:=EX;by_cases hroom:l.length+1<=c
  ·by_cases hin:i<l.length
   ·refine(dA1 b l.length c i vb vc cur vcur w hin hroom hc63 hne hb hv hcs hvs hrl.one hone).mono ?_
    rintro e w' ⟨rfl,rfl⟩;have hs1:=lay_size (cur:=cur) (o:=(i+1)*14) (vs:=(cur.toList.drop (i*14)).take ((l.length-i)*14)) Ir;refine jM hE hpL hlen hz' (X:=lay (lay cur ((i+1)*14) ((cur.toList.drop (i*14)).take ((l.length-i)*14))) (i*14) (vcur.toList.take 14)) ?_ (setRow_heap _ b _ _ _ _ (setRow_heap w.drew b cur _ _ _ hb)) ?_ hroom hcm h2 h3 (.inl hO) (fun q hq hqb=>?_) ?_ rfl rfl rfl
    ·exact O5
    ·rw[lay_size II,hs1,hcs,eZ]
    ·exact Nj
    ·exact NP
   ·have hin':i=l.length:=by omega
    subst hin';refine(eH9 b l.length c vb vc cur vcur w hroom hc63 hb hv hcs hvs hone).mono ?_;rintro e w' ⟨rfl,rfl⟩;refine jM hE hpL hlen hz' (X:=lay cur (l.length*14) (vcur.toList.take 14)) ?_ (setRow_heap w b cur _ _ _ hb) ?_ hroom hcm h2 h3 (.inl hO) (fun q hq hqb=>?_) ?_ rfl rfl rfl
    ·rw[eZ]
     have e0:(cur.toList.drop (l.length*14)).take ((l.length-l.length)*14)=[] :=List.length_eq_zero_iff.1 FY;rw[e0,List.append_nil]at hX;rw[show(l.length+1)*14=l.length*14+(vcur.toList.take 14).length from CY,layC Ff];exact hX
    ·rw[lay_size Ff,hcs,eZ]
    ·rw[setRow_other _ b q _ hqb]
    ·rw[size_setRow];exact Nat.le_refl _
  ·have hroom':c<l.length+1:=by omega
   by_cases hin:i<l.length
   ·refine(dN8 b l.length c i vb vc cur vcur w hin hlc hroom' hl hb hv hcs hvs hrl.one hone).mono ?_
    rintro e w' ⟨c',R,rfl,hc1,hc2,hRs,hRt,hN,hO',hsz,q1,q2,q3⟩;exact Qq
   ·have hin':i=l.length:=by omega
    subst hin';refine(bV1 (some ⟨b,0,none⟩) l.length c vb vc (cur.toList.take (l.length*14)) vcur w hlc hroom' hl (fun h=>Ah) (fun a ha j v hj=>?_) BZ hv hvs).mono ?_
    ·exact KL
    rintro e w' ⟨c',z,rfl,hc1,hc2,hzz,rfl⟩;have hcl:(cur.toList.take (l.length*14)).length=l.length*14:=BZ;refine jM hE hpL hlen hz' ?_ Array.getElem?_push_size ?_ hc1 hc2 h2 h3 (.inr (Nat.le_refl _)) (fun q hq _=>?_) AU rfl rfl rfl
    ·rw[eZ]
     have e0:(cur.toList.drop (l.length*14)).take ((l.length-l.length)*14)=[] :=List.length_eq_zero_iff.1 FY;rw[e0,List.append_nil]at hX
     have e2:(((cur.toList.take (l.length*14)).toArray++(vcur.toList.take 14).toArray++z).toList.take ((l.length+1)*14))=cur.toList.take (l.length*14)++vcur.toList.take 14:=by
      simp only[Array.toList_append];exact uI Jq
     rw[e2];exact hX
    ·exact N7
    ·exact JL
theorem dM5(l:List V)(x:V)(i:Nat)(hi:i<=l.length)(hl:l.length<=1000000000):Sp 191 [.own 3 l,I i, .own 3 [x]] (.own 3 (l.take i++x::l.drop i)):=by
 have eZ:(T.row 3).size=1:=Ad;refine⟨Ad,fun w G cs h1 h2 h3 h4 h5=>?_⟩;obtain⟨v0,v1,v2,rfl⟩:=arr3 h1;have r0:Rb T w G 0 v0 (.own 3 l):=h4 0 v0 _ rfl rfl
 have r1:v1= .int .i64 i:=aN3 (h4 1 v1 (I i) rfl rfl);have r2:Rb T w G 2 v2 (.own 3 [x]):=h4 2 v2 _ rfl rfl
 subst r1;obtain⟨hE,hpl,ho⟩:=r0;obtain⟨_,hpx,hx⟩:=r2;obtain⟨vb,vc,vcur,rfl,hvO,hv,hvs,hxl,hxr⟩:=bY9 hx;rw[eZ]at hvs hxr;have hxl':=hxl;rw[eZ]at hxl';have hpx':x.pure:=aH.1 hpx x Af
 have hpL:bM (l.take i++x::l.drop i):=aH.2 fun y hy=>Kr;have hlen:(l.take i++x::l.drop i).length=l.length+1:=AV
 have hone:∀v∈vcur.toList.take 1,v.oneCell'=true:=hxr.one;have hvl:(vcur.toList.take 1).length=1:=Be
 have hvw:vb<w.heap.size:=(Array.getElem?_eq_some_iff.1 hv).1;have hflat:(l.take i++x::l.drop i).flatMap V.cells=(l.take i).flatMap V.cells++x.cells++(l.drop i).flatMap V.cells:=DI
 rcases ho with⟨hn0,rfl⟩|⟨b,c,cur,rfl,hO,hb,hlc,hcm,hcs,hzl,hrl⟩
 ·have hi0:i=0:=by simpa using hi
  subst hi0;obtain⟨base,rfl⟩:∃base,v0= .slice base 0 0:=Nl;refine(bS0 base 0 0 vb vc [] vcur w (Nat.le_refl _) Aa Aa (fun _=>⟨rfl,rfl⟩) (fun a h j v hj=>by simp at hj) rfl hv hvs).mono ?_
  rintro e w' ⟨c',z,rfl,hc1,hc2,hzz,rfl⟩;have hz':∀y∈([x] :List V),y.cells.length=(T.row 3).size:=fun y hy=>ED;refine jM (L:=[x]) (n:=0+1) hE hpx rfl hz' ?_ Array.getElem?_push_size ?_ hc1 hc2 h2 h3 (.inr (Nat.le_refl _)) (fun q hq _=>?_) AU rfl rfl rfl
  ·rw[eZ]
   have e2:((([] :List Value).toArray++(vcur.toList.take 1).toArray++z).toList.take ((0+1)*1))=vcur.toList.take 1:=LG;rw[e2];simpa using hxr
  ·exact MX
  ·exact JL
 ·rw[eZ]at hcs hrl
  have hcur0:cur.toList.length=c*1:=Dx;have hzl':=hzl
  rw[eZ]at hzl';have hbw:b<w.heap.size:=(Array.getElem?_eq_some_iff.1 hb).1;have hne:vb≠b:=by rintro rfl;rw[hvO]at hO;cases hO
  have hz':∀y∈l.take i++x::l.drop i,y.cells.length=(T.row 3).size:=fun y hy=>Ky;obtain⟨f1,f2⟩:=xW hzl' hi
  have hA:RvL w G (cur.toList.take (i*1)) ((l.take i).flatMap V.cells):=by
   have:=aM1 hrl (i*1);exact TY
  have hM:RvL w G ((cur.toList.drop (i*1)).take ((l.length-i)*1)) ((l.drop i).flatMap V.cells):=by
   have:=aL4 hrl (i*1);rw[f2,List.drop_take,show l.length*1-i*1=(l.length-i)*1 from Aa]at this;exact this
  have hml:((cur.toList.drop (i*1)).take ((l.length-i)*1)).length=(l.length-i)*1:=BQ
  have hX:RvL w G (cur.toList.take (i*1)++vcur.toList.take 1++(cur.toList.drop (i*1)).take ((l.length-i)*1)) ((l.take i++x::l.drop i).flatMap V.cells):=by
   rw[hflat];exact oH (oH hA hxr) hM
  have ep:i*1+(vcur.toList.take 1).length=(i+1)*1:=CY;have et:i*1+(vcur.toList.take 1).length+((cur.toList.drop (i*1)).take ((l.length-i)*1)).length=(l.length+1)*1:=Jo
  have hc63:c<=9223372036854775807:=EX;by_cases hroom:l.length+1<=c
  ·by_cases hin:i<l.length
   ·refine(cS7 b l.length c i vb vc cur vcur w hin hroom hc63 hne hb hv hcs hvs hrl.one hone).mono ?_
    rintro e w' ⟨rfl,rfl⟩;have hs1:=lay_size (cur:=cur) (o:=(i+1)*1) (vs:=(cur.toList.drop (i*1)).take ((l.length-i)*1)) Ir;refine jM hE hpL hlen hz' (X:=lay (lay cur ((i+1)*1) ((cur.toList.drop (i*1)).take ((l.length-i)*1))) (i*1) (vcur.toList.take 1)) ?_ (setRow_heap _ b _ _ _ _ (setRow_heap w.drew b cur _ _ _ hb)) ?_ hroom hcm h2 h3 (.inl hO) (fun q hq hqb=>?_) ?_ rfl rfl rfl
    ·exact O5
    ·rw[lay_size II,hs1,hcs,eZ]
    ·exact Nj
    ·exact NP
   ·have hin':i=l.length:=by omega
    subst hin';refine(eF0 b l.length c vb vc cur vcur w hroom hc63 hb hv hcs hvs hone).mono ?_;rintro e w' ⟨rfl,rfl⟩;refine jM hE hpL hlen hz' (X:=lay cur (l.length*1) (vcur.toList.take 1)) ?_ (setRow_heap w b cur _ _ _ hb) ?_ hroom hcm h2 h3 (.inl hO) (fun q hq hqb=>?_) ?_ rfl rfl rfl
    ·rw[eZ]
     have e0:(cur.toList.drop (l.length*1)).take ((l.length-l.length)*1)=[] :=List.length_eq_zero_iff.1 FY;rw[e0,List.append_nil]at hX;rw[show(l.length+1)*1=l.length*1+(vcur.toList.take 1).length from CY,layC Ff];exact hX
    ·rw[lay_size Ff,hcs,eZ]
    ·rw[setRow_other _ b q _ hqb]
    ·rw[size_setRow];exact Nat.le_refl _
  ·have hroom':c<l.length+1:=by omega
   by_cases hin:i<l.length
   ·refine(dQ3 b l.length c i vb vc cur vcur w hin hlc hroom' hl hb hv hcs hvs hrl.one hone).mono ?_
    rintro e w' ⟨c',R,rfl,hc1,hc2,hRs,hRt,hN,hO',hsz,q1,q2,q3⟩;exact Qq
   ·have hin':i=l.length:=by omega
    subst hin';refine(bS0 (some ⟨b,0,none⟩) l.length c vb vc (cur.toList.take (l.length*1)) vcur w hlc hroom' hl (fun h=>Ah) (fun a ha j v hj=>?_) BZ hv hvs).mono ?_
    ·exact KL
    rintro e w' ⟨c',z,rfl,hc1,hc2,hzz,rfl⟩;have hcl:(cur.toList.take (l.length*1)).length=l.length*1:=BZ;refine jM hE hpL hlen hz' ?_ Array.getElem?_push_size ?_ hc1 hc2 h2 h3 (.inr (Nat.le_refl _)) (fun q hq _=>?_) AU rfl rfl rfl
    ·rw[eZ]
     have e0:(cur.toList.drop (l.length*1)).take ((l.length-l.length)*1)=[] :=List.length_eq_zero_iff.1 FY;rw[e0,List.append_nil]at hX
     have e2:(((cur.toList.take (l.length*1)).toArray++(vcur.toList.take 1).toArray++z).toList.take ((l.length+1)*1))=cur.toList.take (l.length*1)++vcur.toList.take 1:=by
      simp only[Array.toList_append];exact uI Jq
     rw[e2];exact hX
    ·exact N7
    ·exact JL
theorem dR6(l:List aN)(hl:l.length<=1000000):fnVC T Tryz.prog Tryz.f53 [.sl (l.map aQ)] (.own 88 (l.map aQ)):=by
 have hll:(l.map aQ).length=l.length:=Af;have hcl:∀y∈l.map aQ,y.cells.length=14:=fun y hy=>AX
 repeat' ((conv=>whnf);first|(refine bV3.mk rfl (of_decide_eq_true Ad) Ad (.inl rfl) ?_;intro b hb;cases b)|refine iH rfl (.inl rfl) rfl (of_decide_eq_true rfl) hcl (by show 0+(List.map aQ l).length<=_;omega) ?_|refine zS ?_|fail)
 all_goals conv=>whnf
 ·exact Np
 ·exact Kw
theorem aV4(l:List aN)(hl:l.length<=1000000):Sp 53 [.sl (l.map aQ)] (.own 88 (l.map aQ)):=zsp Tryz.func53 (dR6 l hl)
theorem dO4(l:List Piece)(hl:l.length<=1000000):fnVC T Tryz.prog Tryz.f54 [.sl (l.map aZ)] (.own 90 (l.map aZ)):=by
 have hll:(l.map aZ).length=l.length:=Af;have hcl:∀y∈l.map aZ,y.cells.length=9:=fun y hy=>AX
 repeat' ((conv=>whnf);first|(refine bV3.mk rfl (of_decide_eq_true Ad) Ad (.inl rfl) ?_;intro b hb;cases b)|refine iH rfl (.inl rfl) rfl (of_decide_eq_true rfl) hcl (by show 0+(List.map aZ l).length<=_;omega) ?_|refine zS ?_|fail)
 all_goals conv=>whnf
 ·exact Np
 ·exact Kw
theorem aV7(l:List Piece)(hl:l.length<=1000000):Sp 54 [.sl (l.map aZ)] (.own 90 (l.map aZ)):=zsp Tryz.func54 (dO4 l hl)
theorem dL1(l:List Int)(hl:l.length<=1000000):fnVC T Tryz.prog Tryz.f55 [.sl (l.map I)] (.own 3 (l.map I)):=by
 have hll:(l.map I).length=l.length:=Af;have hcl:∀y∈l.map I,y.cells.length=1:=fun y hy=>AX
 repeat' ((conv=>whnf);first|(refine bV3.mk rfl (of_decide_eq_true Ad) Ad (.inl rfl) ?_;intro b hb;cases b)|refine iH rfl (.inl rfl) rfl (of_decide_eq_true rfl) hcl (by show 0+(List.map I l).length<=_;omega) ?_|refine zS ?_|fail)
 all_goals conv=>whnf
 ·exact Np
 ·exact Kw
theorem aT5(l:List Int)(hl:l.length<=1000000):Sp 55 [.sl (l.map I)] (.own 3 (l.map I)):=zsp Tryz.func55 (dL1 l hl)
def stC(s:aJ):List V:=[.own 88 (s.stocks.map aQ), .own 90 (s.pieces.map aZ), .own 3 (s.used.map I),I s.received.1,I s.received.2,I s.scrap.1,I s.scrap.2]
structure Gd(s:aJ):Prop where
 ls:s.stocks.length<=1000000
 lp:s.pieces.length<=1000000
 lu:s.used.length<=1000000
 ss:(s.stocks.map sid).Pairwise (·<·)
 sp:(s.pieces.map Piece.id).Pairwise (·<·)
 su:(s.used.map id).Pairwise (·<·)
theorem eM1(s:aJ)(n:Int)(hs:Gd s):jR T Tryz.prog Tryz.f135 [.box 100000 0,I n] [stC s] (.tup [I (bs sid s.stocks n),DB (∃m∈s.stocks,sid m=n)]) [stC s] :=by
 have h1:=eB5 (g:=188) (t:=n) (fun m=>cR0 m n) s.stocks hs.ls hs.ss;generalize bs sid s.stocks n=k at*;generalize (∃m∈s.stocks,sid m=n)=P at*;exact Qy
theorem find_spec(s:aJ)(n:Int)(hs:Gd s):SpB 135 [.box 100000 0,I n] [stC s] (.tup [I (bs sid s.stocks n),DB (∃m∈s.stocks,sid m=n)]) [stC s] :=
 b_of Tryz.func135 Ad Ad rfl rfl (eM1 s n hs)
theorem dW2(s:aJ)(n:Int)(hs:Gd s):jR T Tryz.prog Tryz.f140 [.box 100000 0,I n] [stC s] (.tup [I (bs Piece.id s.pieces n),DB (∃m∈s.pieces,m.id=n)]) [stC s] :=by
 have h1:=eG9 (g:=198) (t:=n) (fun m=>cG0 m n) s.pieces hs.lp hs.sp;generalize bs Piece.id s.pieces n=k at*;generalize (∃m∈s.pieces,m.id=n)=P at*;exact Qy
theorem uQ(s:aJ)(n:Int)(hs:Gd s):SpB 140 [.box 100000 0,I n] [stC s] (.tup [I (bs Piece.id s.pieces n),DB (∃m∈s.pieces,m.id=n)]) [stC s] :=
 b_of Tryz.func140 Ad Ad rfl rfl (dW2 s n hs)
def putAt{α:Type}(l:List α)(i:Nat)(x:α):List α:=l.take i++x::l.drop i
theorem aR0{α:Type}(f:α->V)(l:List α)(i:Nat)(x:α):(l.map f).take i++f x::(l.map f).drop i=(putAt l i x).map f:=by
 unfold putAt;rw[List.map_append,List.map_cons,List.map_take,List.map_drop]
theorem bQ8{α:Type}(key:α->Int)(l:List α)(t:Int):bs key l t<=l.length:=by
 unfold bs;exact(List.takeWhile_prefix _).length_le
theorem dO3(l:List aN)(i:Nat)(x:aN)(hi:i<=l.length)(hl:l.length<=1000000000):Sp 196 [.own 88 (l.map aQ),I i, .own 88 [aQ x]] (.own 88 ((putAt l i x).map aQ)):=by
 have h:=dL7 (l.map aQ) (aQ x) i DU Bv;rw[aR0]at h;exact h
theorem bU8(l:List Piece)(i:Nat)(x:Piece)(hi:i<=l.length)(hl:l.length<=1000000000):Sp 141 [.own 90 (l.map aZ),I i, .own 90 [aZ x]] (.own 90 ((putAt l i x).map aZ)):=by
 have h:=dO8 (l.map aZ) (aZ x) i DU Bv;rw[aR0]at h;exact h
theorem bP5(l:List Int)(i:Nat)(x:Int)(hi:i<=l.length)(hl:l.length<=1000000000):Sp 191 [.own 3 (l.map I),I i, .own 3 [I x]] (.own 3 ((putAt l i x).map I)):=by
 have h:=dM5 (l.map I) (I x) i DU Bv;rw[aR0]at h;exact h
def putS(l:List aN)(x:aN):List aN:=putAt l (bs sid l (sid x)) x
def addS(s:aJ)(x:aN):aJ:={s with stocks:=putS s.stocks x}
theorem fD2(s:aJ)(x:aN)(hs:Gd s):jR T Tryz.prog Tryz.f139 [.box 100000 0,aQ x] [stC s] (.tup []) [stC (addS s x)] :=by
 have h1:=aE2 x;have h2:=find_spec s (sid x) hs
 have h3:=dO3 s.stocks (bs sid s.stocks (sid x)) x (bQ8 _ _ _) (by have:=hs.ls;omega)
 unfold addS putS;generalize sid x=n at*;generalize bs sid s.stocks n=k at*;generalize (∃m∈s.stocks,sid m=n)=P at*
 repeat' ((conv=>whnf);first|refine zh (h2) [100000] ?_|refine bW8 [] [(21,[88888])] trivial Ad ?_|refine zh (xX h3) [] ?_|refine zS ?_|fail)
 all_goals conv=>whnf
 all_goals first|exact⟨_,rfl,zc1⟩|exact zc1
theorem cF7(s:aJ)(x:aN)(hs:Gd s):SpB 139 [.box 100000 0,aQ x] [stC s] (.tup []) [stC (addS s x)] :=
 b_of Tryz.func139 Ad Ad rfl rfl (fD2 s x hs)
theorem fH{α:Type}{l:List α}{i:Nat}{x y:α}:y∈putAt l i x↔y=x\/y∈l:=by
 unfold putAt;rw[List.mem_append,List.mem_cons];constructor
 ·rintro(h|h|h)
  ·exact .inr (List.mem_of_mem_take h)
  ·exact .inl h
  ·exact .inr (List.mem_of_mem_drop h)
 ·rintro(h|h)
  ·exact .inr (.inl h)
  ·rw[<-List.take_append_drop i l,List.mem_append]at h
   rcases h with h|h
   ·exact .inl h
   ·exact .inr (.inr h)
theorem mQ{α:Type}{l:List α}{i:Nat}{x:α}:(putAt l i x).length=l.length+1:=by
 unfold putAt;rw[List.length_append,List.length_cons,List.length_take,List.length_drop];omega
theorem yR{α:Type}{key:α->Int}{x:α}:∀ {l:List α},(l.map key).Pairwise (·<·)->(∀m∈l,key m≠key x)->((putAt l (bs key l (key x)) x).map key).Pairwise (·<·)
 | [],_,_=>by simp[putAt]
 |y::r,hs,hx=>by
  rw[List.map_cons,List.pairwise_cons]at hs;obtain⟨h1,h2⟩:=hs;have hyx:=hx y Af;by_cases h:key y<key x
  ·have e:bs key (y::r) (key x)=bs key r (key x)+1:=by
    exact TQ
   have ih:=yR h2 (fun m hm=>hx m (by simp[hm]))
   rw[e];show List.Pairwise _ (key y::(putAt r (bs key r (key x)) x).map key);rw[List.pairwise_cons];refine⟨fun z hz=>?_,ih⟩;obtain⟨m,hm,rfl⟩:=List.mem_map.1 hz;rcases fH.1 hm with rfl|hm
   ·exact h
   ·exact h1 _ (List.mem_map_of_mem hm)
  ·have e:bs key (y::r) (key x)=0:=by
    unfold bs;rw[List.takeWhile_cons_of_neg Dq];rfl
   rw[e];show List.Pairwise _ (key x::key y::r.map key);rw[List.pairwise_cons,List.pairwise_cons];refine⟨fun z hz=>?_,h1,h2⟩;rcases List.mem_cons.1 hz with rfl|hz
   ·omega
   ·have:=h1 z hz
    omega
def putN(l:List Int)(n:Int):List Int:=putAt l (bs id l n) n
def cO(used ids:List Int):List Int:=ids.foldl putN used
def dP:List Int->List Int->Prop
 |_,[] =>True
 |used,n::r=>n∉used/\dP (putN used n) r
theorem rF{l:List Int}{n:Int}(hs:(l.map id).Pairwise (·<·))(hn:n∉l):((putN l n).map id).Pairwise (·<·):=
 yR (key:=id) (x:=n) hs (fun m hm e=>hn (by rw[<-show m=n from e];exact hm))
theorem aW4(used D:List Int)(n:Int):cO used (D++[n])=putN (cO used D) n:=by unfold cO;simp
def stB(s:aJ)(g:Nat):List V:=[.arr 100000 0, .arr 100001 0, .arr 100002 g,I s.received.1,I s.received.2,I s.scrap.1,I s.scrap.2]
def stA(s:aJ)(used:List Int)(g:Nat):List (Nat×AE):=[(100000,⟨0, .own,88,s.stocks.map aQ⟩),(100001,⟨0, .own,90,s.pieces.map aZ⟩),(100002,⟨g, .own,3,used.map I⟩)]
abbrev bots:List V:=[.bot, .bot, .bot, .bot, .bot, .bot, .bot]
theorem dR8(s:aJ)(ids:List Int)(hs:Gd s)(hl:s.used.length+ids.length<=1000000)(hok:dP s.used ids):jR T Tryz.prog Tryz.f136 [.box 100000 0, .sl (ids.map I)] [stC s] (I 0) [stC {s with used:=cO s.used ids}] :=by
 have hll:(ids.map I).length=ids.length:=Af
 repeat' ((conv=>whnf);first|refine zS ?_|fail)
 refine aU (A:=List Int) (B:=List Int) (fun D R=>mkSt [(0, .box 100000 0),(9, .sl (ids.map I)),(10,I ids.length),(11,I D.length)] [(100000,stB s D.length)] (stA s (cO s.used D) D.length))
  (fun D R=>ids=D++R/\((cO s.used D).map id).Pairwise (·<·)/\(cO s.used D).length=s.used.length+D.length/\(dP s.used ids↔dP (cO s.used D) R)) (fun D R=>R.length) [] ids ?_ ⟨rfl,hs.su,rfl,Iff.rfl⟩ (fun D R hp=>?_)
 ·exact Mc
 obtain⟨hp,hps,hpl,hpo⟩:=hp
 cases R with
 |nil=>
  have hlen:ids.length=D.length:=Ac;have e:ids=D:=Ac
  rw[e];rw[e]at hlen hll;exact QY
 |cons n R=>
  have hlen:=aO hp;have h1:=cQ0 n (cO s.used D) Ji hps
  have h2:=bP5 (cO s.used D) (bs id (cO s.used D) n) n (bQ8 _ _ _) Ji;have hsn:=aW4 s.used D n
  have hps2:=fun h=>rF (n:=n) hps h;have hlp:(putN (cO s.used D) n).length=(cO s.used D).length+1:=mQ
  have hq:dP (cO s.used D) (n::R)↔n∉cO s.used D/\dP (putN (cO s.used D) n) R:=Iff.rfl;have hmm:(∃m∈cO s.used D,m=n)↔n∈cO s.used D:=⟨fun⟨m,h,e⟩=>e▸h,fun h=>⟨n,h,rfl⟩⟩
  have hlD:((D++[n]).length:Int)=(D.length:Int)+1:=Af;generalize cO s.used D=U at*;have hpu:putN U n=putAt U (bs id U n) n:=rfl
  rw[<-hpu]at h2;generalize bs id U n=k at*;generalize putN U n=U' at*;generalize (∃m∈U,m=n)=P at*
  repeat' ((conv=>whnf);first|(exfalso;omega)|(refine aS5 (h1) true ?_ rfl ?_;focus ((repeat' (first|exact trivial|refine And.intro ?_ ?_|with_reducible rfl|exact(fun h=>Ah)|exact rfl));done))|refine zh (xX h2) [] ?_|refine zS ?_|refine zT ?_ ?_<;>intro _|fail)
  all_goals conv=>whnf
  ·exact absurd (hmm.1 Ag) (hq.1 (hpo.1 hok)).1
  all_goals refine⟨(D++[n],R),?_,⟨Ac,Ej,Ed,CG⟩,Af⟩
  exact Qc
theorem aT7(s:aJ)(ids:List Int)(hs:Gd s)(hl:s.used.length+ids.length<=1000000)(hok:dP s.used ids):SpB 136 [.box 100000 0, .sl (ids.map I)] [stC s] (I 0) [stC {s with used:=cO s.used ids}] :=
 b_of Tryz.func136 Ad Ad rfl rfl (dR8 s ids hs hl hok)
theorem dN4(s:aJ)(ids:List Int)(hs:Gd s)(hl:s.used.length+ids.length<=1000000)(hok:¬dP s.used ids):jR T Tryz.prog Tryz.f136 [.box 100000 0, .sl (ids.map I)] [stC s] (I 7) [bots] :=by
 have hll:(ids.map I).length=ids.length:=Af
 repeat' ((conv=>whnf);first|refine zS ?_|fail)
 refine aU (A:=List Int) (B:=List Int) (fun D R=>mkSt [(0, .box 100000 0),(9, .sl (ids.map I)),(10,I ids.length),(11,I D.length)] [(100000,stB s D.length)] (stA s (cO s.used D) D.length))
  (fun D R=>ids=D++R/\((cO s.used D).map id).Pairwise (·<·)/\(cO s.used D).length=s.used.length+D.length/\(dP s.used ids↔dP (cO s.used D) R)) (fun D R=>R.length) [] ids ?_ ⟨rfl,hs.su,rfl,Iff.rfl⟩ (fun D R hp=>?_)
 ·exact Mc
 obtain⟨hp,hps,hpl,hpo⟩:=hp
 cases R with
 |nil=>
  have hlen:ids.length=D.length:=Ac;have e:ids=D:=Ac
  exact absurd (hpo.2 trivial) hok
 |cons n R=>
  have hlen:=aO hp;have h1:=cQ0 n (cO s.used D) Ji hps
  have h2:=bP5 (cO s.used D) (bs id (cO s.used D) n) n (bQ8 _ _ _) Ji;have hsn:=aW4 s.used D n
  have hps2:=fun h=>rF (n:=n) hps h;have hlp:(putN (cO s.used D) n).length=(cO s.used D).length+1:=mQ
  have hq:dP (cO s.used D) (n::R)↔n∉cO s.used D/\dP (putN (cO s.used D) n) R:=Iff.rfl;have hmm:(∃m∈cO s.used D,m=n)↔n∈cO s.used D:=⟨fun⟨m,h,e⟩=>e▸h,fun h=>⟨n,h,rfl⟩⟩
  have hlD:((D++[n]).length:Int)=(D.length:Int)+1:=Af;generalize cO s.used D=U at*;have hpu:putN U n=putAt U (bs id U n) n:=rfl
  rw[<-hpu]at h2;generalize bs id U n=k at*;generalize putN U n=U' at*;generalize (∃m∈U,m=n)=P at*
  repeat' ((conv=>whnf);first|(exfalso;omega)|(refine aS5 (h1) true ?_ rfl ?_;focus ((repeat' (first|exact trivial|refine And.intro ?_ ?_|with_reducible rfl|exact(fun h=>Ah)|exact rfl));done))|refine zh (xX h2) [] ?_|refine zS ?_|refine zT ?_ ?_<;>intro _|fail)
  all_goals conv=>whnf
  ·skip
   all_goals conv=>whnf
   all_goals first|exact⟨_,rfl,zc1⟩|exact zc1
  all_goals refine⟨(D++[n],R),?_,⟨Ac,Ej,Ed,CG⟩,Af⟩
  exact Qc
theorem aU4(s:aJ)(ids:List Int)(hs:Gd s)(hl:s.used.length+ids.length<=1000000)(hok:¬dP s.used ids):SpB 136 [.box 100000 0, .sl (ids.map I)] [stC s] (I 7) [bots] :=
 b_of Tryz.func136 Ad Ad rfl rfl (dN4 s ids hs hl hok)
end Go.Proofs.Led
