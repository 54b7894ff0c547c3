/-
  The library's Insert at one type of elements: the element x put in at the place i.
-/
import Derived.Test.YtkhhdojgbkophaaGreatDoorBSI1
import Derived.Test.YtkhhdojgbkophaaGreatDoorBSI3
import Derived.Test.YtkhhdojgbkophaaGreatDoorBSI4
set_option linter.unusedVariables false
set_option linter.unusedSimpArgs false
set_option maxRecDepth 1000000
set_option maxHeartbeats 4000000
noncomputable section
namespace Go.Proofs.Led
open Go Go.Proofs Go.Ab
theorem dO8(l:List V)(x:V)(i:Nat)(hi:i<=l.length)(hl:l.length<=1000000000):Sp 75 [.own 78 l,I i, .own 78 [x]] (.own 78 (l.take i++x::l.drop i)):=by
 have eZ:(T.row 78).size=9:=Ac;refine⟨Ac,fun w G cs h1 h2 h3 h4 h5=>?_⟩;obtain⟨v0,v1,v2,rfl⟩:=arr3 h1;have r0:Rb T w G 0 v0 (.own 78 l):=h4 0 v0 _ rfl rfl
 have r1:v1= .int .i64 i:=aN3 (h4 1 v1 (I i) rfl rfl);have r2:Rb T w G 2 v2 (.own 78 [x]):=h4 2 v2 _ rfl rfl
 subst r1;obtain⟨hE,hpl,ho⟩:=r0;obtain⟨_,hpx,hx⟩:=r2;obtain⟨vb,vc,vcur,rfl,hvO,hv,hvs,hxl,hxr⟩:=bY9 hx;rw[eZ]at hvs hxr;have hxl':=hxl;rw[eZ]at hxl';have hpx':x.pure:=aH.1 hpx x Ae
 have hpL:bM (l.take i++x::l.drop i):=aH.2 fun y hy=>IL;have hlen:(l.take i++x::l.drop i).length=l.length+1:=Ai
 have hone:∀v∈vcur.toList.take 9,v.oneCell'=true:=hxr.one;have hvl:(vcur.toList.take 9).length=9:=AA
 have hvw:vb<w.heap.size:=(Array.getElem?_eq_some_iff.1 hv).1;have hflat:(l.take i++x::l.drop i).flatMap V.cells=(l.take i).flatMap V.cells++x.cells++(l.drop i).flatMap V.cells:=CQ
 rcases ho with⟨hn0,rfl⟩|⟨b,c,cur,rfl,hO,hb,hlc,hcm,hcs,hzl,hrl⟩
 ·have hi0:i=0:=by simpa using hi
  subst hi0;obtain⟨base,rfl⟩:∃base,v0= .slice base 0 0:=JQ;refine(bU5 base 0 0 vb vc [] vcur w (Nat.le_refl _) Aa Aa (fun _=>⟨rfl,rfl⟩) (fun a h j v hj=>by simp at hj) rfl hv hvs).mono ?_
  rintro e w' ⟨c',z,rfl,hc1,hc2,hzz,rfl⟩;have hz':∀y∈([x] :List V),y.cells.length=(T.row 78).size:=fun y hy=>D6;refine jM (L:=[x]) (n:=0+1) hE hpx rfl hz' ?_ Array.getElem?_push_size ?_ hc1 hc2 h2 h3 (.inr (Nat.le_refl _)) (fun q hq _=>?_) Az rfl rfl rfl
  ·rw[eZ]
   have e2:((([] :List Value).toArray++(vcur.toList.take 9).toArray++z).toList.take ((0+1)*9))=vcur.toList.take 9:=Jt;rw[e2];simpa using hxr
  ·exact JI
  ·exact I7
 ·rw[eZ]at hcs hrl
  have hcur0:cur.toList.length=c*9:=Cc;have hzl':=hzl
  rw[eZ]at hzl';have hbw:b<w.heap.size:=(Array.getElem?_eq_some_iff.1 hb).1;have hne:vb≠b:=by rintro rfl;rw[hvO]at hO;cases hO
  have hz':∀y∈l.take i++x::l.drop i,y.cells.length=(T.row 78).size:=fun y hy=>IW;obtain⟨f1,f2⟩:=xW hzl' hi
  have hA:RvL w G (cur.toList.take (i*9)) ((l.take i).flatMap V.cells):=by
   have:=aM1 hrl (i*9);exact Pv
  have hM:RvL w G ((cur.toList.drop (i*9)).take ((l.length-i)*9)) ((l.drop i).flatMap V.cells):=by
   have:=aL4 hrl (i*9);rw[f2,List.drop_take,show l.length*9-i*9=(l.length-i)*9 from Aa]at this;exact this
  have hml:((cur.toList.drop (i*9)).take ((l.length-i)*9)).length=(l.length-i)*9:=Bq
  have hX:RvL w G (cur.toList.take (i*9)++vcur.toList.take 9++(cur.toList.drop (i*9)).take ((l.length-i)*9)) ((l.take i++x::l.drop i).flatMap V.cells):=by
   rw[hflat];exact oH (oH hA hxr) hM
  have ep:i*9+(vcur.toList.take 9).length=(i+1)*9:=BL;have et:i*9+(vcur.toList.take 9).length+((cur.toList.drop (i*9)).take ((l.length-i)*9)).length=(l.length+1)*9:=H7
  have hc63:c<=9223372036854775807:=DV;by_cases hroom:l.length+1<=c
  ·by_cases hin:i<l.length
   ·refine(cU1 b l.length c i vb vc cur vcur w hin hroom hc63 hne hb hv hcs hvs hrl.one hone).mono ?_
    rintro e w' ⟨rfl,rfl⟩;have hs1:=lay_size (cur:=cur) (o:=(i+1)*9) (vs:=(cur.toList.drop (i*9)).take ((l.length-i)*9)) Gu;refine jM hE hpL hlen hz' (X:=lay (lay cur ((i+1)*9) ((cur.toList.drop (i*9)).take ((l.length-i)*9))) (i*9) (vcur.toList.take 9)) ?_ (setRow_heap _ b _ _ _ _ (setRow_heap w.drew b cur _ _ _ hb)) ?_ hroom hcm h2 h3 (.inl hO) (fun q hq hqb=>?_) ?_ rfl rfl rfl
    ·exact LC
    ·rw[lay_size GN,hs1,hcs,eZ]
    ·exact JO
    ·exact KF
   ·have hin':i=l.length:=by omega
    subst hin';refine(eJ1 b l.length c vb vc cur vcur w hroom hc63 hb hv hcs hvs hone).mono ?_;rintro e w' ⟨rfl,rfl⟩;refine jM hE hpL hlen hz' (X:=lay cur (l.length*9) (vcur.toList.take 9)) ?_ (setRow_heap w b cur _ _ _ hb) ?_ hroom hcm h2 h3 (.inl hO) (fun q hq hqb=>?_) ?_ rfl rfl rfl
    ·rw[eZ]
     have e0:(cur.toList.drop (l.length*9)).take ((l.length-l.length)*9)=[] :=List.length_eq_zero_iff.1 EH;rw[e0,List.append_nil]at hX;rw[show(l.length+1)*9=l.length*9+(vcur.toList.take 9).length from BL,layC DZ];exact hX
    ·rw[lay_size DZ,hcs,eZ]
    ·rw[setRow_other _ b q _ hqb]
    ·rw[size_setRow];exact Nat.le_refl _
  ·have hroom':c<l.length+1:=by omega
   by_cases hin:i<l.length
   ·refine(dT2 b l.length c i vb vc cur vcur w hin hlc hroom' hl hb hv hcs hvs hrl.one hone).mono ?_
    rintro e w' ⟨c',R,rfl,hc1,hc2,hRs,hRt,hN,hO',hsz,q1,q2,q3⟩;exact Nr
   ·have hin':i=l.length:=by omega
    subst hin';refine(bU5 (some ⟨b,0,none⟩) l.length c vb vc (cur.toList.take (l.length*9)) vcur w hlc hroom' hl (fun h=>Ad) (fun a ha j v hj=>?_) BA hv hvs).mono ?_
    ·exact Je
    rintro e w' ⟨c',z,rfl,hc1,hc2,hzz,rfl⟩;have hcl:(cur.toList.take (l.length*9)).length=l.length*9:=BA;refine jM hE hpL hlen hz' ?_ Array.getElem?_push_size ?_ hc1 hc2 h2 h3 (.inr (Nat.le_refl _)) (fun q hq _=>?_) Az rfl rfl rfl
    ·rw[eZ]
     have e0:(cur.toList.drop (l.length*9)).take ((l.length-l.length)*9)=[] :=List.length_eq_zero_iff.1 EH;rw[e0,List.append_nil]at hX
     have e2:(((cur.toList.take (l.length*9)).toArray++(vcur.toList.take 9).toArray++z).toList.take ((l.length+1)*9))=cur.toList.take (l.length*9)++vcur.toList.take 9:=by
      simp only[Array.toList_append];exact uI H9
     rw[e2];exact hX
    ·exact Kr
    ·exact I7
theorem dL7(l:List V)(x:V)(i:Nat)(hi:i<=l.length)(hl:l.length<=1000000000):Sp 120 [.own 87 l,I i, .own 87 [x]] (.own 87 (l.take i++x::l.drop i)):=by
 have eZ:(T.row 87).size=14:=Ac;refine⟨Ac,fun w G cs h1 h2 h3 h4 h5=>?_⟩;obtain⟨v0,v1,v2,rfl⟩:=arr3 h1;have r0:Rb T w G 0 v0 (.own 87 l):=h4 0 v0 _ rfl rfl
 have r1:v1= .int .i64 i:=aN3 (h4 1 v1 (I i) rfl rfl);have r2:Rb T w G 2 v2 (.own 87 [x]):=h4 2 v2 _ rfl rfl
 subst r1;obtain⟨hE,hpl,ho⟩:=r0;obtain⟨_,hpx,hx⟩:=r2;obtain⟨vb,vc,vcur,rfl,hvO,hv,hvs,hxl,hxr⟩:=bY9 hx;rw[eZ]at hvs hxr;have hxl':=hxl;rw[eZ]at hxl';have hpx':x.pure:=aH.1 hpx x Ae
 have hpL:bM (l.take i++x::l.drop i):=aH.2 fun y hy=>IL;have hlen:(l.take i++x::l.drop i).length=l.length+1:=Ai
 have hone:∀v∈vcur.toList.take 14,v.oneCell'=true:=hxr.one;have hvl:(vcur.toList.take 14).length=14:=AA
 have hvw:vb<w.heap.size:=(Array.getElem?_eq_some_iff.1 hv).1;have hflat:(l.take i++x::l.drop i).flatMap V.cells=(l.take i).flatMap V.cells++x.cells++(l.drop i).flatMap V.cells:=CQ
 rcases ho with⟨hn0,rfl⟩|⟨b,c,cur,rfl,hO,hb,hlc,hcm,hcs,hzl,hrl⟩
 ·have hi0:i=0:=by simpa using hi
  subst hi0;obtain⟨base,rfl⟩:∃base,v0= .slice base 0 0:=JQ;refine(bV1 base 0 0 vb vc [] vcur w (Nat.le_refl _) Aa Aa (fun _=>⟨rfl,rfl⟩) (fun a h j v hj=>by simp at hj) rfl hv hvs).mono ?_
  rintro e w' ⟨c',z,rfl,hc1,hc2,hzz,rfl⟩;have hz':∀y∈([x] :List V),y.cells.length=(T.row 87).size:=fun y hy=>D6;refine jM (L:=[x]) (n:=0+1) hE hpx rfl hz' ?_ Array.getElem?_push_size ?_ hc1 hc2 h2 h3 (.inr (Nat.le_refl _)) (fun q hq _=>?_) Az rfl rfl rfl
  ·rw[eZ]
   have e2:((([] :List Value).toArray++(vcur.toList.take 14).toArray++z).toList.take ((0+1)*14))=vcur.toList.take 14:=Jt;rw[e2];simpa using hxr
  ·exact JI
  ·exact I7
 ·rw[eZ]at hcs hrl
  have hcur0:cur.toList.length=c*14:=Cc;have hzl':=hzl
  rw[eZ]at hzl';have hbw:b<w.heap.size:=(Array.getElem?_eq_some_iff.1 hb).1;have hne:vb≠b:=by rintro rfl;rw[hvO]at hO;cases hO
  have hz':∀y∈l.take i++x::l.drop i,y.cells.length=(T.row 87).size:=fun y hy=>IW;obtain⟨f1,f2⟩:=xW hzl' hi;have hA:RvL w G (cur.toList.take (i*14)) ((l.take i).flatMap V.cells):=LV
  have hM:RvL w G ((cur.toList.drop (i*14)).take ((l.length-i)*14)) ((l.drop i).flatMap V.cells):=by
   have:=aL4 hrl (i*14);rw[f2,List.drop_take,show l.length*14-i*14=(l.length-i)*14 from Aa]at this;exact this
  have hml:((cur.toList.drop (i*14)).take ((l.length-i)*14)).length=(l.length-i)*14:=Bq
  have hX:RvL w G (cur.toList.take (i*14)++vcur.toList.take 14++(cur.toList.drop (i*14)).take ((l.length-i)*14)) ((l.take i++x::l.drop i).flatMap V.cells):=by
   rw[hflat];exact oH (oH hA hxr) hM
  have ep:i*14+(vcur.toList.take 14).length=(i+1)*14:=BL;have et:i*14+(vcur.toList.take 14).length+((cur.toList.drop (i*14)).take ((l.length-i)*14)).length=(l.length+1)*14:=H7
  have hc63:c<=9223372036854775807:=DV;by_cases hroom:l.length+1<=c
  ·by_cases hin:i<l.length
   ·refine(dA1 b l.length c i vb vc cur vcur w hin hroom hc63 hne hb hv hcs hvs hrl.one hone).mono ?_
    rintro e w' ⟨rfl,rfl⟩;have hs1:=lay_size (cur:=cur) (o:=(i+1)*14) (vs:=(cur.toList.drop (i*14)).take ((l.length-i)*14)) Gu;refine jM hE hpL hlen hz' (X:=lay (lay cur ((i+1)*14) ((cur.toList.drop (i*14)).take ((l.length-i)*14))) (i*14) (vcur.toList.take 14)) ?_ (setRow_heap _ b _ _ _ _ (setRow_heap w.drew b cur _ _ _ hb)) ?_ hroom hcm h2 h3 (.inl hO) (fun q hq hqb=>?_) ?_ rfl rfl rfl
    ·exact LC
    ·rw[lay_size GN,hs1,hcs,eZ]
    ·exact JO
    ·exact KF
   ·have hin':i=l.length:=by omega
    subst hin';refine(eH9 b l.length c vb vc cur vcur w hroom hc63 hb hv hcs hvs hone).mono ?_;rintro e w' ⟨rfl,rfl⟩;refine jM hE hpL hlen hz' (X:=lay cur (l.length*14) (vcur.toList.take 14)) ?_ (setRow_heap w b cur _ _ _ hb) ?_ hroom hcm h2 h3 (.inl hO) (fun q hq hqb=>?_) ?_ rfl rfl rfl
    ·rw[eZ]
     have e0:(cur.toList.drop (l.length*14)).take ((l.length-l.length)*14)=[] :=List.length_eq_zero_iff.1 EH;rw[e0,List.append_nil]at hX;rw[show(l.length+1)*14=l.length*14+(vcur.toList.take 14).length from BL,layC DZ];exact hX
    ·rw[lay_size DZ,hcs,eZ]
    ·rw[setRow_other _ b q _ hqb]
    ·rw[size_setRow];exact Nat.le_refl _
  ·have hroom':c<l.length+1:=by omega
   by_cases hin:i<l.length
   ·refine(dN8 b l.length c i vb vc cur vcur w hin hlc hroom' hl hb hv hcs hvs hrl.one hone).mono ?_
    rintro e w' ⟨c',R,rfl,hc1,hc2,hRs,hRt,hN,hO',hsz,q1,q2,q3⟩;exact Nr
   ·have hin':i=l.length:=by omega
    subst hin';refine(bV1 (some ⟨b,0,none⟩) l.length c vb vc (cur.toList.take (l.length*14)) vcur w hlc hroom' hl (fun h=>Ad) (fun a ha j v hj=>?_) BA hv hvs).mono ?_
    ·exact Je
    rintro e w' ⟨c',z,rfl,hc1,hc2,hzz,rfl⟩;have hcl:(cur.toList.take (l.length*14)).length=l.length*14:=BA;refine jM hE hpL hlen hz' ?_ Array.getElem?_push_size ?_ hc1 hc2 h2 h3 (.inr (Nat.le_refl _)) (fun q hq _=>?_) Az rfl rfl rfl
    ·rw[eZ]
     have e0:(cur.toList.drop (l.length*14)).take ((l.length-l.length)*14)=[] :=List.length_eq_zero_iff.1 EH;rw[e0,List.append_nil]at hX
     have e2:(((cur.toList.take (l.length*14)).toArray++(vcur.toList.take 14).toArray++z).toList.take ((l.length+1)*14))=cur.toList.take (l.length*14)++vcur.toList.take 14:=by
      simp only[Array.toList_append];exact uI H9
     rw[e2];exact hX
    ·exact Kr
    ·exact I7
theorem dM5(l:List V)(x:V)(i:Nat)(hi:i<=l.length)(hl:l.length<=1000000000):Sp 115 [.own 3 l,I i, .own 3 [x]] (.own 3 (l.take i++x::l.drop i)):=by
 have eZ:(T.row 3).size=1:=Ac;refine⟨Ac,fun w G cs h1 h2 h3 h4 h5=>?_⟩;obtain⟨v0,v1,v2,rfl⟩:=arr3 h1;have r0:Rb T w G 0 v0 (.own 3 l):=h4 0 v0 _ rfl rfl
 have r1:v1= .int .i64 i:=aN3 (h4 1 v1 (I i) rfl rfl);have r2:Rb T w G 2 v2 (.own 3 [x]):=h4 2 v2 _ rfl rfl
 subst r1;obtain⟨hE,hpl,ho⟩:=r0;obtain⟨_,hpx,hx⟩:=r2;obtain⟨vb,vc,vcur,rfl,hvO,hv,hvs,hxl,hxr⟩:=bY9 hx;rw[eZ]at hvs hxr;have hxl':=hxl;rw[eZ]at hxl';have hpx':x.pure:=aH.1 hpx x Ae
 have hpL:bM (l.take i++x::l.drop i):=aH.2 fun y hy=>IL;have hlen:(l.take i++x::l.drop i).length=l.length+1:=Ai
 have hone:∀v∈vcur.toList.take 1,v.oneCell'=true:=hxr.one;have hvl:(vcur.toList.take 1).length=1:=AA
 have hvw:vb<w.heap.size:=(Array.getElem?_eq_some_iff.1 hv).1;have hflat:(l.take i++x::l.drop i).flatMap V.cells=(l.take i).flatMap V.cells++x.cells++(l.drop i).flatMap V.cells:=CQ
 rcases ho with⟨hn0,rfl⟩|⟨b,c,cur,rfl,hO,hb,hlc,hcm,hcs,hzl,hrl⟩
 ·have hi0:i=0:=by simpa using hi
  subst hi0;obtain⟨base,rfl⟩:∃base,v0= .slice base 0 0:=JQ;refine(bS0 base 0 0 vb vc [] vcur w (Nat.le_refl _) Aa Aa (fun _=>⟨rfl,rfl⟩) (fun a h j v hj=>by simp at hj) rfl hv hvs).mono ?_
  rintro e w' ⟨c',z,rfl,hc1,hc2,hzz,rfl⟩;have hz':∀y∈([x] :List V),y.cells.length=(T.row 3).size:=fun y hy=>D6;refine jM (L:=[x]) (n:=0+1) hE hpx rfl hz' ?_ Array.getElem?_push_size ?_ hc1 hc2 h2 h3 (.inr (Nat.le_refl _)) (fun q hq _=>?_) Az rfl rfl rfl
  ·rw[eZ]
   have e2:((([] :List Value).toArray++(vcur.toList.take 1).toArray++z).toList.take ((0+1)*1))=vcur.toList.take 1:=Jt;rw[e2];simpa using hxr
  ·exact JI
  ·exact I7
 ·rw[eZ]at hcs hrl
  have hcur0:cur.toList.length=c*1:=Cc;have hzl':=hzl
  rw[eZ]at hzl';have hbw:b<w.heap.size:=(Array.getElem?_eq_some_iff.1 hb).1;have hne:vb≠b:=by rintro rfl;rw[hvO]at hO;cases hO
  have hz':∀y∈l.take i++x::l.drop i,y.cells.length=(T.row 3).size:=fun y hy=>IW;obtain⟨f1,f2⟩:=xW hzl' hi
  have hA:RvL w G (cur.toList.take (i*1)) ((l.take i).flatMap V.cells):=by
   have:=aM1 hrl (i*1);exact Pv
  have hM:RvL w G ((cur.toList.drop (i*1)).take ((l.length-i)*1)) ((l.drop i).flatMap V.cells):=by
   have:=aL4 hrl (i*1);rw[f2,List.drop_take,show l.length*1-i*1=(l.length-i)*1 from Aa]at this;exact this
  have hml:((cur.toList.drop (i*1)).take ((l.length-i)*1)).length=(l.length-i)*1:=Bq
  have hX:RvL w G (cur.toList.take (i*1)++vcur.toList.take 1++(cur.toList.drop (i*1)).take ((l.length-i)*1)) ((l.take i++x::l.drop i).flatMap V.cells):=by
   rw[hflat];exact oH (oH hA hxr) hM
  have ep:i*1+(vcur.toList.take 1).length=(i+1)*1:=BL;have et:i*1+(vcur.toList.take 1).length+((cur.toList.drop (i*1)).take ((l.length-i)*1)).length=(l.length+1)*1:=H7
  have hc63:c<=9223372036854775807:=DV;by_cases hroom:l.length+1<=c
  ·by_cases hin:i<l.length
   ·refine(cS7 b l.length c i vb vc cur vcur w hin hroom hc63 hne hb hv hcs hvs hrl.one hone).mono ?_
    rintro e w' ⟨rfl,rfl⟩;have hs1:=lay_size (cur:=cur) (o:=(i+1)*1) (vs:=(cur.toList.drop (i*1)).take ((l.length-i)*1)) Gu;refine jM hE hpL hlen hz' (X:=lay (lay cur ((i+1)*1) ((cur.toList.drop (i*1)).take ((l.length-i)*1))) (i*1) (vcur.toList.take 1)) ?_ (setRow_heap _ b _ _ _ _ (setRow_heap w.drew b cur _ _ _ hb)) ?_ hroom hcm h2 h3 (.inl hO) (fun q hq hqb=>?_) ?_ rfl rfl rfl
    ·exact LC
    ·rw[lay_size GN,hs1,hcs,eZ]
    ·exact JO
    ·exact KF
   ·have hin':i=l.length:=by omega
    subst hin';refine(eF0 b l.length c vb vc cur vcur w hroom hc63 hb hv hcs hvs hone).mono ?_;rintro e w' ⟨rfl,rfl⟩;refine jM hE hpL hlen hz' (X:=lay cur (l.length*1) (vcur.toList.take 1)) ?_ (setRow_heap w b cur _ _ _ hb) ?_ hroom hcm h2 h3 (.inl hO) (fun q hq hqb=>?_) ?_ rfl rfl rfl
    ·rw[eZ]
     have e0:(cur.toList.drop (l.length*1)).take ((l.length-l.length)*1)=[] :=List.length_eq_zero_iff.1 EH;rw[e0,List.append_nil]at hX;rw[show(l.length+1)*1=l.length*1+(vcur.toList.take 1).length from BL,layC DZ];exact hX
    ·rw[lay_size DZ,hcs,eZ]
    ·rw[setRow_other _ b q _ hqb]
    ·rw[size_setRow];exact Nat.le_refl _
  ·have hroom':c<l.length+1:=by omega
   by_cases hin:i<l.length
   ·refine(dQ3 b l.length c i vb vc cur vcur w hin hlc hroom' hl hb hv hcs hvs hrl.one hone).mono ?_
    rintro e w' ⟨c',R,rfl,hc1,hc2,hRs,hRt,hN,hO',hsz,q1,q2,q3⟩;exact Nr
   ·have hin':i=l.length:=by omega
    subst hin';refine(bS0 (some ⟨b,0,none⟩) l.length c vb vc (cur.toList.take (l.length*1)) vcur w hlc hroom' hl (fun h=>Ad) (fun a ha j v hj=>?_) BA hv hvs).mono ?_
    ·exact Je
    rintro e w' ⟨c',z,rfl,hc1,hc2,hzz,rfl⟩;have hcl:(cur.toList.take (l.length*1)).length=l.length*1:=BA;refine jM hE hpL hlen hz' ?_ Array.getElem?_push_size ?_ hc1 hc2 h2 h3 (.inr (Nat.le_refl _)) (fun q hq _=>?_) Az rfl rfl rfl
    ·rw[eZ]
     have e0:(cur.toList.drop (l.length*1)).take ((l.length-l.length)*1)=[] :=List.length_eq_zero_iff.1 EH;rw[e0,List.append_nil]at hX
     have e2:(((cur.toList.take (l.length*1)).toArray++(vcur.toList.take 1).toArray++z).toList.take ((l.length+1)*1))=cur.toList.take (l.length*1)++vcur.toList.take 1:=by
      simp only[Array.toList_append];exact uI H9
     rw[e2];exact hX
    ·exact Kr
    ·exact I7
theorem dR6(l:List aN)(hl:l.length<=1000000):fnVC T Tryz.prog Tryz.f33 [.sl (l.map aQ)] (.own 87 (l.map aQ)):=by
 have hll:(l.map aQ).length=l.length:=Ae;have hcl:∀y∈l.map aQ,y.cells.length=14:=fun y hy=>AY
 repeat' ((conv=>whnf);first|(refine bV3.mk rfl (of_decide_eq_true Ac) Ac (.inl rfl) ?_;intro b hb;cases b)|refine iH rfl (.inl rfl) rfl (of_decide_eq_true rfl) hcl (by show 0+(List.map aQ l).length<=_;omega) ?_|refine zS ?_|fail)
 all_goals conv=>whnf
 ·exact JR
 ·exact IV
theorem aV4(l:List aN)(hl:l.length<=1000000):Sp 33 [.sl (l.map aQ)] (.own 87 (l.map aQ)):=zsp Tryz.func33 (dR6 l hl)
theorem dO4(l:List Piece)(hl:l.length<=1000000):fnVC T Tryz.prog Tryz.f34 [.sl (l.map aZ)] (.own 78 (l.map aZ)):=by
 have hll:(l.map aZ).length=l.length:=Ae;have hcl:∀y∈l.map aZ,y.cells.length=9:=fun y hy=>AY
 repeat' ((conv=>whnf);first|(refine bV3.mk rfl (of_decide_eq_true Ac) Ac (.inl rfl) ?_;intro b hb;cases b)|refine iH rfl (.inl rfl) rfl (of_decide_eq_true rfl) hcl (by show 0+(List.map aZ l).length<=_;omega) ?_|refine zS ?_|fail)
 all_goals conv=>whnf
 ·exact JR
 ·exact IV
theorem aV7(l:List Piece)(hl:l.length<=1000000):Sp 34 [.sl (l.map aZ)] (.own 78 (l.map aZ)):=zsp Tryz.func34 (dO4 l hl)
theorem dL1(l:List Int)(hl:l.length<=1000000):fnVC T Tryz.prog Tryz.f35 [.sl (l.map I)] (.own 3 (l.map I)):=by
 have hll:(l.map I).length=l.length:=Ae;have hcl:∀y∈l.map I,y.cells.length=1:=fun y hy=>AY
 repeat' ((conv=>whnf);first|(refine bV3.mk rfl (of_decide_eq_true Ac) Ac (.inl rfl) ?_;intro b hb;cases b)|refine iH rfl (.inl rfl) rfl (of_decide_eq_true rfl) hcl (by show 0+(List.map I l).length<=_;omega) ?_|refine zS ?_|fail)
 all_goals conv=>whnf
 ·exact JR
 ·exact IV
theorem aT5(l:List Int)(hl:l.length<=1000000):Sp 35 [.sl (l.map I)] (.own 3 (l.map I)):=zsp Tryz.func35 (dL1 l hl)
def stC(s:aJ):List V:=[.own 87 (s.stocks.map aQ), .own 78 (s.pieces.map aZ), .own 3 (s.used.map I),I s.received.1,I s.received.2,I s.scrap.1,I s.scrap.2]
structure Gd(s:aJ):Prop where
 ls:s.stocks.length<=1000000
 lp:s.pieces.length<=1000000
 lu:s.used.length<=1000000
 ss:(s.stocks.map sid).Pairwise (·<·)
 sp:(s.pieces.map Piece.id).Pairwise (·<·)
 su:(s.used.map id).Pairwise (·<·)
theorem eM1(s:aJ)(n:Int)(hs:Gd s):jR T Tryz.prog Tryz.f69 [.box 100000 0,I n] [stC s] (.tup [I (bs sid s.stocks n),DB (∃m∈s.stocks,sid m=n)]) [stC s] :=by
 have h1:=eB5 (g:=113) (t:=n) (fun m=>cR0 m n) s.stocks hs.ls hs.ss;generalize bs sid s.stocks n=k at*;generalize (∃m∈s.stocks,sid m=n)=P at*;exact Nu
theorem find_spec(s:aJ)(n:Int)(hs:Gd s):SpB 69 [.box 100000 0,I n] [stC s] (.tup [I (bs sid s.stocks n),DB (∃m∈s.stocks,sid m=n)]) [stC s] :=
 b_of Tryz.func69 Ac Ac rfl rfl (eM1 s n hs)
theorem dW2(s:aJ)(n:Int)(hs:Gd s):jR T Tryz.prog Tryz.f74 [.box 100000 0,I n] [stC s] (.tup [I (bs Piece.id s.pieces n),DB (∃m∈s.pieces,m.id=n)]) [stC s] :=by
 have h1:=eG9 (g:=122) (t:=n) (fun m=>cG0 m n) s.pieces hs.lp hs.sp;generalize bs Piece.id s.pieces n=k at*;generalize (∃m∈s.pieces,m.id=n)=P at*;exact Nu
theorem uQ(s:aJ)(n:Int)(hs:Gd s):SpB 74 [.box 100000 0,I n] [stC s] (.tup [I (bs Piece.id s.pieces n),DB (∃m∈s.pieces,m.id=n)]) [stC s] :=
 b_of Tryz.func74 Ac Ac rfl rfl (dW2 s n hs)
def putAt{α:Type}(l:List α)(i:Nat)(x:α):List α:=l.take i++x::l.drop i
theorem aR0{α:Type}(f:α->V)(l:List α)(i:Nat)(x:α):(l.map f).take i++f x::(l.map f).drop i=(putAt l i x).map f:=by
 unfold putAt;rw[List.map_append,List.map_cons,List.map_take,List.map_drop]
theorem bQ8{α:Type}(key:α->Int)(l:List α)(t:Int):bs key l t<=l.length:=by
 unfold bs;exact(List.takeWhile_prefix _).length_le
theorem dO3(l:List aN)(i:Nat)(x:aN)(hi:i<=l.length)(hl:l.length<=1000000000):Sp 120 [.own 87 (l.map aQ),I i, .own 87 [aQ x]] (.own 87 ((putAt l i x).map aQ)):=by
 have h:=dL7 (l.map aQ) (aQ x) i CW AZ;rw[aR0]at h;exact h
theorem bU8(l:List Piece)(i:Nat)(x:Piece)(hi:i<=l.length)(hl:l.length<=1000000000):Sp 75 [.own 78 (l.map aZ),I i, .own 78 [aZ x]] (.own 78 ((putAt l i x).map aZ)):=by
 have h:=dO8 (l.map aZ) (aZ x) i CW AZ;rw[aR0]at h;exact h
theorem bP5(l:List Int)(i:Nat)(x:Int)(hi:i<=l.length)(hl:l.length<=1000000000):Sp 115 [.own 3 (l.map I),I i, .own 3 [I x]] (.own 3 ((putAt l i x).map I)):=by
 have h:=dM5 (l.map I) (I x) i CW AZ;rw[aR0]at h;exact h
def putS(l:List aN)(x:aN):List aN:=putAt l (bs sid l (sid x)) x
def addS(s:aJ)(x:aN):aJ:={s with stocks:=putS s.stocks x}
theorem fD2(s:aJ)(x:aN)(hs:Gd s):jR T Tryz.prog Tryz.f73 [.box 100000 0,aQ x] [stC s] (.tup []) [stC (addS s x)] :=by
 have h1:=aE2 x;have h2:=find_spec s (sid x) hs
 have h3:=dO3 s.stocks (bs sid s.stocks (sid x)) x (bQ8 _ _ _) (by have:=hs.ls;omega)
 unfold addS putS;generalize sid x=n at*;generalize bs sid s.stocks n=k at*;generalize (∃m∈s.stocks,sid m=n)=P at*
 repeat' ((conv=>whnf);first|refine zh (h2) [100000] ?_|refine bW8 [] [(21,[88888])] trivial Ac ?_|refine zh (xX h3) [] ?_|refine zS ?_|fail)
 all_goals conv=>whnf
 all_goals first|exact⟨_,rfl,zc1⟩|exact zc1
theorem cF7(s:aJ)(x:aN)(hs:Gd s):SpB 73 [.box 100000 0,aQ x] [stC s] (.tup []) [stC (addS s x)] :=
 b_of Tryz.func73 Ac Ac rfl rfl (fD2 s x hs)
theorem fH{α:Type}{l:List α}{i:Nat}{x y:α}:y∈putAt l i x↔y=x\/y∈l:=by
 unfold putAt;rw[List.mem_append,List.mem_cons];constructor
 ·rintro(h|h|h)
  ·exact .inr (List.mem_of_mem_take h)
  ·exact .inl h
  ·exact .inr (List.mem_of_mem_drop h)
 ·rintro(h|h)
  ·exact .inr (.inl h)
  ·rw[<-List.take_append_drop i l,List.mem_append]at h
   rcases h with h|h
   ·exact .inl h
   ·exact .inr (.inr h)
theorem mQ{α:Type}{l:List α}{i:Nat}{x:α}:(putAt l i x).length=l.length+1:=by
 unfold putAt;rw[List.length_append,List.length_cons,List.length_take,List.length_drop];omega
theorem yR{α:Type}{key:α->Int}{x:α}:∀ {l:List α},(l.map key).Pairwise (·<·)->(∀m∈l,key m≠key x)->((putAt l (bs key l (key x)) x).map key).Pairwise (·<·)
 | [],_,_=>by simp[putAt]
 |y::r,hs,hx=>by
  rw[List.map_cons,List.pairwise_cons]at hs;obtain⟨h1,h2⟩:=hs;have hyx:=hx y Ae;by_cases h:key y<key x
  ·have e:bs key (y::r) (key x)=bs key r (key x)+1:=by
    exact Pg
   have ih:=yR h2 (fun m hm=>hx m (by simp[hm]))
   rw[e];show List.Pairwise _ (key y::(putAt r (bs key r (key x)) x).map key);rw[List.pairwise_cons];refine⟨fun z hz=>?_,ih⟩;obtain⟨m,hm,rfl⟩:=List.mem_map.1 hz;rcases fH.1 hm with rfl|hm
   ·exact h
   ·exact h1 _ (List.mem_map_of_mem hm)
  ·have e:bs key (y::r) (key x)=0:=by
    unfold bs;rw[List.takeWhile_cons_of_neg DT];rfl
   rw[e];show List.Pairwise _ (key x::key y::r.map key);rw[List.pairwise_cons,List.pairwise_cons];refine⟨fun z hz=>?_,h1,h2⟩;rcases List.mem_cons.1 hz with rfl|hz
   ·omega
   ·have:=h1 z hz
    omega
def putN(l:List Int)(n:Int):List Int:=putAt l (bs id l n) n
def cO(used ids:List Int):List Int:=ids.foldl putN used
def dP:List Int->List Int->Prop
 |_,[] =>True
 |used,n::r=>n∉used/\dP (putN used n) r
theorem rF{l:List Int}{n:Int}(hs:(l.map id).Pairwise (·<·))(hn:n∉l):((putN l n).map id).Pairwise (·<·):=
 yR (key:=id) (x:=n) hs (fun m hm e=>hn (by rw[<-show m=n from e];exact hm))
theorem aW4(used D:List Int)(n:Int):cO used (D++[n])=putN (cO used D) n:=by unfold cO;simp
def stB(s:aJ)(g:Nat):List V:=[.arr 100000 0, .arr 100001 0, .arr 100002 g,I s.received.1,I s.received.2,I s.scrap.1,I s.scrap.2]
def stA(s:aJ)(used:List Int)(g:Nat):List (Nat×AE):=[(100000,⟨0, .own,87,s.stocks.map aQ⟩),(100001,⟨0, .own,78,s.pieces.map aZ⟩),(100002,⟨g, .own,3,used.map I⟩)]
abbrev bots:List V:=[.bot, .bot, .bot, .bot, .bot, .bot, .bot]
theorem dR8(s:aJ)(ids:List Int)(hs:Gd s)(hl:s.used.length+ids.length<=1000000)(hok:dP s.used ids):jR T Tryz.prog Tryz.f70 [.box 100000 0, .sl (ids.map I)] [stC s] (I 0) [stC {s with used:=cO s.used ids}] :=by
 have hll:(ids.map I).length=ids.length:=Ae
 repeat' ((conv=>whnf);first|refine zS ?_|fail)
 refine aU (A:=List Int) (B:=List Int) (fun D R=>mkSt [(0, .box 100000 0),(9, .sl (ids.map I)),(10,I ids.length),(11,I D.length)] [(100000,stB s D.length)] (stA s (cO s.used D) D.length))
  (fun D R=>ids=D++R/\((cO s.used D).map id).Pairwise (·<·)/\(cO s.used D).length=s.used.length+D.length/\(dP s.used ids↔dP (cO s.used D) R)) (fun D R=>R.length) [] ids ?_ ⟨rfl,hs.su,rfl,Iff.rfl⟩ (fun D R hp=>?_)
 ·exact J5
 obtain⟨hp,hps,hpl,hpo⟩:=hp
 cases R with
 |nil=>
  have hlen:ids.length=D.length:=Af;have e:ids=D:=Af
  rw[e];rw[e]at hlen hll;exact NP
 |cons n R=>
  have hlen:=aO hp;have h1:=cQ0 n (cO s.used D) Hu hps
  have h2:=bP5 (cO s.used D) (bs id (cO s.used D) n) n (bQ8 _ _ _) Hu;have hsn:=aW4 s.used D n
  have hps2:=fun h=>rF (n:=n) hps h;have hlp:(putN (cO s.used D) n).length=(cO s.used D).length+1:=mQ
  have hq:dP (cO s.used D) (n::R)↔n∉cO s.used D/\dP (putN (cO s.used D) n) R:=Iff.rfl;have hmm:(∃m∈cO s.used D,m=n)↔n∈cO s.used D:=⟨fun⟨m,h,e⟩=>e▸h,fun h=>⟨n,h,rfl⟩⟩
  have hlD:((D++[n]).length:Int)=(D.length:Int)+1:=Ae;generalize cO s.used D=U at*;have hpu:putN U n=putAt U (bs id U n) n:=rfl
  rw[<-hpu]at h2;generalize bs id U n=k at*;generalize putN U n=U' at*;generalize (∃m∈U,m=n)=P at*
  repeat' ((conv=>whnf);first|(exfalso;omega)|(refine aS5 (h1) true ?_ rfl ?_;focus ((repeat' (first|exact trivial|refine And.intro ?_ ?_|with_reducible rfl|exact(fun h=>Ad)|exact rfl));done))|refine zh (xX h2) [] ?_|refine zS ?_|refine zT ?_ ?_<;>intro _|fail)
  all_goals conv=>whnf
  ·exact absurd (hmm.1 Ag) (hq.1 (hpo.1 hok)).1
  all_goals refine⟨(D++[n],R),?_,⟨Af,Dn,Dh,BH⟩,Ae⟩
  exact OW
theorem aT7(s:aJ)(ids:List Int)(hs:Gd s)(hl:s.used.length+ids.length<=1000000)(hok:dP s.used ids):SpB 70 [.box 100000 0, .sl (ids.map I)] [stC s] (I 0) [stC {s with used:=cO s.used ids}] :=
 b_of Tryz.func70 Ac Ac rfl rfl (dR8 s ids hs hl hok)
theorem dN4(s:aJ)(ids:List Int)(hs:Gd s)(hl:s.used.length+ids.length<=1000000)(hok:¬dP s.used ids):jR T Tryz.prog Tryz.f70 [.box 100000 0, .sl (ids.map I)] [stC s] (I 7) [bots] :=by
 have hll:(ids.map I).length=ids.length:=Ae
 repeat' ((conv=>whnf);first|refine zS ?_|fail)
 refine aU (A:=List Int) (B:=List Int) (fun D R=>mkSt [(0, .box 100000 0),(9, .sl (ids.map I)),(10,I ids.length),(11,I D.length)] [(100000,stB s D.length)] (stA s (cO s.used D) D.length))
  (fun D R=>ids=D++R/\((cO s.used D).map id).Pairwise (·<·)/\(cO s.used D).length=s.used.length+D.length/\(dP s.used ids↔dP (cO s.used D) R)) (fun D R=>R.length) [] ids ?_ ⟨rfl,hs.su,rfl,Iff.rfl⟩ (fun D R hp=>?_)
 ·exact J5
 obtain⟨hp,hps,hpl,hpo⟩:=hp
 cases R with
 |nil=>
  have hlen:ids.length=D.length:=Af;have e:ids=D:=Af
  exact absurd (hpo.2 trivial) hok
 |cons n R=>
  have hlen:=aO hp;have h1:=cQ0 n (cO s.used D) Hu hps
  have h2:=bP5 (cO s.used D) (bs id (cO s.used D) n) n (bQ8 _ _ _) Hu;have hsn:=aW4 s.used D n
  have hps2:=fun h=>rF (n:=n) hps h;have hlp:(putN (cO s.used D) n).length=(cO s.used D).length+1:=mQ
  have hq:dP (cO s.used D) (n::R)↔n∉cO s.used D/\dP (putN (cO s.used D) n) R:=Iff.rfl;have hmm:(∃m∈cO s.used D,m=n)↔n∈cO s.used D:=⟨fun⟨m,h,e⟩=>e▸h,fun h=>⟨n,h,rfl⟩⟩
  have hlD:((D++[n]).length:Int)=(D.length:Int)+1:=Ae;generalize cO s.used D=U at*;have hpu:putN U n=putAt U (bs id U n) n:=rfl
  rw[<-hpu]at h2;generalize bs id U n=k at*;generalize putN U n=U' at*;generalize (∃m∈U,m=n)=P at*
  repeat' ((conv=>whnf);first|(exfalso;omega)|(refine aS5 (h1) true ?_ rfl ?_;focus ((repeat' (first|exact trivial|refine And.intro ?_ ?_|with_reducible rfl|exact(fun h=>Ad)|exact rfl));done))|refine zh (xX h2) [] ?_|refine zS ?_|refine zT ?_ ?_<;>intro _|fail)
  all_goals conv=>whnf
  ·skip
   all_goals conv=>whnf
   all_goals first|exact⟨_,rfl,zc1⟩|exact zc1
  all_goals refine⟨(D++[n],R),?_,⟨Af,Dn,Dh,BH⟩,Ae⟩
  exact OW
theorem aU4(s:aJ)(ids:List Int)(hs:Gd s)(hl:s.used.length+ids.length<=1000000)(hok:¬dP s.used ids):SpB 70 [.box 100000 0, .sl (ids.map I)] [stC s] (I 7) [bots] :=
 b_of Tryz.func70 Ac Ac rfl rfl (dN4 s ids hs hl hok)
theorem aB8{α:Type}{key:α->Int}{t:Int}:∀ {l:List α},(l.map key).Pairwise (·<·)->(∃y∈l,key y=t)->∃m,l[bs key l t]? =some m/\key m=t
 | [],_,⟨y,hy,_⟩=>by cases hy
 |x::r,hs,⟨y,hy,e⟩=>by
  rw[List.map_cons,List.pairwise_cons]at hs;obtain⟨h1,h2⟩:=hs;by_cases h:key x<t
  ·have eb:bs key (x::r) t=bs key r t+1:=by
    exact Pg
   rcases List.mem_cons.1 hy with rfl|hy
   ·omega
   ·obtain⟨m,hm,e2⟩:=aB8 h2 ⟨y,hy,e⟩
    exact⟨m,by rw[eb];exact hm,e2⟩
  ·have eb:bs key (x::r) t=0:=by
    unfold bs;rw[List.takeWhile_cons_of_neg DT];rfl
   rcases List.mem_cons.1 hy with rfl|hy
   ·exact⟨y,by rw[eb];rfl,e⟩
   ·have:=h1 _ (List.mem_map_of_mem hy)
    omega
def prog(x:aN)(p:ByteArray):aN:={x with program:=p}
def setK(s:aJ)(k:Nat)(x:aN):aJ:={s with stocks:=s.stocks.set k x}
theorem cP1(s:aJ)(k:Nat)(x:aN):stC (setK s k x)=[.own 87 ((s.stocks.map aQ).set ((k:Int)).toNat (aQ x)), .own 78 (s.pieces.map aZ), .own 3 (s.used.map I),I s.received.1,I s.received.2,I s.scrap.1,I s.scrap.2] :=by
 unfold stC setK;rw[Int.toNat_natCast,List.map_set]
theorem cH5(s:aJ)(e:Event)(m:aN)(hs:Gd s)(hf:∃m∈s.stocks,sid m=e.id)(hm:s.stocks[bs sid s.stocks e.id]? =some m)(hp:m.program=aI):
 jR T Tryz.prog Tryz.f38 [.box 100000 0,aS e] [stC s] (I 0) [stC (setK s (bs sid s.stocks e.id) (prog m e.text))] :=by
 exact Nb
theorem bM2(s:aJ)(e:Event)(m:aN)(hs:Gd s)(hf:∃m∈s.stocks,sid m=e.id)(hm:s.stocks[bs sid s.stocks e.id]? =some m)(hp:m.program=aI):
 SpB 38 [.box 100000 0,aS e] [stC s] (I 0) [stC (setK s (bs sid s.stocks e.id) (prog m e.text))] :=
 b_of Tryz.func38 Ac Ac rfl rfl (cH5 s e m hs hf hm hp)
theorem cM4(s:aJ)(e:Event)(m:aN)(hs:Gd s)(hf:∃m∈s.stocks,sid m=e.id)(hm:s.stocks[bs sid s.stocks e.id]? =some m)(hp:¬(m.program=aI)):
 jR T Tryz.prog Tryz.f38 [.box 100000 0,aS e] [stC s] (I 27) [bots] :=by
 have h1:=find_spec s e.id hs;have hkl:=(List.getElem?_eq_some_iff.1 hm).1
 have hll:(s.stocks.map aQ).length=s.stocks.length:=Ae;have hl:=hs.ls
 exact MW
theorem bM0(s:aJ)(e:Event)(m:aN)(hs:Gd s)(hf:∃m∈s.stocks,sid m=e.id)(hm:s.stocks[bs sid s.stocks e.id]? =some m)(hp:¬(m.program=aI)):
 SpB 38 [.box 100000 0,aS e] [stC s] (I 27) [bots] :=
 b_of Tryz.func38 Ac Ac rfl rfl (cM4 s e m hs hf hm hp)
theorem cI5(s:aJ)(e:Event)(hs:Gd s)(hf:¬∃m∈s.stocks,sid m=e.id):
 jR T Tryz.prog Tryz.f38 [.box 100000 0,aS e] [stC s] (I 8) [bots] :=by
 exact MX
theorem bN7(s:aJ)(e:Event)(hs:Gd s)(hf:¬∃m∈s.stocks,sid m=e.id):
 SpB 38 [.box 100000 0,aS e] [stC s] (I 8) [bots] :=
 b_of Tryz.func38 Ac Ac rfl rfl (cI5 s e hs hf)
theorem cR7(s:aJ)(e:Event)(m:aN)(hs:Gd s)(hf:∃m∈s.stocks,sid m=e.id)(hm:s.stocks[bs sid s.stocks e.id]? =some m)(hp:m.program≠aI):
 jR T Tryz.prog Tryz.f39 [.box 100000 0,aS e] [stC s] (I 0) [stC (setK s (bs sid s.stocks e.id) (prog m aI))] :=by
 exact Nb
theorem bZ5(s:aJ)(e:Event)(m:aN)(hs:Gd s)(hf:∃m∈s.stocks,sid m=e.id)(hm:s.stocks[bs sid s.stocks e.id]? =some m)(hp:m.program≠aI):
 SpB 39 [.box 100000 0,aS e] [stC s] (I 0) [stC (setK s (bs sid s.stocks e.id) (prog m aI))] :=
 b_of Tryz.func39 Ac Ac rfl rfl (cR7 s e m hs hf hm hp)
theorem cX3(s:aJ)(e:Event)(m:aN)(hs:Gd s)(hf:∃m∈s.stocks,sid m=e.id)(hm:s.stocks[bs sid s.stocks e.id]? =some m)(hp:¬(m.program≠aI)):
 jR T Tryz.prog Tryz.f39 [.box 100000 0,aS e] [stC s] (I 10) [bots] :=by
 have h1:=find_spec s e.id hs;have hkl:=(List.getElem?_eq_some_iff.1 hm).1
 have hll:(s.stocks.map aQ).length=s.stocks.length:=Ae;have hl:=hs.ls
 exact MW
theorem cB5(s:aJ)(e:Event)(m:aN)(hs:Gd s)(hf:∃m∈s.stocks,sid m=e.id)(hm:s.stocks[bs sid s.stocks e.id]? =some m)(hp:¬(m.program≠aI)):
 SpB 39 [.box 100000 0,aS e] [stC s] (I 10) [bots] :=
 b_of Tryz.func39 Ac Ac rfl rfl (cX3 s e m hs hf hm hp)
theorem cQ4(s:aJ)(e:Event)(hs:Gd s)(hf:¬∃m∈s.stocks,sid m=e.id):
 jR T Tryz.prog Tryz.f39 [.box 100000 0,aS e] [stC s] (I 8) [bots] :=by
 exact MX
theorem cA0(s:aJ)(e:Event)(hs:Gd s)(hf:¬∃m∈s.stocks,sid m=e.id):
 SpB 39 [.box 100000 0,aS e] [stC s] (I 8) [bots] :=
 b_of Tryz.func39 Ac Ac rfl rfl (cQ4 s e hs hf)
end Go.Proofs.Led
