/-
  slices.Insert at elements of any number of cells: the element x put in at the place i.
-/
import Derived.Test.YtdjgbagnajikeaaGreatDoorB5
set_option linter.unusedVariables false
set_option linter.unusedSimpArgs false
set_option maxRecDepth 1000000
set_option maxHeartbeats 4000000
noncomputable section
namespace Go.Proofs.Led
open Go Go.Proofs Go.Ab
theorem ins_gen{F S E Z B:Nat}(el:ElT S E Z B)(hF:callable Tryz.prog F=true)(t:InsShift F E Z)(ay:InsEnd F E Z)(ao:InsEndG F S E)(ar:InsGrow F S E Z)
 (l:List V)(x:V)(i:Nat)(hi:i<=l.length)(hl:l.length<=1000000000):Sp F [.own E l,I i, .own E [x]] (.own E (l.take i++x::l.drop i)):=by
 have u:(T.row E).size=Z:=el.s;refine⟨hF,λw G cs h1 h2 h3 h4 h5=>?_⟩;obtain⟨v0,v1,v2,rfl⟩:=arr3 h1;have r0:Rb T w G 0 v0 (.own E l):=h4 0 v0 _ rfl rfl
 have r1:v1= .int .i64 i:=aN3 (h4 1 v1 (I i) rfl rfl);have r2:Rb T w G 2 v2 (.own E [x]):=h4 2 v2 _ rfl rfl
 subst r1;obtain⟨hE,ak,ho⟩:=r0;obtain⟨_,am,hx⟩:=r2;obtain⟨vb,vc,d,rfl,hvO,hv,D,ag,W⟩:=bY9 hx;rw[u]at D W;have an:=ag;rw[u]at an;have al:x.pure:=aH.1 am x Ae
 have U:bM (l.take i++x::l.drop i):=aH.2 λy hy=>by
  rcases QJ.1 hy with h|h
  ·exact aH.1 ak y (Ri h)
  ·rcases QO.1 h with rfl|h
   ·exact al
   ·exact aH.1 ak y (Rj h)
 have C:(l.take i++x::l.drop i).length=l.length+1:=AU;have O:∀v∈d.toList.take Z,v.oneCell'=true:=W.one
 have r:(d.toList.take Z).length=Z:=Dn;have a0:vb<w.heap.size:=(QT.1 hv).1
 have af:(l.take i++x::l.drop i).flatMap V.cells=(l.take i).flatMap V.cells++x.cells++(l.drop i).flatMap V.cells:=by simp[TA,RZ]
 have ep:i*Z+(d.toList.take Z).length=(i+1)*Z:=by rw[r,Tt]
 obtain⟨mi,mn⟩:=mulZ (Z:=Z) hi;rcases ho with⟨au,rfl⟩|⟨b,c,cur,rfl,hO,hb,M,hcm,hcs,ah,N⟩
 ·have aw:i=0:=by simpa using hi
  subst aw
  obtain⟨A,rfl⟩:∃A,v0= .slice A 0 0:=by
   rcases au with rfl|⟨a,rfl⟩
   ·exact⟨none,rfl⟩
   ·exact⟨some a,rfl⟩
  obtain⟨c',z,k,H,ai,ae⟩:=el.app A 0 0 vb vc [] d w (QH _) Aa Aa (λ_=>⟨rfl,rfl⟩) (λa h j v hj=>by simp at hj) (Nat.zero_mul Z).symm hv D
  refine(ao A 0 0 c' vb vc _ w (QH _) Aa Aa (λ_=>⟨rfl,rfl⟩) ae).mono ?_;rintro e w' ⟨rfl,rfl⟩;have J:∀y∈([x] :List V),y.cells.length=(T.row E).size:=λy hy=>by rw[QI.1 hy];exact ag
  have mc:=mulZ (Z:=Z) k;refine jM (L:=[x]) (n:=0+1) hE am rfl J ?_ Ur ?_ k H h2 h3 (.inr (QH _)) (λq hq _=>?_) Ed rfl rfl rfl
  ·rw[u]
   have e2:((([] :List Value).toArray++(d.toList.take Z).toArray++z).toList.take ((0+1)*Z))=d.toList.take Z:=by
    simp only[Array.toList_append,TM];rw[List.take_append_of_le_length (by rw[r];omega)]
    exact TS (by rw[r];omega)
   rw[e2];simpa using W
  ·rw[u]
   simp only[U2,SH,r,ai,S9];rw[mc.2];omega
  ·exact L9
 ·rw[u]at hcs N
  have P:cur.toList.length=c*Z:=GV;have ab:=ah
  rw[u]at ab;have a1:b<w.heap.size:=(QT.1 hb).1;have ax:vb≠b:=by rintro rfl;rw[hvO]at hO;cases hO
  have J:∀y∈l.take i++x::l.drop i,y.cells.length=(T.row E).size:=λy hy=>by
   rcases QJ.1 hy with h|h
   ·exact ah y (Ri h)
   ·rcases QO.1 h with rfl|h
    ·exact ag
    ·exact ah y (Rj h)
  obtain⟨f1,f2⟩:=xW ab hi;have az:=(mulZ (Z:=Z) M).1
  have hA:RvL w G (cur.toList.take (i*Z)) ((l.take i).flatMap V.cells):=by
   have:=aM1 N (i*Z);rw[U4,Ux mi,f1]at this;exact this
  have hM:RvL w G ((cur.toList.drop (i*Z)).take ((l.length-i)*Z)) ((l.drop i).flatMap V.cells):=by
   have:=aL4 N (i*Z);rw[f2,UG,<-mn]at this;exact this
  have ad:((cur.toList.drop (i*Z)).take ((l.length-i)*Z)).length=(l.length-i)*Z:=by rw[QL,Rz,P,mn];omega
  have hX:RvL w G (cur.toList.take (i*Z)++d.toList.take Z++(cur.toList.drop (i*Z)).take ((l.length-i)*Z)) ((l.take i++x::l.drop i).flatMap V.cells):=by
   rw[af];exact oH (oH hA W) hM
  have et:i*Z+(d.toList.take Z).length+((cur.toList.drop (i*Z)).take ((l.length-i)*Z)).length=(l.length+1)*Z:=by rw[ad,r,mn,Tt];omega
  have ac:c<=9223372036854775807:=Gn;have aa:(l.length+1)*Z=l.length*Z+(d.toList.take Z).length:=by rw[r,Tt]
  by_cases g:l.length+1<=c
  ·have mr:=(mulZ (Z:=Z) g).1
   by_cases Y:i<l.length
   ·refine(t b l.length c i vb vc cur d w Y g ac ax hb hv hcs D N.one O).mono ?_
    rintro e w' ⟨rfl,rfl⟩;have t:=lay_size (cur:=cur) (o:=(i+1)*Z) (vs:=(cur.toList.drop (i*Z)).take ((l.length-i)*Z)) (by rw[<-ep,hcs];omega)
    refine jM hE U C J (X:=lay (lay cur ((i+1)*Z) ((cur.toList.drop (i*Z)).take ((l.length-i)*Z))) (i*Z) (d.toList.take Z)) ?_ (SY _ b _ _ _ _ (SY w.drew b cur _ _ _ hb)) ?_ g hcm h2 h3 (.inl hO) (λq hq m=>?_) ?_ rfl rfl rfl
    ·rw[u,<-et,<-ep,layA (by rw[et,hcs];exact mr)]
     exact hX
    ·rw[lay_size (by rw[t,hcs];omega),t,hcs,u]
    ·rw[SI _ b q _ m,SI _ b q _ m];rfl
    ·rw[size_setRow,size_setRow];exact QH _
   ·have K:i=l.length:=by omega
    subst K;refine(ay b l.length c vb vc cur d w g ac hb hv hcs D O).mono ?_;rintro e w' ⟨rfl,rfl⟩;refine jM hE U C J (X:=lay cur (l.length*Z) (d.toList.take Z)) ?_ (SY w b cur _ _ _ hb) ?_ g hcm h2 h3 (.inl hO) (λq hq m=>?_) ?_ rfl rfl rfl
    ·rw[u]
     have e0:(cur.toList.drop (l.length*Z)).take ((l.length-l.length)*Z)=[] :=Rn.1 (by rw[ad];omega)
     rw[e0,QU]at hX;rw[aa,layC (by rw[<-aa,hcs];exact mr)]
     exact hX
    ·rw[lay_size (by rw[<-aa,hcs];exact mr),hcs,u]
    ·rw[SI _ b q _ m]
    ·rw[size_setRow];exact QH _
  ·have f:c<l.length+1:=by omega
   by_cases Y:i<l.length
   ·obtain⟨c',R,k,H,Q,aq,qas⟩:=el.zeros Y M f hl hb hcs
    obtain⟨hN,av⟩:=el.nw w R;refine(ar b l.length c c' i vb vc cur d R w Y M f hl k H hb hv hcs Q D N.one O qas).mono ?_;rintro e w' ⟨rfl,rfl⟩;have mc:=(mulZ (Z:=Z) k).1;have t:=lay_size (cur:=R) (o:=i*Z) (vs:=d.toList.take Z) (by rw[Q];omega)
    refine jM hE U C J ?_ (SY (World.drew _) w.heap.size _ _ _ _ (SY _ w.heap.size R _ _ _ hN)) ?_ k H h2 h3 (.inr (QH _)) (λq hq m=>?_) ?_ rfl rfl rfl
    ·rw[u,<-et,<-ep,layB (by rw[et,Q];exact mc),aq]
     exact hX
    ·rw[lay_size (by rw[t,Q,<-ep];omega),t,Q,u]
    ·rw[SI _ _ q _ m]
     exact(SI _ _ q _ m).trans (av q hq)
    ·rw[size_setRow]
     exact QV (Nat.le_succ _) (Nat.le_of_eq ((size_setRow _ _ _).trans (Array.size_push _)).symm)
   ·have K:i=l.length:=by omega
    subst K;have aj:(cur.toList.take (l.length*Z)).length=l.length*Z:=by rw[QL,P];omega
    obtain⟨c',z,k,H,ai,ae⟩:=el.app (some ⟨b,0,none⟩) l.length c vb vc (cur.toList.take (l.length*Z)) d w M f hl (λh=>Ah) (λa ha j v hj=>by cases ha;exact cell_take hb hj) aj hv D
    refine(ao (some ⟨b,0,none⟩) l.length c c' vb vc _ w M f hl (λh=>Ah) ae).mono ?_;rintro e w' ⟨rfl,rfl⟩;have mc:=mulZ (Z:=Z) k
    refine jM hE U C J ?_ Ur ?_ k H h2 h3 (.inr (QH _)) (λq hq _=>?_) Ed rfl rfl rfl
    ·rw[u]
     have e0:(cur.toList.drop (l.length*Z)).take ((l.length-l.length)*Z)=[] :=Rn.1 (by rw[ad];omega)
     rw[e0,QU]at hX
     have e2:(((cur.toList.take (l.length*Z)).toArray++(d.toList.take Z).toArray++z).toList.take ((l.length+1)*Z))=cur.toList.take (l.length*Z)++d.toList.take Z:=by
      simp only[Array.toList_append];exact uI (by rw[aj,aa])
     rw[e2];exact hX
    ·rw[u]
     simp only[U2,SH,r,ai,aj];rw[mc.2];omega
    ·exact L9
end Go.Proofs.Led
namespace Go.Proofs.Led
open Go Go.Proofs Go.Ab Go.RowKit Go.Lib
theorem elP:ElT 47 71 9 104:=⟨Tryz.underlying47,QC Ac,Ac,Ac,Ai,Ai⟩
theorem ovP:OvT 172 71:=λw b vb i f g vc cur a c hb hv d=>by
 rw[Uu Tryz.func172 Ac Ac Ac (e:=Extern.SlicesOverlaps.overlaps #[47,47] #[4]) Ac,
  Lib.run_overlaps_apart w 47 4 71 Tryz.underlying47 9 Tryz.sizeOf71 ⟨vb,0,none⟩ ⟨b,i,none⟩ 1 vc f g c 71 71 a.size cur.size FI FK d Cb Cb]
 rfl
theorem insP_all:InsShift 124 71 9/\InsEnd 124 71 9/\InsEndG 124 47 71/\InsGrow 124 47 71 9:=by
 have el:=elP;have O:=ovP
 have fF:=Tryz.func124;have nF:=Tryz.ntmps124
 have zE:=Tryz.sizeOf71;have W:=Rf Tryz.underlying47
 have t3:=RU;have Y:=SN;have V:=Rf RU;have Z:=Rf SN
 have mixed:=mixed;refine⟨?_,?_,?_,?_⟩
 ·intro b n c i vb vc cur e w hi hroom q hvb hb hv hbs hvs y h2
  have A:=λT P Q=>O w b vb T P Q vc cur e hvb hb hv Aa;obtain⟨X1,d,l,hcp2⟩:=el.shift (b:=b) (vb:=vb) (vc:=vc) hi hroom hbs hvs y h2;rw[<-d];clear d;have t:IntKind.i64.wrap ((i:Int)+1)=(i:Int)+1:=Aw
  have v:IntKind.i64.wrap ((n:Int)+1)=(n:Int)+1:=Aw;have z:¬((i:Int)=(n:Int)):=Aa
  have F:(0:Int)<=(i:Int)+1:=Aa;have E:((i:Int)+1).toNat=i+1:=Aa
  have L:((n:Int)+1).toNat=n+1:=Aa;have G:i<=n:=Aa
  have C:¬(c=i+1):=Aa;have u:(i:Int)<=(n:Int)+1:=Aa
  have s:¬(c=i):=Aa;have H:¬((c:Int)< (n:Int)+1):=Aa
  go_enter fF,nF
  go_wp2_with (simp only[A])
  have r:=l w.drew _ _ (n-i) (n+1-i) 3 (c- (i+1)) (c-i) hb rfl rfl Dh
  try simp only[Ub]at r
  go_region_law_o (refine step_copy_runI rfl _ _ _ _ rfl _ _ Az Az r ?_)
  exact Na
 ·intro b n c vb vc cur e w hroom q hb hv hbs hvs h2
  exact Nl
 ·intro o n c j vb vc X w k hroom m hn hA
  go_enter fF,nF
  cases o with
  |none=>exact IU
  |some a=>exact IV
 ·intro b n c j i vb vc cur e R w hi k hroom m J hle hb hv hbs I hvs y h2 D
  have hbw:b<w.heap.size:=(QT.1 hb).1;have hvw:vb<w.heap.size:=(QT.1 hv).1
  obtain⟨X1,d,g,f⟩:=el.grow (b:=b) (vb:=vb) (vc:=vc) (N:=w.heap.size) hi k J hbs I hvs y h2;obtain⟨x,hO⟩:=el.nw w R;have hA:=g _ _ (n+1-i) 3 (j-i) x F7 rfl Aa;have K:=f ((World.setRow _ w.heap.size X1).drew) _ _ (n-i) (n-i) 3 (j- (i+1)) (c-i) (SY _ w.heap.size R X1 _ _ x) ((SI _ w.heap.size b X1 Aa).trans FM) rfl rfl (Nat.min_self _)
  rw[<-d];clear d g f x hO;have t:IntKind.i64.wrap ((i:Int)+1)=(i:Int)+1:=Aw;have v:IntKind.i64.wrap ((n:Int)+1)=(n:Int)+1:=Aw
  have M:IntKind.i64.wrap ((n:Int)+1- (i:Int))=(n:Int)+1- (i:Int):=Aw;have z:¬((i:Int)=(n:Int)):=Aa
  have F:(0:Int)<=(i:Int)+1:=Aa;have E:((i:Int)+1).toNat=i+1:=Aa
  have G:i<=n:=Aa;have C:¬(j=i+1):=Aa
  have u:(i:Int)<=(n:Int)+1:=Aa;have s:¬(c=i):=Aa
  have H:(c:Int)< (n:Int)+1:=Aa;have S:¬(j=i):=Aa
  have U:(i:Int)<=(c:Int):=Aa;have B:j<=9223372036854775807:=Ey
  try simp only[Ub]at hA K
  go_enter fF,nF
  go_wp2_with (first|simp only[hA,QX] |(at_builtin;refine Lib.wpList_append_run _ rfl _ _ _ _ rfl _ _ rfl rfl _ _ (D _) ?_))
  go_region_law_o (refine step_copy_runI rfl _ _ _ _ rfl _ _ Az Az K ?_)
  go_wp2
  go_ret
  first|exact⟨rfl,rfl⟩|exact⟨rfl,Be⟩
theorem dO8(l:List V)(x:V)(i:Nat)(hi:i<=l.length)(a:l.length<=1000000000):Sp 124 [.own 71 l,I i, .own 71 [x]] (.own 71 (l.take i++x::l.drop i)):=
 ins_gen elP Ac insP_all.1 insP_all.2.1 insP_all.2.2.1 insP_all.2.2.2 l x i hi a
theorem elS:ElT 46 86 14 216:=⟨Ui,QC Ac,Ac,Ac,Ai,Ai⟩
theorem ovS:OvT 213 86:=λw b vb i f g vc cur a c hb hv d=>by
 rw[Uu Tryz.func213 Ac Ac Ac (e:=Extern.SlicesOverlaps.overlaps #[46,46] #[4]) Ac,
  Lib.run_overlaps_apart w 46 4 86 Ui 14 Tryz.sizeOf86 ⟨vb,0,none⟩ ⟨b,i,none⟩ 1 vc f g c 86 86 a.size cur.size FI FK d Cb Cb]
 rfl
theorem insS_all:InsShift 169 86 14/\InsEnd 169 86 14/\InsEndG 169 46 86/\InsGrow 169 46 86 14:=by
 have el:=elS;have O:=ovS
 have fF:=Tryz.func169;have nF:=Tryz.ntmps169
 have zE:=Tryz.sizeOf86;have W:=Rf Ui
 have t3:=RU;have Y:=SN;have V:=Rf RU;have Z:=Rf SN
 have mixed:=mixed;refine⟨?_,?_,?_,?_⟩
 ·intro b n c i vb vc cur e w hi hroom q hvb hb hv hbs hvs y h2
  have A:=λT P Q=>O w b vb T P Q vc cur e hvb hb hv Aa;obtain⟨X1,d,l,hcp2⟩:=el.shift (b:=b) (vb:=vb) (vc:=vc) hi hroom hbs hvs y h2;rw[<-d];clear d;have t:IntKind.i64.wrap ((i:Int)+1)=(i:Int)+1:=Aw
  have v:IntKind.i64.wrap ((n:Int)+1)=(n:Int)+1:=Aw;have z:¬((i:Int)=(n:Int)):=Aa
  have F:(0:Int)<=(i:Int)+1:=Aa;have E:((i:Int)+1).toNat=i+1:=Aa
  have L:((n:Int)+1).toNat=n+1:=Aa;have G:i<=n:=Aa
  have C:¬(c=i+1):=Aa;have u:(i:Int)<=(n:Int)+1:=Aa
  have s:¬(c=i):=Aa;have H:¬((c:Int)< (n:Int)+1):=Aa
  go_enter fF,nF
  go_wp2_with (simp only[A])
  have r:=l w.drew _ _ (n-i) (n+1-i) 3 (c- (i+1)) (c-i) hb rfl rfl Dh
  try simp only[Ub]at r
  go_region_law_o (refine step_copy_runI rfl _ _ _ _ rfl _ _ Az Az r ?_)
  exact Na
 ·intro b n c vb vc cur e w hroom q hb hv hbs hvs h2
  exact Nl
 ·intro o n c j vb vc X w k hroom m hn hA
  go_enter fF,nF
  cases o with
  |none=>exact IU
  |some a=>exact IV
 ·intro b n c j i vb vc cur e R w hi k hroom m J hle hb hv hbs I hvs y h2 D
  have hbw:b<w.heap.size:=(QT.1 hb).1;have hvw:vb<w.heap.size:=(QT.1 hv).1
  obtain⟨X1,d,g,f⟩:=el.grow (b:=b) (vb:=vb) (vc:=vc) (N:=w.heap.size) hi k J hbs I hvs y h2;obtain⟨x,hO⟩:=el.nw w R;have hA:=g _ _ (n+1-i) 3 (j-i) x F7 rfl Aa;have K:=f ((World.setRow _ w.heap.size X1).drew) _ _ (n-i) (n-i) 3 (j- (i+1)) (c-i) (SY _ w.heap.size R X1 _ _ x) ((SI _ w.heap.size b X1 Aa).trans FM) rfl rfl (Nat.min_self _)
  rw[<-d];clear d g f x hO;have t:IntKind.i64.wrap ((i:Int)+1)=(i:Int)+1:=Aw;have v:IntKind.i64.wrap ((n:Int)+1)=(n:Int)+1:=Aw
  have M:IntKind.i64.wrap ((n:Int)+1- (i:Int))=(n:Int)+1- (i:Int):=Aw;have z:¬((i:Int)=(n:Int)):=Aa
  have F:(0:Int)<=(i:Int)+1:=Aa;have E:((i:Int)+1).toNat=i+1:=Aa
  have G:i<=n:=Aa;have C:¬(j=i+1):=Aa
  have u:(i:Int)<=(n:Int)+1:=Aa;have s:¬(c=i):=Aa
  have H:(c:Int)< (n:Int)+1:=Aa;have S:¬(j=i):=Aa
  have U:(i:Int)<=(c:Int):=Aa;have B:j<=9223372036854775807:=Ey
  try simp only[Ub]at hA K
  go_enter fF,nF
  go_wp2_with (first|simp only[hA,QX] |(at_builtin;refine Lib.wpList_append_run _ rfl _ _ _ _ rfl _ _ rfl rfl _ _ (D _) ?_))
  go_region_law_o (refine step_copy_runI rfl _ _ _ _ rfl _ _ Az Az K ?_)
  go_wp2
  go_ret
  first|exact⟨rfl,rfl⟩|exact⟨rfl,Be⟩
theorem dL7(l:List V)(x:V)(i:Nat)(hi:i<=l.length)(a:l.length<=1000000000):Sp 169 [.own 86 l,I i, .own 86 [x]] (.own 86 (l.take i++x::l.drop i)):=
 ins_gen elS Ac insS_all.1 insS_all.2.1 insS_all.2.2.1 insS_all.2.2.2 l x i hi a
theorem elZ:ElT 48 3 1 8:=⟨Tryz.underlying48,QC Ac,Ac,Ac,Ai,Ai⟩
theorem ovZ:OvT 209 3:=λw b vb i f g vc cur a c hb hv d=>by
 rw[Uu Tryz.func209 Ac Ac Ac (e:=Extern.SlicesOverlaps.overlaps #[48,48] #[4]) Ac,
  Lib.run_overlaps_apart w 48 4 3 Tryz.underlying48 1 Tryz.sizeOf3 ⟨vb,0,none⟩ ⟨b,i,none⟩ 1 vc f g c 3 3 a.size cur.size FI FK d Cb Cb]
 rfl
theorem insZ_all:InsShift 164 3 1/\InsEnd 164 3 1/\InsEndG 164 48 3/\InsGrow 164 48 3 1:=by
 have el:=elZ;have O:=ovZ
 have fF:=Tryz.func164;have nF:=Tryz.ntmps164
 have zE:=Tryz.sizeOf3;have W:=Rf Tryz.underlying48
 have t3:=RU;have Y:=SN;have V:=Rf RU;have Z:=Rf SN
 have mixed:=mixed;refine⟨?_,?_,?_,?_⟩
 ·intro b n c i vb vc cur e w hi hroom q hvb hb hv hbs hvs y h2
  have A:=λT P Q=>O w b vb T P Q vc cur e hvb hb hv Aa;obtain⟨X1,d,l,hcp2⟩:=el.shift (b:=b) (vb:=vb) (vc:=vc) hi hroom hbs hvs y h2;rw[<-d];clear d;have t:IntKind.i64.wrap ((i:Int)+1)=(i:Int)+1:=Aw
  have v:IntKind.i64.wrap ((n:Int)+1)=(n:Int)+1:=Aw;have z:¬((i:Int)=(n:Int)):=Aa
  have F:(0:Int)<=(i:Int)+1:=Aa;have E:((i:Int)+1).toNat=i+1:=Aa
  have L:((n:Int)+1).toNat=n+1:=Aa;have G:i<=n:=Aa
  have C:¬(c=i+1):=Aa;have u:(i:Int)<=(n:Int)+1:=Aa
  have s:¬(c=i):=Aa;have H:¬((c:Int)< (n:Int)+1):=Aa
  go_enter fF,nF
  go_wp2_with (simp only[A])
  have r:=l w.drew _ _ (n-i) (n+1-i) 3 (c- (i+1)) (c-i) hb rfl rfl Dh
  try simp only[Ub]at r
  go_region_law_o (refine step_copy_runI rfl _ _ _ _ rfl _ _ Az Az r ?_)
  exact Na
 ·intro b n c vb vc cur e w hroom q hb hv hbs hvs h2
  exact Nl
 ·intro o n c j vb vc X w k hroom m hn hA
  go_enter fF,nF
  cases o with
  |none=>exact IU
  |some a=>exact IV
 ·intro b n c j i vb vc cur e R w hi k hroom m J hle hb hv hbs I hvs y h2 D
  have hbw:b<w.heap.size:=(QT.1 hb).1;have hvw:vb<w.heap.size:=(QT.1 hv).1
  obtain⟨X1,d,g,f⟩:=el.grow (b:=b) (vb:=vb) (vc:=vc) (N:=w.heap.size) hi k J hbs I hvs y h2;obtain⟨x,hO⟩:=el.nw w R;have hA:=g _ _ (n+1-i) 3 (j-i) x F7 rfl Aa;have K:=f ((World.setRow _ w.heap.size X1).drew) _ _ (n-i) (n-i) 3 (j- (i+1)) (c-i) (SY _ w.heap.size R X1 _ _ x) ((SI _ w.heap.size b X1 Aa).trans FM) rfl rfl (Nat.min_self _)
  rw[<-d];clear d g f x hO;have t:IntKind.i64.wrap ((i:Int)+1)=(i:Int)+1:=Aw;have v:IntKind.i64.wrap ((n:Int)+1)=(n:Int)+1:=Aw
  have M:IntKind.i64.wrap ((n:Int)+1- (i:Int))=(n:Int)+1- (i:Int):=Aw;have z:¬((i:Int)=(n:Int)):=Aa
  have F:(0:Int)<=(i:Int)+1:=Aa;have E:((i:Int)+1).toNat=i+1:=Aa
  have G:i<=n:=Aa;have C:¬(j=i+1):=Aa
  have u:(i:Int)<=(n:Int)+1:=Aa;have s:¬(c=i):=Aa
  have H:(c:Int)< (n:Int)+1:=Aa;have S:¬(j=i):=Aa
  have U:(i:Int)<=(c:Int):=Aa;have B:j<=9223372036854775807:=Ey
  try simp only[Ub]at hA K
  go_enter fF,nF
  go_wp2_with (first|simp only[hA,QX] |(at_builtin;refine Lib.wpList_append_run _ rfl _ _ _ _ rfl _ _ rfl rfl _ _ (D _) ?_))
  go_region_law_o (refine step_copy_runI rfl _ _ _ _ rfl _ _ Az Az K ?_)
  go_wp2
  go_ret
  first|exact⟨rfl,rfl⟩|exact⟨rfl,Be⟩
theorem dM5(l:List V)(x:V)(i:Nat)(hi:i<=l.length)(a:l.length<=1000000000):Sp 164 [.own 3 l,I i, .own 3 [x]] (.own 3 (l.take i++x::l.drop i)):=
 ins_gen elZ Ac insZ_all.1 insZ_all.2.1 insZ_all.2.2.1 insZ_all.2.2.2 l x i hi a
end Go.Proofs.Led
namespace Go.Proofs.Led
open Go Go.Proofs Go.Ab
theorem dR6(l:List aN)(d:l.length<=1000000):fnVC T Tryz.prog Tryz.f72 [.sl (l.map aQ)] (.own 86 (l.map aQ)):=by
 have c:(l.map aQ).length=l.length:=Ae;have a:∀y∈l.map aQ,y.cells.length=14:=λy hy=>AX
 repeat' ((conv=>whnf);first|(refine bV3.mk rfl (QC Ac) Ac (.inl rfl) ?_;intro b hb;cases b)|refine iH rfl (.inl rfl) rfl (QC rfl) a (by show 0+(List.map aQ l).length<=_;omega) ?_|refine zS ?_|fail)
 all_goals conv=>whnf
 ·exact Ku
 ·exact Jg
theorem aV4(l:List aN)(a:l.length<=1000000):Sp 72 [.sl (l.map aQ)] (.own 86 (l.map aQ)):=zsp Tryz.func72 (dR6 l a)
theorem dO4(l:List Piece)(d:l.length<=1000000):fnVC T Tryz.prog Tryz.f73 [.sl (l.map aZ)] (.own 71 (l.map aZ)):=by
 have c:(l.map aZ).length=l.length:=Ae;have a:∀y∈l.map aZ,y.cells.length=9:=λy hy=>AX
 repeat' ((conv=>whnf);first|(refine bV3.mk rfl (QC Ac) Ac (.inl rfl) ?_;intro b hb;cases b)|refine iH rfl (.inl rfl) rfl (QC rfl) a (by show 0+(List.map aZ l).length<=_;omega) ?_|refine zS ?_|fail)
 all_goals conv=>whnf
 ·exact Ku
 ·exact Jg
theorem aV7(l:List Piece)(a:l.length<=1000000):Sp 73 [.sl (l.map aZ)] (.own 71 (l.map aZ)):=zsp Tryz.func73 (dO4 l a)
theorem dL1(l:List Int)(d:l.length<=1000000):fnVC T Tryz.prog Tryz.f74 [.sl (l.map I)] (.own 3 (l.map I)):=by
 have c:(l.map I).length=l.length:=Ae;have a:∀y∈l.map I,y.cells.length=1:=λy hy=>AX
 repeat' ((conv=>whnf);first|(refine bV3.mk rfl (QC Ac) Ac (.inl rfl) ?_;intro b hb;cases b)|refine iH rfl (.inl rfl) rfl (QC rfl) a (by show 0+(List.map I l).length<=_;omega) ?_|refine zS ?_|fail)
 all_goals conv=>whnf
 ·exact Ku
 ·exact Jg
theorem aT5(l:List Int)(a:l.length<=1000000):Sp 74 [.sl (l.map I)] (.own 3 (l.map I)):=zsp Tryz.func74 (dL1 l a)
def stC(s:aJ):List V:=[.own 86 (s.stocks.map aQ), .own 71 (s.pieces.map aZ), .own 3 (s.used.map I),I s.received.1,I s.received.2,I s.scrap.1,I s.scrap.2]
structure Gd(s:aJ):Prop where
 ls:s.stocks.length<=1000000
 lp:s.pieces.length<=1000000
 lu:s.used.length<=1000000
 ss:(s.stocks.map sid).Pairwise (·<·)
 sp:(s.pieces.map Piece.id).Pairwise (·<·)
 su:(s.used.map id).Pairwise (·<·)
theorem eM1(s:aJ)(n:Int)(a:Gd s):jR T Tryz.prog Tryz.f118 [.box 100000 0,I n] [stC s] (.tup [I (bs sid s.stocks n),DB (∃m∈s.stocks,sid m=n)]) [stC s] :=by
 have h1:=eB5 (g:=162) (t:=n) (λm=>cR0 m n) s.stocks a.ls a.ss;generalize bs sid s.stocks n=k at*;generalize (∃m∈s.stocks,sid m=n)=P at*;exact NV
theorem find_spec(s:aJ)(n:Int)(a:Gd s):SpB 118 [.box 100000 0,I n] [stC s] (.tup [I (bs sid s.stocks n),DB (∃m∈s.stocks,sid m=n)]) [stC s] :=
 b_of Tryz.func118 Ac Ac rfl rfl (eM1 s n a)
theorem dW2(s:aJ)(n:Int)(a:Gd s):jR T Tryz.prog Tryz.f123 [.box 100000 0,I n] [stC s] (.tup [I (bs Piece.id s.pieces n),DB (∃m∈s.pieces,m.id=n)]) [stC s] :=by
 have h1:=eG9 (g:=171) (t:=n) (λm=>cG0 m n) s.pieces a.lp a.sp;generalize bs Piece.id s.pieces n=k at*;generalize (∃m∈s.pieces,m.id=n)=P at*;exact NV
theorem uQ(s:aJ)(n:Int)(a:Gd s):SpB 123 [.box 100000 0,I n] [stC s] (.tup [I (bs Piece.id s.pieces n),DB (∃m∈s.pieces,m.id=n)]) [stC s] :=
 b_of Tryz.func123 Ac Ac rfl rfl (dW2 s n a)
def putAt{α:Type}(l:List α)(i:Nat)(x:α):List α:=l.take i++x::l.drop i
theorem aR0{a:Type}(f:a->V)(l:List a)(i:Nat)(x:a):(l.map f).take i++f x::(l.map f).drop i=(putAt l i x).map f:=by
 unfold putAt;simp_all
theorem bQ8{a:Type}(key:a->Int)(l:List a)(t:Int):bs key l t<=l.length:=by
 grind [List.takeWhile_prefix,bs]
theorem dO3(l:List aN)(i:Nat)(x:aN)(hi:i<=l.length)(a:l.length<=1000000000):Sp 169 [.own 86 (l.map aQ),I i, .own 86 [aQ x]] (.own 86 ((putAt l i x).map aQ)):=by
 grind [dL7,aR0]
theorem bU8(l:List Piece)(i:Nat)(x:Piece)(hi:i<=l.length)(a:l.length<=1000000000):Sp 124 [.own 71 (l.map aZ),I i, .own 71 [aZ x]] (.own 71 ((putAt l i x).map aZ)):=by
 grind [dO8,aR0]
theorem bP5(l:List Int)(i:Nat)(x:Int)(hi:i<=l.length)(a:l.length<=1000000000):Sp 164 [.own 3 (l.map I),I i, .own 3 [I x]] (.own 3 ((putAt l i x).map I)):=by
 grind [dM5,aR0]
def putS(l:List aN)(x:aN):List aN:=putAt l (bs sid l (sid x)) x
def addS(s:aJ)(x:aN):aJ:={s with stocks:=putS s.stocks x}
theorem fD2(s:aJ)(x:aN)(a:Gd s):jR T Tryz.prog Tryz.f122 [.box 100000 0,aQ x] [stC s] (.tup []) [stC (addS s x)] :=by
 have d:=aE2 x;have c:=find_spec s (sid x) a
 have b:=dO3 s.stocks (bs sid s.stocks (sid x)) x (bQ8 _ _ _) (by have:=a.ls;omega)
 unfold addS putS;generalize sid x=n at*;generalize bs sid s.stocks n=k at*;generalize (∃m∈s.stocks,sid m=n)=P at*
 repeat' ((conv=>whnf);first|refine zh (c) [100000] ?_|refine bW8 [] [(21,[88888])] trivial Ac ?_|refine zh (xX b) [] ?_|refine zS ?_|fail)
 all_goals conv=>whnf
 all_goals first|exact⟨_,rfl,zc1⟩|exact zc1
theorem cF7(s:aJ)(x:aN)(a:Gd s):SpB 122 [.box 100000 0,aQ x] [stC s] (.tup []) [stC (addS s x)] :=
 b_of Tryz.func122 Ac Ac rfl rfl (fD2 s x a)
theorem fH{a:Type}{l:List a}{i:Nat}{x y:a}:y∈putAt l i x↔y=x\/y∈l:=by
 grind [Ri,Rj,RQ,putAt]
theorem mQ{a:Type}{l:List a}{i:Nat}{x:a}:(putAt l i x).length=l.length+1:=by
 unfold putAt;grind
theorem yR{a:Type}{key:a->Int}{x:a}:∀ {l:List a},(l.map key).Pairwise (·<·)->(∀m∈l,key m≠key x)->((putAt l (bs key l (key x)) x).map key).Pairwise (·<·)
 | [],_,_=>by simp[putAt]
 |y::r,c,b=>by
  rw[QW,RH]at c;obtain⟨j,g⟩:=c;have f:=b y Ae;by_cases h:key y<key x
  ·have e:bs key (y::r) (key x)=bs key r (key x)+1:=by
    unfold bs;simp_all
   have i:=yR g (λm d=>b m (by simp[d]))
   rw[e];show List.Pairwise _ (key y::(putAt r (bs key r (key x)) x).map key);grind [RH,fH,Rq]
  ·have e:bs key (y::r) (key x)=0:=by
    unfold bs;simp_all
   rw[e];show List.Pairwise _ (key x::key y::r.map key);grind [RH]
def putN(l:List Int)(n:Int):List Int:=putAt l (bs id l n) n
def cO(used ids:List Int):List Int:=ids.foldl putN used
def dP:List Int->List Int->Prop
 |_,[] =>True
 |used,n::r=>n∉used/\dP (putN used n) r
theorem rF{l:List Int}{n:Int}(a:(l.map id).Pairwise (·<·))(c:n∉l):((putN l n).map id).Pairwise (·<·):=
 yR (key:=id) (x:=n) a (λm b e=>c (by rw[<-show m=n from e];exact b))
theorem aW4(used D:List Int)(n:Int):cO used (D++[n])=putN (cO used D) n:=by unfold cO;simp
def stB(s:aJ)(g:Nat):List V:=[.arr 100000 0, .arr 100001 0, .arr 100002 g,I s.received.1,I s.received.2,I s.scrap.1,I s.scrap.2]
def stA(s:aJ)(used:List Int)(g:Nat):List (Nat×AE):=[(100000,⟨0, .own,86,s.stocks.map aQ⟩),(100001,⟨0, .own,71,s.pieces.map aZ⟩),(100002,⟨g, .own,3,used.map I⟩)]
abbrev bots:List V:=[.bot, .bot, .bot, .bot, .bot, .bot, .bot]
theorem dR8(s:aJ)(ids:List Int)(i:Gd s)(o:s.used.length+ids.length<=1000000)(d:dP s.used ids):jR T Tryz.prog Tryz.f119 [.box 100000 0, .sl (ids.map I)] [stC s] (I 0) [stC {s with used:=cO s.used ids}] :=by
 have hll:(ids.map I).length=ids.length:=Ae
 repeat' ((conv=>whnf);first|refine zS ?_|fail)
 refine aU (A:=List Int) (B:=List Int) (λD R=>mkSt [(0, .box 100000 0),(9, .sl (ids.map I)),(10,I ids.length),(11,I D.length)] [(100000,stB s D.length)] (stA s (cO s.used D) D.length))
  (λD R=>ids=D++R/\((cO s.used D).map id).Pairwise (·<·)/\(cO s.used D).length=s.used.length+D.length/\(dP s.used ids↔dP (cO s.used D) R)) (λD R=>R.length) [] ids ?_ ⟨rfl,i.su,rfl,Rt⟩ (λD R hp=>?_)
 ·exact JM
 obtain⟨hp,b,hpl,hpo⟩:=hp
 cases R with
 |nil=>
  have a:ids.length=D.length:=Ad;have e:ids=D:=Ad
  rw[e];rw[e]at a hll;exact O0
 |cons n R=>
  have a:=aO hp;have j:=cQ0 n (cO s.used D) Ii b
  have f:=bP5 (cO s.used D) (bs id (cO s.used D) n) n (bQ8 _ _ _) Ii;have hsn:=aW4 s.used D n
  have hps2:=λh=>rF (n:=n) b h;have hlp:(putN (cO s.used D) n).length=(cO s.used D).length+1:=mQ
  have hq:dP (cO s.used D) (n::R)↔n∉cO s.used D/\dP (putN (cO s.used D) n) R:=Rt;have hmm:(∃m∈cO s.used D,m=n)↔n∈cO s.used D:=⟨λ⟨m,h,e⟩=>e▸h,λh=>⟨n,h,rfl⟩⟩
  have g:((D++[n]).length:Int)=(D.length:Int)+1:=Ae;generalize cO s.used D=U at*;have c:putN U n=putAt U (bs id U n) n:=rfl
  rw[<-c]at f;generalize bs id U n=k at*;generalize putN U n=l at*;generalize (∃m∈U,m=n)=P at*
  repeat' ((conv=>whnf);first|omega|(refine aS5 (j) true ?_ rfl ?_;focus ((repeat' (first|exact trivial|refine And.intro ?_ ?_|with_reducible rfl|exact(λh=>Ah)|exact rfl));done))|refine zh (xX f) [] ?_|refine zS ?_|refine zT ?_ ?_<;>intro _|fail)
  all_goals conv=>whnf
  ·exact absurd (hmm.1 Ag) (hq.1 (hpo.1 d)).1
  all_goals refine⟨(D++[n],R),?_,⟨Ad,DL,DI,Ci⟩,Ae⟩
  exact Qa
theorem aT7(s:aJ)(ids:List Int)(b:Gd s)(c:s.used.length+ids.length<=1000000)(a:dP s.used ids):SpB 119 [.box 100000 0, .sl (ids.map I)] [stC s] (I 0) [stC {s with used:=cO s.used ids}] :=
 b_of Tryz.func119 Ac Ac rfl rfl (dR8 s ids b c a)
theorem dN4(s:aJ)(ids:List Int)(i:Gd s)(o:s.used.length+ids.length<=1000000)(d:¬dP s.used ids):jR T Tryz.prog Tryz.f119 [.box 100000 0, .sl (ids.map I)] [stC s] (I 7) [bots] :=by
 have hll:(ids.map I).length=ids.length:=Ae
 repeat' ((conv=>whnf);first|refine zS ?_|fail)
 refine aU (A:=List Int) (B:=List Int) (λD R=>mkSt [(0, .box 100000 0),(9, .sl (ids.map I)),(10,I ids.length),(11,I D.length)] [(100000,stB s D.length)] (stA s (cO s.used D) D.length))
  (λD R=>ids=D++R/\((cO s.used D).map id).Pairwise (·<·)/\(cO s.used D).length=s.used.length+D.length/\(dP s.used ids↔dP (cO s.used D) R)) (λD R=>R.length) [] ids ?_ ⟨rfl,i.su,rfl,Rt⟩ (λD R hp=>?_)
 ·exact JM
 obtain⟨hp,a,hpl,hpo⟩:=hp
 cases R with
 |nil=>
  have b:ids.length=D.length:=Ad;have e:ids=D:=Ad
  exact absurd (hpo.2 trivial) d
 |cons n R=>
  have b:=aO hp;have j:=cQ0 n (cO s.used D) Ii a
  have f:=bP5 (cO s.used D) (bs id (cO s.used D) n) n (bQ8 _ _ _) Ii;have hsn:=aW4 s.used D n
  have hps2:=λh=>rF (n:=n) a h;have hlp:(putN (cO s.used D) n).length=(cO s.used D).length+1:=mQ
  have hq:dP (cO s.used D) (n::R)↔n∉cO s.used D/\dP (putN (cO s.used D) n) R:=Rt;have hmm:(∃m∈cO s.used D,m=n)↔n∈cO s.used D:=⟨λ⟨m,h,e⟩=>e▸h,λh=>⟨n,h,rfl⟩⟩
  have g:((D++[n]).length:Int)=(D.length:Int)+1:=Ae;generalize cO s.used D=U at*;have c:putN U n=putAt U (bs id U n) n:=rfl
  rw[<-c]at f;generalize bs id U n=k at*;generalize putN U n=l at*;generalize (∃m∈U,m=n)=P at*
  repeat' ((conv=>whnf);first|omega|(refine aS5 (j) true ?_ rfl ?_;focus ((repeat' (first|exact trivial|refine And.intro ?_ ?_|with_reducible rfl|exact(λh=>Ah)|exact rfl));done))|refine zh (xX f) [] ?_|refine zS ?_|refine zT ?_ ?_<;>intro _|fail)
  all_goals conv=>whnf
  ·skip
   all_goals conv=>whnf
   all_goals first|exact⟨_,rfl,zc1⟩|exact zc1
  all_goals refine⟨(D++[n],R),?_,⟨Ad,DL,DI,Ci⟩,Ae⟩
  exact Qa
theorem aU4(s:aJ)(ids:List Int)(b:Gd s)(c:s.used.length+ids.length<=1000000)(a:¬dP s.used ids):SpB 119 [.box 100000 0, .sl (ids.map I)] [stC s] (I 7) [bots] :=
 b_of Tryz.func119 Ac Ac rfl rfl (dN4 s ids b c a)
theorem aB8{d:Type}{key:d->Int}{t:Int}:∀ {l:List d},(l.map key).Pairwise (·<·)->(∃y∈l,key y=t)->∃m,l[bs key l t]? =some m/\key m=t
 | [],_,⟨y,a,_⟩=>by cases a
 |x::r,c,⟨y,a,e⟩=>by
  rw[QW,RH]at c;obtain⟨j,i⟩:=c;by_cases h:key x<t
  ·have b:bs key (x::r) t=bs key r t+1:=by
    unfold bs;rw[List.takeWhile_cons_of_pos Ff,QM]
   rcases QO.1 a with rfl|a
   ·omega
   ·obtain⟨m,f,g⟩:=aB8 i ⟨y,a,e⟩
    exact⟨m,by rw[b];exact f,g⟩
  ·have b:bs key (x::r) t=0:=by
    unfold bs;rw[List.takeWhile_cons_of_neg Ff];rfl
   rcases QO.1 a with rfl|a
   ·exact⟨y,by rw[b];rfl,e⟩
   ·have:=j _ (Rq a)
    omega
def prog(x:aN)(p:ByteArray):aN:={x with program:=p}
def setK(s:aJ)(k:Nat)(x:aN):aJ:={s with stocks:=s.stocks.set k x}
theorem cP1(s:aJ)(k:Nat)(x:aN):stC (setK s k x)=[.own 86 ((s.stocks.map aQ).set ((k:Int)).toNat (aQ x)), .own 71 (s.pieces.map aZ), .own 3 (s.used.map I),I s.received.1,I s.received.2,I s.scrap.1,I s.scrap.2] :=by
 unfold stC setK;rw[RP,UE]
theorem cH5(s:aJ)(e:Event)(m:aN)(hs:Gd s)(b:∃m∈s.stocks,sid m=e.id)(hm:s.stocks[bs sid s.stocks e.id]? =some m)(a:m.program=aI):
 jR T Tryz.prog Tryz.f77 [.box 100000 0,aS e] [stC s] (I 0) [stC (setK s (bs sid s.stocks e.id) (prog m e.text))] :=by
 exact Nw
theorem bM2(s:aJ)(e:Event)(m:aN)(a:Gd s)(d:∃m∈s.stocks,sid m=e.id)(b:s.stocks[bs sid s.stocks e.id]? =some m)(c:m.program=aI):
 SpB 77 [.box 100000 0,aS e] [stC s] (I 0) [stC (setK s (bs sid s.stocks e.id) (prog m e.text))] :=
 b_of Tryz.func77 Ac Ac rfl rfl (cH5 s e m a d b c)
theorem cM4(s:aJ)(e:Event)(m:aN)(a:Gd s)(g:∃m∈s.stocks,sid m=e.id)(b:s.stocks[bs sid s.stocks e.id]? =some m)(f:¬(m.program=aI)):
 jR T Tryz.prog Tryz.f77 [.box 100000 0,aS e] [stC s] (I 27) [bots] :=by
 have h1:=find_spec s e.id a;have c:=(QD.1 b).1
 have d:(s.stocks.map aQ).length=s.stocks.length:=Ae;have i:=a.ls
 exact Nh
theorem bM0(s:aJ)(e:Event)(m:aN)(a:Gd s)(d:∃m∈s.stocks,sid m=e.id)(b:s.stocks[bs sid s.stocks e.id]? =some m)(c:¬(m.program=aI)):
 SpB 77 [.box 100000 0,aS e] [stC s] (I 27) [bots] :=
 b_of Tryz.func77 Ac Ac rfl rfl (cM4 s e m a d b c)
theorem cI5(s:aJ)(e:Event)(hs:Gd s)(a:¬∃m∈s.stocks,sid m=e.id):
 jR T Tryz.prog Tryz.f77 [.box 100000 0,aS e] [stC s] (I 8) [bots] :=by
 exact Np
theorem bN7(s:aJ)(e:Event)(a:Gd s)(b:¬∃m∈s.stocks,sid m=e.id):
 SpB 77 [.box 100000 0,aS e] [stC s] (I 8) [bots] :=
 b_of Tryz.func77 Ac Ac rfl rfl (cI5 s e a b)
theorem cR7(s:aJ)(e:Event)(m:aN)(hs:Gd s)(b:∃m∈s.stocks,sid m=e.id)(hm:s.stocks[bs sid s.stocks e.id]? =some m)(a:m.program≠aI):
 jR T Tryz.prog Tryz.f78 [.box 100000 0,aS e] [stC s] (I 0) [stC (setK s (bs sid s.stocks e.id) (prog m aI))] :=by
 exact Nw
theorem bZ5(s:aJ)(e:Event)(m:aN)(a:Gd s)(d:∃m∈s.stocks,sid m=e.id)(b:s.stocks[bs sid s.stocks e.id]? =some m)(c:m.program≠aI):
 SpB 78 [.box 100000 0,aS e] [stC s] (I 0) [stC (setK s (bs sid s.stocks e.id) (prog m aI))] :=
 b_of Tryz.func78 Ac Ac rfl rfl (cR7 s e m a d b c)
theorem cX3(s:aJ)(e:Event)(m:aN)(a:Gd s)(g:∃m∈s.stocks,sid m=e.id)(b:s.stocks[bs sid s.stocks e.id]? =some m)(f:¬(m.program≠aI)):
 jR T Tryz.prog Tryz.f78 [.box 100000 0,aS e] [stC s] (I 10) [bots] :=by
 have h1:=find_spec s e.id a;have c:=(QD.1 b).1
 have d:(s.stocks.map aQ).length=s.stocks.length:=Ae;have i:=a.ls
 exact Nh
theorem cB5(s:aJ)(e:Event)(m:aN)(a:Gd s)(d:∃m∈s.stocks,sid m=e.id)(b:s.stocks[bs sid s.stocks e.id]? =some m)(c:¬(m.program≠aI)):
 SpB 78 [.box 100000 0,aS e] [stC s] (I 10) [bots] :=
 b_of Tryz.func78 Ac Ac rfl rfl (cX3 s e m a d b c)
theorem cQ4(s:aJ)(e:Event)(hs:Gd s)(a:¬∃m∈s.stocks,sid m=e.id):
 jR T Tryz.prog Tryz.f78 [.box 100000 0,aS e] [stC s] (I 8) [bots] :=by
 exact Np
theorem cA0(s:aJ)(e:Event)(a:Gd s)(b:¬∃m∈s.stocks,sid m=e.id):
 SpB 78 [.box 100000 0,aS e] [stC s] (I 8) [bots] :=
 b_of Tryz.func78 Ac Ac rfl rfl (cQ4 s e a b)
theorem cV1{l:List V}{i j:Nat}{v:V}{K:V->Prop}(h:j=i)(hi:i<l.length)(a:K v):idx (l.set i v) j K:=by
 subst h;exact dE3 _ (by rw[List.getElem?_set_self hi]) a
def setP(s:aJ)(k:Nat)(x:Piece):aJ:={s with pieces:=s.pieces.set k x}
theorem eI0(s:aJ)(k:Nat)(x y:Piece):stC (setP s k x)=[.own 86 (s.stocks.map aQ), .own 71 (((s.pieces.map aZ).set ((k:Int)).toNat (aZ y)).set ((k:Int)).toNat (aZ x)), .own 3 (s.used.map I),I s.received.1,I s.received.2,I s.scrap.1,I s.scrap.2] :=by
 unfold stC setP;rw[RP,List.set_set,UE]
def marked(m:Piece)(st:Int)(o:ByteArray):Piece:={m with status:=st,order:=o}
theorem dU8(s:aJ)(n st:Int)(o:ByteArray)(m:Piece)(b:Gd s)(g:∃m∈s.pieces,m.id=n)(c:s.pieces[bs Piece.id s.pieces n]? =some m)(f:m.status=1):
 jR T Tryz.prog Tryz.f126 [.box 100000 0,I n,I st,S o] [stC s] (I 0) [stC (setP s (bs Piece.id s.pieces n) (marked m st o))] :=by
 have e:=uQ s n b;have d:=(QD.1 c).1
 have a:(s.pieces.map aZ).length=s.pieces.length:=Ae;have i:=b.lp
 generalize bs Piece.id s.pieces n=k at*;generalize (∃m∈s.pieces,m.id=n)=P at*;rw[eI0 s k (marked m st o) {m with status:=st}]
 repeat' ((conv=>whnf);first|(exfalso;contradiction)|refine zh (e) [100000] ?_|refine dS rfl rfl BI ?_|refine dS rfl rfl (by refine⟨by omega,?_⟩;show _< ((List.set (s.pieces.map aZ) _ _).length:Int);rw[Tj];omega) ?_|refine dB8 rfl rfl ?_|refine cV1 rfl (by rw[a];omega) ?_|refine zS ?_|refine zT ?_ ?_<;>intro _|fail)
 all_goals conv=>whnf
 all_goals first|exact⟨_,rfl,zc1⟩|exact zc1
theorem cU5(s:aJ)(n st:Int)(o:ByteArray)(m:Piece)(a:Gd s)(d:∃m∈s.pieces,m.id=n)(b:s.pieces[bs Piece.id s.pieces n]? =some m)(c:m.status=1):
 SpB 126 [.box 100000 0,I n,I st,S o] [stC s] (I 0) [stC (setP s (bs Piece.id s.pieces n) (marked m st o))] :=
 b_of Tryz.func126 Ac Ac rfl rfl (dU8 s n st o m a d b c)
theorem eE6(s:aJ)(n st:Int)(o:ByteArray)(m:Piece)(a:Gd s)(g:∃m∈s.pieces,m.id=n)(b:s.pieces[bs Piece.id s.pieces n]? =some m)(f:¬m.status=1):
 jR T Tryz.prog Tryz.f126 [.box 100000 0,I n,I st,S o] [stC s] (I 10) [bots] :=by
 have e:=uQ s n a;have c:=(QD.1 b).1
 have d:(s.pieces.map aZ).length=s.pieces.length:=Ae;have i:=a.lp
 generalize bs Piece.id s.pieces n=k at*;generalize (∃m∈s.pieces,m.id=n)=P at*
 repeat' ((conv=>whnf);first|(exfalso;contradiction)|refine zh (e) [100000] ?_|refine dS rfl rfl BI ?_|refine zS ?_|refine zT ?_ ?_<;>intro _|fail)
 all_goals conv=>whnf
 all_goals first|exact⟨_,rfl,zc1⟩|exact zc1
theorem cR1(s:aJ)(n st:Int)(o:ByteArray)(m:Piece)(a:Gd s)(d:∃m∈s.pieces,m.id=n)(b:s.pieces[bs Piece.id s.pieces n]? =some m)(c:¬m.status=1):
 SpB 126 [.box 100000 0,I n,I st,S o] [stC s] (I 10) [bots] :=
 b_of Tryz.func126 Ac Ac rfl rfl (eE6 s n st o m a d b c)
theorem eL2(s:aJ)(n st:Int)(o:ByteArray)(a:Gd s)(c:¬∃m∈s.pieces,m.id=n):
 jR T Tryz.prog Tryz.f126 [.box 100000 0,I n,I st,S o] [stC s] (I 8) [bots] :=by
 have b:=uQ s n a;generalize bs Piece.id s.pieces n=k at*;generalize (∃m∈s.pieces,m.id=n)=P at*
 repeat' ((conv=>whnf);first|(exfalso;contradiction)|refine zh (b) [100000] ?_|refine zS ?_|refine zT ?_ ?_<;>intro _|fail)
 all_goals conv=>whnf
 all_goals first|exact⟨_,rfl,zc1⟩|exact zc1
theorem cX9(s:aJ)(n st:Int)(o:ByteArray)(a:Gd s)(b:¬∃m∈s.pieces,m.id=n):
 SpB 126 [.box 100000 0,I n,I st,S o] [stC s] (I 8) [bots] :=
 b_of Tryz.func126 Ac Ac rfl rfl (eL2 s n st o a b)
theorem dP5(s:aJ)(e:Event){r:Int}{a:List (List V)}(hl:a=[bots]\/∃s',a=[stC s'])(h:SpB 126 [.box 100000 0,I e.id,I 2,S aI] [stC s] (I r) a):
 jR T Tryz.prog Tryz.f80 [.box 100000 0,aS e] [stC s] (I r) a:=by
 exact OA
theorem aU1(s:aJ)(e:Event){r:Int}{a:List (List V)}(hl:a=[bots]\/∃s',a=[stC s'])(h:SpB 126 [.box 100000 0,I e.id,I 2,S aI] [stC s] (I r) a):
 SpB 80 [.box 100000 0,aS e] [stC s] (I r) a:=
 b_of Tryz.func80 Ac Ac rfl Dx (dP5 s e hl h)
theorem eR6(s:aJ)(e:Event){r:Int}{a:List (List V)}(hl:a=[bots]\/∃s',a=[stC s'])(h:SpB 126 [.box 100000 0,I e.id,I 3,S e.text] [stC s] (I r) a):
 jR T Tryz.prog Tryz.f81 [.box 100000 0,aS e] [stC s] (I r) a:=by
 exact OA
theorem bS3(s:aJ)(e:Event){r:Int}{a:List (List V)}(hl:a=[bots]\/∃s',a=[stC s'])(h:SpB 126 [.box 100000 0,I e.id,I 3,S e.text] [stC s] (I r) a):
 SpB 81 [.box 100000 0,aS e] [stC s] (I r) a:=
 b_of Tryz.func81 Ac Ac rfl Dx (eR6 s e hl h)
def plus(b:Bool)(r:Iv)(n:Int):Iv:=if b then(r.1,W (r.2+n))else(W (r.1+n),r.2)
def aX7(s:aJ)(x:aN):aJ:={stocks:=putS s.stocks x,pieces:=s.pieces,used:=putN s.used (sid x),received:=plus x.isBar s.received (gG x),scrap:=s.scrap}
theorem eO0{s:aJ}{n:Int}(a:Gd s)(c:s.used.length+1<=1000000)(b:n∉s.used):Gd {s with used:=putN s.used n}:=
 ⟨a.ls,a.lp,by show(putN s.used n).length<=_;rw[show(putN s.used n).length=s.used.length+1 from mQ];exact c,a.ss,a.sp,rF a.su b⟩
theorem cJ5(s:aJ)(x:aN)(a:Gd s)(e:eY x)(d:s.used.length+1<=1000000)(c:sid x∉s.used):
 jR T Tryz.prog Tryz.f117 [.box 100000 0,aQ x] [stC s] (I 0) [stC (aX7 s x)] :=by
 have k:=aE2 x;have h2:=aT7 s [sid x] a d ⟨c,trivial⟩
 have h3:=cF7 {s with used:=putN s.used (sid x)} x (eO0 a d c);have g:=oL x.isBar
 have j:=vF x e;change SpB _ _ _ _ [stC {s with used:=putN s.used (sid x)}]at h2;unfold aX7;unfold addS at h3;simp only at h3;generalize putN s.used (sid x)=U at*;generalize putS s.stocks x=L at*;generalize sid x=n at*;generalize gG x=z at*;unfold plus;obtain⟨b,f,i,p⟩:=x;cases b
 ·exact JF
 ·exact JF
theorem bN1(s:aJ)(x:aN)(a:Gd s)(d:eY x)(c:s.used.length+1<=1000000)(b:sid x∉s.used):
 SpB 117 [.box 100000 0,aQ x] [stC s] (I 0) [stC (aX7 s x)] :=
 b_of Tryz.func117 Ac Ac rfl rfl (cJ5 s x a d c b)
theorem cK4(s:aJ)(x:aN)(a:Gd s)(c:s.used.length+1<=1000000)(b:sid x∈s.used):
 jR T Tryz.prog Tryz.f117 [.box 100000 0,aQ x] [stC s] (I 7) [bots] :=by
 have e:=aE2 x;have d:=aU4 s [sid x] a c (λh=>h.1 b)
 generalize sid x=n at*
 repeat' ((conv=>whnf);first|omega|refine zh (d) [100000] ?_|refine zS ?_|refine zT ?_ ?_<;>intro _|fail)
 all_goals conv=>whnf
 all_goals first|exact⟨_,rfl,zc1⟩|exact zc1
theorem bM7(s:aJ)(x:aN)(a:Gd s)(c:s.used.length+1<=1000000)(b:sid x∈s.used):
 SpB 117 [.box 100000 0,aQ x] [stC s] (I 7) [bots] :=
 b_of Tryz.func117 Ac Ac rfl rfl (cK4 s x a c b)
theorem eF2(s:aJ)(e:Event){r:Int}{a:List (List V)}(hl:a=[bots]\/∃s',a=[stC s'])(h:SpB 117 [.box 100000 0,aQ (⟨true,dN,e.bar,aI⟩:aN)] [stC s] (I r) a):
 jR T Tryz.prog Tryz.f76 [.box 100000 0,aS e] [stC s] (I r) a:=by
 exact OA
theorem bJ1(s:aJ)(e:Event){r:Int}{a:List (List V)}(hl:a=[bots]\/∃s',a=[stC s'])(h:SpB 117 [.box 100000 0,aQ (⟨true,dN,e.bar,aI⟩:aN)] [stC s] (I r) a):
 SpB 76 [.box 100000 0,aS e] [stC s] (I r) a:=
 b_of Tryz.func76 Ac Ac rfl Dx (eF2 s e hl h)
theorem dO1(s:aJ)(e:Event){r:Int}{a:List (List V)}(hl:a=[bots]\/∃s',a=[stC s'])(h:SpB 117 [.box 100000 0,aQ (⟨false,e.sheet,bar0,aI⟩:aN)] [stC s] (I r) a):
 jR T Tryz.prog Tryz.f75 [.box 100000 0,aS e] [stC s] (I r) a:=by
 exact OA
theorem aW2(s:aJ)(e:Event){r:Int}{a:List (List V)}(hl:a=[bots]\/∃s',a=[stC s'])(h:SpB 117 [.box 100000 0,aQ (⟨false,e.sheet,bar0,aI⟩:aN)] [stC s] (I r) a):
 SpB 75 [.box 100000 0,aS e] [stC s] (I r) a:=
 b_of Tryz.func75 Ac Ac rfl Dx (dO1 s e hl h)
end Go.Proofs.Led
