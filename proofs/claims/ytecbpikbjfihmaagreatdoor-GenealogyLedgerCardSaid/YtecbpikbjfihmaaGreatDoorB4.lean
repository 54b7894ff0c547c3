/- Lemmas. -/
import Derived.Test.YtecbpikbjfihmaaGreatDoorB3
set_option linter.all false
set_option autoImplicit true
set_option relaxedAutoImplicit true
set_option maxRecDepth 1000000
set_option maxHeartbeats 8000000
noncomputable section
namespace Go.Proofs.Led
open Go Go.Proofs Go.Ab Tryz
def ins_gen{F S E Z B:Nat}(el:ElT S E Z B)(hF:callable Tryz.prog F=true)(r:InsShift F E Z)(ay:InsEnd F E Z)(an:InsEndG F S E)(az:InsGrow F S E Z)
  l x(i:Nat)(hi:i<=l.length)(hl:l.length<=1000000000):Sp F [.own E l,I i, .own E [x]] (.own E (l.take i++x::l.drop i)):=by
 have A:=el.s;refine⟨hF,λw G cs h1 h2 h3 h4 h5=>?_⟩;obtain⟨v0,v1,v2,rfl⟩:=arr3 h1;have r0:=h4 0 v0 _ rfl rfl;have r1:=aN3 (h4 1 v1 (I i) rfl rfl);have r2:=h4 2 v2 _ rfl rfl;subst r1;let⟨hE,ak,ho⟩:=r0;let⟨_,al,hx⟩:=r2;obtain⟨vb,vc,d,rfl,hvO,hv,H,ah,aa⟩:=bY9 hx;rw[A]at H aa;have ao:=ah;rw[A]at ao;have am:=aH.1 al x Ad
 have Y:bM (l.take i++x::l.drop i):=aH.2 λy hy=>by
  rcases Rh.1 hy with h|h;exact aH.1 ak y (RP h);rcases Rl.1 h with rfl|h;exact am;exact aH.1 ak y (RQ h)
 have C:(l.take i++x::l.drop i).length=l.length+1:=AY;have P:=aa.one;have t:(d.toList.take Z).length=Z:=Dk;have a1:=(Ry.1 hv).1;have af:(l.take i++x::l.drop i).flatMap V.cells=(l.take i).flatMap V.cells++x.cells++(l.drop i).flatMap V.cells:=by simp[Ub,Tm]
 have ep:i*Z+(d.toList.take Z).length=(i+1)*Z:=by rw[t,TY]
 let⟨mi,mn⟩:=mulZ (Z:=Z) hi;rcases ho with⟨av,rfl⟩|⟨b,c,cur,rfl,hO,hb,O,hcm,hcs,ai,Q⟩
 ·have au:i=0:=by simpa using hi
  subst au
  obtain⟨u,rfl⟩:∃u,v0= .slice u 0 0:=by
   rcases av with rfl|⟨a,rfl⟩;exact⟨none,rfl⟩;exact⟨some a,rfl⟩
  let⟨c',z,k,D,aj,ad⟩:=el.app u 0 0 vb vc [] d w (Rf _) Aa Aa (λ_=>⟨rfl,rfl⟩) (λa h j v hj=>by simp at hj) (Nat.zero_mul Z).symm hv H;refine(an u 0 0 c' vb vc _ w (Rf _) Aa Aa (λ_=>⟨rfl,rfl⟩) ad).mono ?_;rintro e w' ⟨rfl,rfl⟩;have J:∀y∈([x] :List V),y.cells.length=(T.row E).size:=λy hy=>by rw[Ri.1 hy];exact ah
  have mc:=mulZ (Z:=Z) k;refine jM (L:=[x]) (n:=0+1) hE al rfl J ?_ UA ?_ k D h2 h3 (.inr (Rf _)) (λq hq _=>?_) Ed rfl rfl rfl
  ·rw[A]
   have e2:((([] :List Value).toArray++(d.toList.take Z).toArray++z).toList.take ((0+1)*Z))=d.toList.take Z:=by
    simp[Array.toList_append,Uj];rw[List.take_append_of_le_length (by rw[t];omega)];exact Um (by rw[t];omega)
   rw[e2];simpa using aa
  ·rw[A]
   simp[UO,Tz,t,aj,Tc];rw[mc.2];omega
  ·exact LK
 ·rw[A]at hcs Q
  have M:cur.toList.length=c*Z:=Ho;have ac:=ai;rw[A]at ac;have a0:=(Ry.1 hb).1;have aw:vb≠b:=by rintro rfl;rw[hvO]at hO;cases hO
  have J:∀y∈l.take i++x::l.drop i,y.cells.length=(T.row E).size:=λy hy=>by
   rcases Rh.1 hy with h|h;exact ai y (RP h);rcases Rl.1 h with rfl|h;exact ah;exact ai y (RQ h)
  let⟨f1,f2⟩:=xW ac hi;have a2:=(mulZ (Z:=Z) O).1
  have hA:RvL w G (cur.toList.take (i*Z)) ((l.take i).flatMap V.cells):=by
   have:=aM1 Q (i*Z);rw[Ve,UH mi,f1]at this;exact this
  have hM:RvL w G ((cur.toList.drop (i*Z)).take ((l.length-i)*Z)) ((l.drop i).flatMap V.cells):=by
   have:=aL4 Q (i*Z);rw[f2,Vf,<-mn]at this;exact this
  have ag:((cur.toList.drop (i*Z)).take ((l.length-i)*Z)).length=(l.length-i)*Z:=by rw[Rk,Sr,M,mn];omega
  have hX:RvL w G (cur.toList.take (i*Z)++d.toList.take Z++(cur.toList.drop (i*Z)).take ((l.length-i)*Z)) ((l.take i++x::l.drop i).flatMap V.cells):=by
   rw[af];exact oH (oH hA aa) hM
  have et:i*Z+(d.toList.take Z).length+((cur.toList.drop (i*Z)).take ((l.length-i)*Z)).length=(l.length+1)*Z:=by rw[ag,t,mn,TY];omega
  have ab:c<=9223372036854775807:=G6;have U:(l.length+1)*Z=l.length*Z+(d.toList.take Z).length:=by rw[t,TY]
  by_cases g:l.length+1<=c
  ·have mr:=(mulZ (Z:=Z) g).1
   by_cases W:i<l.length
   ·refine(r b l.length c i vb vc cur d w W g ab aw hb hv hcs H Q.one P).mono ?_
    rintro e w' ⟨rfl,rfl⟩;have r:=lay_size (cur:=cur) (o:=(i+1)*Z) (vs:=(cur.toList.drop (i*Z)).take ((l.length-i)*Z)) (by rw[<-ep,hcs];omega);refine jM hE Y C J (X:=lay (lay cur ((i+1)*Z) ((cur.toList.drop (i*Z)).take ((l.length-i)*Z))) (i*Z) (d.toList.take Z)) ?_ (TN _ b _ _ _ _ (TN w.drew b cur _ _ _ hb)) ?_ g hcm h2 h3 (.inl hO) (λq hq m=>?_) ?_ rfl rfl rfl
    ·rw[A,<-et,<-ep,layA (by rw[et,hcs];exact mr)]
     exact hX
    ·rw[lay_size (by rw[r,hcs];omega),r,hcs,A]
    ·rw[TA _ b q _ m,TA _ b q _ m];rfl
    ·rw[size_setRow,size_setRow];exact Rf _
   ·have N:i=l.length:=by omega
    subst N;refine(ay b l.length c vb vc cur d w g ab hb hv hcs H P).mono ?_;rintro e w' ⟨rfl,rfl⟩;refine jM hE Y C J (X:=lay cur (l.length*Z) (d.toList.take Z)) ?_ (TN w b cur _ _ _ hb) ?_ g hcm h2 h3 (.inl hO) (λq hq m=>?_) ?_ rfl rfl rfl
    ·rw[A]
     have e0:=RS.1 (by rw[ag];omega);rw[e0,Rq]at hX;rw[U,layC (by rw[<-U,hcs];exact mr)];exact hX
    ·rw[lay_size (by rw[<-U,hcs];exact mr),hcs,A]
    ·rw[TA _ b q _ m]
    ·rw[size_setRow];exact Rf _
  ·have f:c<l.length+1:=by omega
   by_cases W:i<l.length
   ·let⟨c',R,k,D,K,ar,ax⟩:=el.zeros W O f hl hb hcs
    let⟨hN,aq⟩:=el.nw w R;refine(az b l.length c c' i vb vc cur d R w W O f hl k D hb hv hcs K H Q.one P ax).mono ?_;rintro e w' ⟨rfl,rfl⟩;have mc:=(mulZ (Z:=Z) k).1;have r:=lay_size (cur:=R) (o:=i*Z) (vs:=d.toList.take Z) (by rw[K];omega);refine jM hE Y C J ?_ (TN (World.drew _) w.heap.size _ _ _ _ (TN _ w.heap.size R _ _ _ hN)) ?_ k D h2 h3 (.inr (Rf _)) (λq hq m=>?_) ?_ rfl rfl rfl
    ·rw[A,<-et,<-ep,layB (by rw[et,K];exact mc),ar]
     exact hX
    ·rw[lay_size (by rw[r,K,<-ep];omega),r,K,A]
    ·rw[TA _ _ q _ m]
     exact(TA _ _ q _ m).trans (aq q hq)
    ·rw[size_setRow]
     exact Rz (Nat.le_succ _) (Nat.le_of_eq ((size_setRow _ _ _).trans (Array.size_push _)).symm)
   ·have N:i=l.length:=by omega
    subst N;have ae:(cur.toList.take (l.length*Z)).length=l.length*Z:=by rw[Rk,M];omega
    let⟨c',z,k,D,aj,ad⟩:=el.app (some ⟨b,0,none⟩) l.length c vb vc (cur.toList.take (l.length*Z)) d w O f hl (λh=>Ah) (λa ha j v hj=>by cases ha;exact cell_take hb hj) ae hv H;refine(an (some ⟨b,0,none⟩) l.length c c' vb vc _ w O f hl (λh=>Ah) ad).mono ?_;rintro e w' ⟨rfl,rfl⟩;have mc:=mulZ (Z:=Z) k;refine jM hE Y C J ?_ UA ?_ k D h2 h3 (.inr (Rf _)) (λq hq _=>?_) Ed rfl rfl rfl
    ·rw[A]
     have e0:=RS.1 (by rw[ag];omega);rw[e0,Rq]at hX
     have e2:(((cur.toList.take (l.length*Z)).toArray++(d.toList.take Z).toArray++z).toList.take ((l.length+1)*Z))=cur.toList.take (l.length*Z)++d.toList.take Z:=by
      simp only[Array.toList_append];exact uI (by rw[ae,U])
     rw[e2];exact hX
    ·rw[A]
     simp[UO,Tz,t,aj,ae];rw[mc.2];omega
    ·exact LK
end Go.Proofs.Led
namespace Go.Proofs.Led
open Go Go.Proofs Go.Ab Go.RowKit Go.Lib Tryz
def elP:ElT 32 42 9 104:=⟨underlying32,QV Ac,Ac,Ac,Ai,Ai⟩
def ovP:OvT 152 42:=λw b vb i g f vc cur a d hb hv c=>by
 rw[UC func152 Ac Ac Ac (e:=Extern.SlicesOverlaps.overlaps #[32,32] #[4]) Ac,
  Lib.run_overlaps_apart w 32 4 42 underlying32 9 sizeOf42 ⟨vb,0,none⟩ ⟨b,i,none⟩ 1 vc g f d 42 42 a.size cur.size FQ FT c Cf Cf]
 rfl
def insP_all:InsShift 103 42 9/\InsEnd 103 42 9/\InsEndG 103 32 42/\InsGrow 103 32 42 9:=by
 have el:=elP;have U:=ovP;have fF:=func103;have nF:=ntmps103;have zE:=sizeOf42;have uS:=RJ underlying32;have V:=SL;have W:=TF;have Y:=RJ SL;have Z:=RJ TF;have mixed:=mixed;refine⟨?_,?_,?_,?_⟩
 ·intro b n c i vb vc cur e w hi hroom o hvb hb hv hbs hvs s h2
  have E:=λT S M=>U w b vb T S M vc cur e hvb hb hv Aa;obtain⟨X1,d,q,hcp2⟩:=el.shift (b:=b) (vb:=vb) (vc:=vc) hi hroom hbs hvs s h2;rw[<-d];clear d;have H:IntKind.i64.wrap ((i:Int)+1)=(i:Int)+1:=Az;have I:IntKind.i64.wrap ((n:Int)+1)=(n:Int)+1:=Az;have J:¬((i:Int)=(n:Int)):=Aa;have v:(0:Int)<=(i:Int)+1:=Aa;have G:((i:Int)+1).toNat=i+1:=Aa;have L:((n:Int)+1).toNat=n+1:=Aa;have C:i<=n:=Aa;have x:¬(c=i+1):=Aa;have y:(i:Int)<=(n:Int)+1:=Aa;have z:¬(c=i):=Aa;have A:¬((c:Int)< (n:Int)+1):=Aa
  go_enter fF,nF
  go_wp2_with (simp only[E])
  have l:=q w.drew _ _ (n-i) (n+1-i) 3 (c- (i+1)) (c-i) hb rfl rfl Dh;try simp only[Ux]at l
  go_region_law_o (refine step_copy_runI rfl _ _ _ _ rfl _ _ A7 A7 l ?_)
  exact Nr
 intro b n c vb vc cur e w hroom o hb hv hbs hvs h2;exact Nz
 ·intro k n c j vb vc X w r hroom m hn hA
  go_enter fF,nF
  cases k with
  |none=>exact Jf
  |some a=>exact Jg
 intro b n c j i vb vc cur e R w hi r hroom m B hle hb hv hbs u hvs s h2 F;have hbw:b<w.heap.size:=(Ry.1 hb).1;have hvw:vb<w.heap.size:=(Ry.1 hv).1;obtain⟨X1,d,f,g⟩:=el.grow (b:=b) (vb:=vb) (vc:=vc) (N:=w.heap.size) hi r B hbs u hvs s h2;obtain⟨t,hO⟩:=el.nw w R;have hA:=f _ _ (n+1-i) 3 (j-i) t FC rfl Aa;have K:=g ((World.setRow _ w.heap.size X1).drew) _ _ (n-i) (n-i) 3 (j- (i+1)) (c-i) (TN _ w.heap.size R X1 _ _ t) ((TA _ w.heap.size b X1 Aa).trans FU) rfl rfl (Nat.min_self _);rw[<-d];clear d f g t hO;have H:IntKind.i64.wrap ((i:Int)+1)=(i:Int)+1:=Az;have I:IntKind.i64.wrap ((n:Int)+1)=(n:Int)+1:=Az;have Q:IntKind.i64.wrap ((n:Int)+1- (i:Int))=(n:Int)+1- (i:Int):=Az;have J:¬((i:Int)=(n:Int)):=Aa;have v:(0:Int)<=(i:Int)+1:=Aa;have G:((i:Int)+1).toNat=i+1:=Aa;have C:i<=n:=Aa;have x:¬(j=i+1):=Aa;have y:(i:Int)<=(n:Int)+1:=Aa;have z:¬(c=i):=Aa;have A:(c:Int)< (n:Int)+1:=Aa;have O:¬(j=i):=Aa;have P:(i:Int)<=(c:Int):=Aa;have D:j<=9223372036854775807:=E8;try simp only[Ux]at hA K
 go_enter fF,nF
 go_wp2_with (first|simp only[hA,RG] |(at_builtin;refine Lib.wpList_append_run _ rfl _ _ _ _ rfl _ _ rfl rfl _ _ (F _) ?_))
 go_region_law_o (refine step_copy_runI rfl _ _ _ _ rfl _ _ A7 A7 K ?_)
 go_wp2
 go_ret
 first|exact⟨rfl,rfl⟩|exact⟨rfl,Bh⟩
theorem dO8 l x(i:Nat)(hi:i<=l.length)(a:l.length<=1000000000):Sp 103 [.own 42 l,I i, .own 42 [x]] (.own 42 (l.take i++x::l.drop i)):=
 ins_gen elP Ac insP_all.1 insP_all.2.1 insP_all.2.2.1 insP_all.2.2.2 l x i hi a
def elS:ElT 31 57 14 216:=⟨underlying31,QV Ac,Ac,Ac,Ai,Ai⟩
def ovS:OvT 196 57:=λw b vb i g f vc cur a d hb hv c=>by
 rw[UC func196 Ac Ac Ac (e:=Extern.SlicesOverlaps.overlaps #[31,31] #[4]) Ac,
  Lib.run_overlaps_apart w 31 4 57 underlying31 14 sizeOf57 ⟨vb,0,none⟩ ⟨b,i,none⟩ 1 vc g f d 57 57 a.size cur.size FQ FT c Cf Cf]
 rfl
def insS_all:InsShift 149 57 14/\InsEnd 149 57 14/\InsEndG 149 31 57/\InsGrow 149 31 57 14:=by
 have el:=elS;have U:=ovS;have fF:=func149;have nF:=ntmps149;have zE:=sizeOf57;have uS:=RJ underlying31;have V:=SL;have W:=TF;have Y:=RJ SL;have Z:=RJ TF;have mixed:=mixed;refine⟨?_,?_,?_,?_⟩
 ·intro b n c i vb vc cur e w hi hroom o hvb hb hv hbs hvs s h2
  have E:=λT S M=>U w b vb T S M vc cur e hvb hb hv Aa;obtain⟨X1,d,q,hcp2⟩:=el.shift (b:=b) (vb:=vb) (vc:=vc) hi hroom hbs hvs s h2;rw[<-d];clear d;have H:IntKind.i64.wrap ((i:Int)+1)=(i:Int)+1:=Az;have I:IntKind.i64.wrap ((n:Int)+1)=(n:Int)+1:=Az;have J:¬((i:Int)=(n:Int)):=Aa;have v:(0:Int)<=(i:Int)+1:=Aa;have G:((i:Int)+1).toNat=i+1:=Aa;have L:((n:Int)+1).toNat=n+1:=Aa;have C:i<=n:=Aa;have x:¬(c=i+1):=Aa;have y:(i:Int)<=(n:Int)+1:=Aa;have z:¬(c=i):=Aa;have A:¬((c:Int)< (n:Int)+1):=Aa
  go_enter fF,nF
  go_wp2_with (simp only[E])
  have l:=q w.drew _ _ (n-i) (n+1-i) 3 (c- (i+1)) (c-i) hb rfl rfl Dh;try simp only[Ux]at l
  go_region_law_o (refine step_copy_runI rfl _ _ _ _ rfl _ _ A7 A7 l ?_)
  exact Nr
 intro b n c vb vc cur e w hroom o hb hv hbs hvs h2;exact Nz
 ·intro k n c j vb vc X w r hroom m hn hA
  go_enter fF,nF
  cases k with
  |none=>exact Jf
  |some a=>exact Jg
 intro b n c j i vb vc cur e R w hi r hroom m B hle hb hv hbs u hvs s h2 F;have hbw:b<w.heap.size:=(Ry.1 hb).1;have hvw:vb<w.heap.size:=(Ry.1 hv).1;obtain⟨X1,d,f,g⟩:=el.grow (b:=b) (vb:=vb) (vc:=vc) (N:=w.heap.size) hi r B hbs u hvs s h2;obtain⟨t,hO⟩:=el.nw w R;have hA:=f _ _ (n+1-i) 3 (j-i) t FC rfl Aa;have K:=g ((World.setRow _ w.heap.size X1).drew) _ _ (n-i) (n-i) 3 (j- (i+1)) (c-i) (TN _ w.heap.size R X1 _ _ t) ((TA _ w.heap.size b X1 Aa).trans FU) rfl rfl (Nat.min_self _);rw[<-d];clear d f g t hO;have H:IntKind.i64.wrap ((i:Int)+1)=(i:Int)+1:=Az;have I:IntKind.i64.wrap ((n:Int)+1)=(n:Int)+1:=Az;have Q:IntKind.i64.wrap ((n:Int)+1- (i:Int))=(n:Int)+1- (i:Int):=Az;have J:¬((i:Int)=(n:Int)):=Aa;have v:(0:Int)<=(i:Int)+1:=Aa;have G:((i:Int)+1).toNat=i+1:=Aa;have C:i<=n:=Aa;have x:¬(j=i+1):=Aa;have y:(i:Int)<=(n:Int)+1:=Aa;have z:¬(c=i):=Aa;have A:(c:Int)< (n:Int)+1:=Aa;have O:¬(j=i):=Aa;have P:(i:Int)<=(c:Int):=Aa;have D:j<=9223372036854775807:=E8;try simp only[Ux]at hA K
 go_enter fF,nF
 go_wp2_with (first|simp only[hA,RG] |(at_builtin;refine Lib.wpList_append_run _ rfl _ _ _ _ rfl _ _ rfl rfl _ _ (F _) ?_))
 go_region_law_o (refine step_copy_runI rfl _ _ _ _ rfl _ _ A7 A7 K ?_)
 go_wp2
 go_ret
 first|exact⟨rfl,rfl⟩|exact⟨rfl,Bh⟩
theorem dL7 l x(i:Nat)(hi:i<=l.length)(a:l.length<=1000000000):Sp 149 [.own 57 l,I i, .own 57 [x]] (.own 57 (l.take i++x::l.drop i)):=
 ins_gen elS Ac insS_all.1 insS_all.2.1 insS_all.2.2.1 insS_all.2.2.2 l x i hi a
def elZ:ElT 33 3 1 8:=⟨underlying33,QV Ac,Ac,Ac,Ai,Ai⟩
def ovZ:OvT 192 3:=λw b vb i g f vc cur a d hb hv c=>by
 rw[UC func192 Ac Ac Ac (e:=Extern.SlicesOverlaps.overlaps #[33,33] #[4]) Ac,
  Lib.run_overlaps_apart w 33 4 3 underlying33 1 sizeOf3 ⟨vb,0,none⟩ ⟨b,i,none⟩ 1 vc g f d 3 3 a.size cur.size FQ FT c Cf Cf]
 rfl
def insZ_all:InsShift 144 3 1/\InsEnd 144 3 1/\InsEndG 144 33 3/\InsGrow 144 33 3 1:=by
 have el:=elZ;have U:=ovZ;have fF:=func144;have nF:=ntmps144;have zE:=sizeOf3;have uS:=RJ underlying33;have V:=SL;have W:=TF;have Y:=RJ SL;have Z:=RJ TF;have mixed:=mixed;refine⟨?_,?_,?_,?_⟩
 ·intro b n c i vb vc cur e w hi hroom o hvb hb hv hbs hvs s h2
  have E:=λT S M=>U w b vb T S M vc cur e hvb hb hv Aa;obtain⟨X1,d,q,hcp2⟩:=el.shift (b:=b) (vb:=vb) (vc:=vc) hi hroom hbs hvs s h2;rw[<-d];clear d;have H:IntKind.i64.wrap ((i:Int)+1)=(i:Int)+1:=Az;have I:IntKind.i64.wrap ((n:Int)+1)=(n:Int)+1:=Az;have J:¬((i:Int)=(n:Int)):=Aa;have v:(0:Int)<=(i:Int)+1:=Aa;have G:((i:Int)+1).toNat=i+1:=Aa;have L:((n:Int)+1).toNat=n+1:=Aa;have C:i<=n:=Aa;have x:¬(c=i+1):=Aa;have y:(i:Int)<=(n:Int)+1:=Aa;have z:¬(c=i):=Aa;have A:¬((c:Int)< (n:Int)+1):=Aa
  go_enter fF,nF
  go_wp2_with (simp only[E])
  have l:=q w.drew _ _ (n-i) (n+1-i) 3 (c- (i+1)) (c-i) hb rfl rfl Dh;try simp only[Ux]at l
  go_region_law_o (refine step_copy_runI rfl _ _ _ _ rfl _ _ A7 A7 l ?_)
  exact Nr
 intro b n c vb vc cur e w hroom o hb hv hbs hvs h2;exact Nz
 ·intro k n c j vb vc X w r hroom m hn hA
  go_enter fF,nF
  cases k with
  |none=>exact Jf
  |some a=>exact Jg
 intro b n c j i vb vc cur e R w hi r hroom m B hle hb hv hbs u hvs s h2 F;have hbw:b<w.heap.size:=(Ry.1 hb).1;have hvw:vb<w.heap.size:=(Ry.1 hv).1;obtain⟨X1,d,f,g⟩:=el.grow (b:=b) (vb:=vb) (vc:=vc) (N:=w.heap.size) hi r B hbs u hvs s h2;obtain⟨t,hO⟩:=el.nw w R;have hA:=f _ _ (n+1-i) 3 (j-i) t FC rfl Aa;have K:=g ((World.setRow _ w.heap.size X1).drew) _ _ (n-i) (n-i) 3 (j- (i+1)) (c-i) (TN _ w.heap.size R X1 _ _ t) ((TA _ w.heap.size b X1 Aa).trans FU) rfl rfl (Nat.min_self _);rw[<-d];clear d f g t hO;have H:IntKind.i64.wrap ((i:Int)+1)=(i:Int)+1:=Az;have I:IntKind.i64.wrap ((n:Int)+1)=(n:Int)+1:=Az;have Q:IntKind.i64.wrap ((n:Int)+1- (i:Int))=(n:Int)+1- (i:Int):=Az;have J:¬((i:Int)=(n:Int)):=Aa;have v:(0:Int)<=(i:Int)+1:=Aa;have G:((i:Int)+1).toNat=i+1:=Aa;have C:i<=n:=Aa;have x:¬(j=i+1):=Aa;have y:(i:Int)<=(n:Int)+1:=Aa;have z:¬(c=i):=Aa;have A:(c:Int)< (n:Int)+1:=Aa;have O:¬(j=i):=Aa;have P:(i:Int)<=(c:Int):=Aa;have D:j<=9223372036854775807:=E8;try simp only[Ux]at hA K
 go_enter fF,nF
 go_wp2_with (first|simp only[hA,RG] |(at_builtin;refine Lib.wpList_append_run _ rfl _ _ _ _ rfl _ _ rfl rfl _ _ (F _) ?_))
 go_region_law_o (refine step_copy_runI rfl _ _ _ _ rfl _ _ A7 A7 K ?_)
 go_wp2
 go_ret
 first|exact⟨rfl,rfl⟩|exact⟨rfl,Bh⟩
theorem dM5 l x(i:Nat)(hi:i<=l.length)(a:l.length<=1000000000):Sp 144 [.own 3 l,I i, .own 3 [x]] (.own 3 (l.take i++x::l.drop i)):=
 ins_gen elZ Ac insZ_all.1 insZ_all.2.1 insZ_all.2.2.1 insZ_all.2.2.2 l x i hi a
end Go.Proofs.Led
namespace Go.Proofs.Led
open Go Go.Proofs Go.Ab Tryz
def dR6(l:List aN)(d:l.length<=1000000):fnVC T Tryz.prog Tryz.f52 [.sl (l.map aQ)] (.own 57 (l.map aQ)):=by
 have c:(l.map aQ).length=l.length:=Ad;have a:∀y∈l.map aQ,y.cells.length=14:=λy hy=>AZ;repeat' ((conv=>whnf);first|(refine bV3.mk rfl (QV Ac) Ac (.inl rfl) ?_;intro b hb;cases b)|refine iH rfl (.inl rfl) rfl (QV rfl) a (by show 0+(List.map aQ l).length<=_;omega) ?_|refine zS ?_|fail)
 all_goals conv=>whnf
 exact KC;exact Jr
def aV4(l:List aN)(a:l.length<=1000000):Sp 52 [.sl (l.map aQ)] (.own 57 (l.map aQ)):=zsp func52 (dR6 l a)
def dO4(l:List Piece)(d:l.length<=1000000):fnVC T Tryz.prog Tryz.f53 [.sl (l.map aZ)] (.own 42 (l.map aZ)):=by
 have c:(l.map aZ).length=l.length:=Ad;have a:∀y∈l.map aZ,y.cells.length=9:=λy hy=>AZ;repeat' ((conv=>whnf);first|(refine bV3.mk rfl (QV Ac) Ac (.inl rfl) ?_;intro b hb;cases b)|refine iH rfl (.inl rfl) rfl (QV rfl) a (by show 0+(List.map aZ l).length<=_;omega) ?_|refine zS ?_|fail)
 all_goals conv=>whnf
 exact KC;exact Jr
def aV7(l:List Piece)(a:l.length<=1000000):Sp 53 [.sl (l.map aZ)] (.own 42 (l.map aZ)):=zsp func53 (dO4 l a)
def dL1(l:List Int)(d:l.length<=1000000):fnVC T Tryz.prog Tryz.f54 [.sl (l.map I)] (.own 3 (l.map I)):=by
 have c:(l.map I).length=l.length:=Ad;have a:∀y∈l.map I,y.cells.length=1:=λy hy=>AZ;repeat' ((conv=>whnf);first|(refine bV3.mk rfl (QV Ac) Ac (.inl rfl) ?_;intro b hb;cases b)|refine iH rfl (.inl rfl) rfl (QV rfl) a (by show 0+(List.map I l).length<=_;omega) ?_|refine zS ?_|fail)
 all_goals conv=>whnf
 exact KC;exact Jr
def aT5(l:List Int)(a:l.length<=1000000):Sp 54 [.sl (l.map I)] (.own 3 (l.map I)):=zsp func54 (dL1 l a)
def stC(s:aJ):List V:=[.own 57 (s.stocks.map aQ), .own 42 (s.pieces.map aZ), .own 3 (s.used.map I),I s.received.1,I s.received.2,I s.scrap.1,I s.scrap.2]
structure Gd(s:aJ):Prop where
 ls:s.stocks.length<=1000000
 lp:s.pieces.length<=1000000
 lu:s.used.length<=1000000
 ss:(s.stocks.map sid).Pairwise (·<·)
 sp:(s.pieces.map Piece.id).Pairwise (·<·)
 su:(s.used.map id).Pairwise (·<·)
def eM1(s:aJ)(n:Int)(a:Gd s):jR T Tryz.prog Tryz.f97 [.box 100000 0,I n] [stC s] (.tup [I (bs sid s.stocks n),DB (∃m∈s.stocks,sid m=n)]) [stC s] :=by
 have h1:=eB5 (g:=142) (t:=n) (λm=>cR0 m n) s.stocks a.ls a.ss;generalize bs sid s.stocks n=k at*;generalize (∃m∈s.stocks,sid m=n)=P at*;exact Oh
def find_spec s n(a:Gd s):SpB 97 [.box 100000 0,I n] [stC s] (.tup [I (bs sid s.stocks n),DB (∃m∈s.stocks,sid m=n)]) [stC s] :=
 b_of func97 Ac Ac rfl rfl (eM1 s n a)
def dW2 s n(a:Gd s):jR T Tryz.prog Tryz.f102 [.box 100000 0,I n] [stC s] (.tup [I (bs Piece.id s.pieces n),DB (∃m∈s.pieces,m.id=n)]) [stC s] :=by
 have h1:=eG9 (g:=151) (t:=n) (λm=>cG0 m n) s.pieces a.lp a.sp;generalize bs Piece.id s.pieces n=k at*;generalize (∃m∈s.pieces,m.id=n)=P at*;exact Oh
def uQ s n(a:Gd s):SpB 102 [.box 100000 0,I n] [stC s] (.tup [I (bs Piece.id s.pieces n),DB (∃m∈s.pieces,m.id=n)]) [stC s] :=
 b_of func102 Ac Ac rfl rfl (dW2 s n a)
def putAt{α:Type}(l:List α)(i:Nat)(x:α):List α:=l.take i++x::l.drop i
theorem aR0(f:a->V) l i x:(l.map f).take i++f x::(l.map f).drop i=(putAt l i x).map f:=by
 unfold putAt;simp_all
def bQ8 key(l:List a) t:bs key l t<=l.length:=by
 grind [List.takeWhile_prefix,bs]
def dO3 l(i:Nat) x(hi:i<=l.length)(a:l.length<=1000000000):Sp 149 [.own 57 (l.map aQ),I i, .own 57 [aQ x]] (.own 57 ((putAt l i x).map aQ)):=by
 grind [dL7,aR0]
def bU8 l(i:Nat) x(hi:i<=l.length)(a:l.length<=1000000000):Sp 103 [.own 42 (l.map aZ),I i, .own 42 [aZ x]] (.own 42 ((putAt l i x).map aZ)):=by
 grind [dO8,aR0]
def bP5 l(i:Nat) x(hi:i<=l.length)(a:l.length<=1000000000):Sp 144 [.own 3 (l.map I),I i, .own 3 [I x]] (.own 3 ((putAt l i x).map I)):=by
 grind [dM5,aR0]
def putS(l:List aN)(x:aN):List aN:=putAt l (bs sid l (sid x)) x
def addS(s:aJ)(x:aN):aJ:={s with stocks:=putS s.stocks x}
def fD2 s x(a:Gd s):jR T Tryz.prog Tryz.f101 [.box 100000 0,aQ x] [stC s] (.tup []) [stC (addS s x)] :=by
 have d:=aE2 x;have b:=find_spec s (sid x) a;have c:=dO3 s.stocks (bs sid s.stocks (sid x)) x (bQ8 _ _ _) (by have:=a.ls;omega);unfold addS putS;generalize sid x=n at*;generalize bs sid s.stocks n=k at*;generalize (∃m∈s.stocks,sid m=n)=P at*;repeat' ((conv=>whnf);first|refine zh (b) [100000] ?_|refine bW8 [] [(21,[88888])] trivial Ac ?_|refine zh (xX c) [] ?_|refine zS ?_|fail)
 all_goals conv=>whnf
 all_goals first|exact⟨_,rfl,zc1⟩|exact zc1
def cF7 s x(a:Gd s):SpB 101 [.box 100000 0,aQ x] [stC s] (.tup []) [stC (addS s x)] :=
 b_of func101 Ac Ac rfl rfl (fD2 s x a)
theorem fH:y∈putAt l i x↔y=x\/y∈l:=by
 grind [RP,RQ,SG,putAt]
theorem mQ:(putAt l i x).length=l.length+1:=by
 unfold putAt;grind
def yR:∀ {l:List a},(l.map key).Pairwise (·<·)->(∀m∈l,key m≠key x)->((putAt l (bs key l (key x)) x).map key).Pairwise (·<·)
 | [],_,_=>by simp[putAt]
 |y::r,b,c=>by
  rw[Rt,S9]at b;let⟨i,d⟩:=b;have g:=c y Ad;by_cases h:key y<key x
  have e:bs key (y::r) (key x)=bs key r (key x)+1:=by
   unfold bs;simp_all
  have j:=yR d (λm f=>c m (by simp[f]));rw[e];show List.Pairwise _ (key y::(putAt r (bs key r (key x)) x).map key);grind [S9,fH,RD]
  have e:bs key (y::r) (key x)=0:=by
   unfold bs;simp_all
  rw[e];show List.Pairwise _ (key x::key y::r.map key);grind [S9]
def putN(l:List Int)(n:Int):List Int:=putAt l (bs id l n) n
def cO(used ids:List Int):List Int:=ids.foldl putN used
def dP:List Int->List Int->Prop
 |_,[] =>True
 |used,n::r=>n∉used/\dP (putN used n) r
def rF(c:(l.map id).Pairwise (·<·))(b:n∉l):((putN l n).map id).Pairwise (·<·):=
 yR (key:=id) (x:=n) c (λm a e=>b (by rw[<-show m=n from e];exact a))
def aW4 used D n:cO used (D++[n])=putN (cO used D) n:=by unfold cO;simp
def stB(s:aJ)(g:Nat):List V:=[.arr 100000 0, .arr 100001 0, .arr 100002 g,I s.received.1,I s.received.2,I s.scrap.1,I s.scrap.2]
def stA(s:aJ)(used:List Int)(g:Nat):List (Nat×AE):=[(100000,⟨0, .own,57,s.stocks.map aQ⟩),(100001,⟨0, .own,42,s.pieces.map aZ⟩),(100002,⟨g, .own,3,used.map I⟩)]
abbrev bots:List V:=[.bot, .bot, .bot, .bot, .bot, .bot, .bot]
def dR8(s:aJ)(ids:List Int)(j:Gd s)(o:s.used.length+ids.length<=1000000)(c:dP s.used ids):jR T Tryz.prog Tryz.f98 [.box 100000 0, .sl (ids.map I)] [stC s] (I 0) [stC {s with used:=cO s.used ids}] :=by
 have hll:(ids.map I).length=ids.length:=Ad;repeat' ((conv=>whnf);first|refine zS ?_|fail)
 refine aU (A:=List Int) (B:=List Int) (λD R=>mkSt [(0, .box 100000 0),(9, .sl (ids.map I)),(10,I ids.length),(11,I D.length)] [(100000,stB s D.length)] (stA s (cO s.used D) D.length))
  (λD R=>ids=D++R/\((cO s.used D).map id).Pairwise (·<·)/\(cO s.used D).length=s.used.length+D.length/\(dP s.used ids↔dP (cO s.used D) R)) (λD R=>R.length) [] ids ?_ ⟨rfl,j.su,rfl,RU⟩ (λD R hp=>?_)
 exact JV;obtain⟨hp,b,hpl,hpo⟩:=hp;cases R with
 |nil=>
  have a:ids.length=D.length:=Ae;have e:ids=D:=Ae;rw[e];rw[e]at a hll;exact O9
 |cons n R=>
  have a:=aO hp;have g:=cQ0 n (cO s.used D) Iz b;have f:=bP5 (cO s.used D) (bs id (cO s.used D) n) n (bQ8 _ _ _) Iz;have hsn:=aW4 s.used D n;have hps2:=λh=>rF (n:=n) b h;have hlp:(putN (cO s.used D) n).length=(cO s.used D).length+1:=mQ;have hq:dP (cO s.used D) (n::R)↔n∉cO s.used D/\dP (putN (cO s.used D) n) R:=RU;have hmm:(∃m∈cO s.used D,m=n)↔n∈cO s.used D:=⟨λ⟨m,h,e⟩=>e▸h,λh=>⟨n,h,rfl⟩⟩;have i:((D++[n]).length:Int)=(D.length:Int)+1:=Ad;generalize cO s.used D=U at*;have d:putN U n=putAt U (bs id U n) n:=rfl;rw[<-d]at f;generalize bs id U n=k at*;generalize putN U n=l at*;generalize (∃m∈U,m=n)=P at*;repeat' ((conv=>whnf);first|omega|(refine aS5 (g) true ?_ rfl ?_;focus ((repeat' (first|exact trivial|refine And.intro ?_ ?_|with_reducible rfl|exact(λh=>Ah)|exact rfl));done))|refine zh (xX f) [] ?_|refine zS ?_|refine zT ?_ ?_<;>intro _|fail)
  all_goals conv=>whnf
  exact absurd (hmm.1 Ag) (hq.1 (hpo.1 c)).1;all_goals refine⟨(D++[n],R),?_,⟨Ae,DK,DF,C9⟩,Ad⟩
  exact Qv
def aT7 s ids(c:Gd s)(b:s.used.length+ids.length<=1000000)(a:dP s.used ids):SpB 98 [.box 100000 0, .sl (ids.map I)] [stC s] (I 0) [stC {s with used:=cO s.used ids}] :=
 b_of func98 Ac Ac rfl rfl (dR8 s ids c b a)
def dN4(s:aJ)(ids:List Int)(j:Gd s)(o:s.used.length+ids.length<=1000000)(c:¬dP s.used ids):jR T Tryz.prog Tryz.f98 [.box 100000 0, .sl (ids.map I)] [stC s] (I 7) [bots] :=by
 have hll:(ids.map I).length=ids.length:=Ad;repeat' ((conv=>whnf);first|refine zS ?_|fail)
 refine aU (A:=List Int) (B:=List Int) (λD R=>mkSt [(0, .box 100000 0),(9, .sl (ids.map I)),(10,I ids.length),(11,I D.length)] [(100000,stB s D.length)] (stA s (cO s.used D) D.length))
  (λD R=>ids=D++R/\((cO s.used D).map id).Pairwise (·<·)/\(cO s.used D).length=s.used.length+D.length/\(dP s.used ids↔dP (cO s.used D) R)) (λD R=>R.length) [] ids ?_ ⟨rfl,j.su,rfl,RU⟩ (λD R hp=>?_)
 exact JV;obtain⟨hp,b,hpl,hpo⟩:=hp;cases R with
 |nil=>
  have a:ids.length=D.length:=Ae;have e:ids=D:=Ae;exact absurd (hpo.2 trivial) c
 |cons n R=>
  have a:=aO hp;have g:=cQ0 n (cO s.used D) Iz b;have f:=bP5 (cO s.used D) (bs id (cO s.used D) n) n (bQ8 _ _ _) Iz;have hsn:=aW4 s.used D n;have hps2:=λh=>rF (n:=n) b h;have hlp:(putN (cO s.used D) n).length=(cO s.used D).length+1:=mQ;have hq:dP (cO s.used D) (n::R)↔n∉cO s.used D/\dP (putN (cO s.used D) n) R:=RU;have hmm:(∃m∈cO s.used D,m=n)↔n∈cO s.used D:=⟨λ⟨m,h,e⟩=>e▸h,λh=>⟨n,h,rfl⟩⟩;have i:((D++[n]).length:Int)=(D.length:Int)+1:=Ad;generalize cO s.used D=U at*;have d:putN U n=putAt U (bs id U n) n:=rfl;rw[<-d]at f;generalize bs id U n=k at*;generalize putN U n=l at*;generalize (∃m∈U,m=n)=P at*;repeat' ((conv=>whnf);first|omega|(refine aS5 (g) true ?_ rfl ?_;focus ((repeat' (first|exact trivial|refine And.intro ?_ ?_|with_reducible rfl|exact(λh=>Ah)|exact rfl));done))|refine zh (xX f) [] ?_|refine zS ?_|refine zT ?_ ?_<;>intro _|fail)
  all_goals conv=>whnf
  ·skip
   all_goals conv=>whnf
   all_goals first|exact⟨_,rfl,zc1⟩|exact zc1
  all_goals refine⟨(D++[n],R),?_,⟨Ae,DK,DF,C9⟩,Ad⟩
  exact Qv
def aU4 s ids(c:Gd s)(b:s.used.length+ids.length<=1000000)(a:¬dP s.used ids):SpB 98 [.box 100000 0, .sl (ids.map I)] [stC s] (I 7) [bots] :=
 b_of func98 Ac Ac rfl rfl (dN4 s ids c b a)
def aB8:∀ {l:List d},(l.map key).Pairwise (·<·)->(∃y∈l,key y=t)->∃m,l[bs key l t]? =some m/\key m=t
 | [],_,⟨y,a,_⟩=>by cases a
 |x::r,c,⟨y,a,e⟩=>by
  rw[Rt,S9]at c;let⟨g,i⟩:=c;by_cases h:key x<t
  have b:bs key (x::r) t=bs key r t+1:=by
   unfold bs;rw[List.takeWhile_cons_of_pos Fj,Ro]
  rcases Rl.1 a with rfl|a;omega;let⟨m,j,f⟩:=aB8 i ⟨y,a,e⟩;exact⟨m,by rw[b];exact j,f⟩
  have b:bs key (x::r) t=0:=by
   unfold bs;rw[List.takeWhile_cons_of_neg Fj];rfl
  rcases Rl.1 a with rfl|a;exact⟨y,by rw[b];rfl,e⟩;have:=g _ (RD a);omega
def prog(x:aN)(p:ByteArray):aN:={x with program:=p}
def setK(s:aJ)(k:Nat)(x:aN):aJ:={s with stocks:=s.stocks.set k x}
theorem cP1 s k x:stC (setK s k x)=[.own 57 ((s.stocks.map aQ).set ((k:Int)).toNat (aQ x)), .own 42 (s.pieces.map aZ), .own 3 (s.used.map I),I s.received.1,I s.received.2,I s.scrap.1,I s.scrap.2] :=by
 unfold stC setK;rw[SK,Vd]
def cH5 s e m(hs:Gd s)(a:∃m∈s.stocks,sid m=e.id)(hm:s.stocks[bs sid s.stocks e.id]? =some m)(b:m.program=aI):
 jR T Tryz.prog Tryz.f57 [.box 100000 0,aS e] [stC s] (I 0) [stC (setK s (bs sid s.stocks e.id) (prog m e.text))] :=by
 exact NF
def bM2 s e m(d:Gd s)(a:∃m∈s.stocks,sid m=e.id)(b:s.stocks[bs sid s.stocks e.id]? =some m)(c:m.program=aI):
 SpB 57 [.box 100000 0,aS e] [stC s] (I 0) [stC (setK s (bs sid s.stocks e.id) (prog m e.text))] :=
 b_of func57 Ac Ac rfl rfl (cH5 s e m d a b c)
def cM4 s e m(a:Gd s)(f:∃m∈s.stocks,sid m=e.id)(d:s.stocks[bs sid s.stocks e.id]? =some m)(i:¬(m.program=aI)):
 jR T Tryz.prog Tryz.f57 [.box 100000 0,aS e] [stC s] (I 27) [bots] :=by
 have h1:=find_spec s e.id a;have b:=(QW.1 d).1;have c:(s.stocks.map aQ).length=s.stocks.length:=Ad;have g:=a.ls;exact Nv
def bM0 s e m(d:Gd s)(a:∃m∈s.stocks,sid m=e.id)(b:s.stocks[bs sid s.stocks e.id]? =some m)(c:¬(m.program=aI)):
 SpB 57 [.box 100000 0,aS e] [stC s] (I 27) [bots] :=
 b_of func57 Ac Ac rfl rfl (cM4 s e m d a b c)
def cI5 s e(hs:Gd s)(a:¬∃m∈s.stocks,sid m=e.id):
 jR T Tryz.prog Tryz.f57 [.box 100000 0,aS e] [stC s] (I 8) [bots] :=by
 exact N7
def bN7 s e(b:Gd s)(a:¬∃m∈s.stocks,sid m=e.id):
 SpB 57 [.box 100000 0,aS e] [stC s] (I 8) [bots] :=
 b_of func57 Ac Ac rfl rfl (cI5 s e b a)
def cR7 s e m(hs:Gd s)(a:∃m∈s.stocks,sid m=e.id)(hm:s.stocks[bs sid s.stocks e.id]? =some m)(b:m.program≠aI):
 jR T Tryz.prog Tryz.f58 [.box 100000 0,aS e] [stC s] (I 0) [stC (setK s (bs sid s.stocks e.id) (prog m aI))] :=by
 exact NF
def bZ5 s e m(d:Gd s)(a:∃m∈s.stocks,sid m=e.id)(b:s.stocks[bs sid s.stocks e.id]? =some m)(c:m.program≠aI):
 SpB 58 [.box 100000 0,aS e] [stC s] (I 0) [stC (setK s (bs sid s.stocks e.id) (prog m aI))] :=
 b_of func58 Ac Ac rfl rfl (cR7 s e m d a b c)
def cX3 s e m(a:Gd s)(f:∃m∈s.stocks,sid m=e.id)(d:s.stocks[bs sid s.stocks e.id]? =some m)(i:¬(m.program≠aI)):
 jR T Tryz.prog Tryz.f58 [.box 100000 0,aS e] [stC s] (I 10) [bots] :=by
 have h1:=find_spec s e.id a;have b:=(QW.1 d).1;have c:(s.stocks.map aQ).length=s.stocks.length:=Ad;have g:=a.ls;exact Nv
def cB5 s e m(d:Gd s)(a:∃m∈s.stocks,sid m=e.id)(b:s.stocks[bs sid s.stocks e.id]? =some m)(c:¬(m.program≠aI)):
 SpB 58 [.box 100000 0,aS e] [stC s] (I 10) [bots] :=
 b_of func58 Ac Ac rfl rfl (cX3 s e m d a b c)
def cQ4 s e(hs:Gd s)(a:¬∃m∈s.stocks,sid m=e.id):
 jR T Tryz.prog Tryz.f58 [.box 100000 0,aS e] [stC s] (I 8) [bots] :=by
 exact N7
def cA0 s e(b:Gd s)(a:¬∃m∈s.stocks,sid m=e.id):
 SpB 58 [.box 100000 0,aS e] [stC s] (I 8) [bots] :=
 b_of func58 Ac Ac rfl rfl (cQ4 s e b a)
def cV1{l:List V}(h:j=i)(hi:i<l.length)(a:K v):idx (l.set i v) j K:=by
 subst h;exact dE3 _ (by rw[List.getElem?_set_self hi]) a
def setP(s:aJ)(k:Nat)(x:Piece):aJ:={s with pieces:=s.pieces.set k x}
def eI0 s k x y:stC (setP s k x)=[.own 57 (s.stocks.map aQ), .own 42 (((s.pieces.map aZ).set ((k:Int)).toNat (aZ y)).set ((k:Int)).toNat (aZ x)), .own 3 (s.used.map I),I s.received.1,I s.received.2,I s.scrap.1,I s.scrap.2] :=by
 unfold stC setP;rw[SK,List.set_set,Vd]
def marked(m:Piece)(st:Int)(o:ByteArray):Piece:={m with status:=st,order:=o}
def dU8 s n st o m(b:Gd s)(f:∃m∈s.pieces,m.id=n)(e:s.pieces[bs Piece.id s.pieces n]? =some m)(i:m.status=1):
 jR T Tryz.prog Tryz.f105 [.box 100000 0,I n,I st,S o] [stC s] (I 0) [stC (setP s (bs Piece.id s.pieces n) (marked m st o))] :=by
 have c:=uQ s n b;have d:=(QW.1 e).1;have a:(s.pieces.map aZ).length=s.pieces.length:=Ad;have g:=b.lp;generalize bs Piece.id s.pieces n=k at*;generalize (∃m∈s.pieces,m.id=n)=P at*;rw[eI0 s k (marked m st o) {m with status:=st}];repeat' ((conv=>whnf);first|(exfalso;contradiction)|refine zh (c) [100000] ?_|refine dS rfl rfl BL ?_|refine dS rfl rfl (by refine⟨by omega,?_⟩;show _< ((List.set (s.pieces.map aZ) _ _).length:Int);rw[TK];omega) ?_|refine dB8 rfl rfl ?_|refine cV1 rfl (by rw[a];omega) ?_|refine zS ?_|refine zT ?_ ?_<;>intro _|fail)
 all_goals conv=>whnf
 all_goals first|exact⟨_,rfl,zc1⟩|exact zc1
def cU5 s n st o m(d:Gd s)(a:∃m∈s.pieces,m.id=n)(b:s.pieces[bs Piece.id s.pieces n]? =some m)(c:m.status=1):
 SpB 105 [.box 100000 0,I n,I st,S o] [stC s] (I 0) [stC (setP s (bs Piece.id s.pieces n) (marked m st o))] :=
 b_of func105 Ac Ac rfl rfl (dU8 s n st o m d a b c)
def eE6 s n st o m(a:Gd s)(f:∃m∈s.pieces,m.id=n)(e:s.pieces[bs Piece.id s.pieces n]? =some m)(i:¬m.status=1):
 jR T Tryz.prog Tryz.f105 [.box 100000 0,I n,I st,S o] [stC s] (I 10) [bots] :=by
 have b:=uQ s n a;have c:=(QW.1 e).1;have d:(s.pieces.map aZ).length=s.pieces.length:=Ad;have g:=a.lp;generalize bs Piece.id s.pieces n=k at*;generalize (∃m∈s.pieces,m.id=n)=P at*;repeat' ((conv=>whnf);first|(exfalso;contradiction)|refine zh (b) [100000] ?_|refine dS rfl rfl BL ?_|refine zS ?_|refine zT ?_ ?_<;>intro _|fail)
 all_goals conv=>whnf
 all_goals first|exact⟨_,rfl,zc1⟩|exact zc1
def cR1 s n st o m(d:Gd s)(a:∃m∈s.pieces,m.id=n)(b:s.pieces[bs Piece.id s.pieces n]? =some m)(c:¬m.status=1):
 SpB 105 [.box 100000 0,I n,I st,S o] [stC s] (I 10) [bots] :=
 b_of func105 Ac Ac rfl rfl (eE6 s n st o m d a b c)
def eL2 s n st o(b:Gd s)(c:¬∃m∈s.pieces,m.id=n):
 jR T Tryz.prog Tryz.f105 [.box 100000 0,I n,I st,S o] [stC s] (I 8) [bots] :=by
 have a:=uQ s n b;generalize bs Piece.id s.pieces n=k at*;generalize (∃m∈s.pieces,m.id=n)=P at*;repeat' ((conv=>whnf);first|(exfalso;contradiction)|refine zh (a) [100000] ?_|refine zS ?_|refine zT ?_ ?_<;>intro _|fail)
 all_goals conv=>whnf
 all_goals first|exact⟨_,rfl,zc1⟩|exact zc1
def cX9 s n st o(b:Gd s)(a:¬∃m∈s.pieces,m.id=n):
 SpB 105 [.box 100000 0,I n,I st,S o] [stC s] (I 8) [bots] :=
 b_of func105 Ac Ac rfl rfl (eL2 s n st o b a)
def dP5 s e(hl:a=[bots]\/∃s',a=[stC s'])(h:SpB 105 [.box 100000 0,I e.id,I 2,S aI] [stC s] (I r) a):
 jR T Tryz.prog Tryz.f60 [.box 100000 0,aS e] [stC s] (I r) a:=by
 exact OI
def aU1 s e(hl:a=[bots]\/∃s',a=[stC s'])(h:SpB 105 [.box 100000 0,I e.id,I 2,S aI] [stC s] (I r) a):
 SpB 60 [.box 100000 0,aS e] [stC s] (I r) a:=
 b_of func60 Ac Ac rfl Dv (dP5 s e hl h)
def eR6 s e(hl:a=[bots]\/∃s',a=[stC s'])(h:SpB 105 [.box 100000 0,I e.id,I 3,S e.text] [stC s] (I r) a):
 jR T Tryz.prog Tryz.f61 [.box 100000 0,aS e] [stC s] (I r) a:=by
 exact OI
def bS3 s e(hl:a=[bots]\/∃s',a=[stC s'])(h:SpB 105 [.box 100000 0,I e.id,I 3,S e.text] [stC s] (I r) a):
 SpB 61 [.box 100000 0,aS e] [stC s] (I r) a:=
 b_of func61 Ac Ac rfl Dv (eR6 s e hl h)
def plus(b:Bool)(r:Iv)(n:Int):Iv:=if b then(r.1,W (r.2+n))else(W (r.1+n),r.2)
def aX7(s:aJ)(x:aN):aJ:={stocks:=putS s.stocks x,pieces:=s.pieces,used:=putN s.used (sid x),received:=plus x.isBar s.received (gG x),scrap:=s.scrap}
def eO0(a:Gd s)(b:s.used.length+1<=1000000)(c:n∉s.used):Gd {s with used:=putN s.used n}:=
 ⟨a.ls,a.lp,by show(putN s.used n).length<=_;rw[show(putN s.used n).length=s.used.length+1 from mQ];exact b,a.ss,a.sp,rF a.su c⟩
def cJ5(s:aJ)(x:aN)(d:Gd s)(e:eY x)(a:s.used.length+1<=1000000)(c:sid x∉s.used):
 jR T Tryz.prog Tryz.f96 [.box 100000 0,aQ x] [stC s] (I 0) [stC (aX7 s x)] :=by
 have g:=aE2 x;have h2:=aT7 s [sid x] d a ⟨c,trivial⟩;have h3:=cF7 {s with used:=putN s.used (sid x)} x (eO0 d a c);have i:=oL x.isBar;have j:=vF x e;change SpB _ _ _ _ [stC {s with used:=putN s.used (sid x)}]at h2;unfold aX7;unfold addS at h3;simp only at h3;generalize putN s.used (sid x)=U at*;generalize putS s.stocks x=L at*;generalize sid x=n at*;generalize gG x=z at*;unfold plus;obtain⟨b,k,f,p⟩:=x;cases b
 ·exact JM
 ·exact JM
def bN1 s x(c:Gd s)(d:eY x)(a:s.used.length+1<=1000000)(b:sid x∉s.used):
 SpB 96 [.box 100000 0,aQ x] [stC s] (I 0) [stC (aX7 s x)] :=
 b_of func96 Ac Ac rfl rfl (cJ5 s x c d a b)
def cK4(s:aJ)(x:aN)(d:Gd s)(b:s.used.length+1<=1000000)(c:sid x∈s.used):
 jR T Tryz.prog Tryz.f96 [.box 100000 0,aQ x] [stC s] (I 7) [bots] :=by
 have e:=aE2 x;have a:=aU4 s [sid x] d b (λh=>h.1 c);generalize sid x=n at*;repeat' ((conv=>whnf);first|omega|refine zh (a) [100000] ?_|refine zS ?_|refine zT ?_ ?_<;>intro _|fail)
 all_goals conv=>whnf
 all_goals first|exact⟨_,rfl,zc1⟩|exact zc1
def bM7 s x(c:Gd s)(a:s.used.length+1<=1000000)(b:sid x∈s.used):
 SpB 96 [.box 100000 0,aQ x] [stC s] (I 7) [bots] :=
 b_of func96 Ac Ac rfl rfl (cK4 s x c a b)
def eF2 s e(hl:a=[bots]\/∃s',a=[stC s'])(h:SpB 96 [.box 100000 0,aQ (⟨true,dN,e.bar,aI⟩:aN)] [stC s] (I r) a):
 jR T Tryz.prog Tryz.f56 [.box 100000 0,aS e] [stC s] (I r) a:=by
 exact OI
def bJ1 s e(hl:a=[bots]\/∃s',a=[stC s'])(h:SpB 96 [.box 100000 0,aQ (⟨true,dN,e.bar,aI⟩:aN)] [stC s] (I r) a):
 SpB 56 [.box 100000 0,aS e] [stC s] (I r) a:=
 b_of func56 Ac Ac rfl Dv (eF2 s e hl h)
def dO1 s e(hl:a=[bots]\/∃s',a=[stC s'])(h:SpB 96 [.box 100000 0,aQ (⟨false,e.sheet,bar0,aI⟩:aN)] [stC s] (I r) a):
 jR T Tryz.prog Tryz.f55 [.box 100000 0,aS e] [stC s] (I r) a:=by
 exact OI
def aW2 s e(hl:a=[bots]\/∃s',a=[stC s'])(h:SpB 96 [.box 100000 0,aQ (⟨false,e.sheet,bar0,aI⟩:aN)] [stC s] (I r) a):
 SpB 55 [.box 100000 0,aS e] [stC s] (I r) a:=
 b_of func55 Ac Ac rfl Dv (dO1 s e hl h)
end Go.Proofs.Led
namespace Go.Proofs.Led
open Go Go.Proofs Go.Ab Go.RowKit Go.Lib Tryz
def yA
 (hg:o.guard=none) d x c e(b:o.op=Op.call {callee:=Callee.builtin Builtin.append,args:= #[d,x],argTypes:= #[c,e]})
  v u(f:a.eval d=v)(j:a.eval x=u)(g:(Builtin.append_ #[c,e] o.type #[v,u]).run P w= .ok v' w')(hK:K (a.put o.dst v') w'):
 if Region.wanted o (yielded ops a.tmps)=true then Oper.wp P o a w K Q else E:=by
 have i:Region.wanted o (yielded ops a.tmps)=true:=CX;rw[QU i];unfold Oper.wp;simp[execOp,b,resolve,invoke,builtin,f,j,g,Result.andThen];exact hK
def dQ4(b m c i:Nat)(cur:Array Value)(w:World)(hi:i<=m)(ai:m+1<=c)(W:c<=9223372036854775807)
 (L:w.heap[b]? =some (.cells cur 57 (0,0)))(o:cur.size=c*14)(h1:∀v∈cur.toList.take ((m+1)*14),v.oneCell'=true):
 Calls Tryz.prog 100 #[.slice (some ⟨b,0,none⟩) (m+1) c, .int .i64 i, .int .i64 ((i:Int)+1)] w λe w'=>
  ∃F:List Value,F.length=14/\e= .returned (.slice (some ⟨b,0,none⟩) m c)/\w'=(w.drew.setRow b (lay cur (i*14) ((cur.toList.drop ((i+1)*14)).take ((m-i)*14)))).setRow b (lay (lay cur (i*14) ((cur.toList.drop ((i+1)*14)).take ((m-i)*14))) (m*14) F):=by
 obtain⟨Y,B,g,S,z,X,C,t,D,-,-⟩:=(uG 57 (QV Ac)).info;have Z:(T.row 57).size=14:=Ac;rw[Z]at g D;have J:z.cells.size=14:=by rw[<-SB,C,D]
 have y:cur.toList.length=c*14:=by rw[<-o];exact SB
 obtain⟨a,d⟩:∃a,a=(cur.toList.drop ((i+1)*14)).take ((m-i)*14):=⟨_,rfl⟩;have r:a.length=(m-i)*14:=by rw[d,Rk,Sr,y];omega
 obtain⟨f,n⟩:∃f,f=lay cur (i*14) a:=⟨_,rfl⟩;have Q:f.size=c*14:=by rw[n,lay_size (by rw[r,o];omega),o]
 rw[<-d,<-n]
 have O:∀v∈a,v.oneCell'=true:=λv hv=>h1 v (by
  rw[d]at hv;have:(cur.toList.drop ((i+1)*14)).take ((m-i)*14)=(cur.toList.take ((m+1)*14)).drop ((i+1)*14):=by rw[Vf];congr 1;omega
  rw[this]at hv;exact RQ hv)
 obtain⟨A,l,K⟩:∃A:Addr,(if c=i+1 then(⟨b,0,none⟩:Addr)else⟨b,(i+1)*14,none⟩)=A/\∀j v,a[j]? =some v->w.drew.cell? (A.add j)=some v:=by
  by_cases h:c=i+1;refine⟨_,QU h,λj v q=>?_⟩;have:a=[] :=RS.1 (by rw[r];omega);rw[this]at q;simp at q;refine⟨_,Q9 h,λj v q=>?_⟩;rw[Addr.add_lit];rw[d,TV]at q;split at q;rw[SA,Ud]at q;have M:w.drew.heap[b]? =some (.cells cur 57 (0,0)):=L;simp only[World.cell?,M];simpa using q;cases q
 have G:∀ty,(Builtin.append_ #[31,31] ty #[.slice (some ⟨b,0,none⟩) i c, .slice (some A) (m-i) (c- (i+1))]).run Tryz.prog w.drew= .ok (.slice (some ⟨b,0,none⟩) m c) (w.drew.setRow b f):=λty=>by
  have h:=run_append_room (P:=Tryz.prog) w.drew 31 ty 57 Y underlying31 B b i c cur L A (m-i) (c- (i+1)) a (by rw[g];exact r) K O Aa (by rw[r,g,o];omega);rw[g,show i+(m-i)=m from Aa]at h;rw[n];exact h
 have k:(Builtin.zeroCells z.cells 1).toList.length=14:=by rw[SB];simp[Builtin.zeroCells,J]
 have I:∀v∈(Builtin.zeroCells z.cells 1).toList,v.oneCell'=true:=λv hv=>t v (by
  rw[<-C];unfold Builtin.zeroCells at hv;simp at hv;obtain⟨j,q,rfl⟩:=hv;rw[getElem!_pos z.cells _ (SC _ Aa)];exact Array.getElem_mem_toList _)
 have s:(Builtin.clear_ #[31] 0 #[.slice (some ⟨b,m*14,none⟩) 1 (c-m)]).run Tryz.prog (w.drew.setRow b f)= .ok (.tuple #[]) ((w.drew.setRow b f).setRow b (lay f (m*14) (Builtin.zeroCells z.cells 1).toList)):=by
  have R:=run_storeCells_at Tryz.prog b (m*14) 57 (Builtin.zeroCells z.cells 1).toList 0 f (w.drew.setRow b f) (TN w.drew b cur f _ _ L) (by rw[k,Q];omega) I;have U:∀w',(zeroValue 57).run Tryz.prog w'= .ok z w':=λw'=>by simp[zeroValue,typeInfo,B,X]
  unfold lay;simp[Builtin.clear_,RJ underlying31,U,R]
 obtain⟨F,E,x⟩:∃F:List Value,F.length=14/\(Builtin.clear_ #[31] 0 #[.slice (some ⟨b,m*14,none⟩) 1 (c-m)]).run Tryz.prog (w.drew.setRow b f)= .ok (.tuple #[]) ((w.drew.setRow b f).setRow b (lay f (m*14) F)):=⟨_,k,s⟩;clear s I k J D t C X S g B z Y;have ak:IntKind.i64.wrap ((i:Int)+1)=(i:Int)+1:=Az;have al:¬((i:Int)=(i:Int)+1):=Aa;have aa:(0:Int)<=(i:Int)+1:=Aa;have aj:((i:Int)+1).toNat=i+1:=Aa;have ab:(i:Int)<=(i:Int)+1:=Aa;have ac:(i:Int)+1<=(m:Int)+1:=Aa;have ad:(m:Int)+1<=(c:Int):=Aa;have ae:¬(c=m):=Aa;have af:¬(c=i):=Aa;have ag:(i:Int)<=(c:Int):=Aa;have ah:(i:Int)<=(m:Int)+1:=Aa;have V:(m:Int)<=(m:Int)+1:=Aa;have t3:=SL;have t4:=TF;have u3:=RJ SL;have u4:=RJ TF;have uS:=RJ underlying31;have zE:=sizeOf57;have mixed:=mixed;clear n d
 have key:Calls Tryz.prog 100 #[.slice (some ⟨b,0,none⟩) (m+1) c, .int .i64 i, .int .i64 ((i:Int)+1)] w λe w'=>e= .returned (.slice (some ⟨b,0,none⟩) m c)/\w'=(w.drew.setRow b f).setRow b (lay f (m*14) F):=by
  by_cases u:c=i+1
  ·rw[QU u]at l
   subst l;have N:m=i:=Aa;subst N;subst u
   have H:∀ty,(Builtin.append_ #[31,31] ty #[.slice (some ⟨b,0,none⟩) m (m+1), .slice (some ⟨b,0,none⟩) 0 0]).run Tryz.prog w.drew= .ok (.slice (some ⟨b,0,none⟩) m (m+1)) (w.drew.setRow b f):=by
    intro ty;have h:=G ty;rw[Nat.sub_self,Nat.sub_self]at h;exact h
   rw[show m+1-m=1 from Aa]at x
   go_enter func100,ntmps100
   go_wp2_with fail
   go_region_law_o (refine yA rfl (.tmp 22) (.tmp 25) 31 31 rfl (.slice (some ⟨b,0,none⟩) m (m+1)) (.slice (some ⟨b,0,none⟩) 0 0) A7 A7 (H _) ?_)
   go_wp2_with (simp only[x,RG])
   go_ret
   exact⟨rfl,rfl⟩
  rw[Q9 u]at l;subst l
  go_enter func100,ntmps100
  go_wp2_with fail
  go_region_law_o (refine yA rfl (.tmp 22) (.tmp 25) 31 31 rfl (.slice (some ⟨b,0,none⟩) i c) (.slice (some ⟨b,(i+1)*14,none⟩) (m-i) (c- (i+1))) A7 A7 (G _) ?_)
  go_wp2_with (simp only[x,RG])
  go_ret
  exact⟨rfl,rfl⟩
 refine key.mono ?_;rintro e w' ⟨rfl,rfl⟩;exact⟨_,E,rfl,rfl⟩
def dL5 l(i:Nat)(hi:i<l.length)(hl:l.length<=1000000000):Sp 100 [.own 57 l,I i,I ((i:Int)+1)] (.own 57 (l.take i++l.drop (i+1))):=by
 have u:(T.row 57).size=14:=Ac;refine⟨Ac,λw G cs N O P v h5=>?_⟩;obtain⟨H,J,K,rfl⟩:=arr3 N;have Z:=v 0 H _ rfl rfl;have r1:=aN3 (v 1 J (I i) rfl rfl);have r2:=aN3 (v 2 K (I ((i:Int)+1)) rfl rfl);subst r1 r2;let⟨R,s,Y⟩:=Z;rcases Y with⟨_,rfl⟩|⟨b,c,cur,rfl,U,E,W,hcm,hcs,j,d⟩;simp at hi;rw[u]at hcs d;have a:=j;rw[u]at a;obtain⟨m,F⟩:∃m,l.length=m+1:=⟨l.length-1,Aa⟩;have f:cur.toList.length=c*14:=Ho;have k:c<=9223372036854775807:=G6;have r:((cur.toList.drop ((i+1)*14)).take ((m-i)*14)).length=(m-i)*14:=by rw[Rk,Sr,f];omega
 have x:bM (l.take i++l.drop (i+1)):=aH.2 λy A=>by
  rcases Rh.1 A with h|h;exact aH.1 s y (RP h);exact aH.1 s y (RQ h)
 have n:(l.take i++l.drop (i+1)).length=m:=AY
 have B:∀y∈l.take i++l.drop (i+1),y.cells.length=(T.row 57).size:=λy A=>by
  rcases Rh.1 A with h|h;exact j y (RP h);exact j y (RQ h)
 let⟨L,_⟩:=xW (i:=i) a Aa;let⟨_,M⟩:=xW (i:=i+1) a Aa
 have Q:RvL w G (cur.toList.take (i*14)) ((l.take i).flatMap V.cells):=by
  have:=aM1 d (i*14);rw[Ve,UH Aa,L]at this;exact this
 have S:RvL w G ((cur.toList.drop ((i+1)*14)).take ((m-i)*14)) ((l.drop (i+1)).flatMap V.cells):=by
  have:=aL4 d ((i+1)*14);rw[M,Vf,show l.length*14- (i+1)*14=(m-i)*14 from Aa]at this;exact this
 rw[F];refine(dQ4 b m c i cur w Aa Aa k E hcs (by rw[<-F];exact d.one)).mono ?_;rintro e w' ⟨zs,C,rfl,rfl⟩;have g:=lay_size (cur:=cur) (o:=i*14) (vs:=(cur.toList.drop ((i+1)*14)).take ((m-i)*14)) (by rw[r,hcs];omega);refine jM R x n B (X:=lay (lay cur (i*14) ((cur.toList.drop ((i+1)*14)).take ((m-i)*14))) (m*14) zs) ?_ (TN _ b _ _ _ _ (TN w.drew b cur _ _ _ E)) ?_ Aa hcm O P (.inl U) (λq hq t=>?_) ?_ rfl rfl rfl;rw[u,xJ,Tn];have z:(lay cur (i*14) ((cur.toList.drop ((i+1)*14)).take ((m-i)*14))).toList.length=c*14:=by rw[SB,g,hcs]
 rw[List.take_append_of_le_length (by rw[Rk,z];omega),Ve,Nat.min_self];have D:m*14=i*14+((cur.toList.drop ((i+1)*14)).take ((m-i)*14)).length:=by rw[r];omega
 rw[D,layC (by rw[<-D,hcs];omega),Ub];exact oH Q S;rw[lay_size (by rw[C,g,hcs];omega),g,hcs,u];rw[TA _ b q _ t,TA _ b q _ t];rfl;rw[size_setRow,size_setRow];exact Rf _
end Go.Proofs.Led
namespace Go.Proofs.Led
open Go Go.Proofs Go.Ab Tryz
def nN{α:Type}(l:List α)(i:Nat):List α:=l.take i++l.drop (i+1)
def bK1 l(i:Nat)(hi:i<l.length)(hl:l.length<=1000000000):Sp 100 [.own 57 (l.map aQ),I i,I ((i:Int)+1)] (.own 57 ((nN l i).map aQ)):=by
 have h:=dL5 (l.map aQ) i Ih BG;unfold nN;rw[RH,List.map_take,List.map_drop];exact h
def aX4(s:aJ)(k:Nat)(m:aN):aJ:={stocks:=nN s.stocks k,pieces:=s.pieces,used:=s.used,received:=s.received,scrap:=plus m.isBar s.scrap (gG m)}
def cG4 s e m(c:Gd s)(o:∃m∈s.stocks,sid m=e.id)(f:s.stocks[bs sid s.stocks e.id]? =some m)(r:m.program=aI)(g:eY m):
 jR T Tryz.prog Tryz.f62 [.box 100000 0,aS e] [stC s] (I 0) [stC (aX4 s (bs sid s.stocks e.id) m)] :=by
 have h1:=find_spec s e.id c;have a:=(QW.1 f).1;have d:(s.stocks.map aQ).length=s.stocks.length:=Ad;have q:=c.ls;have j:=bK1 s.stocks (bs sid s.stocks e.id) a Aa;have l:=oL m.isBar;have n:=vF m g;unfold aX4;generalize bs sid s.stocks e.id=k at*;generalize (∃m∈s.stocks,sid m=e.id)=P at*;generalize nN s.stocks k=L at*;generalize gG m=z at*;unfold plus;let⟨b,t,i,p⟩:=m;cases b
 ·exact J3
 ·exact J3
def bM1 s e m(d:Gd s)(a:∃m∈s.stocks,sid m=e.id)(b:s.stocks[bs sid s.stocks e.id]? =some m)(c:m.program=aI)(f:eY m):
 SpB 62 [.box 100000 0,aS e] [stC s] (I 0) [stC (aX4 s (bs sid s.stocks e.id) m)] :=
 b_of func62 Ac Ac rfl rfl (cG4 s e m d a b c f)
def cN0 s e m(d:Gd s)(f:∃m∈s.stocks,sid m=e.id)(c:s.stocks[bs sid s.stocks e.id]? =some m)(g:m.program≠aI):
 jR T Tryz.prog Tryz.f62 [.box 100000 0,aS e] [stC s] (I 27) [bots] :=by
 have h1:=find_spec s e.id d;have a:=(QW.1 c).1;have b:(s.stocks.map aQ).length=s.stocks.length:=Ad;exact Nv
def bO0 s e m(d:Gd s)(a:∃m∈s.stocks,sid m=e.id)(b:s.stocks[bs sid s.stocks e.id]? =some m)(c:m.program≠aI):
 SpB 62 [.box 100000 0,aS e] [stC s] (I 27) [bots] :=
 b_of func62 Ac Ac rfl rfl (cN0 s e m d a b c)
def cE2 s e(hs:Gd s)(a:¬∃m∈s.stocks,sid m=e.id):
 jR T Tryz.prog Tryz.f62 [.box 100000 0,aS e] [stC s] (I 8) [bots] :=by
 exact N7
def bO2 s e(b:Gd s)(a:¬∃m∈s.stocks,sid m=e.id):
 SpB 62 [.box 100000 0,aS e] [stC s] (I 8) [bots] :=
 b_of func62 Ac Ac rfl rfl (cE2 s e b a)
def bM6 s:Sp 90 [zJ s] (DB (pJ s)):=by
 refine zsp func90 ?_;have a:pJ s↔s.id=0/\s.grade=aI/\s.heat=aI/\s.grain=0/\s.shape.outer.length=0/\s.shape.holes.length=0/\s.defects.length=0:=RU;generalize pJ s=P at*;have d:(s.shape.outer.map vcV).length=s.shape.outer.length:=Ad;have e:(s.shape.holes.map rgV).length=s.shape.holes.length:=Ad;have f:(s.defects.map shV).length=s.defects.length:=Ad;repeat' ((conv=>whnf);first|refine jI (λb=>?_) (λb=>?_)|refine zS ?_|refine zm (λx c=>?_)|refine zT ?_ ?_<;>intro _|fail)
 all_goals conv=>whnf
 all_goals first
  |exact aA (sK ⟨λh=>a.2 ⟨Aa,Ag,Ag,Aa,Aa,Aa,Aa⟩,λh=>by have:=(a.1 h).2.2.2.2.2.2;omega⟩)
  |exact aA (aC (λh=>by have:=(a.1 h);omega))
  |exact aA (aC (λh=>absurd (a.1 h).2.1 Ag))
  |exact aA (aC (λh=>absurd (a.1 h).2.2.1 Ag))
def aX9(h:dB s):lK s:=⟨iT h.2.2.2.1.1,by have:=h.2.2.2.2.1;omega,λd a=>iT (h.2.2.2.2.2.2.2 d a).1.1⟩
def bU7(c:Made):Prop:=nC c.id/\iM c.part/\1<=c.size
def bR4(r:Rest):Prop:=nC r.id/\(r.box=bx0\/(r.lo=0/\r.hi=0))
def nY(e:Event):Prop:=(∀c∈e.cuts,bU7 c)/\(∀r∈e.rests,bR4 r)/\e.cuts.length<=60/\e.rests.length<=6/\0<=e.scrap/\e.text=aI
structure iY(e:Event):Prop where
 sh:tN e.sheet
 br:e.bar.defects.length<=1000000
 ct:e.cuts.length<=1000000
 rs:e.rests.length<=1000000
def bL8 e(q:iY e):Sp 95 [aS e] (DB (nY e)):=by
 refine zsp func95 ?_;have l:(e.cuts.map dK).length=e.cuts.length:=Ad;have m:(e.rests.map bY).length=e.rests.length:=Ad;have y:=q.ct;have v:=q.rs;have j:nY e↔(∀c∈e.cuts,bU7 c)/\(∀r∈e.rests,bR4 r)/\e.cuts.length<=60/\e.rests.length<=6/\0<=e.scrap/\e.text=aI:=RU;generalize nY e=P at*;repeat' ((conv=>whnf);first|refine zS ?_|fail)
 refine aU (A:=List Made) (B:=List Made) (λD R=>mkSt [(1, .box 1 0),(8, .sl (e.cuts.map dK)),(9,I e.cuts.length),(10,I D.length)] [(1,iJ e)] []) (λD R=>e.cuts=D++R/\∀c∈D,bU7 c) (λD R=>R.length) [] e.cuts ?_ ⟨rfl,Ad⟩ (λD R hp=>?_)
 ·refine dV ?_ ?_ ?_ ?_
  all_goals repeat' (first|exact trivial|refine And.intro ?_ ?_|with_reducible rfl|exact(λh=>Ah)|exact Rf _|omega|exact rfl)
  all_goals (try rw[l])
 let⟨hp,k⟩:=hp;cases R with
 |cons c R=>
  have i:=aO hp;have s:=aW0 c.id;have x:=aG6 c.part;have d:c∈e.cuts:=Ae;have g:bU7 c↔nC c.id/\iM c.part/\1<=c.size:=RU;generalize nC c.id=w at*;generalize iM c.part=C at*;repeat' ((conv=>whnf);first|omega|refine zS ?_|refine zT ?_ ?_<;>intro _|fail)
  all_goals conv=>whnf
  all_goals first
   |exact aA (aC (λh=>absurd (g.1 ((j.1 h).1 c d)).1 Ag))
   |exact aA (aC (λh=>absurd (g.1 ((j.1 h).1 c d)).2.1 Ag))
   |exact aA (aC (λh=>by have:=(g.1 ((j.1 h).1 c d)).2.2;omega))
   |skip
  refine⟨(D++[c],R),?_,⟨Ae,λz f=>?_⟩,Ad⟩;exact IW;rcases Rh.1 f with f|f;exact k z f;rw[Ri.1 f];exact g.2 ⟨Ag,Ag,Aa⟩
 |nil=>
  have i:e.cuts.length=D.length:=Ae;have t:∀c∈e.cuts,bU7 c:=λc h=>k c BJ;clear k hp;repeat' ((conv=>whnf);first|omega|refine zS ?_|refine zT ?_ ?_<;>intro _|fail)
  refine aU (A:=List Rest) (B:=List Rest) (λD R=>mkSt [(1, .box 1 0),(31, .sl (e.rests.map bY)),(32,I e.rests.length),(33,I D.length)] [(1,iJ e)] []) (λD R=>e.rests=D++R/\∀c∈D,bR4 c) (λD R=>R.length) [] e.rests ?_ ⟨rfl,Ad⟩ (λD R hp=>?_)
  ·refine dV ?_ ?_ ?_ ?_
   all_goals repeat' (first|exact trivial|refine And.intro ?_ ?_|with_reducible rfl|exact(λh=>Ah)|exact Rf _|omega|exact rfl)
   all_goals (try rw[m])
  let⟨hp,k⟩:=hp;cases R with
  |cons c R=>
   have i:=aO hp;have s:=aW0 c.id;have d:c∈e.rests:=Ae;have g:bR4 c↔nC c.id/\(c.box=bx0\/(c.lo=0/\c.hi=0)):=RU;generalize nC c.id=w at*;repeat' ((conv=>whnf);first|omega|refine cC5 ?_|refine cA4 (a:=c.box) (b:=bx0) (λhv=>?_) (λhv=>?_)|refine zS ?_|refine zT ?_ ?_<;>intro _|fail)
   all_goals conv=>whnf
   all_goals first
    |exact aA (aC (λh=>absurd (g.1 ((j.1 h).2.1 c d)).1 Ag))
    |exact aA (aC (λh=>by rcases(g.1 ((j.1 h).2.1 c d)).2 with o|o;exact absurd o (by assumption);omega))
    |skip
   all_goals refine⟨(D++[c],R),?_,⟨Ae,λz f=>?_⟩,Ad⟩
   all_goals first
    |(rcases Rh.1 f with f|f
      ·exact k z f
      ·rw[Ri.1 f]
       first
        |exact g.2 ⟨Ag, .inl Ag⟩
        |exact g.2 ⟨Ag, .inr ⟨Aa,Aa⟩⟩)
    |skip
   all_goals simp[QY,Rj]
   exact zj;exact zj
  |nil=>
   have n:e.rests.length=D.length:=Ae;have u:∀c∈e.rests,bR4 c:=λc h=>k c BJ;clear k hp;repeat' ((conv=>whnf);first|omega|refine zS ?_|refine zT ?_ ?_<;>intro _|fail)
   all_goals conv=>whnf
   all_goals first
    |exact aA (aC (λh=>by have:=j.1 h;omega))
    |exact aA (qV ⟨λh=>j.2 ⟨t,u,Aa,Aa,Aa,h⟩,λh=>(j.1 h).2.2.2.2.2⟩)
def iD(e:Event):Prop:=
 ((e.kind=1\/e.kind=2)->e.id=0/\e.text=aI)/\(¬(e.kind=1\/e.kind=2)->pJ e.sheet/\yT e.bar)/\(e.kind≠5->e.cuts.length=0/\e.rests.length=0/\e.scrap=0)/\
 (e.kind=1->yT e.bar/\dB e.sheet)/\(e.kind=2->pJ e.sheet/\fM e.bar)/\(e.kind=3\/e.kind=7->iM e.text)/\(e.kind=4\/e.kind=6\/e.kind=8->e.text=aI)/\
 (e.kind=5->nY e)/\1<=e.kind/\e.kind<=8
def aE0 e(b:iY e):Sp 51 [aS e] (DB (iD e)):=by
 refine zsp func51 ?_;have f:=bM6 e.sheet;have g:=cV3 e.bar;have i:=aR2 e.sheet b.sh;have j:=qP e.bar b.br;have k:=aG6 e.text;have l:=bL8 e b;have c:(e.cuts.map dK).length=e.cuts.length:=Ad;have d:(e.rests.map bY).length=e.rests.length:=Ad
 have hr:iD e↔((e.kind=1\/e.kind=2)->e.id=0/\e.text=aI)/\(¬(e.kind=1\/e.kind=2)->pJ e.sheet/\yT e.bar)/\(e.kind≠5->e.cuts.length=0/\e.rests.length=0/\e.scrap=0)/\
  (e.kind=1->yT e.bar/\dB e.sheet)/\(e.kind=2->pJ e.sheet/\fM e.bar)/\(e.kind=3\/e.kind=7->iM e.text)/\(e.kind=4\/e.kind=6\/e.kind=8->e.text=aI)/\
  (e.kind=5->nY e)/\1<=e.kind/\e.kind<=8:=RU
 generalize iD e=P at*;generalize pJ e.sheet=m at*;generalize yT e.bar=n at*;generalize dB e.sheet=o at*;generalize fM e.bar=q at*;generalize iM e.text=r at*;generalize nY e=s at*;have a:e.kind=1\/e.kind=2\/e.kind=3\/e.kind=4\/e.kind=5\/e.kind=6\/e.kind=7\/e.kind=8\/(e.kind<1\/8<e.kind):=Aa;rcases a with a|a|a|a|a|a|a|a|a;exact JA;exact JA;exact IU;exact IU;exact IU;exact IU;exact IU;exact IU;exact IU
def fO(e:Event):List Int:=e.cuts.map Made.id++e.rests.map Rest.id
def sub1(n c:Int):Int:=W (n-minI c (W (n+1)))
def subL(n:Int)(l:List Int):Int:=l.foldl sub1 n
def bQ6 n D c:subL n (D++[c])=sub1 (subL n D) c:=by unfold subL;simp
def nJ(old:aN)(e:Event):Int:=subL (subL (gG old) (e.cuts.map Made.size)) ((eG old e.rests).map gG)
def fZ(e:Event)(old:aN)(c:Made):Piece:=⟨c.id,e.id,c.part,if old.isBar then old.bar.grade else old.sheet.grade,if old.isBar then old.bar.heat else old.sheet.heat,c.size,old.isBar,1,aI⟩
def putP(l:List Piece)(x:Piece):List Piece:=putAt l (bs Piece.id l x.id) x
def cut1(s:aJ)(e:Event):aJ:={s with used:=cO s.used (fO e)}
def cut2(s:aJ)(e:Event)(k:Nat):aJ:={cut1 s e with stocks:=nN s.stocks k}
def cut3(s:aJ)(e:Event)(k:Nat)(l:List aN):aJ:={cut2 s e k with stocks:=l.foldl putS (nN s.stocks k)}
def cut4(s:aJ)(e:Event)(k:Nat)(old:aN)(l:List aN)(c:List Made):aJ:={cut3 s e k l with pieces:=c.foldl (λp x=>putP p (fZ e old x)) s.pieces}
def cut5(s:aJ)(e:Event)(k:Nat)(old:aN):aJ:={cut4 s e k old (eG old e.rests) e.cuts with scrap:=plus old.isBar s.scrap e.scrap}
def eL3(s:aJ)(e:Event)(k:Nat)(r:Int)(bs':List (List V)):Prop:=
 (¬dP s.used (fO e)/\r=7/\bs'=[bots])\/
 (dP s.used (fO e)/\((¬(∃m∈s.stocks,sid m=e.id)/\r=8/\bs'=[bots])\/
  ∃m,(∃m∈s.stocks,sid m=e.id)/\s.stocks[k]? =some m/\((m.program=aI/\r=10/\bs'=[bots])\/
   (m.program≠aI/\eY m/\((cZ m [] e.rests≠0/\r=cZ m [] e.rests/\bs'=[bots])\/
     (cZ m [] e.rests=0/\(∀x∈eG m e.rests,eY x)/\(eG m e.rests).length<=1000000/\((nJ m e≠e.scrap/\r=29/\bs'=[bots])\/
      (nJ m e=e.scrap/\(∀D R,eG m e.rests=D++R->Gd (cut3 s e k D))/\(∀D R,e.cuts=D++R->Gd (cut4 s e k m (eG m e.rests) D))/\r=0/\bs'=[stC (cut5 s e k m)]))))))))
def aA8:∀ ids used,(used.map id).Pairwise (·<·)->dP used ids->((cO used ids).map id).Pairwise (·<·)/\(cO used ids).length=used.length+ids.length
 | [],used,h,_=>⟨h,rfl⟩
 |n::r,used,h,⟨a,b⟩=>by
  let⟨c,d⟩:=aA8 r (putN used n) (rF h a) b;refine⟨c,?_⟩;show(cO (putN used n) r).length=_;grind [mQ,Ro,putN]
def eQ6(a:Gd s)(b:s.used.length+(fO e).length<=1000000)(h:dP s.used (fO e)):Gd (cut1 s e):=by
 let⟨c,d⟩:=aA8 _ _ a.su h;exact⟨a.ls,a.lp,by show(cO s.used (fO e)).length<=_;rw[d];exact b,a.ss,a.sp,c⟩
def stB3(s:aJ)(a b c:Nat):List V:=[.arr 100000 a, .arr 100001 b, .arr 100002 c,I s.received.1,I s.received.2,I s.scrap.1,I s.scrap.2]
def stA3(s:aJ)(a b c:Nat):List (Nat×AE):=[(100000,⟨a, .own,57,s.stocks.map aQ⟩),(100001,⟨b, .own,42,s.pieces.map aZ⟩),(100002,⟨c, .own,3,s.used.map I⟩)]
def eX3 s e(N:Gd s)(he:iY e)(X:s.used.length+(fO e).length<=1000000)(i:eL3 s e (bs sid s.stocks e.id) r u):
 jR T Tryz.prog Tryz.f59 [.box 100000 0,aS e] [stC s] (I r) u:=by
 have hc:=he.ct;have ab:=he.rs;have hm1:(e.cuts.map dK).length=e.cuts.length:=Ad;have Z:(e.rests.map bY).length=e.rests.length:=Ad;repeat' ((conv=>whnf);first|refine zS ?_|fail)
 refine aU (A:=List Made) (B:=List Made) (λD R=>mkSt [(0, .box 100000 0),(3, .box 3 0),(5, .arr 40 D.length),(30, .sl (e.cuts.map dK)),(31,I e.cuts.length),(32,I D.length)] [(100000,stB s 0),(3,iJ e)] ((40,⟨D.length, .own,3,(D.map Made.id).map I⟩)::stA s s.used 0)) (λD R=>e.cuts=D++R) (λD R=>R.length) [] e.cuts ?_ rfl (λD R hp=>?_)
 ·exact JW
 cases R with
 |cons c R=>
  have y:=aO hp;have af:((D++[c]).length:Int)=(D.length:Int)+1:=Ad;have O:((D.map Made.id).map I).length=D.length:=Ad;repeat' ((conv=>whnf);first|omega|refine iH rfl (.inl rfl) rfl (QV rfl) (dA rfl) (show((D.map Made.id).map I).length+1<=1000000000 from Aa) ?_|refine zS ?_|refine zT ?_ ?_<;>intro _|fail)
  all_goals conv=>whnf
  refine⟨(D++[c],R),?_,Ae,Ad⟩;simp only[QY,Rj,RH,Rt,SY];exact zj
 |nil=>
  have y:e.cuts.length=D.length:=Ae;have eD:e.cuts=D:=Ae;have O:((D.map Made.id).map I).length=D.length:=Ad;have j:fO e=D.map Made.id++e.rests.map Rest.id:=by unfold fO;rw[eD]
  clear hp;repeat' ((conv=>whnf);first|omega|refine zS ?_|refine zT ?_ ?_<;>intro _|fail)
  refine aU (A:=List Rest) (B:=List Rest) (λE R=>mkSt [(0, .box 100000 0),(3, .box 3 0),(5, .arr 40 (D.length+E.length)),(43, .sl (e.rests.map bY)),(44,I e.rests.length),(45,I E.length)] [(100000,stB s 0),(3,iJ e)] ((40,⟨D.length+E.length, .own,3,(D.map Made.id++E.map Rest.id).map I⟩)::stA s s.used 0)) (λE R=>e.rests=E++R) (λE R=>R.length) [] e.rests ?_ rfl (λE R hp=>?_)
  ·simp only[SY,Rq,Tc,TW]
   refine dV ?_ ?_ ?_ ?_;all_goals repeat' (first|exact trivial|refine And.intro ?_ ?_|with_reducible rfl|exact(λh=>Ah)|exact Rf _|omega|exact rfl)
   all_goals (try rw[Z])
  cases R with
  |cons c R=>
   have n:=aO hp;have ag:((E++[c]).length:Int)=(E.length:Int)+1:=Ad;have ae:((D.map Made.id++E.map Rest.id).map I).length=D.length+E.length:=Ad;repeat' ((conv=>whnf);first|omega|refine iH rfl (.inl rfl) rfl (QV rfl) (dA rfl) (show((D.map Made.id++E.map Rest.id).map I).length+1<=1000000000 from Aa) ?_|refine zS ?_|refine zT ?_ ?_<;>intro _|fail)
   all_goals conv=>whnf
   refine⟨(E++[c],R),?_,Ae,Ad⟩;simp only[QY,Rj,RH,Rt,SY,<-Tn];exact zj
  |nil=>
   have n:e.rests.length=E.length:=Ae;have eE:e.rests=E:=Ae;rw[eE]at j;rw[<-j];have hk:=bQ8 sid s.stocks e.id;have ah:(s.stocks.map aQ).length=s.stocks.length:=Ad;have aj:=N.ls;rcases i with⟨G,rfl,rfl⟩|⟨K,i⟩
   ·have l:=aU4 s (fO e) N X G
    repeat' ((conv=>whnf);first|omega|refine zh (l) [100000] ?_|refine zS ?_|refine zT ?_ ?_<;>intro _|fail)
    all_goals conv=>whnf
    all_goals first|exact⟨_,rfl,zc1⟩|exact zc1
   have l:=aT7 s (fO e) N X K;have v:=find_spec (cut1 s e) e.id (eQ6 N X K);change SpB _ _ _ _ [stC (cut1 s e)]at l;change SpB _ _ [stC (cut1 s e)] (.tup [I (bs sid s.stocks e.id),DB (∃m∈s.stocks,sid m=e.id)]) [stC (cut1 s e)]at v;generalize bs sid s.stocks e.id=k at*;generalize (∃m∈s.stocks,sid m=e.id)=P at*;rcases i with⟨G,rfl,rfl⟩|⟨m,hP,hm,i⟩
   ·repeat' ((conv=>whnf);first|(exfalso;contradiction)|omega|refine zh (l) [100000] ?_|refine zh (v) [100000] ?_|refine zS ?_|refine zT ?_ ?_<;>intro _|fail)
    all_goals conv=>whnf
    all_goals first|exact⟨_,rfl,zc1⟩|exact zc1
   have W:=(QW.1 hm).1;rcases i with⟨aa,rfl,rfl⟩|⟨aa,C,i⟩
   ·repeat' ((conv=>whnf);first|(exfalso;contradiction)|omega|refine jI (λf=>?_) (λf=>?_)|refine zh (l) [100000] ?_|refine zh (v) [100000] ?_|refine dS rfl rfl Aw ?_|refine zS ?_|refine zT ?_ ?_<;>intro _|fail)
    all_goals conv=>whnf
    all_goals first|exact⟨_,rfl,zc1⟩|exact zc1
   have f3:=cU2 m e C ab;have f4:=vF m C;rcases i with⟨L,rfl,rfl⟩|⟨L,Y,ai,i⟩
   ·generalize cZ m [] e.rests=RE at*
    generalize eG m e.rests=RL at*;repeat' ((conv=>whnf);first|(exfalso;contradiction)|omega|refine jI (λf=>?_) (λf=>?_)|refine zh (l) [100000] ?_|refine zh (v) [100000] ?_|refine dS rfl rfl Aw ?_|refine zS ?_|refine zT ?_ ?_<;>intro _|fail)
    all_goals conv=>whnf
    all_goals first|exact⟨_,rfl,zc1⟩|exact zc1
   rw[L]at f3;have M:((eG m e.rests).map aQ).length=(eG m e.rests).length:=Ad;generalize w:eG m e.rests=RL at*;repeat' ((conv=>whnf);first|(exfalso;contradiction)|omega|refine jI (λf=>?_) (λf=>?_)|refine zh (l) [100000] ?_|refine zh (v) [100000] ?_|refine dS rfl rfl Aw ?_|refine zS ?_|refine zT ?_ ?_<;>intro _|fail)
   all_goals conv=>whnf
   have z:nJ m e=subL (subL (gG m) (e.cuts.map Made.size)) (RL.map gG):=by unfold nJ;rw[w]
   generalize gG m=n0 at*;refine aU (A:=List Made) (B:=List Made) (λF R=>mkSt [(0, .box 100000 0),(3, .box 3 0),(11,I k),(13, .box 13 0),(14, .arr 91 0),(16,I (subL n0 (F.map Made.size))),(100, .sl (e.cuts.map dK)),(101,I e.cuts.length),(102,I F.length)] [(100000,stB3 (cut1 s e) 2 2 2),(3,iJ e),(13,gB m)] ((91,⟨0, .own,57,RL.map aQ⟩)::stA3 (cut1 s e) 2 2 2)) (λF R=>e.cuts=F++R) (λF R=>R.length) [] e.cuts ?_ rfl (λF R hp=>?_);exact JW;cases R with
   |cons c R=>
    have o:=aO hp;have hsn:=bQ6 n0 (F.map Made.size) c.size;repeat' ((conv=>whnf);first|omega|refine zS ?_|refine zT ?_ ?_<;>intro _|fail)
    all_goals conv=>whnf
    refine⟨(F++[c],R),?_,Ae,Ad⟩;simp only[QY,Rj,RH,Rt,SY,hsn];exact zj
   |nil=>
    have o:e.cuts.length=F.length:=Ae;have eF:e.cuts=F:=Ae;rw[eF]at z;generalize subL n0 (F.map Made.size)=n1 at*;repeat' ((conv=>whnf);first|omega|refine zS ?_|refine zT ?_ ?_<;>intro _|fail)
    clear hp;refine aU (A:=List aN) (B:=List aN) (λH R=>mkSt [(0, .box 100000 0),(3, .box 3 0),(11,I k),(13, .box 13 0),(14, .arr 91 0),(16,I (subL n1 (H.map gG))),(114, .arr 91 0),(115,I RL.length),(116,I H.length)] [(100000,stB3 (cut1 s e) 2 2 2),(3,iJ e),(13,gB m)] ((91,⟨0, .own,57,RL.map aQ⟩)::stA3 (cut1 s e) 2 2 2)) (λH R=>RL=H++R) (λH R=>R.length) [] RL ?_ rfl (λH R hp=>?_)
    ·refine dV ?_ ?_ ?_ ?_
     all_goals repeat' (first|exact trivial|refine And.intro ?_ ?_|with_reducible rfl|exact(λh=>Ah)|exact Rf _|omega|exact rfl)
     all_goals (try rw[M])
    cases R with
    |cons x R=>
     have q:=aO hp;have g1:=vF x (Y x Ae);have hsn:=bQ6 n1 (H.map gG) (gG x);generalize ad:gG x=zx at*;repeat' ((conv=>whnf);first|omega|refine dS rfl rfl FM ?_|refine zS ?_|refine zT ?_ ?_<;>intro _|fail)
     all_goals conv=>whnf
     refine⟨(H++[x],R),?_,Ae,Ad⟩;simp only[QY,Rj,RH,Rt,SY,ad,hsn];exact zj
    |nil=>
     have q:RL.length=H.length:=Ae;have eH:RL=H:=Ae;rw[<-eH];rw[<-z];clear hp;rcases i with⟨ac,rfl,rfl⟩|⟨ac,U,g,rfl,rfl⟩;generalize nJ m e=n2 at*;exact O9;generalize nJ m e=n2 at*;have f5:=bK1 s.stocks k W Aa;repeat' ((conv=>whnf);first|omega|refine zS ?_|refine zT ?_ ?_<;>intro _|fail)
     all_goals conv=>whnf
     have h5:cut5 s e k m={cut4 s e k m RL e.cuts with scrap:=plus m.isBar s.scrap e.scrap}:=by unfold cut5;rw[w]
     rw[h5];refine aU (A:=List aN) (B:=List aN) (λJ R=>mkSt [(0, .box 100000 0),(3, .box 3 0),(13, .box 13 0),(143, .arr 91 0),(144,I RL.length),(145,I J.length)] [(100000,stB3 (cut3 s e k J) (3+J.length) (2+J.length) (2+J.length)),(3,iJ e),(13,gB m)] ((91,⟨0, .own,57,RL.map aQ⟩)::stA3 (cut3 s e k J) (3+J.length) (2+J.length) (2+J.length))) (λJ R=>RL=J++R) (λJ R=>R.length) [] RL ?_ rfl (λJ R hp=>?_)
     ·show Le T _ (mkSt [(0, .box 100000 0),(3, .box 3 0),(13, .box 13 0),(143, .arr 91 0),(144,I RL.length),(145,I 0)] [(100000,stB3 (cut2 s e k) 3 2 2),(3,iJ e),(13,gB m)] ((91,⟨0, .own,57,RL.map aQ⟩)::stA3 (cut2 s e k) 3 2 2))
      refine dV ?_ ?_ ?_ ?_;all_goals repeat' (first|exact trivial|refine And.intro ?_ ?_|with_reducible rfl|exact(λh=>Ah)|exact Rf _|omega|exact rfl)
      all_goals (try rw[M])
     cases R with
     |cons x R=>
      have t:=aO hp;have g1:=cF7 (cut3 s e k J) x (U J (x::R) hp);have hsn:addS (cut3 s e k J) x=cut3 s e k (J++[x]):=by unfold addS cut3;simp only[TR,RV,List.foldl_nil]
      rw[hsn]at g1;repeat' ((conv=>whnf);first|omega|refine dS rfl rfl FM ?_|refine zh (g1) [100000] ?_|refine zS ?_|refine zT ?_ ?_<;>intro _|fail)
      all_goals conv=>whnf
      refine⟨(J++[x],R),?_,Ae,Ad⟩;exact Nh
     |nil=>
      have t:RL.length=J.length:=Ae;have eJ:RL=J:=Ae;rw[<-eJ];clear hp;obtain⟨b,d,a,p⟩:=m;cases b
      ·have f6:=oL false
       repeat' ((conv=>whnf);first|omega|refine zS ?_|refine zT ?_ ?_<;>intro _|fail)
       refine aU (A:=List Made) (B:=List Made) (λQ R=>mkSt [(0, .box 100000 0),(3, .box 3 0),(13, .box 13 0),(23,S d.grade),(24,S d.heat),(168, .sl (e.cuts.map dK)),(169,I e.cuts.length),(170,I Q.length)] [(100000,stB3 (cut4 s e k ⟨false,d,a,p⟩ RL Q) (3+RL.length+Q.length) (2+RL.length+2*Q.length) (2+RL.length+Q.length)),(3,iJ e),(13,gB ⟨false,d,a,p⟩)] (stA3 (cut4 s e k ⟨false,d,a,p⟩ RL Q) (3+RL.length+Q.length) (2+RL.length+2*Q.length) (2+RL.length+Q.length))) (λQ R=>e.cuts=Q++R) (λQ R=>R.length) [] e.cuts ?_ rfl (λQ R hp=>?_);show Le T _ (mkSt [(0, .box 100000 0),(3, .box 3 0),(13, .box 13 0),(23,S d.grade),(24,S d.heat),(168, .sl (e.cuts.map dK)),(169,I e.cuts.length),(170,I 0)] [(100000,stB3 (cut3 s e k RL) (3+RL.length) (2+RL.length) (2+RL.length)),(3,iJ e),(13,gB ⟨false,d,a,p⟩)] (stA3 (cut3 s e k RL) (3+RL.length) (2+RL.length) (2+RL.length)));exact O5;cases R with
       |cons c R=>
        have hlen6:=aO hp;have g1:=uQ (cut4 s e k ⟨false,d,a,p⟩ RL Q) c.id (g Q (c::R) hp);have g2:=bU8 (cut4 s e k ⟨false,d,a,p⟩ RL Q).pieces (bs Piece.id (cut4 s e k ⟨false,d,a,p⟩ RL Q).pieces c.id) (fZ e ⟨false,d,a,p⟩ c) (bQ8 _ _ _) (by have:=(g Q (c::R) hp).lp;omega);have hsn:(cut4 s e k ⟨false,d,a,p⟩ RL (Q++[c])).pieces=putAt (cut4 s e k ⟨false,d,a,p⟩ RL Q).pieces (bs Piece.id (cut4 s e k ⟨false,d,a,p⟩ RL Q).pieces c.id) (fZ e ⟨false,d,a,p⟩ c):=Df;generalize bs Piece.id (cut4 s e k ⟨false,d,a,p⟩ RL Q).pieces c.id=kk at*;generalize (∃m∈(cut4 s e k ⟨false,d,a,p⟩ RL Q).pieces,m.id=c.id)=PP at*;exact NS
       |nil=>exact JE
      have f6:=oL true;repeat' ((conv=>whnf);first|omega|refine zS ?_|refine zT ?_ ?_<;>intro _|fail)
      refine aU (A:=List Made) (B:=List Made) (λQ R=>mkSt [(0, .box 100000 0),(3, .box 3 0),(13, .box 13 0),(23,S a.grade),(24,S a.heat),(168, .sl (e.cuts.map dK)),(169,I e.cuts.length),(170,I Q.length)] [(100000,stB3 (cut4 s e k ⟨true,d,a,p⟩ RL Q) (3+RL.length+Q.length) (2+RL.length+2*Q.length) (2+RL.length+Q.length)),(3,iJ e),(13,gB ⟨true,d,a,p⟩)] (stA3 (cut4 s e k ⟨true,d,a,p⟩ RL Q) (3+RL.length+Q.length) (2+RL.length+2*Q.length) (2+RL.length+Q.length))) (λQ R=>e.cuts=Q++R) (λQ R=>R.length) [] e.cuts ?_ rfl (λQ R hp=>?_);show Le T _ (mkSt [(0, .box 100000 0),(3, .box 3 0),(13, .box 13 0),(23,S a.grade),(24,S a.heat),(168, .sl (e.cuts.map dK)),(169,I e.cuts.length),(170,I 0)] [(100000,stB3 (cut3 s e k RL) (3+RL.length) (2+RL.length) (2+RL.length)),(3,iJ e),(13,gB ⟨true,d,a,p⟩)] (stA3 (cut3 s e k RL) (3+RL.length) (2+RL.length) (2+RL.length)));exact O5;cases R with
      |cons c R=>
       have hlen6:=aO hp;have g1:=uQ (cut4 s e k ⟨true,d,a,p⟩ RL Q) c.id (g Q (c::R) hp);have g2:=bU8 (cut4 s e k ⟨true,d,a,p⟩ RL Q).pieces (bs Piece.id (cut4 s e k ⟨true,d,a,p⟩ RL Q).pieces c.id) (fZ e ⟨true,d,a,p⟩ c) (bQ8 _ _ _) (by have:=(g Q (c::R) hp).lp;omega);have hsn:(cut4 s e k ⟨true,d,a,p⟩ RL (Q++[c])).pieces=putAt (cut4 s e k ⟨true,d,a,p⟩ RL Q).pieces (bs Piece.id (cut4 s e k ⟨true,d,a,p⟩ RL Q).pieces c.id) (fZ e ⟨true,d,a,p⟩ c):=Df;generalize bs Piece.id (cut4 s e k ⟨true,d,a,p⟩ RL Q).pieces c.id=kk at*;generalize (∃m∈(cut4 s e k ⟨true,d,a,p⟩ RL Q).pieces,m.id=c.id)=PP at*;exact NS
      |nil=>exact JE
def xP s e(g:Gd s)(d:iY e)(f:s.used.length+(fO e).length<=1000000)(b:eL3 s e (bs sid s.stocks e.id) r a)(c:a=[bots]\/∃s',a=[stC s']):
 SpB 59 [.box 100000 0,aS e] [stC s] (I r) a:=
 b_of func59 Ac Ac rfl (by rcases c with rfl|⟨s',rfl⟩<;>rfl) (eX3 s e g d f b)
end Go.Proofs.Led
