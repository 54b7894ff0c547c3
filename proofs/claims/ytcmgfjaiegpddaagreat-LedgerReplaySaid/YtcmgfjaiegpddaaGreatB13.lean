/- Lemmas. -/
import Derived.Test.YtcmgfjaiegpddaaGreatB12
set_option linter.all false
set_option maxRecDepth 1000000
set_option maxHeartbeats 4000000
noncomputable section
namespace Go.Proofs.Led
open Go Go.Proofs Go.Ab Go.RowKit Go.Lib Tryz
def elZ:ElT 63 3 1 8:=⟨underlying63,OZ Ac,Ac,Ac,Ai,Ai⟩
def ovZ:OvT 201 3:=λw b vb i g f vc cur a d hb hv c=>by
 rw[run_callFunc_extern func201 Ac Ac Ac (e:=Extern.SlicesOverlaps.overlaps #[63,63] #[4]) Ac,
  Lib.run_overlaps_apart w 63 4 3 underlying63 1 sizeOf3 ⟨vb,0,none⟩ ⟨b,i,none⟩ 1 vc g f d 3 3 a.size cur.size Gm Gn c Ci Ci]
 rfl
def insZ_all:InsShift 161 3 1/\InsEnd 161 3 1/\InsEndG 161 63 3/\InsGrow 161 63 3 1:=by
 have el:=elZ;have U:=ovZ;have fF:=func161;have nF:=ntmps161;have zE:=sizeOf3;have uS:=Qb underlying63;have V:=QK;have W:=QX;have Y:=Qb QK;have Z:=Qb QX;have mixed:=mixed;refine⟨?_,?_,?_,?_⟩
 ·intro b n c i vb vc cur e w hi hroom o hvb hb hv hbs hvs s h2
  have E:=λT S M=>U w b vb T S M vc cur e hvb hb hv Aa;obtain⟨X1,d,q,hcp2⟩:=el.shift (b:=b) (vb:=vb) (vc:=vc) hi hroom hbs hvs s h2;rw[<-d];clear d;have H:IntKind.i64.wrap ((i:Int)+1)=(i:Int)+1:=Ap;have I:IntKind.i64.wrap ((n:Int)+1)=(n:Int)+1:=Ap;have J:¬((i:Int)=(n:Int)):=Aa;have v:(0:Int)<=(i:Int)+1:=Aa;have G:((i:Int)+1).toNat=i+1:=Aa;have L:((n:Int)+1).toNat=n+1:=Aa;have C:i<=n:=Aa;have x:¬(c=i+1):=Aa;have y:(i:Int)<=(n:Int)+1:=Aa;have z:¬(c=i):=Aa;have A:¬((c:Int)< (n:Int)+1):=Aa
  go_enter fF,nF
  go_wp2_with (simp only[E])
  have l:=q w.drew _ _ (n-i) (n+1-i) 3 (c- (i+1)) (c-i) hb rfl rfl D6;try simp only[RJ]at l
  go_region_law_o (refine step_copy_runI rfl _ _ _ _ rfl _ _ Au Au l ?_)
  exact L6
 intro b n c vb vc cur e w hroom o hb hv hbs hvs h2;exact LH
 ·intro k n c j vb vc X w r hroom m hn hA
  go_enter fF,nF
  cases k with
  |none=>exact IB
  |some a=>exact IC
 intro b n c j i vb vc cur e R w hi r hroom m B hle hb hv hbs u hvs s h2 F;have hbw:b<w.heap.size:=(PS.1 hb).1;have hvw:vb<w.heap.size:=(PS.1 hv).1;obtain⟨X1,d,f,g⟩:=el.grow (b:=b) (vb:=vb) (vc:=vc) (N:=w.heap.size) hi r B hbs u hvs s h2;obtain⟨t,hO⟩:=el.nw w R;have hA:=f _ _ (n+1-i) 3 (j-i) t FV rfl Aa;have K:=g ((World.setRow _ w.heap.size X1).drew) _ _ (n-i) (n-i) 3 (j- (i+1)) (c-i) (QH _ w.heap.size R X1 _ _ t) ((Q9 _ w.heap.size b X1 Aa).trans Gs) rfl rfl (Nat.min_self _);rw[<-d];clear d f g t hO;have H:IntKind.i64.wrap ((i:Int)+1)=(i:Int)+1:=Ap;have I:IntKind.i64.wrap ((n:Int)+1)=(n:Int)+1:=Ap;have Q:IntKind.i64.wrap ((n:Int)+1- (i:Int))=(n:Int)+1- (i:Int):=Ap;have J:¬((i:Int)=(n:Int)):=Aa;have v:(0:Int)<=(i:Int)+1:=Aa;have G:((i:Int)+1).toNat=i+1:=Aa;have C:i<=n:=Aa;have x:¬(j=i+1):=Aa;have y:(i:Int)<=(n:Int)+1:=Aa;have z:¬(c=i):=Aa;have A:(c:Int)< (n:Int)+1:=Aa;have O:¬(j=i):=Aa;have P:(i:Int)<=(c:Int):=Aa;have D:j<=9223372036854775807:=Fp;try simp only[RJ]at hA K
 go_enter fF,nF
 go_wp2_with (first|simp only[hA,P9] |(at_builtin;refine Lib.wpList_append_run _ rfl _ _ _ _ rfl _ _ rfl rfl _ _ (F _) ?_))
 go_region_law_o (refine step_copy_runI rfl _ _ _ _ rfl _ _ Au Au K ?_)
 go_wp2
 go_ret
 first|exact⟨rfl,rfl⟩|exact⟨rfl,Bz⟩
theorem dM5(l:List V)(x:V)(i:Nat)(hi:i<=l.length)(a:l.length<=1000000000):Sp 161 [.own 3 l,I i, .own 3 [x]] (.own 3 (l.take i++x::l.drop i)):=
 ins_gen elZ Ac insZ_all.1 insZ_all.2.1 insZ_all.2.2.1 insZ_all.2.2.2 l x i hi a
end Go.Proofs.Led
