/- Lemmas. -/
import Derived.Test.YtcmgfjaiegpddaaGreatB25
import Derived.Test.YtcmgfjaiegpddaaGreatRows
set_option linter.all false
namespace Go.Proofs.YtcmgfjaiegpddaaGreat
open Go.ChangeShapes Go.WideShapes Go.ChangeAt Go.RowKit Go.Ab Go.Proofs.Led
def own:ownKnob Tryz.prog.godebug=none:=Ac
def laidOut:laidOutB Tryz.prog=true:=Ac
abbrev Q3:List V->Prop:=QInt .i64 (-9223372036854775808) 9223372036854775807
theorem d3(W:World):Dec Tryz.prog W (bQ W) 3 Q3:=dI6 (k:= .i64) Ac Ac (λn h=>by
 simp[Lit.wf,IntKind.min,IntKind.max,IntKind.signed,IntKind.bits]at h;omega)
abbrev Q9:List V->Prop:=QStr
def d9(W:World):Dec Tryz.prog W (bQ W) 9 Q9:=eO8 Ac Ac
abbrev Q84:List V->Prop:=QAll [Q3,Q3]
def d84(W:World):Dec Tryz.prog W (bQ W) 84 Q84:=lZ Tryz.underlying84 (aY rfl (d3 W) (aY Ac (d3 W) (mM Ac)))
abbrev Q23:List V->Prop:=zI true Q84
def d23(W:World):Dec Tryz.prog W (bQ W) 23 Q23:=pV true Ac Ac (d84 W) Ak (λh=>Ag) Ak (jZ W)
abbrev Q24:List V->Prop:=zI false Q23
def d24(W:World):Dec Tryz.prog W (bQ W) 24 Q24:=pV false Ac Ac (d23 W) Ak (λ_=>Ac) Ak (jZ W)
abbrev Q26:List V->Prop:=QAll [Q23,Q24]
def d26(W:World):Dec Tryz.prog W (bQ W) 26 Q26:=lZ Tryz.underlying26 (aY rfl (d23 W) (aY Ac (d24 W) (mM Ac)))
abbrev Q27:List V->Prop:=zI true Q26
def d27(W:World):Dec Tryz.prog W (bQ W) 27 Q27:=pV true Ac Ac (d26 W) Ak (λh=>Ag) Ak (jZ W)
abbrev Q29:List V->Prop:=QAll [Q3,Q9,Q9,Q3,Q26,Q27]
def d29(W:World):Dec Tryz.prog W (bQ W) 29 Q29:=lZ Tryz.underlying29 (aY rfl (d3 W) (aY Ac (d9 W) (aY Ac (d9 W) (aY Ac (d3 W) (aY Ac (d26 W) (aY Ac (d27 W) (mM Ac)))))))
abbrev Q64:List V->Prop:=QAll [Q3,Q3]
def d64(W:World):Dec Tryz.prog W (bQ W) 64 Q64:=dN6 (m:=2) (e:=3) Ac (aY Ac (d3 W) (aY Ac (d3 W) (mM Ac)))
abbrev Q30:List V->Prop:=zI true Q64
def d30(W:World):Dec Tryz.prog W (bQ W) 30 Q30:=pV true Ac Ac (d64 W) Ak (λh=>Ag) Ak (jZ W)
abbrev Q32:List V->Prop:=QAll [Q3,Q9,Q9,Q3,Q30]
def d32(W:World):Dec Tryz.prog W (bQ W) 32 Q32:=lZ Tryz.underlying32 (aY rfl (d3 W) (aY Ac (d9 W) (aY Ac (d9 W) (aY Ac (d3 W) (aY Ac (d30 W) (mM Ac))))))
abbrev Q94:List V->Prop:=QAll [Q3,Q9,Q3]
def d94(W:World):Dec Tryz.prog W (bQ W) 94 Q94:=lZ Tryz.underlying94 (aY rfl (d3 W) (aY Ac (d9 W) (aY Ac (d3 W) (mM Ac))))
abbrev Q33:List V->Prop:=zI true Q94
def d33(W:World):Dec Tryz.prog W (bQ W) 33 Q33:=pV true Ac Ac (d94 W) Ak (λh=>Ag) Ak (jZ W)
abbrev Q86:List V->Prop:=QAll [Q84,Q84]
def d86(W:World):Dec Tryz.prog W (bQ W) 86 Q86:=lZ Tryz.underlying86 (aY rfl (d84 W) (aY Ac (d84 W) (mM Ac)))
abbrev Q101:List V->Prop:=QAll [Q3,Q86,Q3,Q3]
def d101(W:World):Dec Tryz.prog W (bQ W) 101 Q101:=lZ Tryz.underlying101 (aY rfl (d3 W) (aY Ac (d86 W) (aY Ac (d3 W) (aY Ac (d3 W) (mM Ac)))))
abbrev Q34:List V->Prop:=zI true Q101
def d34(W:World):Dec Tryz.prog W (bQ W) 34 Q34:=pV true Ac Ac (d101 W) Ak (λh=>Ag) Ak (jZ W)
abbrev Q36:List V->Prop:=QAll [Q3,Q3,Q9,Q29,Q32,Q33,Q34,Q3]
def d36(W:World):Dec Tryz.prog W (bQ W) 36 Q36:=lZ Tryz.underlying36 (aY rfl (d3 W) (aY Ac (d3 W) (aY Ac (d9 W) (aY Ac (d29 W) (aY Ac (d32 W) (aY Ac (d33 W) (aY Ac (d34 W) (aY Ac (d3 W) (mM Ac)))))))))
abbrev Q40:List V->Prop:=zI true Q36
def d40(W:World):Dec Tryz.prog W (bQ W) 40 Q40:=pV true Ac Ac (d36 W) Ak (λh=>Ag) Ak (jZ W)
abbrev Q58:List V->Prop:=QInt .u16 (0) 65535
def d58(W:World):Dec Tryz.prog W (bQ W) 58 Q58:=dI6 (k:= .u16) Ac Ac (λn h=>by
 simp[Lit.wf,IntKind.min,IntKind.max,IntKind.signed,IntKind.bits]at h;omega)
def uO{α:Type}{f:α->V}{Q:List V->Prop}{P:α->Prop}(h:∀xs,Q xs->∃a,V.agg xs=f a/\P a):∀ {l:List V},(∀x∈l,Q x.cells/\(true=true->∃ys,x= .agg ys)/\(true=false->∀ys,x≠ .agg ys))->∃l':List α,l=l'.map f/\∀a∈l',P a
 | [],_=>⟨[],rfl,Af⟩
 |x::l,hl=>by
  obtain⟨h1,h2,_⟩:=hl x Af;obtain⟨ys,rfl⟩:=h2 rfl;obtain⟨m,hm,hp⟩:=h ys h1;obtain⟨l',rfl,hl'⟩:=uO h (l:=l) (λy hy=>hl y GL);refine⟨m::l',by rw[List.map_cons,<-hm],λz hz=>?_⟩;exact Oy
def cF8{α:Type}{f:α->V}{Q:List V->Prop}{P:α->Prop}(h:∀xs,Q xs->∃a,xs=[f a]/\P a):∀ {l:List V},(∀x∈l,Q x.cells/\(false=true->∃ys,x= .agg ys)/\(false=false->∀ys,x≠ .agg ys))->∃l':List α,l=l'.map f/\∀a∈l',P a
 | [],_=>⟨[],rfl,Af⟩
 |x::l,hl=>by
  obtain⟨h1,_,h2⟩:=hl x Af;obtain⟨m,hm,hp⟩:=h _ h1;obtain⟨l',rfl,hl'⟩:=cF8 h (l:=l) (λy hy=>hl y GL)
  have hx:x=f m:=by
   cases x with
   |agg ys=>exact(h2 rfl ys rfl).elim
   |_=>simp only[V.cells,List.cons.injEq,and_true]at hm;exact hm
  refine⟨m::l',by rw[List.map_cons,<-hx],λz hz=>?_⟩;exact Oy
def lz6{α:Type}{f:α->V}{l:List α}(h:(l.map f).length<=reachBytes):Lz l:=by
 rw[List.length_map]at h;exact Nat.le_trans h Ai
def vc_of(xs:List V)(h:Q84 xs):∃a:Vc,V.agg xs=vcV a/\vcR a:=Ku
def rg_of(xs:List V)(h:Q23 xs):∃a:Rg,xs=[rgV a]/\rgIn a:=by
 obtain⟨l,rfl,hl,h⟩:=h;obtain⟨l',rfl,h'⟩:=uO vc_of h;exact⟨l',rfl,lz6 hl,h'⟩
def eT9(xs:List V)(h:Q26 xs):∃a:Sh,V.agg xs=shV a/\shIn a:=by
 obtain⟨x1,x2,rfl,h1,x3,x4,rfl,⟨l,rfl,hl,h2⟩,rfl⟩:=h;obtain⟨o,rfl,ho⟩:=rg_of _ h1;obtain⟨q,rfl,hq⟩:=cF8 rg_of h2;exact⟨⟨o,q⟩,rfl,ho,lz6 hl,hq⟩
def eF9(xs:List V)(h:Q29 xs):∃a:jL,xs=aA7 a/\sheetIn a:=by
 obtain⟨_,_,rfl,⟨i,rfl,ri⟩,_,_,rfl,⟨g,rfl,_⟩,_,_,rfl,⟨t,rfl,_⟩,_,_,rfl,⟨n,rfl,rn⟩,x1,_,rfl,h1,x2,_,rfl,⟨l,rfl,hl,h2⟩,rfl⟩:=h;obtain⟨s,hs,hb⟩:=eT9 _ h1;obtain⟨d,rfl,hd⟩:=uO eT9 h2;have hx:x1=[rgV s.outer, .sl (s.holes.map rgV)] :=V.agg.inj hs;subst hx;exact⟨⟨i,g,t,n,s,d⟩,rfl,ri,rn,hb,lz6 hl,hd⟩
def iv_of(xs:List V)(h:Q64 xs):∃a:Iv,V.agg xs=ivV a/\R64 a.1/\R64 a.2:=Ku
def eY4(xs:List V)(h:Q32 xs):∃a:Bar,xs=barC a/\barIn a:=by
 obtain⟨_,_,rfl,⟨i,rfl,ri⟩,_,_,rfl,⟨g,rfl,_⟩,_,_,rfl,⟨t,rfl,_⟩,_,_,rfl,⟨n,rfl,rn⟩,x2,_,rfl,⟨l,rfl,hl,h2⟩,rfl⟩:=h;obtain⟨d,rfl,hd⟩:=uO iv_of h2;exact⟨⟨i,g,t,n,d⟩,rfl,ri,rn,lz6 hl,hd⟩
def eR2(xs:List V)(h:Q94 xs):∃a:Made,V.agg xs=dK a/\madeIn a:=by
 obtain⟨_,_,rfl,⟨a,rfl,ra⟩,_,_,rfl,⟨b,rfl,rb⟩,_,_,rfl,⟨c,rfl,rc⟩,rfl⟩:=h;exact⟨⟨a,b,c⟩,rfl,ra,rc⟩
def rest_of(xs:List V)(h:Q101 xs):∃a:Led.Rest,V.agg xs=bY a/\restIn a:=by
 obtain⟨_,_,rfl,⟨a,rfl,ra⟩,_,_,rfl,⟨_,_,rfl,⟨_,_,rfl,⟨b,rfl,rb⟩,_,_,rfl,⟨c,rfl,rc⟩,rfl⟩,_,_,rfl,⟨_,_,rfl,⟨d,rfl,rd⟩,_,_,rfl,⟨e,rfl,re⟩,rfl⟩,rfl⟩,_,_,rfl,⟨f,rfl,rf⟩,_,_,rfl,⟨g,rfl,rg⟩,rfl⟩:=h;exact⟨⟨a,((b,c),(d,e)),f,g⟩,rfl,ra,⟨⟨rb,rc⟩,⟨rd,re⟩⟩,rf,rg⟩
def ev_of(xs:List V)(h:Q36 xs):∃a:Led.Event,V.agg xs=aS a/\EvIn a:=by
 obtain⟨_,_,rfl,⟨k,rfl,rk⟩,_,_,rfl,⟨i,rfl,ri⟩,_,_,rfl,⟨t,rfl,_⟩,x1,_,rfl,h1,x2,_,rfl,h2,_,_,rfl,⟨l1,rfl,b1,q1⟩,_,_,rfl,⟨l2,rfl,b2,q2⟩,_,_,rfl,⟨z,rfl,rz⟩,rfl⟩:=h;obtain⟨s,rfl,hs⟩:=eF9 _ h1;obtain⟨b,rfl,hb⟩:=eY4 _ h2;obtain⟨c,rfl,hc⟩:=uO eR2 q1;obtain⟨r,rfl,hr⟩:=uO rest_of q2;exact⟨⟨k,i,t,s,b,c,r,z⟩,rfl,rk,ri,rz,hs,hb,lz6 b1,hc,lz6 b2,hr⟩
end Go.Proofs.YtcmgfjaiegpddaaGreat
