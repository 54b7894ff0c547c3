/-
  The arguments of the laws, as they are read.
-/
import Derived.Test.YtdjgbagnajikeaaGreatDoorB8
import Derived.Test.YtdjgbagnajikeaaGreatDoorCards
import Derived.Test.YtdjgbagnajikeaaGreatDoorTie
import Derived.LaidMore
import Derived.Stop.Joined
import Derived.SevenTiedAt
import Derived.Lib.LaidTab
import Derived.MakeChecks
set_option linter.unusedVariables false
set_option linter.unusedSimpArgs false
namespace Go.Proofs.YtdjgbagnajikeaaGreatDoor
open Go.ChangeShapes Go.WideShapes Go.ChangeAt Go.RowKit Go.Ab Go.Proofs.Led
theorem own:ownKnob Tryz.prog.godebug=none:=Ac
theorem laidOut:laidOutB Tryz.prog=true:=Ac
theorem var_heap{w:World}{name:String}{g:Nat}{cs:Array Value}(hg:Tryz.prog.globalNamed name=some g)(h:w.var? Tryz.prog name=some cs):∃t z,w.heap[g]? =some (.cells cs t z):=by
 unfold World.var? at h;grind
abbrev Q3:List V->Prop:=QInt .i64 (-9223372036854775808) 9223372036854775807
theorem d3(W:World):Dec Tryz.prog W (bQ W) 3 Q3:=dI6 (k:= .i64) Ac Ac (λn h=>by
 simp[Lit.wf,IntKind.min,IntKind.max,IntKind.signed,IntKind.bits]at h;omega)
abbrev Q9:List V->Prop:=QStr
theorem d9(W:World):Dec Tryz.prog W (bQ W) 9 Q9:=eO8 Ac Ac
abbrev Q97:List V->Prop:=QAll [Q3,Q3]
theorem d97(W:World):Dec Tryz.prog W (bQ W) 97 Q97:=lZ Tryz.underlying97 (aY rfl (d3 W) (aY Ac (d3 W) (mM Ac)))
abbrev Q75:List V->Prop:=zI true Q97
theorem d75(W:World):Dec Tryz.prog W (bQ W) 75 Q75:=pV true Ac Ac (d97 W) Ak (λh=>Ah) (jZ W)
abbrev Q76:List V->Prop:=zI false Q75
theorem d76(W:World):Dec Tryz.prog W (bQ W) 76 Q76:=pV false Ac Ac (d75 W) Ak (λ_=>Ac) (jZ W)
abbrev Q78:List V->Prop:=QAll [Q75,Q76]
theorem d78(W:World):Dec Tryz.prog W (bQ W) 78 Q78:=lZ Tryz.underlying78 (aY rfl (d75 W) (aY Ac (d76 W) (mM Ac)))
abbrev Q79:List V->Prop:=zI true Q78
theorem d79(W:World):Dec Tryz.prog W (bQ W) 79 Q79:=pV true Ac Ac (d78 W) Ak (λh=>Ah) (jZ W)
abbrev Q81:List V->Prop:=QAll [Q3,Q9,Q9,Q3,Q78,Q79]
theorem d81(W:World):Dec Tryz.prog W (bQ W) 81 Q81:=lZ Tryz.underlying81 (aY rfl (d3 W) (aY Ac (d9 W) (aY Ac (d9 W) (aY Ac (d3 W) (aY Ac (d78 W) (aY Ac (d79 W) (mM Ac)))))))
abbrev Q49:List V->Prop:=QAll [Q3,Q3]
theorem d49(W:World):Dec Tryz.prog W (bQ W) 49 Q49:=dN6 (m:=2) (e:=3) Ac (aY Ac (d3 W) (aY Ac (d3 W) (mM Ac)))
abbrev Q82:List V->Prop:=zI true Q49
theorem d82(W:World):Dec Tryz.prog W (bQ W) 82 Q82:=pV true Ac Ac (d49 W) Ak (λh=>Ah) (jZ W)
abbrev Q84:List V->Prop:=QAll [Q3,Q9,Q9,Q3,Q82]
theorem d84(W:World):Dec Tryz.prog W (bQ W) 84 Q84:=lZ Tryz.underlying84 (aY rfl (d3 W) (aY Ac (d9 W) (aY Ac (d9 W) (aY Ac (d3 W) (aY Ac (d82 W) (mM Ac))))))
abbrev Q108:List V->Prop:=QAll [Q3,Q9,Q3]
theorem d108(W:World):Dec Tryz.prog W (bQ W) 108 Q108:=lZ Tryz.underlying108 (aY rfl (d3 W) (aY Ac (d9 W) (aY Ac (d3 W) (mM Ac))))
abbrev Q102:List V->Prop:=zI true Q108
theorem d102(W:World):Dec Tryz.prog W (bQ W) 102 Q102:=pV true Ac Ac (d108 W) Ak (λh=>Ah) (jZ W)
abbrev Q99:List V->Prop:=QAll [Q97,Q97]
theorem d99(W:World):Dec Tryz.prog W (bQ W) 99 Q99:=lZ Tryz.underlying99 (aY rfl (d97 W) (aY Ac (d97 W) (mM Ac)))
abbrev Q166:List V->Prop:=QAll [Q3,Q99,Q3,Q3]
theorem d166(W:World):Dec Tryz.prog W (bQ W) 166 Q166:=lZ Tryz.underlying166 (aY rfl (d3 W) (aY Ac (d99 W) (aY Ac (d3 W) (aY Ac (d3 W) (mM Ac)))))
abbrev Q103:List V->Prop:=zI true Q166
theorem d103(W:World):Dec Tryz.prog W (bQ W) 103 Q103:=pV true Ac Ac (d166 W) Ak (λh=>Ah) (jZ W)
abbrev Q105:List V->Prop:=QAll [Q3,Q3,Q9,Q81,Q84,Q102,Q103,Q3]
theorem d105(W:World):Dec Tryz.prog W (bQ W) 105 Q105:=lZ Tryz.underlying105 (aY rfl (d3 W) (aY Ac (d3 W) (aY Ac (d9 W) (aY Ac (d81 W) (aY Ac (d84 W) (aY Ac (d102 W) (aY Ac (d103 W) (aY Ac (d3 W) (mM Ac)))))))))
abbrev Q22:List V->Prop:=zI true Q105
theorem d22(W:World):Dec Tryz.prog W (bQ W) 22 Q22:=pV true Ac Ac (d105 W) Ak (λh=>Ah) (jZ W)
abbrev Q5:List V->Prop:=QInt .u8 (0) 255
theorem d5(W:World):Dec Tryz.prog W (bQ W) 5 Q5:=dI6 (k:= .u8) Ac Ac (λn h=>by
 simp[Lit.wf,IntKind.min,IntKind.max,IntKind.signed,IntKind.bits]at h;omega)
abbrev Q43:List V->Prop:=QInt .i8 (-128) 127
theorem uO{α:Type}{f:α->V}{Q:List V->Prop}{P:α->Prop}(h:∀xs,Q xs->∃a,V.agg xs=f a/\P a):∀ {l:List V},(∀x∈l,Q x.cells/\(true=true->∃ys,x= .agg ys)/\(true=false->∀ys,x≠ .agg ys))->∃l':List α,l=l'.map f/\∀a∈l',P a
 | [],_=>⟨[],rfl,Ae⟩
 |x::l,hl=>by
  obtain⟨h1,h2,_⟩:=hl x Ae;obtain⟨ys,rfl⟩:=h2 rfl;obtain⟨m,hm,hp⟩:=h ys h1;obtain⟨l',rfl,hl'⟩:=uO h (l:=l) (λy hy=>hl y (by simp[hy]))
  refine⟨m::l',by rw[List.map_cons,<-hm],λz hz=>?_⟩
  grind
theorem cF8{α:Type}{f:α->V}{Q:List V->Prop}{P:α->Prop}(h:∀xs,Q xs->∃a,xs=[f a]/\P a):∀ {l:List V},(∀x∈l,Q x.cells/\(false=true->∃ys,x= .agg ys)/\(false=false->∀ys,x≠ .agg ys))->∃l':List α,l=l'.map f/\∀a∈l',P a
 | [],_=>⟨[],rfl,Ae⟩
 |x::l,hl=>by
  obtain⟨h1,_,h2⟩:=hl x Ae;obtain⟨m,hm,hp⟩:=h _ h1;obtain⟨l',rfl,hl'⟩:=cF8 h (l:=l) (λy hy=>hl y (by simp[hy]))
  have hx:x=f m:=by
   simp_all [List.cons.injEq,and_true,V.cells]
  refine⟨m::l',by rw[List.map_cons,<-hx],λz hz=>?_⟩
  grind
theorem max6{n:Nat}(h:n<=maxLen):n<=9223372036854775807:=by unfold maxLen at h;omega
theorem vc_of(xs:List V)(h:Q97 xs):∃a:Vc,V.agg xs=vcV a/\True:=Lm
theorem rg_of(xs:List V)(h:Q75 xs):∃a:Rg,xs=[rgV a]/\Len6 a:=by
 obtain⟨l,rfl,hl,h⟩:=h;obtain⟨l',rfl,_⟩:=uO vc_of h;exact⟨l',rfl,ET⟩
theorem eZ3(xs:List V)(h:Q76 xs):∃a:List Rg,xs=[.sl (a.map rgV)]/\Len6 a/\∀r∈a,Len6 r:=by
 obtain⟨l,rfl,hl,h⟩:=h;obtain⟨l',rfl,h'⟩:=cF8 rg_of h;exact⟨l',rfl,ET,h'⟩
theorem eT9(xs:List V)(h:Q78 xs):∃a:Sh,V.agg xs=shV a/\aV5 a:=by
 obtain⟨x1,x2,rfl,h1,x3,x4,rfl,h2,rfl⟩:=h;obtain⟨o,rfl,ho⟩:=rg_of _ h1;obtain⟨q,rfl,hq,hr⟩:=eZ3 _ h2;exact⟨⟨o,q⟩,rfl,ho,hq,hr⟩
theorem eY8(xs:List V)(h:Q79 xs):∃a:List Sh,xs=[.sl (a.map shV)]/\Len6 a/\∀r∈a,aV5 r:=by
 obtain⟨l,rfl,hl,h⟩:=h;obtain⟨l',rfl,h'⟩:=uO eT9 h;exact⟨l',rfl,ET,h'⟩
theorem eF9(xs:List V)(h:Q81 xs):∃a:jL,xs=aA7 a/\aA4 a:=by
 obtain⟨_,_,rfl,⟨i,rfl,_⟩,_,_,rfl,⟨g,rfl,_⟩,_,_,rfl,⟨t,rfl,_⟩,_,_,rfl,⟨n,rfl,_⟩,x1,_,rfl,h1,x2,_,rfl,h2,rfl⟩:=h;obtain⟨s,hs,hb⟩:=eT9 _ h1;obtain⟨d,rfl,hd,he⟩:=eY8 _ h2;have hx:x1=[rgV s.outer, .sl (s.holes.map rgV)] :=V.agg.inj hs;subst hx;exact⟨⟨i,g,t,n,s,d⟩,rfl,hb,hd,he⟩
theorem iv_of(xs:List V)(h:Q49 xs):∃a:Iv,V.agg xs=ivV a/\True:=Lm
theorem eY4(xs:List V)(h:Q84 xs):∃a:Bar,xs=barC a/\Len6 a.defects:=by
 obtain⟨_,_,rfl,⟨i,rfl,_⟩,_,_,rfl,⟨g,rfl,_⟩,_,_,rfl,⟨t,rfl,_⟩,_,_,rfl,⟨n,rfl,_⟩,x2,_,rfl,⟨l,rfl,hl,h2⟩,rfl⟩:=h;obtain⟨d,rfl,_⟩:=uO iv_of h2;exact⟨⟨i,g,t,n,d⟩,rfl,ET⟩
theorem eR2(xs:List V)(h:Q108 xs):∃a:Made,V.agg xs=dK a/\True:=by
 obtain⟨_,_,rfl,⟨a,rfl,ra⟩,_,_,rfl,⟨b,rfl,rb⟩,_,_,rfl,⟨c,rfl,rc⟩,rfl⟩:=h;exact⟨⟨a,b,c⟩,rfl,trivial⟩
theorem rest_of(xs:List V)(h:Q166 xs):∃a:Led.Rest,V.agg xs=bY a/\True:=by
 obtain⟨_,_,rfl,⟨a,rfl,ra⟩,_,_,rfl,⟨_,_,rfl,⟨_,_,rfl,⟨b,rfl,rb⟩,_,_,rfl,⟨c,rfl,rc⟩,rfl⟩,_,_,rfl,⟨_,_,rfl,⟨d,rfl,rd⟩,_,_,rfl,⟨e,rfl,re⟩,rfl⟩,rfl⟩,_,_,rfl,⟨f,rfl,rf⟩,_,_,rfl,⟨g,rfl,rg⟩,rfl⟩:=h;exact⟨⟨a,((b,c),(d,e)),f,g⟩,rfl,trivial⟩
theorem ev_of(xs:List V)(h:Q105 xs):∃a:Led.Event,V.agg xs=aS a/\bI1 a:=by
 obtain⟨_,_,rfl,⟨k,rfl,_⟩,_,_,rfl,⟨i,rfl,_⟩,_,_,rfl,⟨t,rfl,_⟩,x1,_,rfl,h1,x2,_,rfl,h2,_,_,rfl,⟨l1,rfl,b1,q1⟩,_,_,rfl,⟨l2,rfl,b2,q2⟩,_,_,rfl,⟨z,rfl,_⟩,rfl⟩:=h;obtain⟨s,rfl,hs⟩:=eF9 _ h1;obtain⟨b,rfl,hb⟩:=eY4 _ h2;obtain⟨c,rfl,_⟩:=uO eR2 q1;obtain⟨r,rfl,_⟩:=uO rest_of q2;exact⟨⟨k,i,t,s,b,c,r,z⟩,rfl,hs,hb,by simpa using max6 b1,by simpa using max6 b2⟩
theorem cC1{l:List V}(h:∀x∈l,Q105 x.cells/\(true=true->∃ys,x= .agg ys)/\(true=false->∀ys,x≠ .agg ys)):∃l':List Led.Event,l=l'.map aS/\∀a∈l',bI1 a:=uO ev_of h
end Go.Proofs.YtdjgbagnajikeaaGreatDoor
