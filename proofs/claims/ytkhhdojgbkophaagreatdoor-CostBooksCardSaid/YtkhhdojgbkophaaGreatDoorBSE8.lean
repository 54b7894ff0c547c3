/-
  The arguments of the laws, as they are read.
-/
import Derived.Test.YtkhhdojgbkophaaGreatDoorBB10
import Derived.Test.YtkhhdojgbkophaaGreatDoorBK14
import Derived.Test.YtkhhdojgbkophaaGreatDoorBSAbEntZ
import Derived.Test.YtkhhdojgbkophaaGreatDoorCards
import Derived.Test.YtkhhdojgbkophaaGreatDoorTie
import Derived.LaidMore
import Derived.Stop.Joined
import Derived.SevenTiedAt
import Derived.Lib.LaidTab
import Derived.MakeChecks
set_option linter.unusedVariables false
set_option linter.unusedSimpArgs false
namespace Go.Proofs.YtkhhdojgbkophaaGreatDoor
open Go.ChangeShapes Go.WideShapes Go.ChangeAt Go.RowKit Go.Ab Go.Proofs.Led Go.Proofs.Cost58
theorem own:ownKnob Tryz.prog.godebug=none:=Ac
theorem laidOut:laidOutB Tryz.prog=true:=Ac
theorem var_heap{w:World}{name:String}{g:Nat}{cs:Array Value}(hg:Tryz.prog.globalNamed name=some g)(h:w.var? Tryz.prog name=some cs):∃t z,w.heap[g]? =some (.cells cs t z):=by
 unfold World.var? at h;rw[hg]at h;simp only[Option.bind_some]at h;split at h
 ·rename_i c t z hb
  cases h;exact⟨t,z,hb⟩
 ·cases h
abbrev Q3:List V->Prop:=QInt .i64 (-9223372036854775808) 9223372036854775807
theorem d3(W:World):Dec Tryz.prog W (bQ W) 3 Q3:=dI6 (k:= .i64) Ac Ac (fun n h=>by
 simp[Lit.wf,IntKind.min,IntKind.max,IntKind.signed,IntKind.bits]at h;omega)
abbrev Q9:List V->Prop:=QStr
theorem d9(W:World):Dec Tryz.prog W (bQ W) 9 Q9:=eO8 Ac Ac
abbrev Q112:List V->Prop:=QAll [Q3,Q3]
theorem d112(W:World):Dec Tryz.prog W (bQ W) 112 Q112:=lZ Tryz.underlying112 (aY rfl (d3 W) (aY Ac (d3 W) (mM Ac)))
abbrev Q56:List V->Prop:=zI true Q112
theorem d56(W:World):Dec Tryz.prog W (bQ W) 56 Q56:=pV true Ac Ac (d112 W) DU (fun h=>Ad) (jZ W)
abbrev Q57:List V->Prop:=zI false Q56
theorem d57(W:World):Dec Tryz.prog W (bQ W) 57 Q57:=pV false Ac Ac (d56 W) DU (fun _=>Ac) (jZ W)
abbrev Q59:List V->Prop:=QAll [Q56,Q57]
theorem d59(W:World):Dec Tryz.prog W (bQ W) 59 Q59:=lZ Tryz.underlying59 (aY rfl (d56 W) (aY Ac (d57 W) (mM Ac)))
abbrev Q60:List V->Prop:=zI true Q59
theorem d60(W:World):Dec Tryz.prog W (bQ W) 60 Q60:=pV true Ac Ac (d59 W) DU (fun h=>Ad) (jZ W)
abbrev Q62:List V->Prop:=QAll [Q3,Q9,Q9,Q3,Q59,Q60]
theorem d62(W:World):Dec Tryz.prog W (bQ W) 62 Q62:=lZ Tryz.underlying62 (aY rfl (d3 W) (aY Ac (d9 W) (aY Ac (d9 W) (aY Ac (d3 W) (aY Ac (d59 W) (aY Ac (d60 W) (mM Ac)))))))
abbrev Q27:List V->Prop:=QAll [Q3,Q3]
theorem d27(W:World):Dec Tryz.prog W (bQ W) 27 Q27:=dN6 (m:=2) (e:=3) Ac (aY Ac (d3 W) (aY Ac (d3 W) (mM Ac)))
abbrev Q63:List V->Prop:=zI true Q27
theorem d63(W:World):Dec Tryz.prog W (bQ W) 63 Q63:=pV true Ac Ac (d27 W) DU (fun h=>Ad) (jZ W)
abbrev Q65:List V->Prop:=QAll [Q3,Q9,Q9,Q3,Q63]
theorem d65(W:World):Dec Tryz.prog W (bQ W) 65 Q65:=lZ Tryz.underlying65 (aY rfl (d3 W) (aY Ac (d9 W) (aY Ac (d9 W) (aY Ac (d3 W) (aY Ac (d63 W) (mM Ac))))))
abbrev Q101:List V->Prop:=QAll [Q3,Q9,Q3]
theorem d101(W:World):Dec Tryz.prog W (bQ W) 101 Q101:=lZ Tryz.underlying101 (aY rfl (d3 W) (aY Ac (d9 W) (aY Ac (d3 W) (mM Ac))))
abbrev Q66:List V->Prop:=zI true Q101
theorem d66(W:World):Dec Tryz.prog W (bQ W) 66 Q66:=pV true Ac Ac (d101 W) DU (fun h=>Ad) (jZ W)
abbrev Q114:List V->Prop:=QAll [Q112,Q112]
theorem d114(W:World):Dec Tryz.prog W (bQ W) 114 Q114:=lZ Tryz.underlying114 (aY rfl (d112 W) (aY Ac (d112 W) (mM Ac)))
abbrev Q117:List V->Prop:=QAll [Q3,Q114,Q3,Q3]
theorem d117(W:World):Dec Tryz.prog W (bQ W) 117 Q117:=lZ Tryz.underlying117 (aY rfl (d3 W) (aY Ac (d114 W) (aY Ac (d3 W) (aY Ac (d3 W) (mM Ac)))))
abbrev Q67:List V->Prop:=zI true Q117
theorem d67(W:World):Dec Tryz.prog W (bQ W) 67 Q67:=pV true Ac Ac (d117 W) DU (fun h=>Ad) (jZ W)
abbrev Q69:List V->Prop:=QAll [Q3,Q3,Q9,Q62,Q65,Q66,Q67,Q3]
theorem d69(W:World):Dec Tryz.prog W (bQ W) 69 Q69:=lZ Tryz.underlying69 (aY rfl (d3 W) (aY Ac (d3 W) (aY Ac (d9 W) (aY Ac (d62 W) (aY Ac (d65 W) (aY Ac (d66 W) (aY Ac (d67 W) (aY Ac (d3 W) (mM Ac)))))))))
abbrev Q52:List V->Prop:=zI true Q69
theorem d52(W:World):Dec Tryz.prog W (bQ W) 52 Q52:=pV true Ac Ac (d69 W) DU (fun h=>Ad) (jZ W)
abbrev Q23:List V->Prop:=QAll [Q3,Q3,Q3,Q3,Q3,Q3,Q3]
theorem d23(W:World):Dec Tryz.prog W (bQ W) 23 Q23:=lZ Tryz.underlying23 (aY rfl (d3 W) (aY Ac (d3 W) (aY Ac (d3 W) (aY Ac (d3 W) (aY Ac (d3 W) (aY Ac (d3 W) (aY Ac (d3 W) (mM Ac))))))))
theorem uO{α:Type}{f:α->V}{Q:List V->Prop}{P:α->Prop}(h:∀xs,Q xs->∃a,V.agg xs=f a/\P a):∀ {l:List V},(∀x∈l,Q x.cells/\(true=true->∃ys,x= .agg ys)/\(true=false->∀ys,x≠ .agg ys))->∃l':List α,l=l'.map f/\∀a∈l',P a
 | [],_=>⟨[],rfl,Ae⟩
 |x::l,hl=>by
  obtain⟨h1,h2,_⟩:=hl x Ae;obtain⟨ys,rfl⟩:=h2 rfl;obtain⟨m,hm,hp⟩:=h ys h1;obtain⟨l',rfl,hl'⟩:=uO h (l:=l) (fun y hy=>hl y FT);refine⟨m::l',by rw[List.map_cons,<-hm],fun z hz=>?_⟩
  exact OV
theorem cF8{α:Type}{f:α->V}{Q:List V->Prop}{P:α->Prop}(h:∀xs,Q xs->∃a,xs=[f a]/\P a):∀ {l:List V},(∀x∈l,Q x.cells/\(false=true->∃ys,x= .agg ys)/\(false=false->∀ys,x≠ .agg ys))->∃l':List α,l=l'.map f/\∀a∈l',P a
 | [],_=>⟨[],rfl,Ae⟩
 |x::l,hl=>by
  obtain⟨h1,_,h2⟩:=hl x Ae;obtain⟨m,hm,hp⟩:=h _ h1;obtain⟨l',rfl,hl'⟩:=cF8 h (l:=l) (fun y hy=>hl y FT)
  have hx:x=f m:=by
   cases x with
   |agg ys=>exact(h2 rfl ys rfl).elim
   |_=>simp only[V.cells,List.cons.injEq,and_true]at hm;exact hm
  refine⟨m::l',by rw[List.map_cons,<-hx],fun z hz=>?_⟩
  exact OV
theorem max6{n:Nat}(h:n<=maxLen):n<=9223372036854775807:=by unfold maxLen at h;omega
theorem vc_of(xs:List V)(h:Q112 xs):∃a:Vc,V.agg xs=vcV a/\True:=Lp
theorem rg_of(xs:List V)(h:Q56 xs):∃a:Rg,xs=[rgV a]/\Len6 a:=by
 obtain⟨l,rfl,hl,h⟩:=h;obtain⟨l',rfl,_⟩:=uO vc_of h;exact⟨l',rfl,Ew⟩
theorem eZ3(xs:List V)(h:Q57 xs):∃a:List Rg,xs=[.sl (a.map rgV)]/\Len6 a/\∀r∈a,Len6 r:=by
 obtain⟨l,rfl,hl,h⟩:=h;obtain⟨l',rfl,h'⟩:=cF8 rg_of h;exact⟨l',rfl,Ew,h'⟩
theorem eT9(xs:List V)(h:Q59 xs):∃a:Sh,V.agg xs=shV a/\aV5 a:=by
 obtain⟨x1,x2,rfl,h1,x3,x4,rfl,h2,rfl⟩:=h;obtain⟨o,rfl,ho⟩:=rg_of _ h1;obtain⟨q,rfl,hq,hr⟩:=eZ3 _ h2;exact⟨⟨o,q⟩,rfl,ho,hq,hr⟩
theorem eY8(xs:List V)(h:Q60 xs):∃a:List Sh,xs=[.sl (a.map shV)]/\Len6 a/\∀r∈a,aV5 r:=by
 obtain⟨l,rfl,hl,h⟩:=h;obtain⟨l',rfl,h'⟩:=uO eT9 h;exact⟨l',rfl,Ew,h'⟩
theorem eF9(xs:List V)(h:Q62 xs):∃a:jL,xs=aA7 a/\aA4 a:=by
 obtain⟨_,_,rfl,⟨i,rfl,_⟩,_,_,rfl,⟨g,rfl,_⟩,_,_,rfl,⟨t,rfl,_⟩,_,_,rfl,⟨n,rfl,_⟩,x1,_,rfl,h1,x2,_,rfl,h2,rfl⟩:=h;obtain⟨s,hs,hb⟩:=eT9 _ h1;obtain⟨d,rfl,hd,he⟩:=eY8 _ h2;have hx:x1=[rgV s.outer, .sl (s.holes.map rgV)] :=V.agg.inj hs;subst hx;exact⟨⟨i,g,t,n,s,d⟩,rfl,hb,hd,he⟩
theorem iv_of(xs:List V)(h:Q27 xs):∃a:Led.Iv,V.agg xs=ivV a/\True:=Lp
theorem eY4(xs:List V)(h:Q65 xs):∃a:Bar,xs=barC a/\Len6 a.defects:=by
 obtain⟨_,_,rfl,⟨i,rfl,_⟩,_,_,rfl,⟨g,rfl,_⟩,_,_,rfl,⟨t,rfl,_⟩,_,_,rfl,⟨n,rfl,_⟩,x2,_,rfl,⟨l,rfl,hl,h2⟩,rfl⟩:=h;obtain⟨d,rfl,_⟩:=uO iv_of h2;exact⟨⟨i,g,t,n,d⟩,rfl,Ew⟩
theorem eR2(xs:List V)(h:Q101 xs):∃a:Made,V.agg xs=dK a/\True:=by
 obtain⟨_,_,rfl,⟨a,rfl,ra⟩,_,_,rfl,⟨b,rfl,rb⟩,_,_,rfl,⟨c,rfl,rc⟩,rfl⟩:=h;exact⟨⟨a,b,c⟩,rfl,trivial⟩
theorem rest_of(xs:List V)(h:Q117 xs):∃a:Led.Rest,V.agg xs=bY a/\True:=by
 obtain⟨_,_,rfl,⟨a,rfl,ra⟩,_,_,rfl,⟨_,_,rfl,⟨_,_,rfl,⟨b,rfl,rb⟩,_,_,rfl,⟨c,rfl,rc⟩,rfl⟩,_,_,rfl,⟨_,_,rfl,⟨d,rfl,rd⟩,_,_,rfl,⟨e,rfl,re⟩,rfl⟩,rfl⟩,_,_,rfl,⟨f,rfl,rf⟩,_,_,rfl,⟨g,rfl,rg⟩,rfl⟩:=h;exact⟨⟨a,((b,c),(d,e)),f,g⟩,rfl,trivial⟩
theorem ev_of(xs:List V)(h:Q69 xs):∃a:Led.Event,V.agg xs=aS a/\bI1 a:=by
 obtain⟨_,_,rfl,⟨k,rfl,_⟩,_,_,rfl,⟨i,rfl,_⟩,_,_,rfl,⟨t,rfl,_⟩,x1,_,rfl,h1,x2,_,rfl,h2,_,_,rfl,⟨l1,rfl,b1,q1⟩,_,_,rfl,⟨l2,rfl,b2,q2⟩,_,_,rfl,⟨z,rfl,_⟩,rfl⟩:=h;obtain⟨s,rfl,hs⟩:=eF9 _ h1;obtain⟨b,rfl,hb⟩:=eY4 _ h2;obtain⟨c,rfl,_⟩:=uO eR2 q1;obtain⟨r,rfl,_⟩:=uO rest_of q2;exact⟨⟨k,i,t,s,b,c,r,z⟩,rfl,hs,hb,by simpa using max6 b1,by simpa using max6 b2⟩
theorem cC1{l:List V}(h:∀x∈l,Q69 x.cells/\(true=true->∃ys,x= .agg ys)/\(true=false->∀ys,x≠ .agg ys)):∃l':List Led.Event,l=l'.map aS/\∀a∈l',bI1 a:=uO ev_of h
theorem rt_of{xs:List V}(h:Q23 xs):∃r:Rt,V.agg xs=rtV r:=by
 obtain⟨_,_,rfl,⟨a,rfl,ra⟩,_,_,rfl,⟨b,rfl,rb⟩,_,_,rfl,⟨c,rfl,rc⟩,_,_,rfl,⟨d,rfl,rd⟩,_,_,rfl,⟨e,rfl,re⟩,_,_,rfl,⟨f,rfl,rf⟩,_,_,rfl,⟨g,rfl,rg⟩,rfl⟩:=h;exact⟨⟨a,b,c,d,e,f,g⟩,rfl⟩
end Go.Proofs.YtkhhdojgbkophaaGreatDoor
