/-
  The arguments of the law, as they are read.
-/
import Derived.Test.YtdjgbagnajikeaaGreatDoorB23
import Derived.Test.YtdjgbagnajikeaaGreatDoorCards
import Derived.Test.YtdjgbagnajikeaaGreatDoorTie
import Derived.LaidMore
import Derived.Stop.Joined
import Derived.SevenTiedAt
import Derived.Lib.LaidTab
import Derived.MakeChecks
set_option linter.unusedVariables false
set_option linter.unusedSimpArgs false
namespace Go.Proofs.YtdjgbagnajikeaaGreatDoor
open Go.ChangeShapes Go.WideShapes Go.ChangeAt Go.RowKit Go.Ab Go.Proofs.Led
theorem own:ownKnob Tryz.prog.godebug=none:=Ac
theorem laidOut:laidOutB Tryz.prog=true:=Ac
theorem var_heap{w:World}{name:String}{g:Nat}{cs:Array Value}(hg:Tryz.prog.globalNamed name=some g)(h:w.var? Tryz.prog name=some cs):∃t z,w.heap[g]? =some (.cells cs t z):=by
 unfold World.var? at h;rw[hg]at h;simp only[Option.bind_some]at h;split at h
 ·rename_i c t z hb
  cases h;exact⟨t,z,hb⟩
 ·cases h
abbrev Q3:List V->Prop:=QInt .i64 (-9223372036854775808) 9223372036854775807
theorem d3(W:World):Dec Tryz.prog W (bQ W) 3 Q3:=dI6 (k:= .i64) Ac Ac (fun n h=>by
 simp[Lit.wf,IntKind.min,IntKind.max,IntKind.signed,IntKind.bits]at h;omega)
abbrev Q9:List V->Prop:=QStr
theorem d9(W:World):Dec Tryz.prog W (bQ W) 9 Q9:=eO8 Ac Ac
abbrev Q4:List V->Prop:=QBool
theorem d4(W:World):Dec Tryz.prog W (bQ W) 4 Q4:=dec_bool Ac Ac
abbrev Q120:List V->Prop:=QAll [Q3,Q3,Q3,Q9,Q9,Q9,Q3,Q4,Q3]
theorem d120(W:World):Dec Tryz.prog W (bQ W) 120 Q120:=lZ Tryz.underlying120 (aY rfl (d3 W) (aY Ac (d3 W) (aY Ac (d3 W) (aY Ac (d9 W) (aY Ac (d9 W) (aY Ac (d9 W) (aY Ac (d3 W) (aY Ac (d4 W) (aY Ac (d3 W) (mM Ac))))))))))
abbrev Q31:List V->Prop:=zI true Q120
theorem d31(W:World):Dec Tryz.prog W (bQ W) 31 Q31:=pV true Ac Ac (d120 W) AA (fun h=>Ag) (jZ W)
theorem uO{α:Type}{f:α->V}{Q:List V->Prop}{P:α->Prop}(h:∀xs,Q xs->∃a,V.agg xs=f a/\P a):∀ {l:List V},(∀x∈l,Q x.cells/\(true=true->∃ys,x= .agg ys)/\(true=false->∀ys,x≠ .agg ys))->∃l':List α,l=l'.map f/\∀a∈l',P a
 | [],_=>⟨[],rfl,Ae⟩
 |x::l,hl=>by
  obtain⟨h1,h2,_⟩:=hl x Ae;obtain⟨ys,rfl⟩:=h2 rfl;obtain⟨m,hm,hp⟩:=h ys h1;obtain⟨l',rfl,hl'⟩:=uO h (l:=l) (fun y hy=>hl y FY);refine⟨m::l',by rw[List.map_cons,<-hm],fun z hz=>?_⟩
  rcases List.mem_cons.1 hz with rfl|hz
  ·exact hp
  ·exact hl' z hz
theorem max6{n:Nat}(h:n<=maxLen):n<=9223372036854775807:=by unfold maxLen at h;omega
theorem node_of(xs:List V)(h:Q120 xs):∃x:Led.Node,V.agg xs=nodeV x/\RgN x:=by
 obtain⟨_,_,rfl,⟨a,rfl,ra⟩,_,_,rfl,⟨b,rfl,rb⟩,_,_,rfl,⟨c,rfl,rc⟩,_,_,rfl,⟨d,rfl,rd⟩,_,_,rfl,⟨e,rfl,re⟩,_,_,rfl,⟨f,rfl,rf⟩,_,_,rfl,⟨g,rfl,rg⟩,_,_,rfl,⟨i,rfl⟩,_,_,rfl,⟨j,rfl,rj⟩,rfl⟩:=h;exact⟨⟨a,b,c,d,e,f,g,i,j⟩,rfl,ra,rc,rg⟩
end Go.Proofs.YtdjgbagnajikeaaGreatDoor
