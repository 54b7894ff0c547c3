/- Lemmas. -/
import Derived.Test.YtecbpikbjfihmaaGreatDoorB6
import Derived.Maps.OwnRows
import Derived.LoopTactic
import Derived.BigRegion
import Derived.Deep.RegionLawGrows
set_option linter.all false
set_option autoImplicit true
set_option relaxedAutoImplicit true
set_option maxRecDepth 1000000
set_option maxHeartbeats 4000000
noncomputable section
namespace Go.Proofs.Led
open Go Go.Proofs Go.Ab Go.RowKit Go.Maps Go.MapKept Go.ChangeMaps Go.WideShapes Tryz
def chl_zero w:(zeroValue 33).run Tryz.prog w= .ok (.slice none 0 0) w:=Ac
def chl_info:(Tryz.prog.info? 3).map (λi=>(i.zero,i.size,i.bytes))=some (some (.int .i64 0),1,8):=Ac
def nodeA(x:Node):Array Value:= #[.int .i64 x.id, .int .i64 x.kind, .int .i64 x.parent, .string x.grade, .string x.heat, .string x.part, .int .i64 x.size, .bool x.gone, .int .i64 x.scrap]
def itemsD:DataW Unit->List (DataW Unit)
 | .slice es _=>es
 |_=> []
def grpD:List Node->DataW Unit
 | [] => .map []
 |x::l=>if x.parent=0 then grpD l else(grpD l).put (.int .i64 x.parent) (.slice (itemsD ((grpD l).atKey (.int .i64 x.parent) .nil)++[.lit (.int .i64 x.id)]) [])
def look_any{R:Value->Option (DataW H×List MemPlace)}(e:P.underlying k=some (.int q))(r:P.underlying t=some (.map k E))(F:WideElems.Fit P k R es c){B}(d:keyOf P k key=some B) z:
 ∃v,∀W,W.heap[b]? =some (.map es c)->(zeroValue E).run P W= .ok z W->(Instr.lookup t (.map (some b)) key false).run P W= .ok v W:=by
 have n:∀v,keyOf P k v=mapKey P k v:=λv=>by simp[keyOf,e]
 have f:∀ {v:Value} {l:Lit},keyOf P k v=some l->IsKey (.int q) v:=fun {v l} h=>by
  rw[n]at h;let⟨C,x,g,D⟩:=mapKey_isKey h;simp_all
 have m:∀y∈es.toList,IsKey (.int q) y.key:=λy A=>by
  let⟨G,p⟩:=F.reads y A;exact f (WideElems.rd_key p)
 rcases findNow_spec (f d) es.toList 0 m with⟨g,_⟩|⟨j,u,g,_,_⟩
 ·exact⟨z,λW i s=>by simp[Instr.lookup,RJ r,Ua i,(int_keyed e).check W _ d,run_findKey e g,s,Result.andThen]⟩
 ·exact⟨u.val,λW i s=>by simp[Instr.lookup,RJ r,Ua i,(int_keyed e).check W _ d,run_findKey e g,Result.andThen]⟩
def groups_at{w:World}{D:DataW H}(h:w.ownsGroups P k c e f b n D)(l:P.underlying k=some (.int q))(p:P.underlying t=some (.map k E))(u:∀w,(zeroValue E).run P w= .ok (.slice none 0 0) w)(r:n<maxLen)(d:keyOf P k key=some j):
 ∃v g,(∀W,W.heap[b]? =w.heap[b]? ->(Instr.lookup t (.map (some b)) key false).run P W= .ok v W)/\D.atKey j .nil=rowDatum f v g/\w.ownsInts c e f v g/\g.length<=n/\w.groupBack P t k c e f b n D key j v:=by
 let⟨v,g,m,x,y,z,A⟩:=h.at (int_keyed l) p (u w) r d;let⟨es,i,B,F,_⟩:=h;let⟨v',s⟩:=look_any (E:=E) l p F d (.slice none 0 0) (b:=b);grind
def groups_kept{w w':World}{D:DataW H}(h:w.ownsGroups P k c e j b n D)(q:w.grownBy w' none)(B:n<=C):w'.ownsGroups P k c e j b C D:=by
 obtain⟨es,d,A,F,I,rfl,m,f,l⟩:=h
 have s:∀x∈es.toList,∀z,rowElem (H:=H) w c e j x.val=some z->rowElem w' c e j x.val=some z:=λx t z u=>by
  obtain⟨L,r,rfl⟩:=rowElem_inv u;exact rowElem_mk (r.kept q (by cases x.val.ownBlock<;>simp))
 let⟨G,g,_⟩:=F.stay (R':=rowElem w' c e j) s;refine⟨es,d,(q.block b (Ry.1 A).1 Ad).trans A,G,Rz I B,by rw[g],m,λx t L r=>?_,l⟩;let⟨y,J⟩:=F.reads x t;let⟨z,u,_⟩:=WideElems.rd_val J;let⟨v,i,_⟩:=rowElem_inv u;have:=(i.kept q (by cases x.val.ownBlock<;>simp)).unique r;exact Rz (this▸f x t v i) B
section
variable{P:Program}{ops:Array Oper}{o:Oper}{a:Act}{w w':World}{K:Act->World->Prop}{Q:Exit->Act->World->Prop}{E:Prop}
def step_lk(hg:o.guard=none)(c:o.op= .lookup t m x false)(e:a.eval m=d)(g:a.eval x=key)(b:(Instr.lookup t d key false).run P w= .ok v w')(hK:K (a.put o.dst v) w'):
 if Region.wanted o (yielded ops a.tmps)=true then Oper.wp P o a w K Q else E:=by
 have f:Region.wanted o (yielded ops a.tmps)=true:=CX;rw[QU f];unfold Oper.wp;simp[execOp,c,e,g,b,Result.andThen];exact hK
def step_ap(hg:o.guard=none)(e:o.op= .call {callee:= .builtin .append,args:= #[s,x],argTypes:= #[t,t]})(f:a.eval s=c)(i:a.eval x=d)(b:(Builtin.append_ #[t,t] o.type #[c,d]).run P w= .ok v w')(hK:K (a.put o.dst v) w'):
 if Region.wanted o (yielded ops a.tmps)=true then Oper.wp P o a w K Q else E:=by
 have g:Region.wanted o (yielded ops a.tmps)=true:=CX;rw[QU g];unfold Oper.wp execOp;simp[e,resolve,invoke,builtin,SH,Tq,RG,List.map_toArray,Rt,SY,f,i,b];exact hK
def step_mu(hg:o.guard=none)(c:o.op= .mapUpdate t m x y)(e:a.eval m=d)(g:a.eval x=key)(hv:a.eval y=v)(b:(Instr.mapUpdate t d key v).run P w= .ok () w')(hK:K (a.put o.dst undef) w'):
 if Region.wanted o (yielded ops a.tmps)=true then Oper.wp P o a w K Q else E:=by
 have f:Region.wanted o (yielded ops a.tmps)=true:=CX;rw[QU f];unfold Oper.wp;simp[execOp,c,e,g,hv,b,Result.andThen];exact hK
end
def chl_any(f:List Node) b off cap w(hf:f.length<=1000000)(V:b<w.heap.size)(W:∀k x,f[k]? =some x->∀j v,(nodeA x)[j]? =some v->w.cell? ⟨b,off+(k*9+j),none⟩=some v)(Z:∀x∈f,(Lit.int .i64 x.id).wf=true/\(Lit.int .i64 x.parent).wf=true):
 Calls Tryz.prog 36 #[.slice (some ⟨b,off,none⟩) f.length cap] w λe w'=>e= .returned (.map (some w.heap.size))/\w'.ownsGroups (H:=Unit) Tryz.prog 3 (w.heap.size+1) 3 .i64 w.heap.size f.length (grpD f.reverse)/\Below w.heap.size w w':=by
 have Y:= @run_makeMap Tryz.prog;have mixed:=mixed;obtain⟨i0,hi,N,O,R⟩:=info_parts chl_info
 go_enter func36,ntmps36
 go_wp2
 go_loopw [9] (λi wr=>∃k:Nat,k<=f.length/\i= .int .i64 k/\wr.ownsGroups (H:=Unit) Tryz.prog 3 (w.heap.size+1) 3 .i64 w.heap.size k (grpD (f.take k).reverse)/\Below w.heap.size w wr/\w.heap.size+1<=wr.heap.size)
  (λi _=>f.length- (intOf i).toNat)
 case atStart=>exact⟨0,RY _,rfl,World.ownsGroups_made _ _ _ _ _,(Below.refl _ _).alloc (Rf _) _,Ad⟩
 case round=>
  obtain⟨k,hk,rfl,l,m,L⟩:=hrel;have F:k<f.length->∃x,f[k]? =some x/\∀j v,(nodeA x)[j]? =some v->wr.cell? ⟨b,off+(k*9+j),none⟩=some v:=λh=>⟨f[k],QX h,λj v hv=>(m.cell (by exact V)).trans (W k _ (QX h) j v hv)⟩;by_cases I:k<f.length
  ·obtain⟨x,M,c⟩:=F I
   have B:=Z x (QZ M);have e0:wr.cell? ⟨b,off+k*9,none⟩=some (.int .i64 x.id):=by have:=c 0 _ rfl;rw[TW]at this;exact this
   have z:wr.cell? ⟨b,off+k*9+1,none⟩=some (.int .i64 x.kind):=by rw[TS];exact c 1 _ rfl
   have S:wr.cell? ⟨b,off+k*9+2,none⟩=some (.int .i64 x.parent):=by rw[TS];exact c 2 _ rfl
   have e3:wr.cell? ⟨b,off+k*9+3,none⟩=some (.string x.grade):=by rw[TS];exact c 3 _ rfl
   have e4:wr.cell? ⟨b,off+k*9+4,none⟩=some (.string x.heat):=by rw[TS];exact c 4 _ rfl
   have e5:wr.cell? ⟨b,off+k*9+5,none⟩=some (.string x.part):=by rw[TS];exact c 5 _ rfl
   have e6:wr.cell? ⟨b,off+k*9+6,none⟩=some (.int .i64 x.size):=by rw[TS];exact c 6 _ rfl
   have e7:wr.cell? ⟨b,off+k*9+7,none⟩=some (.bool x.gone):=by rw[TS];exact c 7 _ rfl
   have e8:wr.cell? ⟨b,off+k*9+8,none⟩=some (.int .i64 x.scrap):=by rw[TS];exact c 8 _ rfl
   obtain⟨v,C,hlk,D,n,aa,s⟩:=groups_at l SL underlying122 chl_zero Cj (keyOf_int_mk SL B.2);have hX:∀o,(wr.alloc o).heap[wr.heap.size]? =some o:=λo=>U6 wr o
   go_wp2
   ·have J:=λj G=>(n.1.lt j G).2
    refine wp_region_any Ac ?_;try(change wpAny _ _ _ _ _ _ _ (World.drew _))
    have q:∀W2,(wr.alloc (.cells (nodeA x) 40)).grownBy W2 v.ownBlock->W2.cell? ⟨wr.heap.size,2,none⟩=some (.int .i64 x.parent):=λW2 X=>by
     have U:=X.block wr.heap.size Ad (λz=>by have:=J _ z.symm;omega);rw[UU (w:=wr.alloc (.cells (nodeA x) 40)) U];unfold World.cell?;dsimp only;rw[U6];rfl
    have hl1:(wr.alloc (.cells (nodeA x) 40)).heap[w.heap.size]? =wr.heap[w.heap.size]? :=by simp only[World.alloc];rw[Array.getElem?_push,Q9 (by omega)]
    have hl2:((wr.alloc (.cells (nodeA x) 40)).alloc (.cells #[.int .i64 x.id] 3)).heap[w.heap.size]? =wr.heap[w.heap.size]? :=by
     rw[<-hl1];show((wr.alloc (.cells (nodeA x) 40)).heap.push _)[w.heap.size]? =_;rw[Array.getElem?_push,Q9 AY]
    have hall:∃v' W2 W3,(Builtin.append_ #[33,33] 33 #[v, .slice (some ⟨wr.heap.size+1,0,none⟩) 1 1]).run Tryz.prog ((wr.alloc (.cells (nodeA x) 40)).alloc (.cells #[.int .i64 x.id] 3)).drew= .ok v' W2/\W2.cell? ⟨wr.heap.size,2,none⟩=some (.int .i64 x.parent)/\(Instr.mapUpdate 122 (.map (some w.heap.size)) (.int .i64 x.parent) v').run Tryz.prog W2= .ok () W3/\W3.ownsGroups (H:=Unit) Tryz.prog 3 (w.heap.size+1) 3 .i64 w.heap.size (k+1) (grpD (f.take (k+1)).reverse)/\Below w.heap.size w W3/\w.heap.size+1<=W3.heap.size:=by
     obtain⟨v',W2,hr,y,d,T,A⟩:=run_append_own_at (P:=Tryz.prog) ((wr.alloc (.cells (nodeA x) 40)).alloc (.cells #[.int .i64 x.id] 3)).drew (w.heap.size+1) 33 33 3 i0 (.int .i64 0) 1 8 underlying33 hi N O R rfl Ai v C.length (C.map (Value.int .i64)) ((n.1.alloc _).alloc _) ⟨wr.heap.size+1,0,none⟩ 1 1 [.int .i64 x.id] rfl (by
      intro j u G;have e:=cell_one_new (wr.alloc (.cells (nodeA x) 40)) (.int .i64 x.id) 3 j u G;simpa using e) (ints_oneCell .i64 [x.id]) Cj Aa AY
     have d:((wr.alloc (.cells (nodeA x) 40)).alloc (.cells #[.int .i64 x.id] 3)).grownBy W2 v.ownBlock:=⟨d.os,d.tape,d.output,d.size,d.block⟩;have t:wr.grownBy W2 v.ownBlock:=(UY _ _ _).trans ((UY _ _ _).trans d);have r:=n.appended y B.1;obtain⟨W3,hr3,hown3,g⟩:=s W2 v' (C++[x.id]) t r AY (A.imp id (λh=>⟨_,h,AY⟩));refine⟨v',W2,W3,hr,q W2 ((UY _ _ _).trans d),hr3,?_,m.groups n t g m.size (Nat.le_succ _) (Rf _),Rz L (Rz t.size g.size)⟩
     have e:grpD (f.take (k+1)).reverse=(grpD (f.take k).reverse).put (.int .i64 x.parent) (rowDatum .i64 v' (C++[x.id])):=by
      rw[U2,M];simp only[Option.toList,UZ,List.reverse_cons,List.reverse_nil,Uj,Ur,grpD];rw[Q9 (by simpa using ‹(x.parent !=0)=true›),r.datum_pos Ad,D];rcases n.datum (H:=Unit)with⟨z,S⟩|z;rw[z,S];rfl;rw[z];simp[itemsD,Go.ChangeShapes.lits]
     rw[e];exact hown3
    refine wpAny_take (i:=0) (v:= ?_) rfl Ac Ac Ac (λ_ _ _ h=>h) (Or.inl ⟨by rfl,?_⟩) ?_;rotate_left
    ·intro w;go_simp;try with_reducible rfl
    refine wpAny_take (i:=1) (v:= ?_) rfl Ac Ac Ac (λ_ _ _ h=>h) (Or.inl ⟨by rfl,?_⟩) ?_;rotate_left
    ·intro w;go_simp;try with_reducible rfl
    refine wpAny_take (i:=3) (v:= ?_) rfl Ac Ac Ac (λ_ _ _ h=>h) (Or.inl ⟨by rfl,?_⟩) ?_;rotate_left
    ·intro w;go_simp;try with_reducible rfl
    refine wpAny_take (i:=4) (v:= ?_) rfl Ac Ac Ac (λ_ _ _ h=>h) (Or.inl ⟨by rfl,?_⟩) ?_;rotate_left
    ·intro w;go_simp;try with_reducible rfl
    refine wpAny_take (i:=7) (v:= ?_) rfl Ac Ac Ac (λ_ _ _ h=>h) (Or.inl ⟨by rfl,?_⟩) ?_;rotate_left
    ·intro w;go_simp;try with_reducible rfl
    refine Sl (rs:=[2,5,8]) Ac Ad ?_;refine Rx rfl (λK hK=>?_) ?_
    ·go_simp
     refine hK _ _ ?_;clear hK K;refine Sl (rs:=[5,8]) Ac Ad ?_;refine Rx rfl (λK hK=>?_) ?_
     ·go_simp
      refine hK _ _ ?_;clear hK K;refine Sl (rs:=[6,8]) Ac Ad ?_;refine Rx rfl (λK hK=>?_) ?_
      ·refine step_lk rfl rfl rfl rfl (hlk _ Ar) ?_
       go_simp
       refine hK _ _ ?_;clear hK K;refine Sl (rs:=[8]) Ac Ad ?_;refine Rx rfl (λK hK=>?_) ?_
       ·go_simp
        exact Ny
       exact RX
      exact Qi
     refine Rx rfl (λK hK=>?_) ?_
     ·go_simp
      exact NP
     exact RX
    refine Rx rfl (λK hK=>?_) ?_
    ·go_simp
     refine hK _ _ ?_;clear hK K;refine Sl (rs:=[2,6,8]) Ac Ad ?_;refine Rx rfl (λK hK=>?_) ?_
     ·go_simp
      refine hK _ _ ?_;clear hK K;refine Sl (rs:=[6,8]) Ac Ad ?_;refine Rx rfl (λK hK=>?_) ?_
      ·refine step_lk rfl rfl rfl rfl (hlk _ Ar) ?_
       go_simp
       refine hK _ _ ?_;clear hK K;refine Sl (rs:=[8]) Ac Ad ?_;refine Rx rfl (λK hK=>?_) ?_
       ·go_simp
        exact Ny
       exact RX
      exact Qi
     refine Rx rfl (λK hK=>?_) ?_
     ·refine step_lk rfl rfl rfl rfl (hlk _ Ar) ?_
      go_simp
      refine hK _ _ ?_;clear hK K;refine Sl (rs:=[2,8]) Ac Ad ?_;refine Rx rfl (λK hK=>?_) ?_
      ·go_simp
       refine hK _ _ ?_;clear hK K;refine Sl (rs:=[8]) Ac Ad ?_;refine Rx rfl (λK hK=>?_) ?_
       ·go_simp
        exact Ny
       exact RX
      refine Rx rfl (λK hK=>?_) ?_
      ·go_simp
       refine hK _ _ ?_;clear hK K;refine Sl (rs:=[2,9]) Ac Ad ?_;refine Rx rfl (λK hK=>?_) ?_
       ·go_simp
        exact Ny
       refine Rx rfl (λK hK=>?_) ?_
       ·go_simp
        exact Nq
       exact RX
      exact RX
     refine Rx rfl (λK hK=>?_) ?_
     ·go_simp
      exact Nc
     exact RX
    refine Rx rfl (λK hK=>?_) ?_
    ·go_simp
     refine hK _ _ ?_;clear hK K;refine Sl (rs:=[2,5,9]) Ac Ad ?_;refine Rx rfl (λK hK=>?_) ?_
     ·go_simp
      exact NP
     refine Rx rfl (λK hK=>?_) ?_
     ·go_simp
      exact Nc
     refine Rx rfl (λK hK=>?_) ?_
     ·go_simp
      refine hK _ _ ?_;clear hK K;refine Sl (rs:=[2,5]) Ac Ad ?_;refine Rx rfl (λK hK=>?_) ?_
      ·go_simp
       refine hK _ _ ?_;clear hK K;refine Sl (rs:=[5]) Ac Ad ?_;refine Rx rfl (λK hK=>?_) ?_;exact MS;exact RX
      refine Rx rfl (λK hK=>?_) ?_
      ·go_simp
       refine hK _ _ ?_;clear hK K;refine Sl (rs:=[2,6]) Ac Ad ?_;refine Rx rfl (λK hK=>?_) ?_;exact MS;refine Rx rfl (λK hK=>?_) ?_
       ·refine step_lk rfl rfl rfl rfl (hlk _ Ar) ?_
        go_simp
        exact Nq
       exact RX
      exact RX
     exact RX
    exact RX
   refine⟨⟨k+1,Aa,rfl,?_,m.alloc Aa _,AY⟩,Aq⟩
   have e:grpD (f.take (k+1)).reverse=grpD (f.take k).reverse:=by
    rw[U2,M];simp only[Option.toList,UZ,List.reverse_cons,List.reverse_nil,Uj,Ur,grpD];rw[QU (by simpa using ‹(x.parent !=0)=false›)]
   rw[e];exact groups_kept l (UY _ _ _) (Nat.le_succ _)
  have:k=f.length:=by omega
  subst this
  go_wp2
  go_ret
  rw[TM]at l;exact⟨rfl,l,m⟩
end Go.Proofs.Led
