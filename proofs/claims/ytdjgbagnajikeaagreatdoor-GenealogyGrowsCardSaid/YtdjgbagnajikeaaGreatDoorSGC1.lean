/-
  The genealogy's children, at the machine's level: what the map holds.
-/
import Derived.Test.YtdjgbagnajikeaaGreatDoorB10
import Derived.Maps.OwnRows
import Derived.LoopTactic
import Derived.BigRegion
import Derived.Deep.RegionLawGrows
set_option linter.unusedVariables false
set_option linter.unusedSimpArgs false
set_option maxRecDepth 1000000
set_option maxHeartbeats 4000000
noncomputable section
namespace Go.Proofs.Led
open Go Go.Proofs Go.Ab Go.RowKit Go.Maps Go.MapKept Go.ChangeMaps Go.WideShapes
theorem chl_zero(w:World):(zeroValue 48).run Tryz.prog w= .ok (.slice none 0 0) w:=Ac
theorem chl_info:(Tryz.prog.info? 3).map (λi=>(i.zero,i.size,i.bytes))=some (some (.int .i64 0),1,8):=Ac
def nodeA(x:Node):Array Value:= #[.int .i64 x.id, .int .i64 x.kind, .int .i64 x.parent, .string x.grade, .string x.heat, .string x.part, .int .i64 x.size, .bool x.gone, .int .i64 x.scrap]
def itemsD:DataW Unit->List (DataW Unit)
 | .slice es _=>es
 |_=> []
def grpD:List Node->DataW Unit
 | [] => .map []
 |x::l=>if x.parent=0 then grpD l else(grpD l).put (.int .i64 x.parent) (.slice (itemsD ((grpD l).atKey (.int .i64 x.parent) .nil)++[.lit (.int .i64 x.id)]) [])
theorem look_any{k E t:TypeId}{q:IntKind}{P:Program}{H:Type}{R:Value->Option (DataW H×List MemPlace)}(f:P.underlying k=some (.int q))(s:P.underlying t=some (.map k E)){es:Array MapEntry}{d b:Nat}(F:WideElems.Fit P k R es d){key:Value}{u:Lit}(c:keyOf P k key=some u)(z:Value):
 ∃v,∀W:World,W.heap[b]? =some (.map es d)->(zeroValue E).run P W= .ok z W->(Instr.lookup t (.map (some b)) key false).run P W= .ok v W:=by
 have i:∀v,keyOf P k v=mapKey P k v:=λv=>by simp[keyOf,f]
 have e:∀ {v:Value} {l:Lit},keyOf P k v=some l->IsKey (.int q) v:=fun {v l} h=>by
  rw[i]at h;obtain⟨C,A,g,G⟩:=mapKey_isKey h;simp_all
 have p:∀y∈es.toList,IsKey (.int q) y.key:=λy x=>by
  obtain⟨D,n⟩:=F.reads y x;exact e (WideElems.rd_key n)
 rcases findNow_spec (e c) es.toList 0 p with⟨g,_⟩|⟨j,B,g,_,_⟩
 ·exact⟨z,λW m r=>by simp[Instr.lookup,Rf s,Tv m,(int_keyed f).check W _ c,run_findKey f g,r,Result.andThen]⟩
 ·exact⟨B.val,λW m r=>by simp[Instr.lookup,Rf s,Tv m,(int_keyed f).check W _ c,run_findKey f g,Result.andThen]⟩
theorem groups_at{H:Type}{P:Program}{w:World}{k t E e:TypeId}{q g:IntKind}{c b n:Nat}{D:DataW H}{key:Value}{i:Lit}(h:w.ownsGroups P k c e g b n D)(m:P.underlying k=some (.int q))(p:P.underlying t=some (.map k E))(r:∀w,(zeroValue E).run P w= .ok (.slice none 0 0) w)(s:n<maxLen)(d:keyOf P k key=some i):
 ∃v f,(∀W:World,W.heap[b]? =w.heap[b]? ->(Instr.lookup t (.map (some b)) key false).run P W= .ok v W)/\D.atKey i .nil=rowDatum g v f/\w.ownsInts c e g v f/\f.length<=n/\w.groupBack P t k c e g b n D key i v:=by
 obtain⟨v,f,l,A,y,x,B⟩:=h.at (int_keyed m) p (r w) s d;obtain⟨es,j,z,F,_⟩:=h;obtain⟨v',u⟩:=look_any (E:=E) m p F d (.slice none 0 0) (b:=b);grind
theorem groups_kept{H:Type}{P:Program}{w w':World}{k e:TypeId}{j:IntKind}{c b n A:Nat}{D:DataW H}(h:w.ownsGroups P k c e j b n D)(q:w.grownBy w' none)(B:n<=A):w'.ownsGroups P k c e j b A D:=by
 obtain⟨es,d,C,F,J,rfl,r,f,u⟩:=h
 have l:∀x∈es.toList,∀z,rowElem (H:=H) w c e j x.val=some z->rowElem w' c e j x.val=some z:=λx m z s=>by
  obtain⟨L,v,rfl⟩:=rowElem_inv s;exact rowElem_mk (v.kept q (by cases x.val.ownBlock<;>simp))
 obtain⟨I,i,_⟩:=F.stay (R':=rowElem w' c e j) l;refine⟨es,d,(q.block b (QT.1 C).1 Ae).trans C,I,QV J B,by rw[i],r,λx m L v=>?_,u⟩
 obtain⟨y,G⟩:=F.reads x m;obtain⟨z,s,_⟩:=WideElems.rd_val G;obtain⟨t,g,_⟩:=rowElem_inv s;have:=(g.kept q (by cases x.val.ownBlock<;>simp)).unique v
 exact QV (this▸f x m t g) B
section
variable{P:Program}{ops:Array Oper}{o:Oper}{a:Act}{w w':World}{K:Act->World->Prop}{Q:Exit->Act->World->Prop}{E:Prop}
theorem step_lk(hg:o.guard=none){t:TypeId}{m x:Operand}(c:o.op= .lookup t m x false){d key v:Value}(e:a.eval m=d)(g:a.eval x=key)(b:(Instr.lookup t d key false).run P w= .ok v w')(hK:K (a.put o.dst v) w'):
 if Region.wanted o (yielded ops a.tmps)=true then Oper.wp P o a w K Q else E:=by
 have f:Region.wanted o (yielded ops a.tmps)=true:=CW;rw[Q9 f];unfold Oper.wp;simp[execOp,c,e,g,b,Result.andThen];exact hK
theorem step_ap(hg:o.guard=none){s x:Operand}{t:TypeId}(i:o.op= .call {callee:= .builtin .append,args:= #[s,x],argTypes:= #[t,t]}){c d v:Value}(g:a.eval s=c)(f:a.eval x=d)(b:(Builtin.append_ #[t,t] o.type #[c,d]).run P w= .ok v w')(hK:K (a.put o.dst v) w'):
 if Region.wanted o (yielded ops a.tmps)=true then Oper.wp P o a w K Q else E:=by
 have e:Region.wanted o (yielded ops a.tmps)=true:=CW;rw[Q9 e];unfold Oper.wp execOp;simp only[i,resolve,invoke,builtin,RN,Sz,QX,List.map_toArray,QW,RY,g,f,b];exact hK
theorem step_mu(hg:o.guard=none){t:TypeId}{m x y:Operand}(c:o.op= .mapUpdate t m x y){d key v:Value}(e:a.eval m=d)(g:a.eval x=key)(hv:a.eval y=v)(b:(Instr.mapUpdate t d key v).run P w= .ok () w')(hK:K (a.put o.dst undef) w'):
 if Region.wanted o (yielded ops a.tmps)=true then Oper.wp P o a w K Q else E:=by
 have f:Region.wanted o (yielded ops a.tmps)=true:=CW;rw[Q9 f];unfold Oper.wp;simp[execOp,c,e,g,hv,b,Result.andThen];exact hK
end
theorem chl_any(f:List Node)(b off cap:Nat)(w:World)(hf:f.length<=1000000)(hb:b<w.heap.size)(V:∀k x,f[k]? =some x->∀j v,(nodeA x)[j]? =some v->w.cell? ⟨b,off+(k*9+j),none⟩=some v)(hw:∀x∈f,(Lit.int .i64 x.id).wf=true/\(Lit.int .i64 x.parent).wf=true):
 Calls Tryz.prog 45 #[.slice (some ⟨b,off,none⟩) f.length cap] w λe w'=>e= .returned (.map (some w.heap.size))/\w'.ownsGroups (H:=Unit) Tryz.prog 3 (w.heap.size+1) 3 .i64 w.heap.size f.length (grpD f.reverse)/\Below w.heap.size w w':=by
 have Y:= @run_makeMap Tryz.prog;have mixed:=mixed
 obtain⟨W,hi,G,L,J⟩:=info_parts chl_info
 go_enter Tryz.func45,Tryz.ntmps45
 go_wp2
 go_loopw [9] (λi wr=>∃k:Nat,k<=f.length/\i= .int .i64 k/\wr.ownsGroups (H:=Unit) Tryz.prog 3 (w.heap.size+1) 3 .i64 w.heap.size k (grpD (f.take k).reverse)/\Below w.heap.size w wr/\w.heap.size+1<=wr.heap.size)
  (λi _=>f.length- (intOf i).toNat)
 case atStart=>exact⟨0,Ro _,rfl,World.ownsGroups_made _ _ _ _ _,(Below.refl _ _).alloc (QH _) _,Ae⟩
 case round=>
  obtain⟨k,hk,rfl,m,n,F⟩:=hrel;have M:k<f.length->∃x,f[k]? =some x/\∀j v,(nodeA x)[j]? =some v->wr.cell? ⟨b,off+(k*9+j),none⟩=some v:=λh=>⟨f[k],QE h,λj v hv=>(n.cell (by exact hb)).trans (V k _ (QE h) j v hv)⟩
  by_cases N:k<f.length
  ·obtain⟨x,O,c⟩:=M N
   have B:=hw x (QF O);have e0:wr.cell? ⟨b,off+k*9,none⟩=some (.int .i64 x.id):=by have:=c 0 _ rfl;rw[Tq]at this;exact this
   have A:wr.cell? ⟨b,off+k*9+1,none⟩=some (.int .i64 x.kind):=by rw[Td];exact c 1 _ rfl
   have U:wr.cell? ⟨b,off+k*9+2,none⟩=some (.int .i64 x.parent):=by rw[Td];exact c 2 _ rfl
   have e3:wr.cell? ⟨b,off+k*9+3,none⟩=some (.string x.grade):=by rw[Td];exact c 3 _ rfl
   have e4:wr.cell? ⟨b,off+k*9+4,none⟩=some (.string x.heat):=by rw[Td];exact c 4 _ rfl
   have e5:wr.cell? ⟨b,off+k*9+5,none⟩=some (.string x.part):=by rw[Td];exact c 5 _ rfl
   have e6:wr.cell? ⟨b,off+k*9+6,none⟩=some (.int .i64 x.size):=by rw[Td];exact c 6 _ rfl
   have e7:wr.cell? ⟨b,off+k*9+7,none⟩=some (.bool x.gone):=by rw[Td];exact c 7 _ rfl
   have e8:wr.cell? ⟨b,off+k*9+8,none⟩=some (.int .i64 x.scrap):=by rw[Td];exact c 8 _ rfl
   obtain⟨v,D,hlk,S,q,aa,z⟩:=groups_at m RU Tryz.underlying123 chl_zero Cf (keyOf_int_mk RU B.2);have hX:∀o,(wr.alloc o).heap[wr.heap.size]? =some o:=λo=>Un wr o
   go_wp2
   ·have I:=λj R=>(q.1.lt j R).2
    refine wp_region_any Ac ?_
    try(change wpAny _ _ _ _ _ _ _ (World.drew _))
    have r:∀W2,(wr.alloc (.cells (nodeA x) 42)).grownBy W2 v.ownBlock->W2.cell? ⟨wr.heap.size,2,none⟩=some (.int .i64 x.parent):=λW2 Z=>by
     have X:=Z.block wr.heap.size Ae (λA=>by have:=I _ A.symm;omega)
     rw[Uj (w:=wr.alloc (.cells (nodeA x) 42)) X];unfold World.cell?;dsimp only;rw[Un];rfl
    have hl1:(wr.alloc (.cells (nodeA x) 42)).heap[w.heap.size]? =wr.heap[w.heap.size]? :=by simp only[World.alloc];rw[Array.getElem?_push,Q5 (by omega)]
    have hl2:((wr.alloc (.cells (nodeA x) 42)).alloc (.cells #[.int .i64 x.id] 3)).heap[w.heap.size]? =wr.heap[w.heap.size]? :=by
     rw[<-hl1];show((wr.alloc (.cells (nodeA x) 42)).heap.push _)[w.heap.size]? =_;rw[Array.getElem?_push,Q5 AU]
    have hall:∃v' W2 W3,(Builtin.append_ #[48,48] 48 #[v, .slice (some ⟨wr.heap.size+1,0,none⟩) 1 1]).run Tryz.prog ((wr.alloc (.cells (nodeA x) 42)).alloc (.cells #[.int .i64 x.id] 3)).drew= .ok v' W2/\W2.cell? ⟨wr.heap.size,2,none⟩=some (.int .i64 x.parent)/\(Instr.mapUpdate 123 (.map (some w.heap.size)) (.int .i64 x.parent) v').run Tryz.prog W2= .ok () W3/\W3.ownsGroups (H:=Unit) Tryz.prog 3 (w.heap.size+1) 3 .i64 w.heap.size (k+1) (grpD (f.take (k+1)).reverse)/\Below w.heap.size w W3/\w.heap.size+1<=W3.heap.size:=by
     obtain⟨v',W2,hr,y,d,T,C⟩:=run_append_own_at (P:=Tryz.prog) ((wr.alloc (.cells (nodeA x) 42)).alloc (.cells #[.int .i64 x.id] 3)).drew (w.heap.size+1) 48 48 3 W (.int .i64 0) 1 8 Tryz.underlying48 hi G L J rfl Ai v D.length (D.map (Value.int .i64)) ((q.1.alloc _).alloc _) ⟨wr.heap.size+1,0,none⟩ 1 1 [.int .i64 x.id] rfl (by
      intro j u R;have e:=cell_one_new (wr.alloc (.cells (nodeA x) 42)) (.int .i64 x.id) 3 j u R;simpa using e) (ints_oneCell .i64 [x.id]) Cf Aa AU
     have d:((wr.alloc (.cells (nodeA x) 42)).alloc (.cells #[.int .i64 x.id] 3)).grownBy W2 v.ownBlock:=⟨d.os,d.tape,d.output,d.size,d.block⟩;have t:wr.grownBy W2 v.ownBlock:=(UA _ _ _).trans ((UA _ _ _).trans d)
     have s:=q.appended y B.1;obtain⟨W3,hr3,hown3,l⟩:=z W2 v' (D++[x.id]) t s AU (C.imp id (λh=>⟨_,h,AU⟩));refine⟨v',W2,W3,hr,r W2 ((UA _ _ _).trans d),hr3,?_,n.groups q t l n.size (Nat.le_succ _) (QH _),QV F (QV t.size l.size)⟩
     have e:grpD (f.take (k+1)).reverse=(grpD (f.take k).reverse).put (.int .i64 x.parent) (rowDatum .i64 v' (D++[x.id])):=by
      rw[Uh,O];simp only[Option.toList,UB,List.reverse_cons,List.reverse_nil,TM,TU,grpD];rw[Q5 (by simpa using ‹(x.parent !=0)=true›),s.datum_pos Ae,S]
      rcases q.datum (H:=Unit)with⟨A,U⟩|A
      ·rw[A,U]
       rfl
      ·rw[A]
       simp[itemsD,Go.ChangeShapes.lits]
     rw[e];exact hown3
    refine wpAny_take (i:=0) (v:= ?_) rfl Ac Ac Ac (λ_ _ _ h=>h) (Or.inl ⟨by rfl,?_⟩) ?_
    rotate_left
    ·intro w;go_simp;try with_reducible rfl
    refine wpAny_take (i:=1) (v:= ?_) rfl Ac Ac Ac (λ_ _ _ h=>h) (Or.inl ⟨by rfl,?_⟩) ?_
    rotate_left
    ·intro w;go_simp;try with_reducible rfl
    refine wpAny_take (i:=3) (v:= ?_) rfl Ac Ac Ac (λ_ _ _ h=>h) (Or.inl ⟨by rfl,?_⟩) ?_
    rotate_left
    ·intro w;go_simp;try with_reducible rfl
    refine wpAny_take (i:=4) (v:= ?_) rfl Ac Ac Ac (λ_ _ _ h=>h) (Or.inl ⟨by rfl,?_⟩) ?_
    rotate_left
    ·intro w;go_simp;try with_reducible rfl
    refine wpAny_take (i:=7) (v:= ?_) rfl Ac Ac Ac (λ_ _ _ h=>h) (Or.inl ⟨by rfl,?_⟩) ?_
    rotate_left
    ·intro w;go_simp;try with_reducible rfl
    refine Rw (rs:=[2,5,8]) Ac Ae ?_;refine QR rfl (λK hK=>?_) ?_
    ·go_simp
     refine hK _ _ ?_;clear hK K;refine Rw (rs:=[5,8]) Ac Ae ?_;refine QR rfl (λK hK=>?_) ?_
     ·go_simp
      refine hK _ _ ?_;clear hK K;refine Rw (rs:=[6,8]) Ac Ae ?_;refine QR rfl (λK hK=>?_) ?_
      ·refine step_lk rfl rfl rfl rfl (hlk _ Aq) ?_
       go_simp
       refine hK _ _ ?_;clear hK K;refine Rw (rs:=[8]) Ac Ae ?_;refine QR rfl (λK hK=>?_) ?_
       ·go_simp
        exact Nk
       exact Ru
      exact PO
     refine QR rfl (λK hK=>?_) ?_
     ·go_simp
      exact NE
     exact Ru
    refine QR rfl (λK hK=>?_) ?_
    ·go_simp
     refine hK _ _ ?_;clear hK K;refine Rw (rs:=[2,6,8]) Ac Ae ?_;refine QR rfl (λK hK=>?_) ?_
     ·go_simp
      refine hK _ _ ?_;clear hK K;refine Rw (rs:=[6,8]) Ac Ae ?_;refine QR rfl (λK hK=>?_) ?_
      ·refine step_lk rfl rfl rfl rfl (hlk _ Aq) ?_
       go_simp
       refine hK _ _ ?_;clear hK K;refine Rw (rs:=[8]) Ac Ae ?_;refine QR rfl (λK hK=>?_) ?_
       ·go_simp
        exact Nk
       exact Ru
      exact PO
     refine QR rfl (λK hK=>?_) ?_
     ·refine step_lk rfl rfl rfl rfl (hlk _ Aq) ?_
      go_simp
      refine hK _ _ ?_;clear hK K;refine Rw (rs:=[2,8]) Ac Ae ?_;refine QR rfl (λK hK=>?_) ?_
      ·go_simp
       refine hK _ _ ?_;clear hK K;refine Rw (rs:=[8]) Ac Ae ?_;refine QR rfl (λK hK=>?_) ?_
       ·go_simp
        exact Nk
       exact Ru
      refine QR rfl (λK hK=>?_) ?_
      ·go_simp
       refine hK _ _ ?_;clear hK K;refine Rw (rs:=[2,9]) Ac Ae ?_;refine QR rfl (λK hK=>?_) ?_
       ·go_simp
        exact Nk
       refine QR rfl (λK hK=>?_) ?_
       ·go_simp
        exact MZ
       exact Ru
      exact Ru
     refine QR rfl (λK hK=>?_) ?_
     ·go_simp
      exact MR
     exact Ru
    refine QR rfl (λK hK=>?_) ?_
    ·go_simp
     refine hK _ _ ?_;clear hK K;refine Rw (rs:=[2,5,9]) Ac Ae ?_;refine QR rfl (λK hK=>?_) ?_
     ·go_simp
      exact NE
     refine QR rfl (λK hK=>?_) ?_
     ·go_simp
      exact MR
     refine QR rfl (λK hK=>?_) ?_
     ·go_simp
      refine hK _ _ ?_;clear hK K;refine Rw (rs:=[2,5]) Ac Ae ?_;refine QR rfl (λK hK=>?_) ?_
      ·go_simp
       refine hK _ _ ?_;clear hK K;refine Rw (rs:=[5]) Ac Ae ?_;refine QR rfl (λK hK=>?_) ?_
       ·exact MJ
       exact Ru
      refine QR rfl (λK hK=>?_) ?_
      ·go_simp
       refine hK _ _ ?_;clear hK K;refine Rw (rs:=[2,6]) Ac Ae ?_;refine QR rfl (λK hK=>?_) ?_
       ·exact MJ
       refine QR rfl (λK hK=>?_) ?_
       ·refine step_lk rfl rfl rfl rfl (hlk _ Aq) ?_
        go_simp
        exact MZ
       exact Ru
      exact Ru
     exact Ru
    exact Ru
   ·refine⟨⟨k+1,Aa,rfl,?_,n.alloc Aa _,AU⟩,Am⟩
    have e:grpD (f.take (k+1)).reverse=grpD (f.take k).reverse:=by
     rw[Uh,O];simp only[Option.toList,UB,List.reverse_cons,List.reverse_nil,TM,TU,grpD];rw[Q9 (by simpa using ‹(x.parent !=0)=false›)]
    rw[e];exact groups_kept m (UA _ _ _) (Nat.le_succ _)
  ·have:k=f.length:=by omega
   subst this
   go_wp2
   go_ret
   rw[Tn]at m;exact⟨rfl,m,n⟩
end Go.Proofs.Led
