/-
  The genealogy's children, at the machine's level: what the map holds.
-/
import Derived.Test.YtdjgbagnajikeaaGreatDoorB14
import Derived.Maps.OwnRows
import Derived.LoopTactic
import Derived.BigRegion
import Derived.Deep.RegionLawGrows
set_option linter.unusedVariables false
set_option linter.unusedSimpArgs false
set_option maxRecDepth 1000000
set_option maxHeartbeats 4000000
noncomputable section
namespace Go.Proofs.Led
open Go Go.Proofs Go.Ab Go.RowKit Go.Maps Go.MapKept Go.ChangeMaps Go.WideShapes
theorem chl_zero(w:World):(zeroValue 48).run Tryz.prog w= .ok (.slice none 0 0) w:=Ac
theorem chl_info:(Tryz.prog.info? 3).map (fun i=>(i.zero,i.size,i.bytes))=some (some (.int .i64 0),1,8):=Ac
def nodeA(x:Node):Array Value:= #[.int .i64 x.id, .int .i64 x.kind, .int .i64 x.parent, .string x.grade, .string x.heat, .string x.part, .int .i64 x.size, .bool x.gone, .int .i64 x.scrap]
def itemsD:DataW Unit->List (DataW Unit)
 | .slice es _=>es
 |_=> []
def grpD:List Node->DataW Unit
 | [] => .map []
 |x::l=>if x.parent=0 then grpD l else(grpD l).put (.int .i64 x.parent) (.slice (itemsD ((grpD l).atKey (.int .i64 x.parent) .nil)++[.lit (.int .i64 x.id)]) [])
theorem look_any{k E t:TypeId}{q:IntKind}{P:Program}{H:Type}{R:Value->Option (DataW H×List MemPlace)}(hk:P.underlying k=some (.int q))(ht:P.underlying t=some (.map k E)){es:Array MapEntry}{clock b:Nat}(F:WideElems.Fit P k R es clock){key:Value}{kl:Lit}(hkey:keyOf P k key=some kl)(z:Value):
 ∃v,∀W:World,W.heap[b]? =some (.map es clock)->(zeroValue E).run P W= .ok z W->(Instr.lookup t (.map (some b)) key false).run P W= .ok v W:=by
 have hpl:∀v,keyOf P k v=mapKey P k v:=fun v=>by simp[keyOf,hk]
 have isK:∀ {v:Value} {l:Lit},keyOf P k v=some l->IsKey (.int q) v:=fun {v l} h=>by
  rw[hpl]at h;obtain⟨d',hd',h1,h2⟩:=mapKey_isKey h;rw[hk]at hd';cases hd';exact h1
 have hks:∀y∈es.toList,IsKey (.int q) y.key:=fun y hy=>by
  obtain⟨y',hy'⟩:=F.reads y hy;exact isK (WideElems.rd_key hy')
 rcases findNow_spec (isK hkey) es.toList 0 hks with⟨h1,_⟩|⟨j,e0,h1,_,_⟩
 ·exact⟨z,fun W hb hz=>by simp[Instr.lookup,run_underlying ht,MapKept.run_getObj_map hb,(int_keyed hk).check W _ hkey,run_findKey hk h1,hz,Result.andThen]⟩
 ·exact⟨e0.val,fun W hb hz=>by simp[Instr.lookup,run_underlying ht,MapKept.run_getObj_map hb,(int_keyed hk).check W _ hkey,run_findKey hk h1,Result.andThen]⟩
theorem groups_at{H:Type}{P:Program}{w:World}{k t E e:TypeId}{q qe:IntKind}{base b n:Nat}{D:DataW H}{key:Value}{kl:Lit}(h:w.ownsGroups P k base e qe b n D)(hk:P.underlying k=some (.int q))(ht:P.underlying t=some (.map k E))(hz:∀w,(zeroValue E).run P w= .ok (.slice none 0 0) w)(hn:n<maxLen)(hkey:keyOf P k key=some kl):
 ∃v zs,(∀W:World,W.heap[b]? =w.heap[b]? ->(Instr.lookup t (.map (some b)) key false).run P W= .ok v W)/\D.atKey kl .nil=rowDatum qe v zs/\w.ownsInts base e qe v zs/\zs.length<=n/\w.groupBack P t k base e qe b n D key kl v:=by
 obtain⟨v,zs,hrun,h2,h3,h4,h5⟩:=h.at (int_keyed hk) ht (hz w) hn hkey;obtain⟨es,clock,hb,F,_⟩:=h;obtain⟨v',hv'⟩:=look_any (E:=E) hk ht F hkey (.slice none 0 0) (b:=b);have e1:=hv' w hb (hz w);rw[hrun]at e1;cases e1;exact⟨_,zs,fun W hW=>hv' W (hW.trans hb) (hz W),h2,h3,h4,h5⟩
theorem groups_kept{H:Type}{P:Program}{w w':World}{k e:TypeId}{qe:IntKind}{base b n n':Nat}{D:DataW H}(h:w.ownsGroups P k base e qe b n D)(hg:w.grownBy w' none)(hn:n<=n'):w'.ownsGroups P k base e qe b n' D:=by
 obtain⟨es,clock,hb,F,hs,rfl,hbb,hlen,hap⟩:=h
 have hst:∀x∈es.toList,∀z,rowElem (H:=H) w base e qe x.val=some z->rowElem w' base e qe x.val=some z:=fun x hx z hz=>by
  obtain⟨zs,ho,rfl⟩:=rowElem_inv hz;exact rowElem_mk (ho.kept hg (by cases x.val.ownBlock<;>simp))
 obtain⟨F1,hmap,_⟩:=F.stay (R':=rowElem w' base e qe) hst;refine⟨es,clock,(hg.block b (Array.getElem?_eq_some_iff.1 hb).1 Ae).trans hb,F1,Nat.le_trans hs hn,by rw[hmap],hbb,fun x hx zs ho=>?_,hap⟩
 obtain⟨y,hy⟩:=F.reads x hx;obtain⟨z,hz,_⟩:=WideElems.rd_val hy;obtain⟨zs0,ho0,_⟩:=rowElem_inv hz;have:=(ho0.kept hg (by cases x.val.ownBlock<;>simp)).unique ho
 exact Nat.le_trans (this▸hlen x hx zs0 ho0) hn
section
variable{P:Program}{ops:Array Oper}{o:Oper}{a:Act}{w w':World}{K:Act->World->Prop}{Q:Exit->Act->World->Prop}{E:Prop}
theorem step_lk(hg:o.guard=none){t:TypeId}{m x:Operand}(hop:o.op= .lookup t m x false){mv key v:Value}(hm:a.eval m=mv)(hx:a.eval x=key)(hrun:(Instr.lookup t mv key false).run P w= .ok v w')(hK:K (a.put o.dst v) w'):
 if Region.wanted o (yielded ops a.tmps)=true then Oper.wp P o a w K Q else E:=by
 have hw:Region.wanted o (yielded ops a.tmps)=true:=BM;rw[if_pos hw];unfold Oper.wp;simp[execOp,hop,hm,hx,hrun,Result.andThen];exact hK
theorem step_ap(hg:o.guard=none){s x:Operand}{t:TypeId}(ho:o.op= .call {callee:= .builtin .append,args:= #[s,x],argTypes:= #[t,t]}){sv xv v:Value}(hs:a.eval s=sv)(hx:a.eval x=xv)(hrun:(Builtin.append_ #[t,t] o.type #[sv,xv]).run P w= .ok v w')(hK:K (a.put o.dst v) w'):
 if Region.wanted o (yielded ops a.tmps)=true then Oper.wp P o a w K Q else E:=by
 have hw:Region.wanted o (yielded ops a.tmps)=true:=BM;rw[if_pos hw];unfold Oper.wp execOp;simp only[ho,resolve,invoke,builtin,Sem.run_bind,Sem.run_pure,Result.andThen_ok,List.map_toArray,List.map_cons,List.map_nil,hs,hx,hrun];exact hK
theorem step_mu(hg:o.guard=none){t:TypeId}{m x y:Operand}(hop:o.op= .mapUpdate t m x y){mv key v:Value}(hm:a.eval m=mv)(hx:a.eval x=key)(hv:a.eval y=v)(hrun:(Instr.mapUpdate t mv key v).run P w= .ok () w')(hK:K (a.put o.dst undef) w'):
 if Region.wanted o (yielded ops a.tmps)=true then Oper.wp P o a w K Q else E:=by
 have hw:Region.wanted o (yielded ops a.tmps)=true:=BM;rw[if_pos hw];unfold Oper.wp;simp[execOp,hop,hm,hx,hv,hrun,Result.andThen];exact hK
end
theorem chl_any(f:List Node)(b off cap:Nat)(w:World)(hf:f.length<=1000000)(hb:b<w.heap.size)(hc:∀k x,f[k]? =some x->∀j v,(nodeA x)[j]? =some v->w.cell? ⟨b,off+(k*9+j),none⟩=some v)(hw:∀x∈f,(Lit.int .i64 x.id).wf=true/\(Lit.int .i64 x.parent).wf=true):
 Calls Tryz.prog 45 #[.slice (some ⟨b,off,none⟩) f.length cap] w fun e w'=>e= .returned (.map (some w.heap.size))/\w'.ownsGroups (H:=Unit) Tryz.prog 3 (w.heap.size+1) 3 .i64 w.heap.size f.length (grpD f.reverse)/\Below w.heap.size w w':=by
 have hmm:= @run_makeMap Tryz.prog;have mixed:=mixed
 obtain⟨i0,hi,hz0,hz1,hz2⟩:=info_parts chl_info
 go_enter Tryz.func45,Tryz.ntmps45
 go_wp2
 go_loopw [9] (fun i wr=>∃k:Nat,k<=f.length/\i= .int .i64 k/\wr.ownsGroups (H:=Unit) Tryz.prog 3 (w.heap.size+1) 3 .i64 w.heap.size k (grpD (f.take k).reverse)/\Below w.heap.size w wr/\w.heap.size+1<=wr.heap.size)
  (fun i _=>f.length- (intOf i).toNat)
 case atStart=>exact⟨0,Nat.zero_le _,rfl,World.ownsGroups_made _ _ _ _ _,(Below.refl _ _).alloc (Nat.le_refl _) _,Ae⟩
 case round=>
  obtain⟨k,hk,rfl,hown,hnx,hws⟩:=hrel;have hcx:k<f.length->∃x,f[k]? =some x/\∀j v,(nodeA x)[j]? =some v->wr.cell? ⟨b,off+(k*9+j),none⟩=some v:=fun h=>⟨f[k],List.getElem?_eq_getElem h,fun j v hv=>(hnx.cell (by exact hb)).trans (hc k _ (List.getElem?_eq_getElem h) j v hv)⟩
  by_cases hlt:k<f.length
  ·obtain⟨x,hx,hcell⟩:=hcx hlt
   have hwx:=hw x (List.mem_of_getElem? hx);have e0:wr.cell? ⟨b,off+k*9,none⟩=some (.int .i64 x.id):=by have:=hcell 0 _ rfl;rw[Nat.add_zero]at this;exact this
   have e1:wr.cell? ⟨b,off+k*9+1,none⟩=some (.int .i64 x.kind):=by rw[Nat.add_assoc];exact hcell 1 _ rfl
   have e2:wr.cell? ⟨b,off+k*9+2,none⟩=some (.int .i64 x.parent):=by rw[Nat.add_assoc];exact hcell 2 _ rfl
   have e3:wr.cell? ⟨b,off+k*9+3,none⟩=some (.string x.grade):=by rw[Nat.add_assoc];exact hcell 3 _ rfl
   have e4:wr.cell? ⟨b,off+k*9+4,none⟩=some (.string x.heat):=by rw[Nat.add_assoc];exact hcell 4 _ rfl
   have e5:wr.cell? ⟨b,off+k*9+5,none⟩=some (.string x.part):=by rw[Nat.add_assoc];exact hcell 5 _ rfl
   have e6:wr.cell? ⟨b,off+k*9+6,none⟩=some (.int .i64 x.size):=by rw[Nat.add_assoc];exact hcell 6 _ rfl
   have e7:wr.cell? ⟨b,off+k*9+7,none⟩=some (.bool x.gone):=by rw[Nat.add_assoc];exact hcell 7 _ rfl
   have e8:wr.cell? ⟨b,off+k*9+8,none⟩=some (.int .i64 x.scrap):=by rw[Nat.add_assoc];exact hcell 8 _ rfl
   obtain⟨v,zs,hlk,hat,hoi,hzl,hback⟩:=groups_at hown Tryz.underlying3 Tryz.underlying123 chl_zero BI (keyOf_int_mk Tryz.underlying3 hwx.2);have hX:∀o,(wr.alloc o).heap[wr.heap.size]? =some o:=fun o=>heap_alloc_new wr o
   go_wp2
   ·have hnX:=fun j hj=>(hoi.1.lt j hj).2
    refine wp_region_any Ac ?_
    try(change wpAny _ _ _ _ _ _ _ (World.drew _))
    have hcell2:∀W2,(wr.alloc (.cells (nodeA x) 42)).grownBy W2 v.ownBlock->W2.cell? ⟨wr.heap.size,2,none⟩=some (.int .i64 x.parent):=fun W2 hg=>by
     have h1:=hg.block wr.heap.size Ae (fun e1=>by have:=hnX _ e1.symm;omega)
     rw[World.cell?_of_block (w:=wr.alloc (.cells (nodeA x) 42)) h1];unfold World.cell?;dsimp only;rw[heap_alloc_new];rfl
    have hl1:(wr.alloc (.cells (nodeA x) 42)).heap[w.heap.size]? =wr.heap[w.heap.size]? :=by simp only[World.alloc];rw[Array.getElem?_push,if_neg (by omega)]
    have hl2:((wr.alloc (.cells (nodeA x) 42)).alloc (.cells #[.int .i64 x.id] 3)).heap[w.heap.size]? =wr.heap[w.heap.size]? :=by
     rw[<-hl1];show((wr.alloc (.cells (nodeA x) 42)).heap.push _)[w.heap.size]? =_;rw[Array.getElem?_push,if_neg A8]
    have hall:∃v' W2 W3,(Builtin.append_ #[48,48] 48 #[v, .slice (some ⟨wr.heap.size+1,0,none⟩) 1 1]).run Tryz.prog ((wr.alloc (.cells (nodeA x) 42)).alloc (.cells #[.int .i64 x.id] 3)).drew= .ok v' W2/\W2.cell? ⟨wr.heap.size,2,none⟩=some (.int .i64 x.parent)/\(Instr.mapUpdate 123 (.map (some w.heap.size)) (.int .i64 x.parent) v').run Tryz.prog W2= .ok () W3/\W3.ownsGroups (H:=Unit) Tryz.prog 3 (w.heap.size+1) 3 .i64 w.heap.size (k+1) (grpD (f.take (k+1)).reverse)/\Below w.heap.size w W3/\w.heap.size+1<=W3.heap.size:=by
     obtain⟨v',W2,hr,hown',hgrow,hnil,hloc⟩:=run_append_own_at (P:=Tryz.prog) ((wr.alloc (.cells (nodeA x) 42)).alloc (.cells #[.int .i64 x.id] 3)).drew (w.heap.size+1) 48 48 3 i0 (.int .i64 0) 1 8 Tryz.underlying48 hi hz0 hz1 hz2 rfl Ah v zs.length (zs.map (Value.int .i64)) ((hoi.1.alloc _).alloc _) ⟨wr.heap.size+1,0,none⟩ 1 1 [.int .i64 x.id] rfl (by
      intro j u hj;have e:=cell_one_new (wr.alloc (.cells (nodeA x) 42)) (.int .i64 x.id) 3 j u hj;simpa using e) (ints_oneCell .i64 [x.id]) BI Aa A8
     have hgrow:((wr.alloc (.cells (nodeA x) 42)).alloc (.cells #[.int .i64 x.id] 3)).grownBy W2 v.ownBlock:=⟨hgrow.os,hgrow.tape,hgrow.output,hgrow.size,hgrow.block⟩;have hga:wr.grownBy W2 v.ownBlock:=(World.grownBy_alloc _ _ _).trans ((World.grownBy_alloc _ _ _).trans hgrow)
     have hoi2:=hoi.appended hown' hwx.1;obtain⟨W3,hr3,hown3,hgrow3⟩:=hback W2 v' (zs++[x.id]) hga hoi2 A8 (hloc.imp id (fun h=>⟨_,h,A8⟩));refine⟨v',W2,W3,hr,hcell2 W2 ((World.grownBy_alloc _ _ _).trans hgrow),hr3,?_,hnx.groups hoi hga hgrow3 hnx.size (Nat.le_succ _) (Nat.le_refl _),Nat.le_trans hws (Nat.le_trans hga.size hgrow3.size)⟩
     have e:grpD (f.take (k+1)).reverse=(grpD (f.take k).reverse).put (.int .i64 x.parent) (rowDatum .i64 v' (zs++[x.id])):=by
      rw[List.take_add_one,hx];simp only[Option.toList,List.reverse_append,List.reverse_cons,List.reverse_nil,List.nil_append,List.cons_append,grpD];rw[if_neg (by simpa using ‹(x.parent !=0)=true›),hoi2.datum_pos Ae,hat]
      rcases hoi.datum (H:=Unit)with⟨e1,e2⟩|e1
      ·rw[e1,e2]
       rfl
      ·rw[e1]
       simp[itemsD,Go.ChangeShapes.lits]
     rw[e];exact hown3
    refine wpAny_take (i:=0) (v:= ?_) rfl Ac Ac Ac (fun _ _ _ h=>h) (Or.inl ⟨by rfl,?_⟩) ?_
    rotate_left
    ·intro w;go_simp;try with_reducible rfl
    refine wpAny_take (i:=1) (v:= ?_) rfl Ac Ac Ac (fun _ _ _ h=>h) (Or.inl ⟨by rfl,?_⟩) ?_
    rotate_left
    ·intro w;go_simp;try with_reducible rfl
    refine wpAny_take (i:=3) (v:= ?_) rfl Ac Ac Ac (fun _ _ _ h=>h) (Or.inl ⟨by rfl,?_⟩) ?_
    rotate_left
    ·intro w;go_simp;try with_reducible rfl
    refine wpAny_take (i:=4) (v:= ?_) rfl Ac Ac Ac (fun _ _ _ h=>h) (Or.inl ⟨by rfl,?_⟩) ?_
    rotate_left
    ·intro w;go_simp;try with_reducible rfl
    refine wpAny_take (i:=7) (v:= ?_) rfl Ac Ac Ac (fun _ _ _ h=>h) (Or.inl ⟨by rfl,?_⟩) ?_
    rotate_left
    ·intro w;go_simp;try with_reducible rfl
    refine wpAny_ready (rs:=[2,5,8]) Ac Ae ?_;refine AllReady.cons rfl (fun K hK=>?_) ?_
    ·go_simp
     refine hK _ _ ?_;clear hK K;refine wpAny_ready (rs:=[5,8]) Ac Ae ?_;refine AllReady.cons rfl (fun K hK=>?_) ?_
     ·go_simp
      refine hK _ _ ?_;clear hK K;refine wpAny_ready (rs:=[6,8]) Ac Ae ?_;refine AllReady.cons rfl (fun K hK=>?_) ?_
      ·refine step_lk rfl rfl rfl rfl (hlk _ Ak) ?_
       go_simp
       refine hK _ _ ?_;clear hK K;refine wpAny_ready (rs:=[8]) Ac Ae ?_;refine AllReady.cons rfl (fun K hK=>?_) ?_
       ·go_simp
        exact La
       exact AllReady.nil
      exact Oa
     refine AllReady.cons rfl (fun K hK=>?_) ?_
     ·go_simp
      exact Lu
     exact AllReady.nil
    refine AllReady.cons rfl (fun K hK=>?_) ?_
    ·go_simp
     refine hK _ _ ?_;clear hK K;refine wpAny_ready (rs:=[2,6,8]) Ac Ae ?_;refine AllReady.cons rfl (fun K hK=>?_) ?_
     ·go_simp
      refine hK _ _ ?_;clear hK K;refine wpAny_ready (rs:=[6,8]) Ac Ae ?_;refine AllReady.cons rfl (fun K hK=>?_) ?_
      ·refine step_lk rfl rfl rfl rfl (hlk _ Ak) ?_
       go_simp
       refine hK _ _ ?_;clear hK K;refine wpAny_ready (rs:=[8]) Ac Ae ?_;refine AllReady.cons rfl (fun K hK=>?_) ?_
       ·go_simp
        exact La
       exact AllReady.nil
      exact Oa
     refine AllReady.cons rfl (fun K hK=>?_) ?_
     ·refine step_lk rfl rfl rfl rfl (hlk _ Ak) ?_
      go_simp
      refine hK _ _ ?_;clear hK K;refine wpAny_ready (rs:=[2,8]) Ac Ae ?_;refine AllReady.cons rfl (fun K hK=>?_) ?_
      ·go_simp
       refine hK _ _ ?_;clear hK K;refine wpAny_ready (rs:=[8]) Ac Ae ?_;refine AllReady.cons rfl (fun K hK=>?_) ?_
       ·go_simp
        exact La
       exact AllReady.nil
      refine AllReady.cons rfl (fun K hK=>?_) ?_
      ·go_simp
       refine hK _ _ ?_;clear hK K;refine wpAny_ready (rs:=[2,9]) Ac Ae ?_;refine AllReady.cons rfl (fun K hK=>?_) ?_
       ·go_simp
        exact La
       refine AllReady.cons rfl (fun K hK=>?_) ?_
       ·go_simp
        exact KT
       exact AllReady.nil
      exact AllReady.nil
     refine AllReady.cons rfl (fun K hK=>?_) ?_
     ·go_simp
      exact KQ
     exact AllReady.nil
    refine AllReady.cons rfl (fun K hK=>?_) ?_
    ·go_simp
     refine hK _ _ ?_;clear hK K;refine wpAny_ready (rs:=[2,5,9]) Ac Ae ?_;refine AllReady.cons rfl (fun K hK=>?_) ?_
     ·go_simp
      exact Lu
     refine AllReady.cons rfl (fun K hK=>?_) ?_
     ·go_simp
      exact KQ
     refine AllReady.cons rfl (fun K hK=>?_) ?_
     ·go_simp
      refine hK _ _ ?_;clear hK K;refine wpAny_ready (rs:=[2,5]) Ac Ae ?_;refine AllReady.cons rfl (fun K hK=>?_) ?_
      ·go_simp
       refine hK _ _ ?_;clear hK K;refine wpAny_ready (rs:=[5]) Ac Ae ?_;refine AllReady.cons rfl (fun K hK=>?_) ?_
       ·exact KH
       exact AllReady.nil
      refine AllReady.cons rfl (fun K hK=>?_) ?_
      ·go_simp
       refine hK _ _ ?_;clear hK K;refine wpAny_ready (rs:=[2,6]) Ac Ae ?_;refine AllReady.cons rfl (fun K hK=>?_) ?_
       ·exact KH
       refine AllReady.cons rfl (fun K hK=>?_) ?_
       ·refine step_lk rfl rfl rfl rfl (hlk _ Ak) ?_
        go_simp
        exact KT
       exact AllReady.nil
      exact AllReady.nil
     exact AllReady.nil
    exact AllReady.nil
   ·refine⟨⟨k+1,Aa,rfl,?_,hnx.alloc Aa _,A8⟩,Aj⟩
    have e:grpD (f.take (k+1)).reverse=grpD (f.take k).reverse:=by
     rw[List.take_add_one,hx];simp only[Option.toList,List.reverse_append,List.reverse_cons,List.reverse_nil,List.nil_append,List.cons_append,grpD];rw[if_pos (by simpa using ‹(x.parent !=0)=false›)]
    rw[e];exact groups_kept hown (World.grownBy_alloc _ _ _) (Nat.le_succ _)
  ·have:k=f.length:=by omega
   subst this
   go_wp2
   go_ret
   rw[List.take_length]at hown;exact⟨rfl,hown,hnx⟩
end Go.Proofs.Led
