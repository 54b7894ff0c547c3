/-
  The genealogy's children: the map, as a map that stays as it is.
-/
import Derived.Test.YtdjgbagnajikeaaGreatDoorSGC1
import Derived.Test.YtdjgbagnajikeaaGreatDoorB16
import Derived.Maps.Views
set_option linter.unusedVariables false
set_option linter.unusedSimpArgs false
set_option maxRecDepth 100000
set_option maxHeartbeats 8000000
noncomputable section
namespace Go.Proofs.Led
open Go Go.Proofs Go.Ab Go.RowKit Go.Maps Go.MapKept Go.ChangeMaps Go.WideShapes
theorem chl_none(a:Option Addr)(cap:Nat)(w:World):
 Calls Tryz.prog 45 #[.slice a 0 cap] w fun e w'=>e= .returned (.map (some w.heap.size))/\w'.ownsGroups (H:=Unit) Tryz.prog 3 (w.heap.size+1) 3 .i64 w.heap.size 0 (grpD [])/\Below w.heap.size w w':=by
 have hmm:= @run_makeMap Tryz.prog
 go_enter Tryz.func45,Tryz.ntmps45
 go_wp2
 refine wp_loop_rounds 1 ?_;rw[rounds_succ]
 go_wp2
 go_ret
 exact⟨rfl,World.ownsGroups_made _ _ _ _ _,(Below.refl _ _).alloc (Nat.le_refl _) _⟩
def kidsL:List Node->Int->List Int
 | [],_=> []
 |x::l,p=>if x.parent=p then kidsL l p++[x.id]else kidsL l p
def kidE:List Node->List V
 | [] => []
 |x::l=>if x.parent=0 then kidE l else .tup [.lit (.int .i64 x.parent), .sl ((kidsL (x::l) x.parent).map I)] ::kidE l
theorem kidE_get(n:Int):∀l:List Node,jG (.int .i64 n) (kidE l)=if n=0\/kidsL l n=[]then none else some (.sl ((kidsL l n).map I))
 | [] =>by simp[kidE,kidsL,jG]
 |x::l=>by
  unfold kidE;by_cases h0:x.parent=0
  ·rw[if_pos h0,kidE_get n l]
   by_cases hn:n=0
   ·simp[hn]
   ·exact Js
  ·rw[if_neg h0]
   unfold jG;by_cases hp:x.parent=n
   ·rw[if_pos (by rw[hp]),if_neg,hp]
    rintro(h|h)
    ·exact h0 (hp.trans h)
    ·unfold kidsL at h
     rw[if_pos hp]at h;simp at h
   ·have e:kidsL (x::l) n=kidsL l n:=by conv=>lhs;unfold kidsL
                                        rw[if_neg hp]
    rw[if_neg (by simpa using hp),kidE_get n l,e]
theorem grpD_map:∀l:List Node,IsMap (grpD l)
 | [] =>⟨_,rfl⟩
 |x::l=>by
  unfold grpD;split
  ·exact grpD_map l
  ·obtain⟨es,h⟩:=grpD_map l
   rw[h];exact⟨_,rfl⟩
theorem grpD_get(n:Int):∀(l:List Node) (z:DataW Unit),(grpD l).atKey (.int .i64 n) z=if n=0\/kidsL l n=[]then z else .slice (ChangeShapes.lits .i64 (kidsL l n)) []
 | [],z=>by simp[grpD,kidsL,DataW.atKey]
 |x::l,z=>by
  unfold grpD;by_cases h0:x.parent=0
  ·rw[if_pos h0,grpD_get n l]
   by_cases hn:n=0
   ·simp[hn]
   ·exact Js
  ·rw[if_neg h0]
   by_cases hp:x.parent=n
   ·subst hp
    rw[atKey_put_same (grpD_map l) (by trivial:WideAt.IsKeyLit (.int .i64 x.parent)),if_neg,grpD_get x.parent l]
    ·have e:kidsL (x::l) x.parent=kidsL l x.parent++[x.id] :=by conv=>lhs;unfold kidsL
                                                                rw[if_pos rfl]
     rw[e];by_cases hk:kidsL l x.parent=[]
     ·rw[if_pos (.inr hk),hk]
      rfl
     ·rw[if_neg (by simp[h0,hk])]
      simp[itemsD,ChangeShapes.lits]
    ·rintro(h|h)
     ·exact h0 h
     ·unfold kidsL at h
      rw[if_pos rfl]at h;simp at h
   ·have e:kidsL (x::l) n=kidsL l n:=by conv=>lhs;unfold kidsL
                                        rw[if_neg hp]
    rw[atKey_put_other (by simpa using fun h=>hp h.symm),grpD_get n l,e]
theorem lits_inj{a b:List Int}(h:ChangeShapes.lits (H:=Unit) .i64 a=ChangeShapes.lits .i64 b):a=b:=
 (List.map_inj_right (fun x y h=>D8)).1 h
theorem kidE_pure:∀l:List Node,bM (kidE l)
 | [] =>by simp[kidE,bM,V.okL]
 |x::l=>by
  unfold kidE;split
  ·exact kidE_pure l
  ·refine⟨⟨by simp[V.ok],?_,trivial⟩,kidE_pure l⟩
   simp only[V.ok]
   exact aH.2 fun y hy=>by
    obtain⟨z,_,rfl⟩:=List.mem_map.1 hy;simp[I,V.ok]
theorem flatI:∀zs:List Int,(zs.map I).flatMap V.cells=zs.map I
 | [] =>rfl
 |z::r=>by
  rw[List.map_cons,List.flatMap_cons,flatI r];rfl
theorem rv_ints{w:World}{G:Gh}{base:Nat}{v:Value}{zs:List Int}(h:w.ownsInts base 3 .i64 v zs)(hO:∀b,base<=b->b<w.heap.size->G.O b= .fz):Rv w G v (.sl (zs.map I)):=by
 have hcl:∀g,v.ownBlock=some g->_:=fun g=>h.1.cells (g:=g);have hlt:=h.1.lt
 rcases h.1.2 with⟨rfl,h0⟩|⟨g,cap,cur,rfl,hb,hg,hn,hc,hs,ht⟩
 ·rw[List.length_eq_zero_iff.1 h0]
  exact .slN
 ·have e:(zs.map I).length=zs.length:=by simp
  have hf:=flatI zs
  have:=Rv.slS (w:=w) (G:=G) ⟨g,0,none⟩ cap (zs.map I) 1 (fun j=> .int .i64 (zs.getD j 0)) Aa hc (fun _=>hO g hb (hlt g rfl).2) (fun x hx=>by
   obtain⟨z,_,rfl⟩:=List.mem_map.1 hx
   rfl) (fun j y hy=>by
   rw[hf]at hy;obtain⟨z,hz,rfl⟩:∃z,zs[j]? =some z/\I z=y:=CJ;refine⟨?_,rfl⟩;have:=hcl g rfl j (.int .i64 z) (by simp[hz])
   rw[this];simp only[List.getD_eq_getElem?_getD,hz]
   rfl) (fun j y hy=>by
   rw[hf]at hy;obtain⟨z,hz,rfl⟩:∃z,zs[j]? =some z/\I z=y:=CJ;simp only[List.getD_eq_getElem?_getD,hz];exact .lit _ rfl)
  rw[e]at this;exact this
theorem rv_groups{w:World}{G:Gh}{base b n:Nat}{l:List Node}(h:w.ownsGroups (H:=Unit) Tryz.prog 3 base 3 .i64 b n (grpD l))(hl:∀x∈l,(Lit.int .i64 x.parent).wf=true)(hb0:G.O b= .fz)(hO:∀b,base<=b->b<w.heap.size->G.O b= .fz):
 Rv w G (.map (some b)) (V.mapV (.int .i64 0) (kidE l)):=by
 obtain⟨es,clock,hb,F,hs,hD,hbb,hlen,hap⟩:=h;have hk3:=Tryz.underlying3;have K:=int_keyed hk3
 have hkeys:∀e∈es.toList,∃m,e.key= .int .i64 m/\(Lit.int .i64 m).wf=true/\keyOf Tryz.prog 3 e.key=some (.int .i64 m)/\∃zs,w.ownsInts base 3 .i64 e.val zs/\(WideElems.rg Tryz.prog 3 (rowElem (H:=Unit) w base 3 .i64) e)=(.int .i64 m,rowDatum .i64 e.val zs):=fun e he=>by
  obtain⟨y,hy⟩:=F.reads e he;have h1:=WideElems.rd_key hy;obtain⟨z,hz,hd⟩:=WideElems.rd_val hy;obtain⟨zs,ho,rfl⟩:=rowElem_inv hz;have hg:=WideElems.rg_of hy
  have h1':=h1;simp only[keyOf,hk3]at h1;cases hkey:e.key<;>simp[hkey,mapKey,hk3]at h1;rename_i q m;obtain⟨⟨rfl,hw⟩,h2⟩:=h1;refine⟨m,rfl,hw,by rw[<-hkey,h1',<-h2],zs,ho,?_⟩
  rw[hg];obtain⟨y1,y2⟩:=y;simp only at h2 hd;rw[<-h2,<-hd]
 have hfind:∀m,(Instr.findNow (.int .i64) (.int .i64 m) es.toList 0=some none/\∀e∈es.toList,e.key≠ .int .i64 m)\/∃(j:Nat) (e:MapEntry),Instr.findNow (.int .i64) (.int .i64 m) es.toList 0=some (some (j,e.val))/\e∈es.toList/\e.key= .int .i64 m:=fun m=>by
  rcases findNow_spec (d:= .int .i64) (k:= .int .i64 m) rfl es.toList 0 (fun x hx=>by obtain⟨m',h,_⟩:=hkeys x hx;rw[h];rfl)with h|⟨j,e,h1,h2,h3⟩
  ·exact .inl h
  ·exact .inr ⟨0+j,e,h1,List.mem_of_getElem? h2,h3⟩
 have hwk:∀(l:List Node) m,(∀x∈l,(Lit.int .i64 x.parent).wf=true)->kidsL l m≠ []->(Lit.int .i64 m).wf=true:=fun l m=>by
  induction l with
  |nil=>intro _ h;exact absurd rfl h
  |cons x l ih=>
   intro hw h;unfold kidsL at h;split at h
   ·rename_i e
    exact e▸hw x (.head _)
   ·exact ih (fun x hx=>hw x (.tail _ hx)) h
 have hat:∀m,(Lit.int .i64 m).wf=true->((∀p∈es.toList.map (WideElems.rg Tryz.prog 3 (rowElem (H:=Unit) w base 3 .i64)),p.1≠ .int .i64 m)->∀z,(grpD l).atKey (.int .i64 m) z=z)/\(∀p∈es.toList.map (WideElems.rg Tryz.prog 3 (rowElem (H:=Unit) w base 3 .i64)),p.1= .int .i64 m->∀z,(grpD l).atKey (.int .i64 m) z=p.2):=fun m hm=>by
  rw[hD];exact atKey_sorted _ (fit_rising K F) (.int .i64 m) trivial
 have hgot:∀m,(∃(j:Nat) (e:MapEntry),Instr.findNow (.int .i64) (.int .i64 m) es.toList 0=some (some (j,e.val))/\m≠0/\kidsL l m≠ []/\w.ownsInts base 3 .i64 e.val (kidsL l m))\/(Instr.findNow (.int .i64) (.int .i64 m) es.toList 0=some none/\(m=0\/kidsL l m=[])):=fun m=>by
  rcases hfind m with⟨h1,h2⟩|⟨j,e,h1,h2,h3⟩
  ·refine .inr ⟨h1,?_⟩
   by_cases h0:m=0\/kidsL l m=[]
   ·exact h0
   ·have hm:=hwk l m hl (fun h=>h0 (.inr h))
    have:=(hat m hm).1 (fun p hp=>by
     obtain⟨e,he,rfl⟩:=List.mem_map.1 hp;obtain⟨m',e1,_,_,zs,_,e2⟩:=hkeys e he;rw[e2];intro e3;simp only[Lit.int.injEq,true_and]at e3;subst e3;exact h2 e he e1) .nil
    rw[grpD_get,if_neg h0]at this;cases this
  ·obtain⟨m',e1,hm,_,zs,ho,e2⟩:=hkeys e h2
   rw[h3]at e1;cases e1;have h4:=(hat m hm).2 _ (List.mem_map_of_mem h2) (by rw[e2])
   rw[e2]at h4;simp only[grpD_get]at h4
   have h5:¬(m=0\/kidsL l m=[]):=fun h=>by
    have a1:=h4 .nil;have a2:=h4 (.lit (.bool true))
    rw[if_pos h]at a1 a2;rw[<-a1]at a2;cases a2
   have h6:=h4 .nil;rw[if_neg h5]at h6;refine .inl ⟨j,e,h1,fun h=>h5 (.inl h),fun h=>h5 (.inr h),?_⟩;rcases ho.datum (H:=Unit)with⟨r1,_⟩|r1
   ·rw[r1]at h6;cases h6
   ·rw[r1]at h6
    simp only[DataW.slice.injEq,and_true]at h6;rw[lits_inj h6];exact ho
 refine Rv.mp b es clock 0 (.int .i64 0) (kidE l) (fun s=>match Instr.findNow (.int .i64) s es.toList 0 with|some (some (_,v))=>v|_=>undef) hb0 hb (fun e he=>by obtain⟨m,h,_⟩:=hkeys e he;rw[h];rfl) (fun s hs hn=>?_) (fun s x hs hx=>?_) (fun s x hs hx=>?_)
 ·cases s<;>simp only[litD,IsKey]at hs
  rename_i q m;subst hs;rcases hgot m with⟨j,e,h1,h2,h3,h4⟩|⟨h1,h2⟩
  ·rw[kidE_get,if_neg (by simp[h2,h3])]at hn
   cases hn
  ·exact h1
 ·cases s<;>simp only[litD,IsKey]at hs
  rename_i q m;subst hs;rcases hgot m with⟨j,e,h1,h2,h3,h4⟩|⟨h1,h2⟩
  ·refine⟨⟨j,by simp only[litD,h1]⟩,?_⟩
   simp only[h1];rcases h4.1.2 with⟨e1,_⟩|⟨_,_,_,e1,_⟩<;>rw[e1] <;>rfl
  ·rw[kidE_get,if_pos h2]at hx
   cases hx
 ·cases s<;>simp only[litD,IsKey]at hs
  rename_i q m;subst hs;rcases hgot m with⟨j,e,h1,h2,h3,h4⟩|⟨h1,h2⟩
  ·rw[kidE_get,if_neg (by simp[h2,h3])]at hx
   cases hx;simp only[h1];exact rv_ints h4 hO
  ·rw[kidE_get,if_pos h2]at hx
   cases hx
def stayG(w w':World)(G:Gh):Gh:={G with O:=fun b=>if w.heap.size<=b/\b<w'.heap.size then .fz else G.O b}
theorem flat_node:∀(f:List Node) (k:Nat) (x:Node),f[k]? =some x->∀(j:Nat) (y:V),(nodeC x)[j]? =some y->((f.map nodeV).flatMap V.cells)[k*9+j]? =some y
 | [],k,x,h,_,_,_=>Gg
 |z::f,0,x,h,j,y,hy=>by
  cases h;rw[List.map_cons,List.flatMap_cons,List.getElem?_append_left]
  ·rw[Nat.zero_mul,Nat.zero_add]
   exact hy
  ·have:=(List.getElem?_eq_some_iff.1 hy).1
   show 0*9+j< (nodeC z).length;omega
 |z::f,k+1,x,h,j,y,hy=>by
  rw[List.map_cons,List.flatMap_cons,List.getElem?_append_right]
  ·have e:(k+1)*9+j- (nodeV z).cells.length=k*9+j:=by
    show(k+1)*9+j-9=_;omega
   rw[e];exact flat_node f k x h j y hy
  ·show 9<=_
   omega
theorem children_spec(f:List Node)(hf:f.length<=1000000)(hw:∀x∈f,(Lit.int .i64 x.id).wf=true/\(Lit.int .i64 x.parent).wf=true):Sp 45 [.sl (f.map nodeV)] (V.mapV (.int .i64 0) (kidE f.reverse)):=by
 refine⟨Ac,fun w G cs h1 h2 h3 h4 h5=>?_⟩
 obtain⟨v0,rfl⟩:∃a,cs= #[a] :=by
  obtain⟨l⟩:=cs
  match l,h1 with
  | [a],_=>exact⟨a,rfl⟩
 have r0:Rv w G v0 (.sl (f.map nodeV)):=(h4 0 v0 _ rfl rfl).2
 have hcall:Calls Tryz.prog 45 #[v0] w fun e w'=>e= .returned (.map (some w.heap.size))/\w'.ownsGroups (H:=Unit) Tryz.prog 3 (w.heap.size+1) 3 .i64 w.heap.size f.length (grpD f.reverse)/\Below w.heap.size w w':=by
  rcases r0.bK8 with⟨rfl,h0⟩|⟨a,c,sz,cc,rfl,hc,hm,hfz,hz,hcell,hcv⟩
  ·have:f=[] :=by simpa using h0
   subst this;exact chl_none none 0 w
  ·rw[List.length_map]
   rw[List.length_map]at hfz;rcases Nat.eq_zero_or_pos f.length with h0|hpos
   ·have:f=[] :=List.length_eq_zero_iff.1 h0
    subst this;exact chl_none (some a) c w
   ·have hget:∀k x,f[k]? =some x->∀j v,(nodeA x)[j]? =some v->w.cell? (a.add (k*9+j))=some v:=fun k x hx j v hv=>by
     have e2:(nodeC x)[j]? =some (.lit v):=by
      show((nodeA x).toList.map V.lit)[j]? =_;rw[List.getElem?_map,Array.getElem?_toList,hv];rfl
     have e1:=flat_node f k x hx j _ e2;have e3:=(hcv _ _ e1).bH
     rw[<-e3];exact(hcell _ _ e1).1
    obtain⟨b,off,sp⟩:=a;have h0:=hget 0 f[0] (List.getElem?_eq_getElem hpos) 0 _ rfl
    have hsp:sp=none:=by
     cases sp with
     |none=>rfl
     |some q=>
      unfold World.cell? at h0;split at h0
      ·simp[Addr.add]at h0
      ·cases h0
    subst hsp
    exact chl_any f b off c w hf (block_lt_of_cell h0) (fun k x hx j v hv=>by
     have h1:=hget k x hx j v hv;by_cases hn:k*9+j=0
     ·rw[hn]at h1⊢
      exact h1
     ·simp only[Addr.add,if_neg hn]at h1
      exact h1) hw
 refine hcall.mono ?_;rintro e w' ⟨rfl,ho,hB⟩
 have hbs:w.heap.size<w'.heap.size:=by
  obtain⟨es,clock,hb,_⟩:=ho;exact(Array.getElem?_eq_some_iff.1 hb).1
 have hold:∀b,b<w.heap.size->(stayG w w' G).O b=G.O b:=fun b hb=>if_neg Aa;have hnew:∀b,w.heap.size<=b->b<w'.heap.size->(stayG w w' G).O b= .fz:=fun b h h'=>if_pos ⟨h,h'⟩
 refine⟨_,stayG w w' G,rfl,⟨?_,rv_groups ho (fun x hx=>(hw x (List.mem_reverse.1 hx)).2) (hnew _ (Nat.le_refl _) hbs) (fun b hb hb'=>hnew b Aa hb')⟩,fun b hb=>?_,fun b hb=>?_,fun b i=>?_,fun b hb=>?_,fun b hb _=>hB.block b hb,hB.size,hB.os,hB.tape,hB.output⟩
 ·simp only[V.mapV,V.ok,V.okL,and_true,true_and]
  exact kidE_pure _
 ·rw[hold b (h2 b Au)]
  exact hb
 ·rcases Nat.lt_or_ge b w'.heap.size with h|h
  ·exact h
  ·have:(stayG w w' G).O b=G.O b:=if_neg Aa
   rw[this]at hb;exact Nat.lt_of_lt_of_le (h2 b hb) hB.size
 ·rcases Nat.lt_or_ge b w.heap.size with h|h
  ·rw[hold b h]
   exact h3 b i
  ·rcases Nat.lt_or_ge b w'.heap.size with h'|h'
   ·rw[hnew b h h']
    simp
   ·have:(stayG w w' G).O b=G.O b:=if_neg Aa
    rw[this];exact h3 b i
 ·rcases Nat.lt_or_ge b w.heap.size with h|h
  ·rw[hold b h]at hb⊢
   exact LH
  ·exact .inr (.inl h)
end Go.Proofs.Led
namespace Go.Proofs.Led
open Go Go.Proofs Go.Ab
theorem mapg_i{es:List V}{s:Value}{z:V}{K:V->Prop}{o:Option V}(h:jG s es=o)(k:K (o.getD z)):eG6 es s z K:=⟨by rw[h];exact k⟩
abbrev WfN(f:List Node):Prop:=∀x∈f,(Lit.int .i64 x.id).wf=true/\(Lit.int .i64 x.parent).wf=true
theorem kidsN_spec(f:List Node)(n:Int)(hl:f.length<=1000000)(hz:SzN f)(h:¬RightF f):Sp 25 [.sl (f.map nodeV),I n] (.tup [.lit (.slice none 0 0),I 1]):=by
 refine zsp Tryz.func25 ?_;have h1:=nodeN_spec f n hl hz h;exact KO
theorem kidsM_spec(f:List Node)(n:Int)(hl:f.length<=1000000)(hz:SzN f)(h:RightF f)(hn:getN f n=none):Sp 25 [.sl (f.map nodeV),I n] (.tup [.lit (.slice none 0 0),I 8]):=by
 refine zsp Tryz.func25 ?_;have h1:=nodeM_spec f n hl hz h hn;exact KO
theorem kidsY_spec(f:List Node)(n:Int)(x:Node)(hl:f.length<=1000000)(hz:SzN f)(hw:WfN f)(h:RightF f)(hn:getN f n=some x)(h0:n≠0):Sp 25 [.sl (f.map nodeV),I n] (.tup [.sl ((kidsL f.reverse n).map I),I 0]):=by
 refine zsp Tryz.func25 ?_;have h1:=nodeY_spec f n x hl hz h hn;have h2:=children_spec f hl hw
 have h3:=kidE_get n f.reverse;clear hn;generalize kidE f.reverse=E at*;by_cases hk:kidsL f.reverse n=[]
 ·rw[if_pos (.inr hk)]at h3
  rw[hk];exact MG
 ·rw[if_neg (by simp[h0,hk])]at h3
  generalize kidsL f.reverse n=K at*;exact MG
theorem ch_pos{f:List Node}{x:Node}:1<=(chN f x).length:=by
 obtain⟨r,e⟩:∃r,chN f x=x::r:=IV;rw[e];simp
theorem pathN_spec(f:List Node)(n:Int)(hl:f.length<=1000000)(hz:SzN f)(h:¬RightF f):Sp 21 [.sl (f.map nodeV),I n] (.tup [.lit (.slice none 0 0),I 1]):=by
 refine zsp Tryz.func21 ?_;have h1:=nodeN_spec f n hl hz h;exact KO
theorem pathM_spec(f:List Node)(n:Int)(hl:f.length<=1000000)(hz:SzN f)(h:RightF f)(hn:getN f n=none):Sp 21 [.sl (f.map nodeV),I n] (.tup [.lit (.slice none 0 0),I 8]):=by
 refine zsp Tryz.func21 ?_;have h1:=nodeM_spec f n hl hz h hn;exact KO
def pthSt(C D:List Node):St:=match D with
 | [] =>mkSt [(8, .lit (.slice none 0 0)),(22, .sl (C.map nodeV)),(23,I C.length),(24,I 0)] [] []
 |x::r=>mkSt [(8, .arr 32 r.length),(22, .sl (C.map nodeV)),(23,I C.length),(24,I ((r.length:Int)+1))] [] [(32,⟨r.length, .own,3,((x::r).map Node.id).map I⟩)]
def pathL(f:List Node)(x:Node):List Int:=((chN f x).map Node.id).reverse
theorem pathY_spec(f:List Node)(n:Int)(x:Node)(hl:f.length<=1000000)(hz:SzN f)(h:RightF f)(hn:getN f n=some x):Sp 21 [.sl (f.map nodeV),I n] (.tup [.own 3 ((pathL f x).map I),I 0]):=by
 refine zsp Tryz.func21 ?_;have h1:=nodeY_spec f n x hl hz h hn;have h2:=climbL_spec f x hl h (getN_mem hn).1
 have hcl:=ch_le (f:=f) (x:=x);have hne:chN f x≠ [] :=fun e=>by have:=ch_pos (f:=f) (x:=x);rw[e]at this;simp at this
 unfold pathL;clear hn;generalize chN f x=C at*;have hC:(C.map nodeV).length=C.length:=Ae
 repeat' ((conv=>whnf);first|(exfalso;contradiction)|refine zS ?_|refine zm (fun x hx=>?_)|refine zT ?_ ?_<;>intro _|fail)
 refine aU (A:=List Node) (B:=List Node) (fun D R=>pthSt C D) (fun D R=>C=D++R) (fun D R=>R.length) [] C ?_ rfl (fun D R hp=>?_)
 ·refine Le.trans (fB (k:=22) rfl (.inl rfl)) ?_
  show Le T _ (mkSt [(8, .lit (.slice none 0 0)),(22, .sl (C.map nodeV)),(23,I C.length),(24,I 0)] [] []);rw[<-hC];exact zj
 cases R with
 |nil=>
  rw[List.append_nil]at hp;subst hp
  cases C with
  |nil=>exact absurd rfl hne
  |cons y r=>
   have hr:=rev_spec ((y::r).map Node.id) (by simp at hcl⊢;omega)
   have hyr:(y::r).length=r.length+1:=rfl;unfold pthSt
   repeat' ((conv=>whnf);first|(exfalso;omega)|(refine aQ2 (hr) rfl rfl ?_ rfl rfl ?_;focus ((repeat' (first|exact trivial|refine And.intro ?_ ?_|with_reducible rfl|exact(fun h=>Ag)|exact rfl));done))|refine zS ?_|refine zm (fun x hx=>?_)|refine zT ?_ ?_<;>intro _|fail)
   all_goals exact zE
 |cons z R=>
  have hlen:=aO hp;have hlC:C.length=D.length+1+R.length:=by rw[hp];simp;omega
  cases D with
  |nil=>
   unfold pthSt
   repeat' ((conv=>whnf);first|(exfalso;omega)|refine aF (l:=C) (A:=[]) (x:=z) (B:=R) hp Ae ?_|refine gX (of_decide_eq_true rfl) (dA rfl) (show 1<=1000000000 from Aa) ?_|refine zS ?_|refine zm (fun x hx=>?_)|refine zT ?_ ?_<;>intro _|fail)
   all_goals conv=>whnf
   refine⟨([z],R),?_,Gw,Ae⟩;show Le T _ (mkSt [(8, .arr 32 0),(22, .sl (C.map nodeV)),(23,I C.length),(24,I (((0:Nat):Int)+1))] [] [(32,⟨0, .own,3,[I z.id]⟩)]);exact zj
  |cons y D=>
   have hyD:(y::D).length=D.length+1:=rfl;have hX:(((y::D).map Node.id).map I).length=D.length+1:=Ae
   unfold pthSt
   repeat' ((conv=>whnf);first|(exfalso;omega)|refine iH rfl (.inl rfl) rfl (of_decide_eq_true rfl) (dA rfl) (show(((y::D).map Node.id).map I).length+1<=1000000000 from Aa) ?_|refine zS ?_|refine zm (fun x hx=>?_)|refine zT ?_ ?_<;>intro _|fail)
   all_goals conv=>whnf
   refine⟨(y::(D++[z]),R),?_,Af,Ae⟩;show Le T _ (mkSt [(8, .arr 32 (D++[z]).length),(22, .sl (C.map nodeV)),(23,I C.length),(24,I (((D++[z]).length:Nat)+1))] [] [(32,⟨(D++[z]).length, .own,3,((y::(D++[z])).map Node.id).map I⟩)]);rw[<-List.cons_append,List.map_append,List.map_append,List.length_append];exact zj
theorem mapget_i{es:List V}{s:Value}{z:V}{K:V->Prop}{v:V}(h:(jG s es).getD z=v)(k:K v):eG6 es s z K:=⟨by rw[h];exact k⟩
theorem kidsL_rev(f:List Node)(n:Int):kidsL f.reverse n=(kidsN f n).map Node.id:=by
 have h:∀l:List Node,kidsL l n=((kidsN l.reverse n).map Node.id):=fun l=>by
  induction l with
  |nil=>rfl
  |cons x l ih=>
   unfold kidsL;rw[List.reverse_cons];unfold kidsN at*;rw[List.filter_append,List.map_append,<-ih,List.filter_cons];by_cases hp:x.parent=n<;>simp[hp]
 rw[h,List.reverse_reverse]
abbrev g0N(x:Node):Int:=if x.kind≠3/\x.gone=false then x.size else 0
abbrev g1N(x:Node):Int:=if x.kind=3 then x.size else 0
abbrev g2N(x:Node):Int:=x.scrap
abbrev smB(f:List Node)(E:List V)(a b c:Int):List (List V):=[[I (W a),I (W b),I (W c)],[V.mapV (.int .i64 0) E],[.sl (f.map nodeV)],[.fn 46 [.box 100000 0, .box 100001 0, .box 100002 0, .box 100003 0]]]
def smSt(f:List Node)(E:List V)(K:List Int)(d a b c:Int):St:=mkSt [(1, .box 100000 0),(2, .box 100001 0),(3, .box 100002 0),(4, .box 100003 0),(39, .sl (K.map I)),(40,I K.length),(41,I d)] [(100000,[I (W a),I (W b),I (W c)]),(100001,[V.mapV (.int .i64 0) E]),(100002,[.sl (f.map nodeV)]),(100003,[.fn 46 [.box 100000 0, .box 100001 0, .box 100002 0, .box 100003 0]])] []
theorem sum1_step(f:List Node)(hl:f.length<=1000000)(h:RightF f)(hw:WfN f)(n:Node)(hn:n∈f)(v0 v1 v2:Node->Int)(ih:∀x∈kidsN f n.id,∀a b c:Int,SpB 46 [nodeV x, .box 100000 0, .box 100001 0, .box 100002 0, .box 100003 0] (smB f (kidE f.reverse) a b c) (.tup []) (smB f (kidE f.reverse) (a+v0 x) (b+v1 x) (c+v2 x)))(a b c:Int):
 SpB 46 [nodeV n, .box 100000 0, .box 100001 0, .box 100002 0, .box 100003 0] (smB f (kidE f.reverse) a b c) (.tup []) (smB f (kidE f.reverse) (a+(g0N n+((kidsN f n.id).map v0).sum)) (b+(g1N n+((kidsN f n.id).map v1).sum)) (c+(g2N n+((kidsN f n.id).map v2).sum))):=by
 refine b_of Tryz.func46 Ac Ac rfl rfl ?_;have hn0:n.id≠0:=by have:=(h.own n hn).1;omega
 have h3:=kidE_get n.id f.reverse;rw[<-Int.add_assoc,<-Int.add_assoc,<-Int.add_assoc];have hKl:(kidsN f n.id).length<=f.length:=List.length_filter_le _ _
 have hKm:∀x∈kidsN f n.id,x∈f:=fun x hx=>(mem_kids.1 hx).1;rw[kidsL_rev]at h3;generalize kidE f.reverse=E at*;generalize kidsN f n.id=K at*;have hll:(f.map nodeV).length=f.length:=Ae
 have hKK:((K.map Node.id).map I).length=K.length:=Ae
 have h4:(jG (.int .i64 n.id) E).getD (.lit (.slice none 0 0))= .lit (.slice none 0 0)/\K=[]\/(jG (.int .i64 n.id) E).getD (.lit (.slice none 0 0))= .sl ((K.map Node.id).map I):=by
  by_cases hk0:(K.map Node.id)=[]
  ·rw[if_pos (.inr hk0)]at h3
   exact .inl ⟨by rw[h3];rfl,by simpa using hk0⟩
  ·rw[if_neg (by simp only[hn0,hk0,or_self,not_false_iff])]at h3
   exact .inr (by rw[h3];rfl)
 clear h3;rcases h4 with⟨h4,hK0⟩|h4
 all_goals repeat' ((conv=>whnf);first|(exfalso;omega)|(exfalso;contradiction)|refine mapget_i h4 ?_|refine zS ?_|refine zm (fun x hx=>?_)|refine zT ?_ ?_<;>intro _|fail)
 all_goals (refine aU (A:=List Node) (B:=List Node) (fun D R=>smSt f E (K.map Node.id) D.length (a+g0N n+(D.map v0).sum) (b+g1N n+(D.map (v1)).sum) (c+g2N n+(D.map (v2)).sum)) (fun D R=>K=D++R) (fun D R=>R.length) [] K ?_ rfl (fun D R hp=>?_))
 all_goals first
  |(show Le T _ (mkSt [(1, .box 100000 0),(2, .box 100001 0),(3, .box 100002 0),(4, .box 100003 0),(39, .sl ((K.map Node.id).map I)),(40,I ((K.map Node.id).length:Nat)),(41,I 0)] [(100000,[I (W (a+g0N n+0)),I (W (b+g1N n+0)),I (W (c+g2N n+0))]),(100001,[V.mapV (.int .i64 0) E]),(100002,[.sl (f.map nodeV)]),(100003,[.fn 46 [.box 100000 0, .box 100001 0, .box 100002 0, .box 100003 0]])] [])
    try simp only[hK0,List.map_nil,List.length_nil]
    refine dV ?_ ?_ ?_ ?_;all_goals repeat' (first|exact trivial|refine And.intro ?_ ?_|with_reducible rfl|exact(fun h=>Ag)|exact Nat.le_refl _|omega|exact rfl)
    all_goals first
     |(simp only[g0N,g1N,g2N,Int.add_zero,bF8];congr 1;simp[*];done)
     |(simp only[List.length_map];done)
     |(rw[bF8,Int.add_zero];done))
  |skip
 all_goals (cases R with
  |nil=>
   rw[List.append_nil]at hp;subst hp;have hKm0:(K.map Node.id).length=K.length:=Ae;unfold smSt
   repeat' ((conv=>whnf);first|(exfalso;omega)|refine zS ?_|refine zm (fun x hx=>?_)|refine zT ?_ ?_<;>intro _|fail)
   all_goals conv=>whnf
   all_goals first|exact⟨_,rfl,zc1⟩|exact zc1
  |cons x R=>
   have hlen:=aO hp;have hxK:x∈K:=Af
   have hx1:=hKm x hxK;have hKm0:(K.map Node.id).length=K.length:=Ae
   have hpi:K.map Node.id=D.map Node.id++x.id::R.map Node.id:=Af;have hDl:(D.map Node.id).length=D.length:=Ae
   have hf:=findN_spec f x.id hl h.so;have hb:=getN_bs h.so (getN_some h.so hx1)
   have hbl:=(List.getElem?_eq_some_iff.1 hb).1;have hc:=ih x hxK (a+g0N n+(D.map v0).sum) (b+g1N n+(D.map (v1)).sum) (c+g2N n+(D.map (v2)).sum)
   have hsn:∀g:Node->Int,((D++[x]).map g).sum=(D.map g).sum+g x:=fun g=>Ae;unfold smSt;generalize bs Node.id f x.id=j at*;generalize (∃m∈f,m.id=x.id)=Q at*
   repeat' ((conv=>whnf);first|(exfalso;omega)|refine bW8 [] [(56,[100000,100001,100002,100003])] trivial AA ?_|refine zh (hc) [100000,100001,100002,100003] ?_|refine zS ?_|refine zm (fun x hx=>?_)|refine zT ?_ ?_<;>intro _|fail)
   all_goals conv=>whnf
   refine⟨(D++[x],R),?_,Af,Ae⟩;show Le T _ (smSt f E (K.map Node.id) ((D++[x]).length:Nat) (a+g0N n+((D++[x]).map v0).sum) (b+g1N n+((D++[x]).map v1).sum) (c+g2N n+((D++[x]).map v2).sum));rw[hsn,hsn,hsn,<-Int.add_assoc,<-Int.add_assoc,<-Int.add_assoc,List.length_append,List.length_singleton];unfold smSt;show Le T _ (mkSt [(1, .box 100000 0),(2, .box 100001 0),(3, .box 100002 0),(4, .box 100003 0),(39, .sl ((K.map Node.id).map I)),(40,I (K.map Node.id).length),(41,I ((D.length:Int)+1))] [(100000,[I (W (a+g0N n+(D.map v0).sum+v0 x)),I (W (b+g1N n+(D.map v1).sum+v1 x)),I (W (c+g2N n+(D.map v2).sum+v2 x))]),(100001,[V.mapV (.int .i64 0) E]),(100002,[.sl (f.map nodeV)]),(100003,[.fn 46 [.box 100000 0, .box 100001 0, .box 100002 0, .box 100003 0]])] []);exact zj
   done)
theorem sum1_spec(f:List Node)(hl:f.length<=1000000)(h:RightF f)(hw:WfN f):∀(k:Nat) (n:Node),n∈f->f.length+1<=k+(chN f n).length->∀a b c:Int,
 SpB 46 [nodeV n, .box 100000 0, .box 100001 0, .box 100002 0, .box 100003 0] (smB f (kidE f.reverse) a b c) (.tup []) (smB f (kidE f.reverse) (a+visitR f g0N k n) (b+visitR f g1N k n) (c+visitR f g2N k n)):=by
 intro k
 induction k with
 |zero=>
  intro n hn hk a b c
  have hK:kidsN f n.id=[] :=by
   cases hc:kidsN f n.id with
   |nil=>rfl
   |cons x l=>
    obtain⟨c1,c2⟩:=mem_kids.1 (show x∈kidsN f n.id by rw[hc];simp)
    have:=ch_le (f:=f) (x:=x);exact OB
  have:=sum1_step f hl h hw n hn (fun _=>0) (fun _=>0) (fun _=>0) (fun x hx=>by rw[hK]at hx;cases hx) a b c
  rw[hK]at this;simpa [visitR]using this
 |succ k ih=>
  intro n hn hk a b c
  exact sum1_step f hl h hw n hn (visitR f g0N k) (visitR f g1N k) (visitR f g2N k) (fun x hx=>by
   obtain⟨c1,c2⟩:=mem_kids.1 hx;refine ih x c1 ?_;rw[ch_child h c1 hn c2,List.length_cons]at*;omega) a b c
theorem sumN_spec(f:List Node)(n:Int)(hl:f.length<=1000000)(hz:SzN f)(h:¬RightF f):Sp 18 [.sl (f.map nodeV),I n] (.tup [.agg [I 0,I 0,I 0],I 1]):=by
 refine zsp Tryz.func18 ?_;have h1:=nodeN_spec f n hl hz h;exact KO
theorem sumM_spec(f:List Node)(n:Int)(hl:f.length<=1000000)(hz:SzN f)(h:RightF f)(hn:getN f n=none):Sp 18 [.sl (f.map nodeV),I n] (.tup [.agg [I 0,I 0,I 0],I 8]):=by
 refine zsp Tryz.func18 ?_;have h1:=nodeM_spec f n hl hz h hn;exact KO
def acC(f:List Node)(n:Int):List V:=[I (W (allU f g0N n)),I (W (allU f g1N n)),I (W (allU f g2N n))]
theorem sumY_spec(f:List Node)(n:Int)(x:Node)(hl:f.length<=1000000)(hz:SzN f)(hw:WfN f)(h:RightF f)(hn:getN f n=some x):Sp 18 [.sl (f.map nodeV),I n] (.tup [.agg (acC f n),I 0]):=by
 refine zsp Tryz.func18 ?_;have h1:=nodeY_spec f n x hl hz h hn;have h2:=children_spec f hl hw
 obtain⟨hx,hid⟩:=getN_mem hn
 have hlen:f.length+1<=f.length+(chN f x).length:=by
  have:=ch_pos (f:=f) (x:=x);omega
 have hc:=sum1_spec f hl h hw f.length x hx hlen 0 0 0;have hv:=fun g=>visit_all h g f.length hx hlen
 rw[hv,hv,hv,hid,Int.zero_add,Int.zero_add,Int.zero_add]at hc;unfold smB at hc;rw[show W 0=0 from w_in Aa]at hc;unfold acC;clear hn hv;generalize kidE f.reverse=E at*;generalize allU f g0N n=a at*;generalize allU f g1N n=b at*;generalize allU f g2N n=c at*
 repeat' ((conv=>whnf);first|(exfalso;contradiction)|refine zh (hc) [9,8,2,10] ?_|refine zS ?_|refine zm (fun x hx=>?_)|refine zT ?_ ?_<;>intro _|fail)
 all_goals exact zE
theorem cZ1(c:Int):fnVC T Tryz.prog Tryz.f146 [U c] (.lit (.bool (decB (jA c)))):=by
 repeat' ((conv=>whnf);first|refine zS ?_|refine zT ?_ ?_<;>intro _|fail)
 all_goals conv=>whnf
 all_goals refine aA ?_
 all_goals first
  |exact fE Fj
  |(refine le_dec ?_;unfold jA;omega)
  |exact aC Fj
theorem aO8(c:Int):Sp 146 [U c] (.lit (.bool (decB (jA c)))):=zsp Tryz.func146 (cZ1 c)
theorem dP4(c:Int):fnVC T Tryz.prog Tryz.f192 [U c] (.lit (.bool (decB (isDigit c)))):=by
 repeat' ((conv=>whnf);first|refine zS ?_|refine zT ?_ ?_<;>intro _|fail)
 all_goals conv=>whnf
 all_goals refine aA ?_
 all_goals first
  |(refine le_dec ?_;unfold isDigit;omega)
  |exact aC (by unfold isDigit;omega)
theorem cH4(c:Int):Sp 192 [U c] (.lit (.bool (decB (isDigit c)))):=zsp Tryz.func192 (dP4 c)
theorem dS9(s:ByteArray)(hs:s.size<=1000000000):fnVC T Tryz.prog Tryz.f147 [S s,I 0] (I (whS fG s 0)):=by
 repeat' ((conv=>whnf);first|refine zS ?_|fail)
 refine lD (A:=Nat) (fun k=>mkSt [(0,S s),(1,I 0),(5,I k)] [] []) (fun k=>k<=s.size/\whS fG s k=whS fG s 0) (fun k=>s.size-k) 0 ?_ ⟨Nat.zero_le _,rfl⟩ (fun k hk=>?_)
 ·exact zj
 ·obtain⟨hkz,hk⟩:=hk
  rcases Nat.lt_or_ge k s.size with hlt|hge
  ·obtain⟨f,hf⟩:∃f,s.size-k=f+1:=⟨s.size-k-1,Aa⟩
   have hks:whS fG s k=wh (fun j=>decB (fG (byteAt s j))) (f+1) k:=by unfold whS;rw[hf]
   have hix:((0:Int)+k).toNat=k:=Aa;have hget:byteAt s ((0:Int)+k).toNat=byteAt s k:=by rw[hix]
   have cont:fG (byteAt s k)->whS fG s (k+1)=whS fG s 0:=fun h=>by
    rw[<-hk,hks,dG8 (dH.2 h)];unfold whS;rw[show s.size- (k+1)=f from Aa]
   have stop:¬fG (byteAt s k)->(k:Int)=whS fG s 0:=fun h=>by
    rw[<-hk,hks,dE4 (dW.2 h)]
   repeat' ((conv=>whnf);first|(exfalso;omega)|refine zc (aO8 (byteAt s ((0:Int)+k).toNat)) ?_|refine zc (cH4 (byteAt s ((0:Int)+k).toNat)) ?_|refine zS ?_|refine zd (fun hd=>?_) (fun hd=>?_)|refine zl (fun hlt=>?_) (fun hlt=>?_)|refine ze (fun heq=>?_) (fun heq=>?_))
   all_goals rw[hget]at*
   ·conv=>whnf
    refine⟨k+1,?_,⟨Aa,cont (.inl hd)⟩,Aa⟩;exact zj
   ·conv=>whnf
    refine⟨k+1,?_,⟨Aa,cont (.inr (.inl hd))⟩,Aa⟩;exact zj
   ·conv=>whnf
    refine⟨k+1,?_,⟨Aa,cont (.inr (.inr heq))⟩,Aa⟩;exact zj
   ·conv=>whnf
    refine aG (stop ?_);rename_i h1;rintro(h|h|h)
    ·exact h1 h
    ·exact hd h
    ·exact heq h
  ·have hks:whS fG s k=k:=by unfold whS;rw[show s.size-k=0 from Aa];rfl
   exact MX
theorem cO5(s:ByteArray)(hs:s.size<=1000000000):Sp 147 [S s,I 0] (I (whS fG s 0)):=zsp Tryz.func147 (dS9 s hs)
theorem dX9(s:ByteArray):fnVC T Tryz.prog Tryz.f108 [S s] (.lit (.bool (decB (iM s)))):=by
 rcases Nat.lt_or_ge 16 s.size with hbig|hsm
 ·repeat' ((conv=>whnf);first|(exfalso;omega)|refine zS ?_|refine zk (fun hle=>?_) (fun hle=>?_))
  all_goals conv=>whnf
  all_goals refine aA ?_
  all_goals exact aC (fun h=>by have:=h.2.1;omega)
 ·repeat' ((conv=>whnf);first|refine cK2 ⟨Aa,Aa⟩ ?_|refine zc (aO8 (byteAt s 0)) ?_|refine zc (cO5 s Aa) ?_|(exfalso;omega)|refine zS ?_|refine zd (fun hd=>?_) (fun hd=>?_)|refine zk (fun hle=>?_) (fun hle=>?_))
  ·conv=>whnf
   refine aA (sK ?_);have hw:=cV4 (fun j=>decB (fG (byteAt s j))) s.size 0;have hs0:whS fG s 0=wh (fun j=>decB (fG (byteAt s j))) s.size 0:=rfl
   exact LG
  ·conv=>whnf
   exact aA (aC (fun h=>hd h.2.2.1))
  ·conv=>whnf
   exact aA (aC (fun h=>by have:=h.1;omega))
theorem bD8(s:ByteArray):Sp 108 [S s] (.lit (.bool (decB (iM s)))):=zsp Tryz.func108 (dX9 s)
end Go.Proofs.Led
