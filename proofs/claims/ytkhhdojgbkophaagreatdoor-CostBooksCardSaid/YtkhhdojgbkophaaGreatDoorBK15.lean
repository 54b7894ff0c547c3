/-
  A list of strings, sorted in place.
-/
import Derived.Test.YtkhhdojgbkophaaGreatDoorBK14
import Derived.Test.YtkhhdojgbkophaaGreatDoorBB10
set_option linter.unusedVariables false
set_option linter.unusedSimpArgs false
set_option maxRecDepth 100000
set_option maxHeartbeats 4000000
noncomputable section
namespace Go.Proofs.Cost58
open Go Go.Proofs Go.Ab Go.Proofs.Led
theorem eP4:Sp 100 [.lit (.int .u64 0)] (I 0):=by
 refine zsp Tryz.func100 ?_
 repeat' ((conv=>whnf);first
  |refine arith_half Aa ?_
  |refine arith_u Aa ?_
  |(exfalso;omega)
  |refine fK (m:=0) Ak ?_
  |refine fU ⟨Ak,of_decide_eq_true Ac⟩ ?_
  |refine fK (m:=0) (by unfold byteAt;decide+kernel) ?_
  |refine eY7 ?_
  |refine eZ1 Ac ?_
  |refine eH4 Aa ?_
  |refine fU (p:=(T.row _).eq=true) Ac ?_
  |refine fU Aa ?_
  |refine eZ2 ?_
  |refine eZ0 (fun hd=>?_) (fun hd=>?_)
  |refine br_lt (fun hlt=>?_) (fun hlt=>?_)
  |refine br_le (fun hle=>?_) (fun hle=>?_)
  |refine eV7 (fun heq=>?_) (fun heq=>?_)
  |refine eQ9 Aa (fun x hx=>?_)
  |refine eY0 rfl (fun h=>Ad) ?_
  |refine jU (fun hbb=>?_) (fun hbb=>?_)
  |refine ret_i ?_
  |refine fA7 ?_)
 all_goals conv=>whnf
 exact aG rfl
theorem eU1:Sp 58 [.lit (.int .u64 0)] (I 0):=by
 refine zsp Tryz.func58 ?_
 repeat' ((conv=>whnf);first
  |refine arith_half Aa ?_
  |refine arith_u Aa ?_
  |(refine aS5 (eP4) false ?_ rfl ?_;focus ((repeat' (first|exact trivial|refine And.intro ?_ ?_|with_reducible rfl|exact(fun h=>Ad)|exact rfl));done))
  |refine fK (m:=0) Ak ?_
  |refine eY7 ?_
  |refine eZ1 Ac ?_
  |refine eH4 Aa ?_
  |refine fU (p:=(T.row _).eq=true) Ac ?_
  |refine fU Aa ?_
  |refine eZ2 ?_
  |refine eZ0 (fun hd=>?_) (fun hd=>?_)
  |refine br_lt (fun hlt=>?_) (fun hlt=>?_)
  |refine br_le (fun hle=>?_) (fun hle=>?_)
  |refine eV7 (fun heq=>?_) (fun heq=>?_)
  |refine eQ9 Aa (fun x hx=>?_)
  |refine eY0 rfl (fun h=>Ad) ?_
  |refine jU (fun hbb=>?_) (fun hbb=>?_)
  |refine ret_i ?_
  |refine fA7 ?_)
 all_goals conv=>whnf
 exact aG rfl
theorem ins0_io:SpIO 90 [.own 9 [],I 0,I 0] (.tup []) 9 [] :=by
 refine eH7 rfl Tryz.func90 Ac Ac ?_
 repeat' ((conv=>whnf);first
  |refine arith_half Aa ?_
  |refine arith_u Aa ?_
  |refine eY7 ?_
  |refine eZ1 Ac ?_
  |refine eH4 Aa ?_
  |refine fU (p:=(T.row _).eq=true) Ac ?_
  |refine fU Aa ?_
  |refine eZ2 ?_
  |refine eZ0 (fun hd=>?_) (fun hd=>?_)
  |refine br_lt (fun hlt=>?_) (fun hlt=>?_)
  |refine br_le (fun hle=>?_) (fun hle=>?_)
  |refine eV7 (fun heq=>?_) (fun heq=>?_)
  |refine eQ9 Aa (fun x hx=>?_)
  |refine eY0 rfl (fun h=>Ad) ?_
  |refine jU (fun hbb=>?_) (fun hbb=>?_)
  |refine ret_i ?_
  |refine fA7 ?_)
 refine lD (A:=Unit) (fun _=>mkSt [(0, .arr 0 0),(1,I 0),(2,I 0),(6,I 1)] [] [(0,⟨0, .own,9,[]⟩)]) (fun _=>True) (fun _=>0) () ?_ trivial (fun _ _=>?_)
 ·exact Il
 ·repeat' ((conv=>whnf);first
   |refine arith_half Aa ?_
   |refine arith_u Aa ?_
   |(exfalso;omega)
   |refine eY7 ?_
   |refine eZ1 Ac ?_
   |refine eH4 Aa ?_
   |refine fU (p:=(T.row _).eq=true) Ac ?_
   |refine fU Aa ?_
   |refine eZ2 ?_
   |refine eZ0 (fun hd=>?_) (fun hd=>?_)
   |refine br_lt (fun hlt=>?_) (fun hlt=>?_)
   |refine br_le (fun hle=>?_) (fun hle=>?_)
   |refine eV7 (fun heq=>?_) (fun heq=>?_)
   |refine eQ9 Aa (fun x hx=>?_)
   |refine eY0 rfl (fun h=>Ad) ?_
   |refine jU (fun hbb=>?_) (fun hbb=>?_)
   |refine ret_i ?_
   |refine fA7 ?_)
  exact Nl
theorem pdq0_io:SpIO 57 [.own 9 [],I 0,I 0,I 0] (.tup []) 9 [] :=by
 refine eH7 rfl Tryz.func57 Ac Ac ?_
 repeat' ((conv=>whnf);first
  |refine arith_half Aa ?_
  |refine arith_u Aa ?_
  |refine eY7 ?_
  |refine eZ1 Ac ?_
  |refine eH4 Aa ?_
  |refine fU (p:=(T.row _).eq=true) Ac ?_
  |refine fU Aa ?_
  |refine eZ2 ?_
  |refine eZ0 (fun hd=>?_) (fun hd=>?_)
  |refine br_lt (fun hlt=>?_) (fun hlt=>?_)
  |refine br_le (fun hle=>?_) (fun hle=>?_)
  |refine eV7 (fun heq=>?_) (fun heq=>?_)
  |refine eQ9 Aa (fun x hx=>?_)
  |refine eY0 rfl (fun h=>Ad) ?_
  |refine jU (fun hbb=>?_) (fun hbb=>?_)
  |refine ret_i ?_
  |refine fA7 ?_)
 refine lD (A:=Unit) (fun _=>mkSt [(0, .arr 0 0),(1,I 0),(2,I 0),(3,I 0),(8, .lit (.bool true)),(9, .lit (.bool true))] [] [(0,⟨0, .own,9,[]⟩)]) (fun _=>True) (fun _=>0) () ?_ trivial (fun _ _=>?_)
 ·exact Il
 ·repeat' ((conv=>whnf);first
   |refine arith_half Aa ?_
   |refine arith_u Aa ?_
   |(exfalso;omega)
   |(refine aQ2 (ins0_io) rfl rfl ?_ rfl rfl ?_;focus ((repeat' (first|exact trivial|refine And.intro ?_ ?_|with_reducible rfl|exact(fun h=>Ad)|exact rfl));done))
   |refine eY7 ?_
   |refine eZ1 Ac ?_
   |refine eH4 Aa ?_
   |refine fU (p:=(T.row _).eq=true) Ac ?_
   |refine fU Aa ?_
   |refine eZ2 ?_
   |refine eZ0 (fun hd=>?_) (fun hd=>?_)
   |refine br_lt (fun hlt=>?_) (fun hlt=>?_)
   |refine br_le (fun hle=>?_) (fun hle=>?_)
   |refine eV7 (fun heq=>?_) (fun heq=>?_)
   |refine eQ9 Aa (fun x hx=>?_)
   |refine eY0 rfl (fun h=>Ad) ?_
   |refine jU (fun hbb=>?_) (fun hbb=>?_)
   |refine ret_i ?_
   |refine fA7 ?_)
  exact Nl
theorem sort0_io:SpIO 26 [.own 9 []] (.tup []) 9 [] :=by
 refine eH7 rfl Tryz.func26 Ac Ac ?_
 repeat' ((conv=>whnf);first
  |refine arith_half Aa ?_
  |refine arith_u Aa ?_
  |(refine aS5 (eU1) false ?_ rfl ?_;focus ((repeat' (first|exact trivial|refine And.intro ?_ ?_|with_reducible rfl|exact(fun h=>Ad)|exact rfl));done))
  |(refine aQ2 (pdq0_io) rfl rfl ?_ rfl rfl ?_;focus ((repeat' (first|exact trivial|refine And.intro ?_ ?_|with_reducible rfl|exact(fun h=>Ad)|exact rfl));done))
  |refine fK (m:=0) Ak ?_
  |refine eY7 ?_
  |refine eZ1 Ac ?_
  |refine eH4 Aa ?_
  |refine fU (p:=(T.row _).eq=true) Ac ?_
  |refine fU Aa ?_
  |refine eZ2 ?_
  |refine eZ0 (fun hd=>?_) (fun hd=>?_)
  |refine br_lt (fun hlt=>?_) (fun hlt=>?_)
  |refine br_le (fun hle=>?_) (fun hle=>?_)
  |refine eV7 (fun heq=>?_) (fun heq=>?_)
  |refine eQ9 Aa (fun x hx=>?_)
  |refine eY0 rfl (fun h=>Ad) ?_
  |refine jU (fun hbb=>?_) (fun hbb=>?_)
  |refine ret_i ?_
  |refine fA7 ?_)
 exact Nl
def sortL(l:List (List UInt8)):List (List UInt8):=l.mergeSort fun x y=>decide (x<=y)
def ofBs(l:List UInt8):ByteArray:=⟨l.toArray⟩
def sortB(xs:List ByteArray):List ByteArray:=(sortL (xs.map (·.data.toList))).map ofBs
theorem cells_take{w:World}{G:Gh}{cur:List Value}{xs:List ByteArray}(h:RvL w G (cur.take (xs.length*1)) ((xs.map S).flatMap V.cells))(j:Nat)(x:ByteArray)(hx:xs[j]? =some x):cur[j]? =some (.string x):=by
 rw[cells_strs]at h;have hj:j<xs.length:=(List.getElem?_eq_some_iff.1 hx).1;have hl:(cur.take (xs.length*1)).length=xs.length:=by rw[h.len];simp
 rw[Nat.mul_one]at h hl;have hj2:j< (cur.take xs.length).length:=Aa;have hv:(cur.take xs.length)[j]? =some (cur.take xs.length)[j] :=List.getElem?_eq_getElem hj2
 have:=(h.rel j _ (S x) hv (by rw[List.getElem?_map,hx];rfl)).bH
 rw[List.getElem?_take]at hv;rw[if_pos hj]at hv;rw[hv,this]
theorem sort_spec(xs:List ByteArray)(hlen:xs.length<=1000000):SpIO 26 [.own 9 (xs.map S)] (.tup []) 9 ((sortB xs).map S):=by
 by_cases hx:xs=[]
 ·subst hx
  have e:sortB [] =[] :=by simp[sortB,sortL]
  rw[e];exact sort0_io
 refine⟨Ac,fun w G cs h1 h2 h3 h4 h5=>?_⟩
 obtain⟨v0,rfl⟩:∃v0,cs= #[v0] :=by
  obtain⟨l⟩:=cs
  match l,h1 with
  | [a],_=>exact⟨a,rfl⟩
 obtain⟨t0,p0,own⟩:9<T.n 9/\bM (xs.map S)/\gJ T w G 0 v0 9 (xs.map S):=h4 0 v0 _ rfl rfl;have hsl:(sortL (xs.map (·.data.toList))).length=xs.length:=by unfold sortL;rw[List.length_mergeSort,List.length_map]
 have hs1:(T.row 9).size=1:=Ac;rcases own with⟨_,h0⟩|⟨b,cap,cur,rfl,hO,hh,hc1,hc2,hc3,hz,hrv⟩
 ·simp at h0;exact absurd h0 hx
 rw[hs1]at hc3 hrv;have hlx:(xs.map S).length=xs.length:=Ae;have hlx2:(xs.map (·.data.toList)).length=xs.length:=Ae
 rw[hlx]at hc1 hrv⊢;have hblk:b<w.heap.size:=h2 b He
 have hcur:∀j x,xs[j]? =some x->cur[j]? =some (Value.string x):=fun j x hj=>by
  have:=cells_take hrv j x hj;simpa using this
 have hcell:∀(k:Nat),w.cell? ⟨b,k,none⟩=cur[k]? :=fun k=>by simp[World.cell?,hh]
 have hH:Sort.Holds encStr w b 0 (xs.map (·.data.toList)).toArray:=by
  intro j hj;have hj':j<xs.length:=FV;rw[Nat.zero_add];refine⟨?_,by simp[World.frozen?,hh]⟩
  rw[hcell,hcur j xs[j] (List.getElem?_eq_getElem hj')];have e:(xs.map (·.data.toList)).toArray[j]! =xs[j].data.toList:=by simp[hj']
  rw[e]
 have hcalls:=Any.slices_Sort_string Tryz.lays190 b 0 cap (xs.map (·.data.toList)) w hH hblk (by rw[hlx2];omega)
 rw[hlx2]at hcalls;refine Calls.mono hcalls ?_;rintro e w' ⟨rfl,n,os,rfl⟩;have hsz:(Sort.putRow encStr (Sort.ahead w n) b 0 (sortL (xs.map (·.data.toList))).toArray).heap.size=w.heap.size:=by simp[Sort.putRow,Sort.mapBlock,Sort.ahead]
 have hne:∀b',b'<w.heap.size->b'≠b->(Sort.grow (Sort.putRow encStr (Sort.ahead w n) b 0 (sortL (xs.map (·.data.toList))).toArray) os).heap[b']? =w.heap[b']? :=by
  intro b' hb hbb;simp only[Sort.grow];rw[Array.getElem?_append_left (by rw[hsz];exact hb)]
  simp only[Sort.putRow,Sort.mapBlock,Sort.ahead];rw[Array.getElem?_modify,if_neg (Ne.symm hbb)]
 have hbb:(Sort.grow (Sort.putRow encStr (Sort.ahead w n) b 0 (sortL (xs.map (·.data.toList))).toArray) os).heap[b]? =some (.cells (Sort.putCells encStr 0 (sortL (xs.map (·.data.toList))).toArray cur) 9 (0,0)):=by
  simp only[Sort.grow];rw[Array.getElem?_append_left (by rw[hsz];exact hblk)]
  simp only[Sort.putRow,Sort.mapBlock,Sort.ahead];rw[Array.getElem?_modify,if_pos rfl,hh];rfl
 have hcs:(Sort.putCells encStr 0 (sortL (xs.map (·.data.toList))).toArray cur).size=cap*1:=by simp[Sort.putCells,hc3]
 have hget:∀(j:Nat) l,(sortL (xs.map (·.data.toList)))[j]? =some l->(Sort.putCells encStr 0 (sortL (xs.map (·.data.toList))).toArray cur)[j]? =some (Value.string (ofBs l)):=by
  intro j l hj;have hjl:j< (sortL (xs.map (·.data.toList))).length:=(List.getElem?_eq_some_iff.1 hj).1;have hjc:j<cur.size:=by rw[hc3];omega
  simp only[Sort.putCells,Array.getElem?_mapIdx];rw[Array.getElem?_eq_getElem hjc,Option.map_some,if_pos ⟨Nat.zero_le _,Ai⟩]
  have e:(sortL (xs.map (·.data.toList))).toArray[j-0]! =l:=by
   rw[Nat.sub_zero,getElem!_pos _ j (by simpa using hjl)]
   have:=(List.getElem?_eq_some_iff.1 hj).2;simpa using this
  rw[e];rfl
 have hpure:bM ((sortB xs).map S):=aH.2 fun y hy=>by
  obtain⟨x,_,rfl⟩:=List.mem_map.1 hy;simp only[S,V.ok]
 refine⟨.tuple #[],G,rfl,⟨⟨#[],rfl,rfl,fun j u y hu=>by simp at hu⟩,hpure,0,?_⟩,fun _ h=>h,fun b' hb'=>Nat.lt_of_lt_of_le (h2 b' hb') ?_,h3,fun b' hb'=>?_,fun b' hb' hn'=>?_,?_,rfl,rfl,rfl⟩
 ·show gJ T _ G 0 (.slice (some ⟨b,0,none⟩) xs.length cap) 9 ((sortB xs).map S)
  have hl3:((sortB xs).map S).length=xs.length:=by simp[sortB,hsl]
  refine .inr ⟨b,cap,_,by rw[hl3],hO,hbb,by rw[hl3];exact hc1,hc2,by rw[hs1];exact hcs,fun y hy=>?_,?_⟩
  ·obtain⟨x,_,rfl⟩:=List.mem_map.1 hy
   rw[hs1];rfl
  ·rw[hl3,hs1,cells_strs]
   constructor
   ·have e1:(Sort.putCells encStr 0 (sortL (xs.map (·.data.toList))).toArray cur).toList.length=cap*1:=by rw[Array.length_toList];exact hcs
    rw[List.length_take,e1,hl3];omega
   ·intro v hv
    obtain⟨j,hj⟩:=List.getElem?_of_mem hv
    have hjl:j<xs.length:=by
     have:=(List.getElem?_eq_some_iff.1 hj).1;rw[List.length_take]at this;omega
    rw[List.getElem?_take,if_pos Aa,Array.getElem?_toList]at hj;rw[hget j _ (List.getElem?_eq_getElem HY)]at hj;cases hj;rfl
   ·intro j v y hv hy
    have hjl:j<xs.length:=by
     have:=(List.getElem?_eq_some_iff.1 hv).1;rw[List.length_take]at this;omega
    rw[List.getElem?_take,if_pos Aa,Array.getElem?_toList,hget j _ (List.getElem?_eq_getElem HY)]at hv;cases hv
    have:y=S (ofBs (sortL (xs.map (·.data.toList)))[j]):=by
     simp only[sortB,List.map_map,List.getElem?_map]at hy;rw[List.getElem?_eq_getElem HY]at hy;simpa using hy.symm
    rw[this];exact .lit _ rfl
 ·simp[Sort.grow,Sort.putRow,Sort.mapBlock,Sort.ahead]
 ·cases hO':G.O b' with
  |ext=>exact absurd hO' hb'
  |fz=>exact .inl ⟨rfl,rfl⟩
  |bx i=>exact absurd hO' (h3 b' i)
  |ar j=>exact .inr (.inr ⟨j,rfl⟩)
 ·exact hne b' hb' (fun e=>hn' 0 (by rw[e];exact hO))
 ·simp[Sort.grow,Sort.putRow,Sort.mapBlock,Sort.ahead]
abbrev W64(n:Int):Int:=IntKind.i64.wrap n
theorem w64_range(n:Int): -9223372036854775808<=W64 n/\W64 n<=9223372036854775807:=by
 exact Ph
def findP(s:ByteArray):List (ByteArray×Int)->Int
 | [] =>0
 |q::r=>if q.1=s then q.2 else findP s r
def putsV(l:List (ByteArray×Int)):List V:=l.map fun q=> .tup [S q.1,I q.2]
theorem assoc_find(s:ByteArray):∀l:List (ByteArray×Int),(jG (.string s) (putsV l)).getD (.lit (.int .i64 0))=I (findP s l)
 | [] =>rfl
 |q::r=>by
  show(@ite _ (Value.string q.1=Value.string s) (Classical.propDecidable _) (some (I q.2)) (jG (.string s) (putsV r))).getD _=I (if q.1=s then q.2 else findP s r)
  by_cases h:q.1=s
  ·rw[if_pos h,if_pos (by rw[h])];rfl
  ·rw[if_neg h,if_neg (fun e=>h (Value.string.inj e))];exact assoc_find s r
def shipped(o:ByteArray)(p:Pc):Prop:=p.status=3/\p.order=o
structure Iv where
 names:List ByteArray
 c:List (ByteArray×Int)
 t:List (ByteArray×Int)
 sum:Int
open Classical in
def stepI(r:Rt)(o:ByteArray)(x:Iv)(p:Pc):Iv:=
 if shipped o p then⟨if findP p.part x.c=0 then x.names++[p.part]else x.names,(p.part,W64 (findP p.part x.c+1))::x.c,(p.part,W64 (findP p.part x.t+valR r p.size p.bar))::x.t,W64 (x.sum+valR r p.size p.bar)⟩else x
def runI(r:Rt)(o:ByteArray)(D:List Pc):Iv:=D.foldl (stepI r o) ⟨[],[],[],0⟩
theorem runI_snoc(r:Rt)(o:ByteArray)(D:List Pc)(p:Pc):runI r o (D++[p])=stepI r o (runI r o D) p:=by simp[runI]
def xB:ByteArray:={data:= #[32,120,32]}
def csB:ByteArray:={data:= #[58,32]}
def iline(x:Iv)(n:ByteArray):ByteArray:=n++xB++itoaB (findP n x.c)++csB++itoaB (findP n x.t)
def linesI(r:Rt)(o:ByteArray)(D:List Pc):List ByteArray:=(sortB (runI r o D).names).map (iline (runI r o D))
theorem find_range{l:List (ByteArray×Int)}(h:∀q∈l,-9223372036854775808<=q.2/\q.2<=9223372036854775807)(s:ByteArray): -9223372036854775808<=findP s l/\findP s l<=9223372036854775807:=by
 induction l with
 |nil=>simp[findP]
 |cons q r ih=>
  unfold findP;split
  ·exact h q Ae
  ·exact ih (fun q hq=>h q (by simp[hq]))
def rangeI(x:Iv):Prop:=(∀q∈x.c,-9223372036854775808<=q.2/\q.2<=9223372036854775807)/\(∀q∈x.t,-9223372036854775808<=q.2/\q.2<=9223372036854775807)
theorem run_range(r:Rt)(o:ByteArray)(D:List Pc):rangeI (runI r o D):=by
 suffices h:∀(D:List Pc) (x:Iv),rangeI x->rangeI (D.foldl (stepI r o) x)from h D _ ⟨fun q hq=>by simp at hq,fun q hq=>by simp at hq⟩
 intro D
 induction D with
 |nil=>intro x h;exact h
 |cons p D ih=>
  intro x h;rw[List.foldl_cons];refine ih _ ?_;unfold stepI;split
  ·refine⟨fun q hq=>?_,fun q hq=>?_⟩
   ·rcases List.mem_cons.1 hq with rfl|hq
    ·exact w64_range _
    ·exact h.1 q hq
   ·rcases List.mem_cons.1 hq with rfl|hq
    ·exact w64_range _
    ·exact h.2 q hq
  ·exact h
structure NamesOk(D:List Pc)(x:Iv):Prop where
 len:x.names.length<=D.length
 clen:∀s,0<=findP s x.c/\findP s x.c<=D.length
 mem:∀s,s∈x.names↔findP s x.c≠0
 nodup:x.names.Nodup
 part:∀s∈x.names,∃p∈D,p.part=s
theorem names_ok(r:Rt)(o:ByteArray)(D:List Pc)(hD:D.length<=1000000):NamesOk D (runI r o D):=by
 suffices h:∀(R D:List Pc) (x:Iv),(D++R).length<=1000000->NamesOk D x->NamesOk (D++R) (R.foldl (stepI r o) x)from by
  have:=h D [] ⟨[],[],[],0⟩ hD ⟨Ae,fun s=>by simp[findP],fun s=>by simp[findP],Ae,fun s hs=>by simp at hs⟩
  simpa [runI]using this
 intro R
 induction R with
 |nil=>intro D x _ h;simpa using h
 |cons p R ih=>
  intro D x hl h;rw[List.foldl_cons,show D++p::R=(D++[p])++R from Ae];refine ih (D++[p]) _ (by rw[List.append_assoc];exact hl) ?_
  obtain⟨h1,h2,h3,h4,h5⟩:=h;have hl2:D.length+1<=1000000:=by simp at hl;omega
  have hp:=h2 p.part;have hw:W64 (findP p.part x.c+1)=findP p.part x.c+1:=IntWalk.i64_in _ Aa
  unfold stepI;split
  ·rw[hw]
   constructor
   ·show(if findP p.part x.c=0 then x.names++[p.part]else x.names).length<=_
    split<;>simp<;>omega
   ·intro s
    show 0<=(if p.part=s then findP p.part x.c+1 else findP s x.c)/\(if p.part=s then findP p.part x.c+1 else findP s x.c)<=_
    have:=h2 s;rw[List.length_append,List.length_singleton];split<;>omega
   ·intro s
    show s∈(if findP p.part x.c=0 then x.names++[p.part]else x.names)↔(if p.part=s then findP p.part x.c+1 else findP s x.c)≠0
    by_cases e:p.part=s
    ·subst e
     rw[if_pos rfl];constructor
     ·intro _;omega
     ·intro _
      split
      ·simp
      ·rename_i hne;exact(h3 _).2 hne
    ·rw[if_neg e]
     split
     ·rw[List.mem_append,List.mem_singleton,h3 s]
      exact⟨fun q=>q.resolve_right (fun q=>e q.symm),fun q=> .inl q⟩
     ·exact h3 s
   ·show(if findP p.part x.c=0 then x.names++[p.part]else x.names).Nodup
    split
    ·rename_i h0
     refine List.nodup_append.2 ⟨h4,Ae,fun a ha b hb=>?_⟩;rw[List.mem_singleton.1 hb];rintro rfl;exact(h3 _).1 ha h0
    ·exact h4
   ·intro s hs
    have hs':s∈(if findP p.part x.c=0 then x.names++[p.part]else x.names):=hs
    split at hs'
    ·rcases List.mem_append.1 hs' with q|q
     ·obtain⟨p',q1,q2⟩:=h5 s q
      exact⟨p',by simp[q1],q2⟩
     ·exact⟨p,Ae,(List.mem_singleton.1 q).symm⟩
    ·obtain⟨p',q1,q2⟩:=h5 s hs'
     exact⟨p',by simp[q1],q2⟩
  ·exact⟨Ai,fun s=>by have:=h2 s;simp;omega,h3,h4,fun s hs=>by obtain⟨p',q1,q2⟩:=h5 s hs;exact⟨p',by simp[q1],q2⟩⟩
theorem sortL_perm(l:List (List UInt8)):(sortL l).Perm l:=List.mergeSort_perm _ _
theorem sortB_perm(l:List ByteArray):(sortB l).Perm l:=by
 have h:=(sortL_perm (l.map (·.data.toList))).map ofBs;rw[List.map_map]at h
 have e:l.map (ofBs∘fun x=>x.data.toList)=l:=by
  rw[List.map_congr_left (g:=id)]
  ·simp
  ·intro x _;rfl
 rw[e]at h;exact h
theorem need_cat2{a b:ByteArray}{K:Prop}(ha:a.size<=4000000000000000999)(hb:b.size<=10000)(hk:K):need (a.size+b.size<=9223372036854775807) K:=fU Aa hk
theorem invoice_vc(r:Rt)(s:Ls)(o:ByteArray)(hr:rtOk r)(ho:iM o)(hs:s.pieces.length<=1000000)(hn:∀p∈s.pieces,p.part.size<=4000000000000000000):
 fnVC T Tryz.prog Tryz.f10 [rtV r,lsV s,S o] (.tup [.sl ((linesI r o s.pieces).map S),I (runI r o s.pieces).sum,I 0]):=by
 obtain⟨sk,pc,us,r0,r1,s0,s1⟩:=s;have hs2:=hs;simp only at hs2 hn⊢;have h2:(pc.map pcV).length=pc.length:=Ae
 repeat' ((conv=>whnf);first
  |refine arith_half Aa ?_
  |refine arith_u Aa ?_
  |(refine aS5 (valid_spec r) false ?_ rfl ?_;focus ((repeat' (first|exact trivial|refine And.intro ?_ ?_|with_reducible rfl|exact(fun h=>Ad)|exact rfl));done))
  |(refine aS5 (aG6 o) false ?_ rfl ?_;focus ((repeat' (first|exact trivial|refine And.intro ?_ ?_|with_reducible rfl|exact(fun h=>Ad)|exact rfl));done))
  |(exfalso;contradiction)
  |refine eY7 ?_
  |refine eZ1 Ac ?_
  |refine eH4 Aa ?_
  |refine fU (p:=(T.row _).eq=true) Ac ?_
  |refine fU Aa ?_
  |refine eZ2 ?_
  |refine eZ0 (fun hd=>?_) (fun hd=>?_)
  |refine br_lt (fun hlt=>?_) (fun hlt=>?_)
  |refine br_le (fun hle=>?_) (fun hle=>?_)
  |refine eV7 (fun heq=>?_) (fun heq=>?_)
  |refine eQ9 Aa (fun x hx=>?_)
  |refine eY0 rfl (fun h=>Ad) ?_
  |refine jU (fun hbb=>?_) (fun hbb=>?_)
  |refine ret_i ?_
  |refine fA7 ?_)
 refine aU (A:=List Pc) (B:=List Pc) (fun D R=>mkSt [(2,S o),(3, .box 3 0),(6, .lit (.slice none 0 0)),(7,I (runI r o D).sum),(8,I 0),(9, .arr 25 0),(10, .arr 26 0),(11, .arr 52 (runI r o D).names.length),(28, .sl (pc.map pcV)),(29,I (pc.map pcV).length),(30,I D.length)]
  [(3,(rtV r).cells)] [(25,⟨0, .dead,95, .bot::putsV (runI r o D).c⟩),(26,⟨0, .dead,95, .bot::putsV (runI r o D).t⟩),(52,⟨(runI r o D).names.length, .own,9,(runI r o D).names.map S⟩)])
  (fun D R=>pc=D++R) (fun D R=>R.length) [] pc ?_ rfl (fun D R hp=>?_)
 ·exact Il
 have hlen:pc.length=D.length+R.length:=by rw[show pc=D++R from hp];simp
 have hok:=names_ok r o D Aa
 cases R with
 |cons p R=>
  rw[List.length_cons]at hlen;have hst:=runI_snoc r o D p;generalize runI r o D=x at*;have hxl:=hok.len
  repeat' ((conv=>whnf);first
   |refine arith_half Aa ?_
   |refine arith_u Aa ?_
   |(exfalso;omega)
   |refine aF (l:=pc) (A:=D) (x:=p) (B:=R) hp Aa ?_
   |refine jI (fun heqS=>?_) (fun heqS=>?_)
   |(refine aS5 (value_spec r p.size p.bar) false ?_ rfl ?_;focus ((repeat' (first|exact trivial|refine And.intro ?_ ?_|with_reducible rfl|exact(fun h=>Ad)|exact rfl));done))
   |refine mapget_i (assoc_find _ _) ?_
   |refine iH rfl (.inl rfl) rfl (of_decide_eq_true rfl) (dA rfl) (by show(List.map S x.names).length+1<=_;rw[List.length_map];omega) ?_
   |refine fU rfl ?_
   |refine eH4 Aa ?_
   |refine bW7 ?_
   |refine eY7 ?_
   |refine eZ1 Ac ?_
   |refine eH4 Aa ?_
   |refine fU (p:=(T.row _).eq=true) Ac ?_
   |refine fU Aa ?_
   |refine eZ2 ?_
   |refine eZ0 (fun hd=>?_) (fun hd=>?_)
   |refine br_lt (fun hlt=>?_) (fun hlt=>?_)
   |refine br_le (fun hle=>?_) (fun hle=>?_)
   |refine eV7 (fun heq=>?_) (fun heq=>?_)
   |refine eQ9 Aa (fun x hx=>?_)
   |refine eY0 rfl (fun h=>Ad) ?_
   |refine jU (fun hbb=>?_) (fun hbb=>?_)
   |refine ret_i ?_
   |refine fA7 ?_)
  all_goals conv=>whnf
  all_goals refine⟨(D++[p],R),?_,by rw[show pc=D++p::R from hp];simp,Ae⟩
  all_goals simp only[hst]
  ·rw[show stepI r o x p=⟨x.names++[p.part],(p.part,W64 (findP p.part x.c+1))::x.c,(p.part,W64 (findP p.part x.t+valR r p.size p.bar))::x.t,W64 (x.sum+valR r p.size p.bar)⟩ by unfold stepI;rw[if_pos ⟨by assumption,by assumption⟩,if_pos (by assumption)],show W64 (findP p.part x.c+1)=findP p.part x.c+1 from IntWalk.i64_in _ Aa]
   simp only[List.length_append,List.map_append];exact MO
  ·rw[show stepI r o x p=⟨x.names,(p.part,W64 (findP p.part x.c+1))::x.c,(p.part,W64 (findP p.part x.t+valR r p.size p.bar))::x.t,W64 (x.sum+valR r p.size p.bar)⟩ by unfold stepI;rw[if_pos ⟨by assumption,by assumption⟩,if_neg (by assumption)]]
   simp only[List.length_append];exact MO
  ·rw[show stepI r o x p=x by unfold stepI;rw[if_neg (fun h=>by have:=h.2;contradiction)]]
   simp only[List.length_append];exact MO
  ·rw[show stepI r o x p=x by unfold stepI;rw[if_neg (fun h=>by have:=h.1;contradiction)]]
   simp only[List.length_append];exact MO
 |nil=>
  have e:pc=D:=by rw[show pc=D++[]from hp];simp
  subst e;have hrg:=run_range r o pc;have hxl:=hok.len
  have hperm:=sortB_perm (runI r o pc).names;have hsl:=hperm.length_eq
  generalize hx:runI r o pc=x at*
  repeat' ((conv=>whnf);first
   |refine arith_half Aa ?_
   |refine arith_u Aa ?_
   |(exfalso;omega)
   |(refine aQ2 (sort_spec x.names Aa) rfl rfl ?_ rfl rfl ?_;focus ((repeat' (first|exact trivial|refine And.intro ?_ ?_|with_reducible rfl|exact(fun h=>Ad)|exact rfl));done))
   |refine eY7 ?_
   |refine eZ1 Ac ?_
   |refine eH4 Aa ?_
   |refine fU (p:=(T.row _).eq=true) Ac ?_
   |refine fU Aa ?_
   |refine eZ2 ?_
   |refine eZ0 (fun hd=>?_) (fun hd=>?_)
   |refine br_lt (fun hlt=>?_) (fun hlt=>?_)
   |refine br_le (fun hle=>?_) (fun hle=>?_)
   |refine eV7 (fun heq=>?_) (fun heq=>?_)
   |refine eQ9 Aa (fun x hx=>?_)
   |refine eY0 rfl (fun h=>Ad) ?_
   |refine jU (fun hbb=>?_) (fun hbb=>?_)
   |refine ret_i ?_
   |refine fA7 ?_)
  have hsn:∀n∈sortB x.names,n.size<=4000000000000000000:=fun n h=>by
   obtain⟨p,q1,q2⟩:=hok.part n (hperm.mem_iff.1 h);rw[<-q2];exact hn p q1
  have hL:linesI r o pc=(sortB x.names).map (iline x):=by unfold linesI;rw[hx]
  rw[hL];generalize sortB x.names=ns at*;have hns:(ns.map S).length=ns.length:=Ae
  refine aU (A:=List ByteArray) (B:=List ByteArray) (fun D2 R2=>mkSt [(6, .arr 97 D2.length),(7,I x.sum),(8,I 0),(9, .arr 25 0),(10, .arr 26 0),(76, .arr 52 x.names.length),(77,I (ns.map S).length),(78,I D2.length)]
   [] [(25,⟨0, .dead,95, .bot::putsV x.c⟩),(26,⟨0, .dead,95, .bot::putsV x.t⟩),(52,⟨x.names.length, .own,9,ns.map S⟩),(97,⟨D2.length, .own,9,(D2.map (iline x)).map S⟩)])
   (fun D2 R2=>ns=D2++R2) (fun D2 R2=>R2.length) [] ns ?_ rfl (fun D2 R2 hp2=>?_)
  ·exact Il
  have hlen2:ns.length=D2.length+R2.length:=by rw[show ns=D2++R2 from hp2];simp
  cases R2 with
  |nil=>
   have e:ns=D2:=by rw[show ns=D2++[]from hp2];simp
   subst e
   repeat' ((conv=>whnf);first
    |refine arith_half Aa ?_
    |refine arith_u Aa ?_
    |(exfalso;omega)
    |refine eY7 ?_
    |refine eZ1 Ac ?_
    |refine eH4 Aa ?_
    |refine fU (p:=(T.row _).eq=true) Ac ?_
    |refine fU Aa ?_
    |refine eZ2 ?_
    |refine eZ0 (fun hd=>?_) (fun hd=>?_)
    |refine br_lt (fun hlt=>?_) (fun hlt=>?_)
    |refine br_le (fun hle=>?_) (fun hle=>?_)
    |refine eV7 (fun heq=>?_) (fun heq=>?_)
    |refine eQ9 Aa (fun x hx=>?_)
    |refine eY0 rfl (fun h=>Ad) ?_
    |refine jU (fun hbb=>?_) (fun hbb=>?_)
    |refine ret_i ?_
    |refine fA7 ?_)
   all_goals conv=>whnf
   refine⟨_,rfl,?_⟩
   repeat' (first|exact trivial|refine And.intro ?_ ?_|with_reducible rfl|exact(fun h=>Ad)|exact Nat.le_refl _|omega|exact rfl)
  |cons n R2=>
   rw[List.length_cons]at hlen2;have hnn:n.size<=4000000000000000000:=hsn n Gm;obtain⟨c1,c2⟩:=find_range hrg.1 n;obtain⟨t1,t2⟩:=find_range hrg.2 n;have z1:=itoaB_size _ c1 c2
   have z2:=itoaB_size _ t1 t2;have z3:xB.size=3:=rfl
   have z4:csB.size=2:=rfl;have y1:(n++xB).size<=4000000000000000003:=EO
   have y2:(n++xB++itoaB (findP n x.c)).size<=4000000000000000103:=EO;have y3:(n++xB++itoaB (findP n x.c)++csB).size<=4000000000000000203:=EO
   repeat' ((conv=>whnf);first
    |refine arith_half Aa ?_
    |refine arith_u Aa ?_
    |(exfalso;omega)
    |refine aF (l:=ns) (A:=D2) (x:=n) (B:=R2) hp2 Aa ?_
    |refine mapget_i (assoc_find _ _) ?_
    |(refine aS5 (itoa_spec (findP n x.c) c1 c2) false ?_ rfl ?_;focus ((repeat' (first|exact trivial|refine And.intro ?_ ?_|with_reducible rfl|exact(fun h=>Ad)|exact rfl));done))
    |(refine aS5 (itoa_spec (findP n x.t) t1 t2) false ?_ rfl ?_;focus ((repeat' (first|exact trivial|refine And.intro ?_ ?_|with_reducible rfl|exact(fun h=>Ad)|exact rfl));done))
    |refine need_cat2 (a:=n) (b:=xB) Aa Aa ?_
    |refine need_cat2 (b:=itoaB (findP n x.c)) (Nat.le_trans y1 Ak) Aa ?_
    |refine need_cat2 (b:=csB) (Nat.le_trans y2 Ak) Aa ?_
    |refine need_cat2 (b:=itoaB (findP n x.t)) (Nat.le_trans y3 Ak) Aa ?_
    |refine iH rfl (.inl rfl) rfl (of_decide_eq_true rfl) (dA rfl) (by show(List.map S (List.map (iline x) D2)).length+1<=_;rw[List.length_map,List.length_map];omega) ?_
    |refine fU ⟨rfl,(fun h=>Ad),Aa,(by show(D2.length:Int)< (ns.map S).length;omega)⟩ ?_
    |refine fU rfl ?_
    |refine eY7 ?_
    |refine eZ1 Ac ?_
    |refine eH4 Aa ?_
    |refine fU (p:=(T.row _).eq=true) Ac ?_
    |refine fU Aa ?_
    |refine eZ2 ?_
    |refine eZ0 (fun hd=>?_) (fun hd=>?_)
    |refine br_lt (fun hlt=>?_) (fun hlt=>?_)
    |refine br_le (fun hle=>?_) (fun hle=>?_)
    |refine eV7 (fun heq=>?_) (fun heq=>?_)
    |refine eQ9 Aa (fun x hx=>?_)
    |refine eY0 rfl (fun h=>Ad) ?_
    |refine jU (fun hbb=>?_) (fun hbb=>?_)
    |refine ret_i ?_
    |refine fA7 ?_)
   all_goals conv=>whnf
   refine⟨(D2++[n],R2),?_,Gm,Ae⟩;simp only[List.length_append,List.map_append];exact MO
theorem invoice_spec(r:Rt)(s:Ls)(o:ByteArray)(hr:rtOk r)(ho:iM o)(hs:s.pieces.length<=1000000)(hn:∀p∈s.pieces,p.part.size<=4000000000000000000):
 Sp 10 [rtV r,lsV s,S o] (.tup [.sl ((linesI r o s.pieces).map S),I (runI r o s.pieces).sum,I 0]):=zsp Tryz.func10 (invoice_vc r s o hr ho hs hn)
def pcOf(p:Piece):Pc:=⟨p.id,p.parent,p.part,p.grade,p.heat,p.size,p.isBar,p.status,p.order⟩
def skOf(x:aN):Sk:=⟨x.isBar,x.sheet.id,x.sheet.grade,x.sheet.heat,x.sheet.grain,x.sheet.shape.outer.map vcV,x.sheet.shape.holes.map rgV,x.sheet.defects.map shV,x.bar.id,x.bar.grade,x.bar.heat,x.bar.length,x.bar.defects.map ivV,x.program⟩
def lsOf(s:aJ):Ls:=⟨s.stocks.map skOf,s.pieces.map pcOf,s.used.map I,s.received.1,s.received.2,s.scrap.1,s.scrap.2⟩
theorem lsV_of(s:aJ):lsV (lsOf s)=invV s:=by
 unfold lsV lsOf invV invC;simp only[List.map_map];rfl
def stS(r:Rt)(a:Int)(x:aN):Int:=IntKind.i64.wrap (a+valR r (sizeA x) x.isBar)
def stA(r:Rt)(l:List aN):Int:=l.foldl (stS r) 0
theorem stA_snoc(r:Rt)(D:List aN)(x:aN):stA r (D++[x])=IntKind.i64.wrap (stA r D+valR r (sizeA x) x.isBar):=by simp[stA,stS]
def pcS(r:Rt)(k a:Int)(p:Piece):Int:=if p.status=k then IntKind.i64.wrap (a+valR r p.size p.isBar)else a
def pcA(r:Rt)(k:Int)(l:List Piece):Int:=l.foldl (pcS r k) 0
theorem pcA_yes{r:Rt}{k:Int}{D:List Piece}{p:Piece}(h:p.status=k):pcA r k (D++[p])=IntKind.i64.wrap (pcA r k D+valR r p.size p.isBar):=by simp[pcA,pcS,h]
theorem pcA_no{r:Rt}{k:Int}{D:List Piece}{p:Piece}(h:p.status≠k):pcA r k (D++[p])=pcA r k D:=by simp[pcA,pcS,h]
def scA(r:Rt)(v:Led.Iv):Int:=IntKind.i64.wrap (IntKind.i64.wrap (v.1*r.sheet)+IntKind.i64.wrap (v.2*r.bar))
def bkV(a b c d e f:Int):V:= .agg [I a,I b,I c,I d,I e,I f]
def booksV(r:Rt)(s:aJ):V:=bkV (stA r s.stocks) (pcA r 1 s.pieces) (pcA r 2 s.pieces) (pcA r 3 s.pieces) (scA r s.scrap) (scA r s.received)
def rtF(r:Rt)(b:Bool):Int:=match b with|true=>r.bar|false=>r.sheet
theorem books_mk(r:Rt)(s:aJ):booksV r s= .agg [I (stA r s.stocks),I (pcA r 1 s.pieces),I (pcA r 2 s.pieces),I (pcA r 3 s.pieces),I (scA r s.scrap),I (scA r s.received)] :=rfl
def bk0:V:= .agg [I 0,I 0,I 0,I 0,I 0,I 0]
theorem accY_vc(r:Rt)(s:aJ)(hr:rtOk r)(hl1:s.stocks.length<=1000000)(hl2:s.pieces.length<=1000000)(hz:∀x∈s.stocks,shBg x.sheet.shape):fnVC T Tryz.prog Tryz.f7 [rtV r,invV s] (.tup [booksV r s,I 0]):=by
 have hv:=valid_spec r;rw[dH.2 hr]at hv;have hm1:(s.stocks.map aQ).length=s.stocks.length:=Ae
 have hm2:(s.pieces.map aZ).length=s.pieces.length:=Ae;rw[books_mk];unfold scA
 repeat' ((conv=>whnf);first
  |(refine aS5 (hv) false ?_ rfl ?_;focus ((repeat' (first|exact trivial|refine And.intro ?_ ?_|with_reducible rfl|exact(fun h=>Ad)|exact rfl));done))
  |refine eY7 ?_
  |refine eZ1 Ac ?_
  |refine eH4 Aa ?_
  |refine bW7 ?_
  |refine fU (p:=(T.row _).eq=true) Ac ?_
  |refine fU Aa ?_
  |refine fU rfl ?_
  |refine eZ2 ?_
  |refine eZ0 (fun hd=>?_) (fun hd=>?_)
  |refine br_lt (fun hlt=>?_) (fun hlt=>?_)
  |refine br_le (fun hle=>?_) (fun hle=>?_)
  |refine eV7 (fun heq=>?_) (fun heq=>?_)
  |refine eQ9 Aa (fun x hx=>?_)
  |refine eY0 rfl (fun h=>Ad) ?_
  |refine jU (fun hbb=>?_) (fun hbb=>?_)
  |refine ret_i ?_
  |refine fA7 ?_)
 generalize hz1:IntKind.i64.wrap (IntKind.i64.wrap (s.scrap.1*r.sheet)+IntKind.i64.wrap (s.scrap.2*r.bar))=z1;generalize hz2:IntKind.i64.wrap (IntKind.i64.wrap (s.received.1*r.sheet)+IntKind.i64.wrap (s.received.2*r.bar))=z2;refine aU (A:=List aN) (B:=List aN) (fun D R=>mkSt [(2, .box 2 0),(3, .box 3 0),(4, .box 4 0),(6, .box 6 0),(44, .sl (s.stocks.map aQ)),(45,I s.stocks.length),(46,I D.length)] [(2,(rtV r).cells),(3,invC s),(4,[I 0,I 0,I 0,I 0,I 0,I 0]),(6,[I (stA r D),I 0,I 0,I 0,I z1,I z2])] []) (fun D R=>s.stocks=D++R) (fun D R=>R.length) [] s.stocks ?_ rfl (fun D R hp=>?_)
 ·refine dV ?_ ?_ ?_ ?_
  all_goals repeat' (first|exact trivial|refine And.intro ?_ ?_|with_reducible rfl|exact(fun h=>Ad)|exact Nat.le_refl _|omega|exact rfl)
  all_goals first|rw[hm1] |exact hz1|exact hz2
 cases R with
 |cons x R=>
  have hlen:=aO hp;have g2:=sizeG_spec x (hz x Af)
  have g3:=value_spec r (sizeA x) x.isBar;have hsn:=stA_snoc r D x
  have hlD:((D++[x]).length:Int)=(D.length:Int)+1:=Ae;generalize stA r D=a at*;generalize valR r (sizeA x) x.isBar=v at*;generalize sizeA x=n at*
  repeat' ((conv=>whnf);first
   |(exfalso;omega)
   |refine aB (l:=s.stocks) Aa ?_
   |refine aF (l:=s.stocks) (A:=D) (x:=x) (B:=R) hp Aa ?_
   |(refine aS5 (g2) false ?_ rfl ?_;focus ((repeat' (first|exact trivial|refine And.intro ?_ ?_|with_reducible rfl|exact(fun h=>Ad)|exact rfl));done))
   |(refine aS5 (g3) false ?_ rfl ?_;focus ((repeat' (first|exact trivial|refine And.intro ?_ ?_|with_reducible rfl|exact(fun h=>Ad)|exact rfl));done))
   |refine eY7 ?_
   |refine eZ1 Ac ?_
   |refine eH4 Aa ?_
   |refine bW7 ?_
   |refine fU (p:=(T.row _).eq=true) Ac ?_
   |refine fU Aa ?_
   |refine fU rfl ?_
   |refine eZ2 ?_
   |refine eZ0 (fun hd=>?_) (fun hd=>?_)
   |refine br_lt (fun hlt=>?_) (fun hlt=>?_)
   |refine br_le (fun hle=>?_) (fun hle=>?_)
   |refine eV7 (fun heq=>?_) (fun heq=>?_)
   |refine eQ9 Aa (fun x hx=>?_)
   |refine eY0 rfl (fun h=>Ad) ?_
   |refine jU (fun hbb=>?_) (fun hbb=>?_)
   |refine ret_i ?_
   |refine fA7 ?_)
  all_goals conv=>whnf
  refine⟨(D++[x],R),?_,Af,Ae⟩;simp only[hsn,List.length_append,List.length_singleton];exact MO
 |nil=>
  have hlen:s.stocks.length=D.length:=Af;have e:s.stocks=D:=Af
  generalize hS:stA r s.stocks=zs;rw[e]at hS;rw[hS]
  repeat' ((conv=>whnf);first
   |(exfalso;omega)
   |refine eY7 ?_
   |refine eZ1 Ac ?_
   |refine eH4 Aa ?_
   |refine bW7 ?_
   |refine fU (p:=(T.row _).eq=true) Ac ?_
   |refine fU Aa ?_
   |refine fU rfl ?_
   |refine eZ2 ?_
   |refine eZ0 (fun hd=>?_) (fun hd=>?_)
   |refine br_lt (fun hlt=>?_) (fun hlt=>?_)
   |refine br_le (fun hle=>?_) (fun hle=>?_)
   |refine eV7 (fun heq=>?_) (fun heq=>?_)
   |refine eQ9 Aa (fun x hx=>?_)
   |refine eY0 rfl (fun h=>Ad) ?_
   |refine jU (fun hbb=>?_) (fun hbb=>?_)
   |refine ret_i ?_
   |refine fA7 ?_)
  clear hp;refine aU (A:=List Piece) (B:=List Piece) (fun D R=>mkSt [(2, .box 2 0),(3, .box 3 0),(4, .box 4 0),(6, .box 6 0),(62, .sl (s.pieces.map aZ)),(63,I s.pieces.length),(64,I D.length)] [(2,(rtV r).cells),(3,invC s),(4,[I 0,I 0,I 0,I 0,I 0,I 0]),(6,[I zs,I (pcA r 1 D),I (pcA r 2 D),I (pcA r 3 D),I z1,I z2])] []) (fun D R=>s.pieces=D++R) (fun D R=>R.length) [] s.pieces ?_ rfl (fun D R hp=>?_)
  ·refine dV ?_ ?_ ?_ ?_
   all_goals repeat' (first|exact trivial|refine And.intro ?_ ?_|with_reducible rfl|exact(fun h=>Ad)|exact Nat.le_refl _|omega|exact rfl)
   all_goals (try rw[hm2])
  cases R with
  |cons x R=>
   have hlen:=aO hp;have g3:=value_spec r x.size x.isBar
   have y1:=fun h=>pcA_yes (r:=r) (k:=1) (D:=D) (p:=x) h;have y2:=fun h=>pcA_yes (r:=r) (k:=2) (D:=D) (p:=x) h
   have y3:=fun h=>pcA_yes (r:=r) (k:=3) (D:=D) (p:=x) h;have n1:=fun h=>pcA_no (r:=r) (k:=1) (D:=D) (p:=x) h
   have n2:=fun h=>pcA_no (r:=r) (k:=2) (D:=D) (p:=x) h;have n3:=fun h=>pcA_no (r:=r) (k:=3) (D:=D) (p:=x) h
   have hlD:((D++[x]).length:Int)=(D.length:Int)+1:=Ae;generalize hP1:pcA r 1 (D++[x])=q1 at*;generalize hP2:pcA r 2 (D++[x])=q2 at*;generalize hP3:pcA r 3 (D++[x])=q3 at*;generalize pcA r 1 D=p1 at*;generalize pcA r 2 D=p2 at*;generalize pcA r 3 D=p3 at*;generalize valR r x.size x.isBar=v at*
   repeat' ((conv=>whnf);first
    |(exfalso;omega)
    |refine aB (l:=s.pieces) Aa ?_
    |refine aF (l:=s.pieces) (A:=D) (x:=x) (B:=R) hp Aa ?_
    |(refine aS5 (g3) false ?_ rfl ?_;focus ((repeat' (first|exact trivial|refine And.intro ?_ ?_|with_reducible rfl|exact(fun h=>Ad)|exact rfl));done))
    |refine eY7 ?_
    |refine eZ1 Ac ?_
    |refine eH4 Aa ?_
    |refine bW7 ?_
    |refine fU (p:=(T.row _).eq=true) Ac ?_
    |refine fU Aa ?_
    |refine fU rfl ?_
    |refine eZ2 ?_
    |refine eZ0 (fun hd=>?_) (fun hd=>?_)
    |refine br_lt (fun hlt=>?_) (fun hlt=>?_)
    |refine br_le (fun hle=>?_) (fun hle=>?_)
    |refine eV7 (fun heq=>?_) (fun heq=>?_)
    |refine eQ9 Aa (fun x hx=>?_)
    |refine eY0 rfl (fun h=>Ad) ?_
    |refine jU (fun hbb=>?_) (fun hbb=>?_)
    |refine ret_i ?_
    |refine fA7 ?_)
   all_goals conv=>whnf
   all_goals refine⟨(D++[x],R),?_,Af,Ae⟩
   all_goals simp only[hP1,hP2,hP3,List.length_append,List.length_singleton]
   all_goals first
    |rw[y1 Aa,n2 Aa,n3 Aa]
    |rw[n1 Aa,y2 Aa,n3 Aa]
    |rw[n1 Aa,n2 Aa,y3 Aa]
    |rw[n1 Aa,n2 Aa,n3 Aa]
   all_goals
    exact MO
  |nil=>
   have hlen:s.pieces.length=D.length:=Af;have e:s.pieces=D:=Af
   generalize hP1:pcA r 1 s.pieces=q1;generalize hP2:pcA r 2 s.pieces=q2;generalize hP3:pcA r 3 s.pieces=q3;rw[e]at hP1 hP2 hP3;rw[hP1,hP2,hP3];exact MR
theorem accY_spec(r:Rt)(s:aJ)(hr:rtOk r)(hl1:s.stocks.length<=1000000)(hl2:s.pieces.length<=1000000)(hz:∀x∈s.stocks,shBg x.sheet.shape):Sp 7 [rtV r,invV s] (.tup [booksV r s,I 0]):=zsp Tryz.func7 (accY_vc r s hr hl1 hl2 hz)
end Go.Proofs.Cost58
