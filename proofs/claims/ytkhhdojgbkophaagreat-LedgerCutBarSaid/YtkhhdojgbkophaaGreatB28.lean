/-
  Copies between rows of cells: laws for elements of any number of cells.
-/
import Derived.Test.YtkhhdojgbkophaaGreatB18
import Derived.Laws.CopyRow
import Derived.Lib.AppendZerosOnto
import Derived.Lib.Overlaps
import Derived.Laws.Externs
import Derived.Laws.IdiomCopy
set_option linter.unusedVariables false
set_option linter.unusedSimpArgs false
namespace Go.Proofs.Led
open Go Go.Proofs Go.Ab
set_option maxRecDepth 100000
def lay(cur:Array Value)(o:Nat)(vs:List Value):Array Value:=(cur.toList.take o++vs++cur.toList.drop (o+vs.length)).toArray
theorem lay_size{cur:Array Value}{o:Nat}{vs:List Value}(h:o+vs.length<=cur.size):(lay cur o vs).size=cur.size:=by
 unfold lay
 simp
 omega
theorem iW{P:Program}(w:World)(dT sT ty elem:TypeId)(g o dLen dCap:Nat)(a:Addr)(sLen sCap sz n:Nat)(cur:Array Value)(t:TypeId)(cs:List Value)
 (hu:P.underlying dT=some (.slice elem))(hs:(P.info? elem).map (·.size)=some sz)
 (hg:w.heap[g]? =some (.cells cur t (0,0)))(hm:Nat.min sLen dLen=n)(hn:cs.length=n*sz)
 (hsrc:∀j v,cs[j]? =some v->w.cell? (a.add j)=some v)(hfit:o+cs.length<=cur.size)(h1:∀v∈cs,v.oneCell'=true):
 (Builtin.copy_ #[dT,sT] ty #[.slice (some ⟨g,o,none⟩) dLen dCap, .slice (some a) sLen sCap]).run P w=
  .ok (goInt n) (w.setRow g (lay cur o cs)):=by
 have hl:=run_loadCells_list (P:=P) w a cs hsrc
 have hst:=run_storeCells_at P g o t cs 0 cur w hg (by simpa using hfit) h1
 unfold lay
 cases hq:P.info? elem with
 |none=>simp[hq]at hs
 |some i=>
  have hi:i.size=sz:=by simpa [hq]using hs
  simp[Builtin.copy_,run_underlying hu,Builtin.lenOf,Builtin.firstCells,sizeOf,typeInfo,hq,hi,hm,<-hn,hl,hst]
theorem xJ(cur:Array Value)(o:Nat)(vs:List Value):(lay cur o vs).toList=cur.toList.take o++vs++cur.toList.drop (o+vs.length):=by
 unfold lay;rfl
theorem uI{α:Type}{A B C:List α}{n:Nat}(h:A.length+B.length=n):(A++B++C).take n=A++B:=by
 rw[<-h,<-List.length_append]
 exact List.take_left
theorem layA{cur:Array Value}{p:Nat}{vs mid:List Value}(h:p+vs.length+mid.length<=cur.size):
 (lay (lay cur (p+vs.length) mid) p vs).toList.take (p+vs.length+mid.length)=cur.toList.take p++vs++mid:=by
 have hc:cur.toList.length=cur.size:=Array.length_toList
 rw[xJ,xJ]
 have h1:(cur.toList.take (p+vs.length)).length=p+vs.length:=by rw[List.length_take];omega
 have e1:(cur.toList.take (p+vs.length)++mid++cur.toList.drop (p+vs.length+mid.length)).take p=cur.toList.take p:=by
  rw[List.append_assoc,List.take_append_of_le_length (by omega),List.take_take,Nat.min_eq_left (by omega)]
 have e2:(cur.toList.take (p+vs.length)++mid++cur.toList.drop (p+vs.length+mid.length)).drop (p+vs.length)=mid++cur.toList.drop (p+vs.length+mid.length):=by
  rw[List.append_assoc]
  conv=>lhs;arg 1;rw[<-h1]
  exact List.drop_left
 rw[e1,e2,<-List.append_assoc]
 exact uI (by rw[List.length_append,List.length_take];omega)
theorem layB{R:Array Value}{p:Nat}{vs mid:List Value}(h:p+vs.length+mid.length<=R.size):
 (lay (lay R p vs) (p+vs.length) mid).toList.take (p+vs.length+mid.length)=R.toList.take p++vs++mid:=by
 have hc:R.toList.length=R.size:=Array.length_toList
 rw[xJ,xJ]
 have h1:(R.toList.take p++vs).length=p+vs.length:=by rw[List.length_append,List.length_take];omega
 rw[uI (A:=R.toList.take p) (B:=vs) (by rw[List.length_take];omega)]
 exact uI (by rw[h1])
theorem layC{cur:Array Value}{p:Nat}{vs:List Value}(h:p+vs.length<=cur.size):(lay cur p vs).toList.take (p+vs.length)=cur.toList.take p++vs:=by
 have hc:cur.toList.length=cur.size:=Array.length_toList
 rw[xJ]
 exact uI (by rw[List.length_take];omega)
theorem oH{w:World}{G:Gh}{a b:List Value}{x y:List V}(h1:RvL w G a x)(h2:RvL w G b y):RvL w G (a++b) (x++y):=by
 refine⟨by rw[List.length_append,List.length_append,h1.len,h2.len],fun v hv=>?_,fun i v z hv hz=>?_⟩
 ·rcases List.mem_append.1 hv with h|h
  ·exact h1.one v h
  ·exact h2.one v h
 ·rw[List.getElem?_append]at hv hz
  rw[<-h1.len]at hz
  split at hv
  ·rename_i hi
   rw[if_pos hi]at hz
   exact h1.rel i v z hv hz
  ·rename_i hi
   rw[if_neg hi]at hz
   exact h2.rel _ v z hv hz
theorem aM1{w:World}{G:Gh}{a:List Value}{x:List V}(h:RvL w G a x)(n:Nat):RvL w G (a.take n) (x.take n):=by
 refine⟨by rw[List.length_take,List.length_take,h.len],fun v hv=>h.one v (List.mem_of_mem_take hv),fun i v z hv hz=>?_⟩
 rw[List.getElem?_take]at hv hz
 split at hv
 ·rename_i hi
  rw[if_pos hi]at hz
  exact h.rel i v z hv hz
 ·cases hv
theorem aL4{w:World}{G:Gh}{a:List Value}{x:List V}(h:RvL w G a x)(n:Nat):RvL w G (a.drop n) (x.drop n):=by
 refine⟨by rw[List.length_drop,List.length_drop,h.len],fun v hv=>h.one v (List.mem_of_mem_drop hv),fun i v z hv hz=>?_⟩
 rw[List.getElem?_drop]at hv hz
 exact h.rel _ v z hv hz
theorem xW{l:List V}{sz i:Nat}(hz:∀x∈l,x.cells.length=sz)(hi:i<=l.length):(l.flatMap V.cells).take (i*sz)=(l.take i).flatMap V.cells/\(l.flatMap V.cells).drop (i*sz)=(l.drop i).flatMap V.cells:=by
 have e:l.flatMap V.cells=(l.take i).flatMap V.cells++(l.drop i).flatMap V.cells:=by rw[<-List.flatMap_append,List.take_append_drop]
 have hl:((l.take i).flatMap V.cells).length=i*sz:=by
  rw[Go.Ab.sH (sz:=sz) (fun x hx=>hz x (List.mem_of_mem_take hx)),List.length_take,Nat.min_eq_left hi]
 rw[e,<-hl]
 exact⟨List.take_left,List.drop_left⟩
theorem jM{w w':World}{G:Gh}{b n c:Nat}{E:TypeId}{X:Array Value}{L:List V}(hE:E<T.n E)(hp:bM L)(hlen:L.length=n)(hz:∀x∈L,x.cells.length=(T.row E).size)
 (hX:RvL w G (X.toList.take (n*(T.row E).size)) (L.flatMap V.cells))(hb:w'.heap[b]? =some (.cells X E (0,0)))(hs:X.size=c*(T.row E).size)(hnc:n<=c)(hc:c<=maxLen)
 (h2:∀b,G.O b≠ .ext->b<w.heap.size)(h3:∀b i,G.O b≠ .bx i)(hb':G.O b= .ar 0\/w.heap.size<=b)
 (hk:∀q,q<w.heap.size->q≠b->w'.heap[q]? =w.heap[q]?)(hsz:w.heap.size<=w'.heap.size)(h4:w'.os=w.os)(h5:w'.tape=w.tape)(h6:w'.output=w.output):
 ∃v G',Ending.returned (.slice (some ⟨b,0,none⟩) n c)= .returned v/\Rr T w' G' v (.own E L)/\
  (∀b,G.O b= .fz->G'.O b= .fz)/\(∀b,G'.O b≠ .ext->b<w'.heap.size)/\(∀b i,G'.O b≠ .bx i)/\
  (∀b,G'.O b≠ .ext->(G.O b= .fz/\G'.O b= .fz)\/w.heap.size<=b\/∃j,G.O b= .ar j)/\
  (∀b,b<w.heap.size->(∀j,G.O b≠ .ar j)->w'.heap[b]? =w.heap[b]?)/\
  w.heap.size<=w'.heap.size/\w'.os=w.os/\w'.tape=w.tape/\w'.output=w.output:=by
 have hfz:∀q,G.O q= .fz->q≠b:=by
  rintro q hq rfl
  rcases hb' with h|h
  ·rw[h]at hq;cases hq
  ·have:=h2 q (by rw[hq];simp)
   omega
 have hkp:Keep w w' G {G with O:=fun q=>if q=b then .ar 0 else G.O q}:=⟨fun q hq=>by simp[hfz q hq,hq],fun q hq=>hk q (h2 q (by rw[hq];simp)) (hfz q hq)⟩
 have hpf:bM (L.flatMap V.cells):=aH.2 fun y hy=>by
  obtain⟨j,hj⟩:=List.getElem?_of_mem hy
  exact dF hp hj
 subst hlen
 refine⟨_,{G with O:=fun q=>if q=b then .ar 0 else G.O q},rfl,⟨hE,hp, .inr ⟨b,c,X,rfl,by simp,hb,hnc,hc,hs,hz,hX.keep hkp hpf (fun _ h=>h.elim) (fun _ _ h=>h.elim)⟩⟩,hkp.fz,fun q hq=>?_,fun q i hq=>?_,fun q hq=>?_,fun q h1 h7=>?_,hsz,h4,h5,h6⟩
 ·by_cases e:q=b
  ·subst e;exact(Array.getElem?_eq_some_iff.1 hb).1
  ·simp only[e,if_false]at hq
   exact Nat.lt_of_lt_of_le (h2 q hq) hsz
 ·by_cases e:q=b
  ·subst e;simp at hq
  ·simp only[e,if_false]at hq
   exact h3 q i hq
 ·by_cases e:q=b
  ·subst e
   rcases hb' with h|h
   ·exact .inr (.inr ⟨0,h⟩)
   ·exact .inr (.inl h)
  ·simp only[e,if_false]at hq⊢
   cases hO:G.O q with
   |ext=>exact absurd hO hq
   |fz=>exact .inl ⟨rfl,rfl⟩
   |bx i=>exact absurd hO (h3 q i)
   |ar j=>exact .inr (.inr ⟨j,rfl⟩)
 ·refine hk q h1 ?_
  rintro rfl
  rcases hb' with h|h
  ·exact h7 0 h
  ·omega
theorem bY9{w:World}{G:Gh}{k:Nat}{u:Value}{E:TypeId}{x:V}(h:gJ T w G k u E [x]):∃(b c:Nat) (cur:Array Value),u= .slice (some ⟨b,0,none⟩) 1 c/\G.O b= .ar k/\w.heap[b]? =some (.cells cur E (0,0))/\(T.row E).size<=cur.size/\
 x.cells.length=(T.row E).size/\RvL w G (cur.toList.take (T.row E).size) x.cells:=by
 rcases h with⟨_,h⟩|⟨b,c,cur,h1,h2,h3,h4,h5,h6,h7,h8⟩
 ·cases h
 ·refine⟨b,c,cur,h1,h2,h3,?_,h7 x (by simp),?_⟩
  ·rw[h6]
   exact Nat.le_mul_of_pos_left _ h4
  ·have h9:=h8
   simp only[List.length_singleton,Nat.one_mul,List.flatMap_cons,List.flatMap_nil,List.append_nil]at h9
   exact h9
theorem aN3{w:World}{G:Gh}{j:Nat}{v:Value}{u:Value}(h:Rb T w G j v (.lit u)):v=u:=h.2.bH
theorem arr3{cs:Array Value}(h:cs.size=3):∃a b c,cs= #[a,b,c] :=by
 obtain⟨l⟩:=cs
 match l,h with
 | [a,b,c],_=>exact⟨a,b,c,rfl⟩
end Go.Proofs.Led
