/-
  Sharing an amount, in plain Lean: the greatest remainders.
-/
import Derived.Test.YtkhhdojgbkophaaGreatDoorBK13
set_option linter.unusedVariables false
set_option linter.unusedSimpArgs false
noncomputable section
namespace Go.Proofs.Cost58
open Go.Ab
section
variable{α:Type}{c:α->α->Int}
theorem insR_perm(x:α):∀R,(insR c x R).Perm (x::R)
 | [] => .refl _
 |y::r=>by
  unfold insR;split
  ·exact((insR_perm x r).cons y).trans (.swap x y r)
  ·exact .refl _
theorem isF_perm:∀(xs R:List α),(xs.foldl (fun R x=>insR c x R) R).Perm (xs++R)
 | [],R=> .refl _
 |x::xs,R=>by
  rw[List.foldl_cons];exact(isF_perm xs _).trans (((insR_perm x R).append_left xs).trans List.perm_middle)
theorem isortP_perm(xs:List α):(qA c xs).Perm xs:=by
 unfold qA isR;exact(List.reverse_perm _).trans (by have:=isF_perm (c:=c) xs [];rwa [List.append_nil]at this)
end
theorem perm_sum{α:Type}(f:α->Int){l l':List α}(h:l.Perm l'):(l.map f).sum=(l'.map f).sum:=by
 induction h with
 |nil=>rfl
 |cons x _ ih=>simp[ih]
 |swap x y l=>simp only[List.map_cons,List.sum_cons];omega
 |trans _ _ h1 h2=>rw[h1,h2]
def idxs(n:Nat):List Int:=(List.range n).map Int.ofNat
theorem idxs_len(n:Nat):(idxs n).length=n:=by simp[idxs]
theorem idxs_mem{n:Nat}{i:Int}:i∈idxs n↔0<=i/\i<n:=by
 unfold idxs;rw[List.mem_map];constructor
 ·rintro⟨k,hk,rfl⟩
  rw[List.mem_range]at hk;have:Int.ofNat k=(k:Int):=rfl;omega
 ·rintro⟨h0,h1⟩
  exact⟨i.toNat,by rw[List.mem_range];omega,by show((i.toNat:Nat):Int)=i;omega⟩
theorem idxs_succ(n:Nat):idxs (n+1)=idxs n++[(n:Int)] :=by
 unfold idxs;rw[List.range_succ,List.map_append];rfl
def quos(am s:Int)(ws:List Int):List Int:=ws.map fun w=>(am*w).tdiv s
def leftP(am s:Int)(ws:List Int):Int:=am- (quos am s ws).sum
def ordP(am s:Int)(ws:List Int):List Int:=qA (ordF am s ws) (idxs ws.length)
def bump(o:List Int)(is:List Int):List Int:=is.foldl (fun o i=>o.set i.toNat (o.getD i.toNat 0+1)) o
def shareP(am s:Int)(ws:List Int):List Int:=bump (quos am s ws) ((ordP am s ws).take (leftP am s ws).toNat)
theorem bump_len:∀(is o:List Int),(bump o is).length=o.length
 | [],o=>rfl
 |i::is,o=>by
  show(bump (o.set i.toNat (o.getD i.toNat 0+1)) is).length=_;rw[bump_len is];simp
theorem bump_snoc(o is:List Int)(i:Int):bump o (is++[i])=(bump o is).set i.toNat ((bump o is).getD i.toNat 0+1):=by unfold bump;rw[List.foldl_append];rfl
theorem dF7:∀(l:List Int) (i:Nat) (v:Int),i<l.length->(l.set i v).sum=l.sum-l.getD i 0+v
 | [],i,v,h=>Hf
 |x::l,0,v,_=>Ai
 |x::l,i+1,v,h=>by
  have:=dF7 l i v DT;simp only[List.set_cons_succ,List.sum_cons,this];rw[show(x::l).getD (i+1) 0=l.getD i 0 from Ae];omega
section
variable{am s:Int}{ws:List Int}
structure ShareOk(am s:Int)(ws:List Int):Prop where
 am0:0<=am
 s0:0<s
 w0:∀w∈ws,0<=w
 sum:ws.sum=s
theorem quo_rem(h:ShareOk am s ws){w:Int}(hw:w∈ws):am*w=s*(am*w).tdiv s+(am*w).tmod s/\0<=(am*w).tmod s/\(am*w).tmod s<s/\0<=(am*w).tdiv s:=by
 have h0:0<=am*w:=Int.mul_nonneg h.am0 (h.w0 w hw);have hs:=h.s0
 rw[Int.tdiv_eq_ediv_of_nonneg h0,Int.tmod_eq_emod_of_nonneg h0];refine⟨(Int.mul_ediv_add_emod _ _).symm,Int.emod_nonneg _ Aa,Int.emod_lt_of_pos _ hs,Int.ediv_nonneg h0 Aa⟩
theorem sum_parts(am s:Int):∀(l:List Int),(∀w∈l,am*w=s*(am*w).tdiv s+(am*w).tmod s)->am*l.sum=s*(quos am s l).sum+(l.map fun w=>(am*w).tmod s).sum
 | [],_=>by simp[quos]
 |w::l,h=>by
  have h1:=h w Ae;have h2:=sum_parts am s l (fun w hw=>h w (by simp[hw]))
  unfold quos at h2⊢;simp only[List.map_cons,List.sum_cons,Int.mul_add];omega
theorem rests_eq:(idxs ws.length).map (restF am s ws)=ws.map fun w=>(am*w).tmod s:=by
 unfold idxs;rw[List.map_map];apply List.ext_getElem Ae;intro i h1 h2;simp at h1;simp only[List.getElem_map,List.getElem_range,Function.comp];unfold restF;rw[show(Int.ofNat i).toNat=i from rfl,List.getD_eq_getElem?_getD,List.getElem?_eq_getElem h1];rfl
theorem ord_perm:(ordP am s ws).Perm (idxs ws.length):=isortP_perm _
theorem ord_mem{i:Int}:i∈ordP am s ws↔0<=i/\i<ws.length:=by rw[ord_perm.mem_iff,idxs_mem]
theorem ord_len:(ordP am s ws).length=ws.length:=by rw[ord_perm.length_eq,idxs_len]
theorem cK6(a b:Int):cmpI a b<0↔a<b:=by
 unfold cmpI;split
 ·simp[*]
 ·split<;>simp<;>omega
theorem ordF_neg(i j:Int):ordF am s ws i j<0↔-restF am s ws i< -restF am s ws j:=by unfold ordF;rw[cK6];omega
theorem gI6(h:ShareOk am s ws){i:Int}(hi:0<=i/\i<ws.length):0<=restF am s ws i/\restF am s ws i<s:=by
 unfold restF;have hl:i.toNat<ws.length:=Aa;rw[List.getD_eq_getElem?_getD,List.getElem?_eq_getElem hl];have:=quo_rem h (List.getElem_mem hl)
 exact⟨this.2.1,this.2.2.1⟩
theorem left_eq(h:ShareOk am s ws):s*leftP am s ws=((ordP am s ws).map (restF am s ws)).sum:=by
 rw[perm_sum _ ord_perm,rests_eq];have h1:=sum_parts am s ws (fun w hw=>(quo_rem h hw).1);rw[h.sum,Int.mul_comm]at h1;unfold leftP;rw[Int.mul_sub];omega
theorem sum_le{f:Int->Int}{b:Int}:∀(l:List Int),(∀i∈l,f i<=b)->(l.map f).sum<=l.length*b
 | [],_=>Ae
 |x::l,h=>by
  have:=sum_le l (fun i hi=>h i F5);have h1:=h x Ae
  simp only[List.map_cons,List.sum_cons,List.length_cons];rw[show(((l.length+1:Nat):Int))=(l.length:Int)+1 from Aa,Int.add_mul];omega
theorem sum_ge0{f:Int->Int}:∀(l:List Int),(∀i∈l,0<=f i)->0<=(l.map f).sum
 | [],_=>Ae
 |x::l,h=>by
  have:=sum_ge0 l (fun i hi=>h i F5);have h1:=h x Ae
  simp only[List.map_cons,List.sum_cons];omega
theorem left_bd(h:ShareOk am s ws):0<=leftP am s ws/\(leftP am s ws<ws.length\/leftP am s ws=0):=by
 have e:=left_eq h;have h0:=sum_ge0 (f:=restF am s ws) (ordP am s ws) (fun i hi=>(gI6 h (ord_mem.1 hi)).1)
 have h1:=sum_le (f:=restF am s ws) (b:=s-1) (ordP am s ws) (fun i hi=>by have:=(gI6 h (ord_mem.1 hi)).2;omega)
 rw[ord_len,<-e]at h1;rw[<-e]at h0;have hs:=h.s0
 have hl0:0<=leftP am s ws:=by
  rcases Int.lt_or_le (leftP am s ws) 0 with hn|hn
  ·have:=Int.mul_neg_of_pos_of_neg hs hn
   omega
  ·exact hn
 refine⟨hl0,?_⟩;rcases Int.lt_or_le (leftP am s ws) ws.length with hn|hn
 ·exact .inl hn
 ·have h2:s*(ws.length:Int)<=s*leftP am s ws:=Int.mul_le_mul_of_nonneg_left hn Aa
  rw[Int.mul_sub,Int.mul_comm (ws.length:Int) s]at h1;have hn0:(ws.length:Int)=0:=Aa;right;have:ws=[] :=List.length_eq_zero_iff.1 Aa
  have hs':=h.sum;rw[this]at hs';simp at hs';omega
theorem left_len(h:ShareOk am s ws):((ordP am s ws).take (leftP am s ws).toNat).length=(leftP am s ws).toNat:=by
 have:=left_bd h;rw[List.length_take,ord_len];omega
theorem quos_len:(quos am s ws).length=ws.length:=by simp[quos]
def doneP(am s:Int)(ws:List Int)(k:Nat)(i:Int):Prop:=i∈(ordP am s ws).take k
def BestP(am s:Int)(ws:List Int)(k m:Nat)(b:Int):Prop:=
 (b= -1/\∀i:Int,0<=i->i<m->doneP am s ws k i)\/
 ((0<=b/\b<m)/\¬doneP am s ws k b/\∀i:Int,0<=i->i<m->¬doneP am s ws k i->restF am s ws i<restF am s ws b\/(restF am s ws i=restF am s ws b/\b<=i))
end
end Go.Proofs.Cost58
