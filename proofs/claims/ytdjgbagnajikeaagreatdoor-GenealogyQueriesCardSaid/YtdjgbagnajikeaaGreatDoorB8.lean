/-
  Binary search in lists of stocks, of pieces, of numbers.
-/
import Derived.Test.YtdjgbagnajikeaaGreatDoorB7
import Derived.Laws.CopyRow
import Derived.Lib.AppendZerosOnto
import Derived.Lib.Overlaps
import Derived.Laws.Externs
import Derived.Laws.IdiomCopy
set_option linter.unusedVariables false
set_option linter.unusedSimpArgs false
set_option maxRecDepth 100000
set_option maxHeartbeats 4000000
noncomputable section
namespace Go.Proofs.Led
open Go Go.Proofs Go.Ab
def bs{α:Type}(key:α->Int)(l:List α)(t:Int):Nat:=(l.takeWhile fun m=>decide (key m<t)).length
theorem dC0{α:Type}{key:α->Int}{t:Int}:∀ {l:List α} {i:Nat},i<=l.length->(∀k m,k<i->l[k]? =some m->key m<t)->(∀m,l[i]? =some m->t<=key m)->bs key l t=i
 | [],i,h,_,_=>by simp at h;subst h;rfl
 |x::r,0,_,_,h=>by
  have:=h x rfl;unfold bs;rw[List.takeWhile_cons_of_neg A8];rfl
 |x::r,i+1,hi,h1,h2=>by
  have hx:=h1 0 x Aa rfl;have ih:=dC0 (l:=r) (i:=i) (by simp at hi;omega) (fun k m hk hm=>h1 (k+1) m Aa hm) (fun m hm=>h2 m hm)
  unfold bs at ih⊢;rw[List.takeWhile_cons_of_pos (by simp;exact hx),List.length_cons,ih]
theorem cD4{n:Int}(h:0<=n/\n<=2000000):IntKind.u64.wrap n=n:=by
 exact OE
theorem cK6{a b:Int}:cmpI a b<0↔a<b:=Dc
theorem aU8{a b:Int}:0<=cmpI a b↔b<=a:=Dc
theorem bP6{a b:Int}:cmpI a b=0↔a=b:=Dc
theorem bF1{i j:Nat}(h:i+j<=2000000):IntKind.i64.wrap (shrI .u64 ((i:Int)+(j:Int)) 1)=(((i+j)/2:Nat):Int):=by
 have e:shrI .u64 ((i:Int)+(j:Int)) 1=(((i+j)/2:Nat):Int):=by
  unfold shrI;show Int.fdiv _ 2=_;rw[Int.fdiv_eq_ediv_of_nonneg _ Ah];omega
 rw[e,IntKind.wrap_i64];omega
theorem sorted_at{α:Type}{key:α->Int}{l:List α}(hs:(l.map key).Pairwise (·<·)){a b:Nat}{x y:α}(hx:l[a]? =some x)(hy:l[b]? =some y)(h:a<b):key x<key y:=by
 obtain⟨ha,rfl⟩:=List.getElem?_eq_some_iff.1 hx;obtain⟨hb,rfl⟩:=List.getElem?_eq_some_iff.1 hy;have:=List.pairwise_iff_getElem.1 hs a b (by simpa using ha) CO h
 simpa using this
theorem eC8{α:Type}{key:α->Int}{t:Int}{l:List α}{i:Nat}(hs:(l.map key).Pairwise (·<·))(h1:∀k m,k<i->l[k]? =some m->key m<t)(h2:∀m,l[i]? =some m->t<=key m):
 (∀m,l[i]? =some m->((∃y∈l,key y=t)↔key m=t))/\(l[i]? =none->¬∃y∈l,key y=t):=by
 refine⟨fun m hm=>⟨?_,fun h=>⟨m,List.mem_of_getElem? hm,h⟩⟩,fun hn=>?_⟩
 ·rintro⟨y,hy,e⟩
  obtain⟨k,hk⟩:=List.getElem?_of_mem hy;have hmt:=h2 m hm;rcases Nat.lt_trichotomy k i with h|h|h
  ·have:=h1 k y h hk;omega
  ·subst h;rw[hm]at hk;cases hk;exact e
  ·have:=sorted_at hs hm hk h;omega
 ·rintro⟨y,hy,e⟩
  obtain⟨k,hk⟩:=List.getElem?_of_mem hy;have hkl:=(List.getElem?_eq_some_iff.1 hk).1;have hil:=List.getElem?_eq_none_iff.1 hn
  have:=h1 k y Aa hk;omega
theorem eX1{g:FuncId}{t:Int}(hg:∀m:aN,Sp g [aQ m,I t] (I (cmpI (sid m) t)))(l:List aN)(hl:l.length<=1000000)(hs:(l.map sid).Pairwise (·<·)):fnVC T Tryz.prog Tryz.f161 [.sl (l.map aQ),I t, .fn g []] (.tup [I (bs sid l t),DB (∃m∈l,sid m=t)]):=by
 have hll:(l.map aQ).length=l.length:=Ae
 repeat' ((conv=>whnf);first|refine zS ?_|fail)
 refine aU (A:=Nat) (B:=Nat) (fun i j=>mkSt [(0, .sl (l.map aQ)),(1,I t),(2, .fn g []),(8,I l.length),(9,I i),(10,I j)] [] []) (fun i j=>i<=j/\j<=l.length/\(∀k m,k<i->l[k]? =some m->sid m<t)/\∀k m,j<=k->l[k]? =some m->t<=sid m) (fun i j=>j-i) 0 l.length ?_ ⟨Aa,Aa,fun k m hk=>absurd hk Aa,fun k m hk hm=>BK⟩ (fun i j hp=>?_)
 ·exact zj
 obtain⟨hij,hj,h1,h2⟩:=hp;have hij':i<=l.length:=Aa;by_cases hlt0:i<j
 ·exact GX
 ·have e:j=i:=by omega
  subst e;have hbs:=dC0 hij' h1 (fun m hm=>h2 j m (Nat.le_refl _) hm);have hex:=eC8 hs h1 (fun m hm=>h2 j m (Nat.le_refl _) hm)
  rw[hbs];generalize (∃m∈l,sid m=t)=P at*;by_cases hjn:j<l.length
  ·have hm2:=List.getElem?_eq_getElem hjn
   generalize l[j] =m at hm2;have g1:=hg m;have hP:P↔sid m=t:=hex.1 m hm2
   have eP:DB P=V.lit (.bool (eqB (cmpI (sid m) t) 0)):=congrArg (fun b=>V.lit (.bool b)) (sK (bP6.trans hP.symm)).symm;rw[eP];exact zF
  ·exact Je
theorem eB5{g:FuncId}{t:Int}(hg:∀m:aN,Sp g [aQ m,I t] (I (cmpI (sid m) t)))(l:List aN)(hl:l.length<=1000000)(hs:(l.map sid).Pairwise (·<·)):Sp 161 [.sl (l.map aQ),I t, .fn g []] (.tup [I (bs sid l t),DB (∃m∈l,sid m=t)]):=zsp Tryz.func161 (eX1 hg l hl hs)
theorem eW0{g:FuncId}{t:Int}(hg:∀m:Piece,Sp g [aZ m,I t] (I (cmpI (Piece.id m) t)))(l:List Piece)(hl:l.length<=1000000)(hs:(l.map Piece.id).Pairwise (·<·)):fnVC T Tryz.prog Tryz.f170 [.sl (l.map aZ),I t, .fn g []] (.tup [I (bs Piece.id l t),DB (∃m∈l,Piece.id m=t)]):=by
 have hll:(l.map aZ).length=l.length:=Ae
 repeat' ((conv=>whnf);first|refine zS ?_|fail)
 refine aU (A:=Nat) (B:=Nat) (fun i j=>mkSt [(0, .sl (l.map aZ)),(1,I t),(2, .fn g []),(8,I l.length),(9,I i),(10,I j)] [] []) (fun i j=>i<=j/\j<=l.length/\(∀k m,k<i->l[k]? =some m->Piece.id m<t)/\∀k m,j<=k->l[k]? =some m->t<=Piece.id m) (fun i j=>j-i) 0 l.length ?_ ⟨Aa,Aa,fun k m hk=>absurd hk Aa,fun k m hk hm=>BK⟩ (fun i j hp=>?_)
 ·exact zj
 obtain⟨hij,hj,h1,h2⟩:=hp;have hij':i<=l.length:=Aa;by_cases hlt0:i<j
 ·exact GX
 ·have e:j=i:=by omega
  subst e;have hbs:=dC0 hij' h1 (fun m hm=>h2 j m (Nat.le_refl _) hm);have hex:=eC8 hs h1 (fun m hm=>h2 j m (Nat.le_refl _) hm)
  rw[hbs];generalize (∃m∈l,Piece.id m=t)=P at*;by_cases hjn:j<l.length
  ·have hm2:=List.getElem?_eq_getElem hjn
   generalize l[j] =m at hm2;have g1:=hg m;have hP:P↔Piece.id m=t:=hex.1 m hm2
   have eP:DB P=V.lit (.bool (eqB (cmpI (Piece.id m) t) 0)):=congrArg (fun b=>V.lit (.bool b)) (sK (bP6.trans hP.symm)).symm;rw[eP];exact zF
  ·exact Je
theorem eG9{g:FuncId}{t:Int}(hg:∀m:Piece,Sp g [aZ m,I t] (I (cmpI (Piece.id m) t)))(l:List Piece)(hl:l.length<=1000000)(hs:(l.map Piece.id).Pairwise (·<·)):Sp 170 [.sl (l.map aZ),I t, .fn g []] (.tup [I (bs Piece.id l t),DB (∃m∈l,Piece.id m=t)]):=zsp Tryz.func170 (eW0 hg l hl hs)
theorem cR0(x:aN)(t:Int):Sp 162 [aQ x,I t] (I (cmpI (sid x) t)):=by
 refine zsp Tryz.func162 ?_;have h1:=aE2 x;have h2:=aB9 (sid x) t
 exact zF
theorem cG0(x:Piece)(t:Int):Sp 171 [aZ x,I t] (I (cmpI x.id t)):=by
 refine zsp Tryz.func171 ?_;have h2:=aB9 x.id t;exact zF
theorem dN9(n:Int):Sp 208 [I n] (.lit (.bool false)):=by
 refine zsp Tryz.func208 ?_
 repeat' ((conv=>whnf);first|refine zS ?_|fail)
 all_goals conv=>whnf
 all_goals first|exact aK (by rw[aA1.2 rfl];rfl)|exact aK rfl
theorem dM1(a b:Int):Sp 207 [I a,I b] (DB (a<b)):=by
 refine zsp Tryz.func207 ?_;have h1:=aN2 a;have h2:=aN2 b
 repeat' ((conv=>whnf);first|refine zc h1 ?_|refine zS ?_|fail)
 all_goals conv=>whnf
 all_goals exact aA eU2
theorem fA5(t:Int)(l:List Int)(hl:l.length<=1000000)(hs:(l.map id).Pairwise (·<·)):fnVC T Tryz.prog Tryz.f163 [.sl (l.map I),I t] (.tup [I (bs id l t),DB (∃m∈l,m=t)]):=by
 have hll:(l.map I).length=l.length:=Ae
 repeat' ((conv=>whnf);first|refine zS ?_|fail)
 refine aU (A:=Nat) (B:=Nat) (fun i j=>mkSt [(0, .sl (l.map I)),(1,I t),(6,I l.length),(7,I i),(8,I j)] [] []) (fun i j=>i<=j/\j<=l.length/\(∀k m,k<i->l[k]? =some m->m<t)/\∀k m,j<=k->l[k]? =some m->t<=m) (fun i j=>j-i) 0 l.length ?_ ⟨Aa,Aa,fun k m hk=>absurd hk Aa,fun k m hk hm=>BK⟩ (fun i j hp=>?_)
 ·exact zj
 obtain⟨hij,hj,h1,h2⟩:=hp;have hij':i<=l.length:=Aa;by_cases hlt0:i<j
 ·have hb:(i+j)/2<l.length:=by omega
  have hm2:=List.getElem?_eq_getElem hb;generalize l[(i+j)/2] =m at hm2;have g1:=dM1 m t
  have hlt2:(i+j)/2<j:=Aa
  repeat' ((conv=>whnf);first|(exfalso;omega)|refine fK (k:= .u64) (n:=(i:Int)+(j:Int)) (m:=(i:Int)+(j:Int)) (cD4 Aa) ?_|refine fK (k:= .i64) (n:=shrI .u64 ((i:Int)+(j:Int)) 1) (m:=(((i+j)/2:Nat):Int)) (bF1 Aa) ?_|refine aB (l:=l) Aa ?_|refine gK (l:=l) hm2 Aa ?_|refine zc g1 ?_|refine zS ?_|refine zT ?_ ?_<;>intro _|fail)
  all_goals conv=>whnf
  ·have hc:m<t:=by assumption
   refine⟨((i+j)/2+1,j),?_,⟨Aa,Aa,fun k y hk hy=>?_,h2⟩,Aa⟩
   ·exact zj
   ·rcases Nat.lt_or_ge k ((i+j)/2)with h|h
    ·exact Int.lt_trans (sorted_at (key:=id) hs hy hm2 h) hc
    ·exact H7
  ·have hc:t<=m:=by omega
   refine⟨(i,(i+j)/2),?_,⟨Aa,Aa,h1,fun k y hk hy=>?_⟩,Aa⟩
   ·exact zj
   ·rcases Nat.lt_or_ge ((i+j)/2) k with h|h
    ·exact Int.le_of_lt (Int.lt_of_le_of_lt hc (sorted_at (key:=id) hs hm2 hy h))
    ·exact H7
 ·have e:j=i:=by omega
  subst e;have hbs:=dC0 (key:=id) hij' h1 (fun m hm=>h2 j m (Nat.le_refl _) hm);have hex:=eC8 (key:=id) hs h1 (fun m hm=>h2 j m (Nat.le_refl _) hm)
  rw[hbs];have hex':(∃m∈l,m=t)↔(∃y∈l,id y=t):=Iff.rfl;simp only[id]at hex;generalize (∃m∈l,m=t)=P at*;by_cases hjn:j<l.length
  ·have hm2:=List.getElem?_eq_getElem hjn
   generalize l[j] =m at hm2;have hP:P↔m=t:=hex.1 m hm2;by_cases hmt:m=t
   ·have eP:DB P=V.lit (.bool true):=congrArg (fun b=>V.lit (.bool b)) (dH.2 (hP.2 hmt))
    rw[eP]
    repeat' ((conv=>whnf);first|(exfalso;omega)|refine aB (l:=l) Aa ?_|refine gK (l:=l) hm2 Aa ?_|refine zS ?_|refine zT ?_ ?_<;>intro _|fail)
    all_goals exact zE
   ·have eP:DB P=V.lit (.bool false):=congrArg (fun b=>V.lit (.bool b)) (dW.2 (fun h=>hmt (hP.1 h)))
    rw[eP]
    repeat' ((conv=>whnf);first|(exfalso;omega)|refine aB (l:=l) Aa ?_|refine gK (l:=l) hm2 Aa ?_|refine zc (dN9 m) ?_|refine zS ?_|refine zT ?_ ?_<;>intro _|fail)
    all_goals exact zE
  ·have hP:¬P:=hex.2 (List.getElem?_eq_none Aa)
   have eP:DB P=V.lit (.bool false):=congrArg (fun b=>V.lit (.bool b)) (dW.2 hP);rw[eP]
   repeat' ((conv=>whnf);first|(exfalso;omega)|refine zS ?_|refine zT ?_ ?_<;>intro _|fail)
   all_goals exact zE
theorem cQ0(t:Int)(l:List Int)(hl:l.length<=1000000)(hs:(l.map id).Pairwise (·<·)):Sp 163 [.sl (l.map I),I t] (.tup [I (bs id l t),DB (∃m∈l,m=t)]):=zsp Tryz.func163 (fA5 t l hl hs)
def lay(cur:Array Value)(o:Nat)(vs:List Value):Array Value:=(cur.toList.take o++vs++cur.toList.drop (o+vs.length)).toArray
theorem lay_size{cur:Array Value}{o:Nat}{vs:List Value}(h:o+vs.length<=cur.size):(lay cur o vs).size=cur.size:=by
 unfold lay;simp;omega
theorem iW{P:Program}(w:World)(dT sT ty elem:TypeId)(g o dLen dCap:Nat)(a:Addr)(sLen sCap sz n:Nat)(cur:Array Value)(t:TypeId)(cs:List Value)
 (hu:P.underlying dT=some (.slice elem))(hs:(P.info? elem).map (·.size)=some sz)
 (hg:w.heap[g]? =some (.cells cur t (0,0)))(hm:Nat.min sLen dLen=n)(hn:cs.length=n*sz)
 (hsrc:∀j v,cs[j]? =some v->w.cell? (a.add j)=some v)(hfit:o+cs.length<=cur.size)(h1:∀v∈cs,v.oneCell'=true):
 (Builtin.copy_ #[dT,sT] ty #[.slice (some ⟨g,o,none⟩) dLen dCap, .slice (some a) sLen sCap]).run P w=
  .ok (goInt n) (w.setRow g (lay cur o cs)):=by
 have hl:=run_loadCells_list (P:=P) w a cs hsrc;have hst:=run_storeCells_at P g o t cs 0 cur w hg (by simpa using hfit) h1
 unfold lay
 cases hq:P.info? elem with
 |none=>simp[hq]at hs
 |some i=>
  have hi:i.size=sz:=by simpa [hq]using hs
  simp[Builtin.copy_,run_underlying hu,Builtin.lenOf,Builtin.firstCells,sizeOf,typeInfo,hq,hi,hm,<-hn,hl,hst]
theorem xJ(cur:Array Value)(o:Nat)(vs:List Value):(lay cur o vs).toList=cur.toList.take o++vs++cur.toList.drop (o+vs.length):=by
 unfold lay;rfl
theorem uI{α:Type}{A B C:List α}{n:Nat}(h:A.length+B.length=n):(A++B++C).take n=A++B:=by
 rw[<-h,<-List.length_append];exact List.take_left
theorem layA{cur:Array Value}{p:Nat}{vs mid:List Value}(h:p+vs.length+mid.length<=cur.size):
 (lay (lay cur (p+vs.length) mid) p vs).toList.take (p+vs.length+mid.length)=cur.toList.take p++vs++mid:=by
 have hc:cur.toList.length=cur.size:=Array.length_toList;rw[xJ,xJ];have h1:(cur.toList.take (p+vs.length)).length=p+vs.length:=D9
 have e1:(cur.toList.take (p+vs.length)++mid++cur.toList.drop (p+vs.length+mid.length)).take p=cur.toList.take p:=by
  rw[List.append_assoc,List.take_append_of_le_length Aa,List.take_take,Nat.min_eq_left Aa]
 have e2:(cur.toList.take (p+vs.length)++mid++cur.toList.drop (p+vs.length+mid.length)).drop (p+vs.length)=mid++cur.toList.drop (p+vs.length+mid.length):=by
  rw[List.append_assoc]
  conv=>lhs;arg 1;rw[<-h1]
  exact List.drop_left
 rw[e1,e2,<-List.append_assoc];exact uI Ew
theorem layB{R:Array Value}{p:Nat}{vs mid:List Value}(h:p+vs.length+mid.length<=R.size):
 (lay (lay R p vs) (p+vs.length) mid).toList.take (p+vs.length+mid.length)=R.toList.take p++vs++mid:=by
 have hc:R.toList.length=R.size:=Array.length_toList;rw[xJ,xJ];have h1:(R.toList.take p++vs).length=p+vs.length:=Ew
 rw[uI (A:=R.toList.take p) (B:=vs) D9];exact uI (by rw[h1])
theorem layC{cur:Array Value}{p:Nat}{vs:List Value}(h:p+vs.length<=cur.size):(lay cur p vs).toList.take (p+vs.length)=cur.toList.take p++vs:=by
 have hc:cur.toList.length=cur.size:=Array.length_toList;rw[xJ];exact uI D9
theorem oH{w:World}{G:Gh}{a b:List Value}{x y:List V}(h1:RvL w G a x)(h2:RvL w G b y):RvL w G (a++b) (x++y):=by
 refine⟨by rw[List.length_append,List.length_append,h1.len,h2.len],fun v hv=>?_,fun i v z hv hz=>?_⟩
 ·rcases List.mem_append.1 hv with h|h
  ·exact h1.one v h
  ·exact h2.one v h
 ·rw[List.getElem?_append]at hv hz
  rw[<-h1.len]at hz;split at hv
  ·rename_i hi
   rw[if_pos hi]at hz;exact h1.rel i v z hv hz
  ·rename_i hi
   rw[if_neg hi]at hz;exact h2.rel _ v z hv hz
theorem aM1{w:World}{G:Gh}{a:List Value}{x:List V}(h:RvL w G a x)(n:Nat):RvL w G (a.take n) (x.take n):=by
 refine⟨by rw[List.length_take,List.length_take,h.len],fun v hv=>h.one v (List.mem_of_mem_take hv),fun i v z hv hz=>?_⟩
 rw[List.getElem?_take]at hv hz;split at hv
 ·rename_i hi
  rw[if_pos hi]at hz;exact h.rel i v z hv hz
 ·cases hv
theorem aL4{w:World}{G:Gh}{a:List Value}{x:List V}(h:RvL w G a x)(n:Nat):RvL w G (a.drop n) (x.drop n):=by
 refine⟨by rw[List.length_drop,List.length_drop,h.len],fun v hv=>h.one v (List.mem_of_mem_drop hv),fun i v z hv hz=>?_⟩
 rw[List.getElem?_drop]at hv hz;exact h.rel _ v z hv hz
theorem xW{l:List V}{sz i:Nat}(hz:∀x∈l,x.cells.length=sz)(hi:i<=l.length):(l.flatMap V.cells).take (i*sz)=(l.take i).flatMap V.cells/\(l.flatMap V.cells).drop (i*sz)=(l.drop i).flatMap V.cells:=by
 have e:l.flatMap V.cells=(l.take i).flatMap V.cells++(l.drop i).flatMap V.cells:=by rw[<-List.flatMap_append,List.take_append_drop]
 have hl:((l.take i).flatMap V.cells).length=i*sz:=by
  rw[Go.Ab.sH (sz:=sz) (fun x hx=>hz x (List.mem_of_mem_take hx)),List.length_take,Nat.min_eq_left hi]
 rw[e,<-hl];exact⟨List.take_left,List.drop_left⟩
theorem jM{w w':World}{G:Gh}{b n c:Nat}{E:TypeId}{X:Array Value}{L:List V}(hE:E<T.n E)(hp:bM L)(hlen:L.length=n)(hz:∀x∈L,x.cells.length=(T.row E).size)
 (hX:RvL w G (X.toList.take (n*(T.row E).size)) (L.flatMap V.cells))(hb:w'.heap[b]? =some (.cells X E (0,0)))(hs:X.size=c*(T.row E).size)(hnc:n<=c)(hc:c<=maxLen)
 (h2:∀b,G.O b≠ .ext->b<w.heap.size)(h3:∀b i,G.O b≠ .bx i)(hb':G.O b= .ar 0\/w.heap.size<=b)
 (hk:∀q,q<w.heap.size->q≠b->w'.heap[q]? =w.heap[q]?)(hsz:w.heap.size<=w'.heap.size)(h4:w'.os=w.os)(h5:w'.tape=w.tape)(h6:w'.output=w.output):
 ∃v G',Ending.returned (.slice (some ⟨b,0,none⟩) n c)= .returned v/\Rr T w' G' v (.own E L)/\
  (∀b,G.O b= .fz->G'.O b= .fz)/\(∀b,G'.O b≠ .ext->b<w'.heap.size)/\(∀b i,G'.O b≠ .bx i)/\
  (∀b,G'.O b≠ .ext->(G.O b= .fz/\G'.O b= .fz)\/w.heap.size<=b\/∃j,G.O b= .ar j)/\
  (∀b,b<w.heap.size->(∀j,G.O b≠ .ar j)->w'.heap[b]? =w.heap[b]?)/\
  w.heap.size<=w'.heap.size/\w'.os=w.os/\w'.tape=w.tape/\w'.output=w.output:=by
 have hfz:∀q,G.O q= .fz->q≠b:=by
  rintro q hq rfl;rcases hb' with h|h
  ·rw[h]at hq;cases hq
  ·have:=h2 q AO
   omega
 have hkp:Keep w w' G {G with O:=fun q=>if q=b then .ar 0 else G.O q}:=⟨fun q hq=>by simp[hfz q hq,hq],fun q hq=>hk q (h2 q AO) (hfz q hq)⟩
 have hpf:bM (L.flatMap V.cells):=aH.2 fun y hy=>by
  exact O5
 subst hlen;refine⟨_,{G with O:=fun q=>if q=b then .ar 0 else G.O q},rfl,⟨hE,hp, .inr ⟨b,c,X,rfl,Ae,hb,hnc,hc,hs,hz,hX.keep hkp hpf (fun _ h=>h.elim) (fun _ _ h=>h.elim)⟩⟩,hkp.fz,fun q hq=>?_,fun q i hq=>?_,fun q hq=>?_,fun q h1 h7=>?_,hsz,h4,h5,h6⟩
 ·by_cases e:q=b
  ·subst e;exact(Array.getElem?_eq_some_iff.1 hb).1
  ·simp only[e,if_false]at hq
   exact Nat.lt_of_lt_of_le (h2 q hq) hsz
 ·by_cases e:q=b
  ·subst e;simp at hq
  ·simp only[e,if_false]at hq
   exact h3 q i hq
 ·by_cases e:q=b
  ·subst e
   rcases hb' with h|h
   ·exact .inr (.inr ⟨0,h⟩)
   ·exact .inr (.inl h)
  ·simp only[e,if_false]at hq⊢
   cases hO:G.O q with
   |ext=>exact absurd hO hq
   |fz=>exact .inl ⟨rfl,rfl⟩
   |bx i=>exact absurd hO (h3 q i)
   |ar j=>exact .inr (.inr ⟨j,rfl⟩)
 ·refine hk q h1 ?_
  rintro rfl;rcases hb' with h|h
  ·exact h7 0 h
  ·omega
theorem bY9{w:World}{G:Gh}{k:Nat}{u:Value}{E:TypeId}{x:V}(h:gJ T w G k u E [x]):∃(b c:Nat) (cur:Array Value),u= .slice (some ⟨b,0,none⟩) 1 c/\G.O b= .ar k/\w.heap[b]? =some (.cells cur E (0,0))/\(T.row E).size<=cur.size/\
 x.cells.length=(T.row E).size/\RvL w G (cur.toList.take (T.row E).size) x.cells:=by
 rcases h with⟨_,h⟩|⟨b,c,cur,h1,h2,h3,h4,h5,h6,h7,h8⟩
 ·cases h
 ·refine⟨b,c,cur,h1,h2,h3,?_,h7 x Ae,?_⟩
  ·rw[h6]
   exact Nat.le_mul_of_pos_left _ h4
  ·have h9:=h8
   simp only[List.length_singleton,Nat.one_mul,List.flatMap_cons,List.flatMap_nil,List.append_nil]at h9;exact h9
theorem aN3{w:World}{G:Gh}{j:Nat}{v:Value}{u:Value}(h:Rb T w G j v (.lit u)):v=u:=h.2.bH
theorem arr3{cs:Array Value}(h:cs.size=3):∃a b c,cs= #[a,b,c] :=by
 obtain⟨l⟩:=cs
 match l,h with
 | [a,b,c],_=>exact⟨a,b,c,rfl⟩
end Go.Proofs.Led
