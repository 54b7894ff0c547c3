/-
  slices.Insert at elements of any number of cells: what does not look at the code.
-/
import Derived.Test.YtdjgbagnajikeaaGreatDoorB8
import Derived.Shelf.Spec.SlicesInsert
set_option linter.unusedVariables false
set_option linter.unusedSimpArgs false
set_option maxRecDepth 1000000
set_option maxHeartbeats 4000000
noncomputable section
namespace Go.Proofs.Led
open Go Go.Proofs Go.Ab Go.RowKit Go.Lib
structure ElT(S E Z B:Nat):Prop where
 u:Tryz.prog.underlying S=some (.slice E)
 t:E<T.n E
 s:(T.row E).size=Z
 y:(T.row E).bytes=B
 b:B<=1000
 z:0<Z
section
variable{S E Z B:Nat}
theorem ElT.info(h:ElT S E Z B):∃i z,Tryz.prog.info? E=some i/\i.size=Z/\i.bytes=B/\i.zero=some z/\z.cells.size=Z:=by
 obtain⟨i,h1,h2,h3,z,hz,hzc,_,hzl,_,_⟩:=(uG E h.t).info;exact⟨i,z,h1,h2.trans h.s,h3.trans h.y,hz,by rw[<-Array.length_toList,hzc,hzl,h.s]⟩
theorem cell_seg{w:World}{b o n j:Nat}{X:Array Value}{v:Value}(h:w.heap[b]? =some (.cells X E (0,0)))(hj:((X.toList.drop o).take n)[j]? =some v):w.cell? ((⟨b,o,none⟩:Addr).add j)=some v:=by
 rw[Addr.add_lit];rw[List.getElem?_take]at hj;split at hj
 ·rw[List.getElem?_drop,Array.getElem?_toList]at hj
  simp only[World.cell?,h];simpa using hj
 ·cases hj
theorem cell_take{w:World}{b n j:Nat}{X:Array Value}{v:Value}(h:w.heap[b]? =some (.cells X E (0,0)))(hj:(X.toList.take n)[j]? =some v):w.cell? ((⟨b,0,none⟩:Addr).add j)=some v:=
 cell_seg (o:=0) h hj
theorem mulZ{a b:Nat}(h:a<=b):a*Z<=b*Z/\(b-a)*Z=b*Z-a*Z:=⟨Nat.mul_le_mul_right Z h,Nat.sub_mul b a Z⟩
theorem ElT.cp(h:ElT S E Z B){W:World}{b sb:Nat}{X Y:Array Value}{o1 o2 l1 l2 k:Nat}(ty:TypeId)(dc sc:Nat)(hW:W.heap[b]? =some (.cells X E (0,0)))(hS:W.heap[sb]? =some (.cells Y E (0,0)))(hm:Nat.min l2 l1=k)
 (hY:o2+k*Z<=Y.size)(hX:o1+k*Z<=X.size)(h1:∀v∈(Y.toList.drop o2).take (k*Z),v.oneCell'=true):
 (Builtin.copy_ #[S,S] ty #[.slice (some ⟨b,o1,none⟩) l1 dc, .slice (some ⟨sb,o2,none⟩) l2 sc]).run Tryz.prog W= .ok (goInt k) (W.setRow b (lay X o1 ((Y.toList.drop o2).take (k*Z)))):=by
 obtain⟨i,z,a1,a2,_⟩:=h.info;have hl:((Y.toList.drop o2).take (k*Z)).length=k*Z:=by rw[List.length_take,List.length_drop,Array.length_toList];omega
 exact iW W S S ty E b o1 l1 dc ⟨sb,o2,none⟩ l2 sc Z k X E _ h.u (by rw[a1];simp[a2]) hW hm hl (fun j v hj=>cell_seg hS hj) (by rw[hl];exact hX) h1
theorem ElT.cp1(h:ElT S E Z B){W:World}{b vb:Nat}{X Y:Array Value}{o1 l1:Nat}(ty:TypeId)(dc vc:Nat)(hW:W.heap[b]? =some (.cells X E (0,0)))(hS:W.heap[vb]? =some (.cells Y E (0,0)))(hm:1<=l1)
 (hY:Z<=Y.size)(hX:o1+Z<=X.size)(h1:∀v∈Y.toList.take Z,v.oneCell'=true):
 (Builtin.copy_ #[S,S] ty #[.slice (some ⟨b,o1,none⟩) l1 dc, .slice (some ⟨vb,0,none⟩) 1 vc]).run Tryz.prog W= .ok (goInt (1:Nat)) (W.setRow b (lay X o1 (Y.toList.take Z))):=by
 have:=h.cp (o1:=o1) (o2:=0) (k:=1) ty dc vc hW hS (Nat.min_eq_left hm) Aa Aa (by rw[Nat.one_mul];exact h1)
 rw[Nat.one_mul]at this;exact this
theorem ElT.room(h:ElT S E Z B){b n c vb vc:Nat}{cur vcur:Array Value}{w:World}(hroom:n+1<=c)(hb:w.heap[b]? =some (.cells cur E (0,0)))(hv:w.heap[vb]? =some (.cells vcur E (0,0)))(hbs:cur.size=c*Z)(hvs:Z<=vcur.size)
 (h2:∀v∈vcur.toList.take Z,v.oneCell'=true)(ty:TypeId):
 (Builtin.append_ #[S,S] ty #[.slice (some ⟨b,0,none⟩) n c, .slice (some ⟨vb,0,none⟩) 1 vc]).run Tryz.prog w= .ok (.slice (some ⟨b,0,none⟩) (n+1) c) (w.setRow b (lay cur (n*Z) (vcur.toList.take Z))):=by
 obtain⟨i0,z,hi0,hz0,hy0,_⟩:=h.info;have hl3:(vcur.toList.take Z).length=Z:=Cc;have hm:=(mulZ (Z:=Z) hroom).1
 rw[Nat.succ_mul]at hm;have h:=run_append_room (P:=Tryz.prog) w S ty E i0 h.u hi0 b n c cur hb ⟨vb,0,none⟩ 1 vc (vcur.toList.take Z) (by rw[hl3,hz0,Nat.one_mul]) (fun j v hj=>cell_take hv hj) h2 hroom (by rw[hl3,hz0,hbs];omega)
 rw[hz0]at h;exact h
theorem ElT.fits(h:ElT S E Z B)(w:World){n c:Nat}(hroom:c<n)(hbig:n<=1000000001):Builtin.nextslicecap n c*B<=281474976710656/\n<=grownCap w n c E/\grownCap w n c E<=maxLen:=
 ⟨growslice_fits hroom (Nat.le_trans (Nat.mul_le_mul hbig h.b) Ah),grownCap_ge w n c E,grownCap_le_maxLen w n c E BI⟩
theorem ElT.app(h:ElT S E Z B)(base:Option Addr)(n c vb vc:Nat)(cs:List Value)(vcur:Array Value)(w:World)(hnc:n<=c)(hroom:c<n+1)(hbig:n<=1000000000)
 (hn:base=none->n=0/\c=0)(hb:∀a,base=some a->∀j v,cs[j]? =some v->w.cell? (a.add j)=some v)(hcl:cs.length=n*Z)
 (hv:w.heap[vb]? =some (.cells vcur E (0,0)))(hvs:Z<=vcur.size):∃(c':Nat) (z:Array Value),n+1<=c'/\c'<=maxLen/\z.size=(c'- (n+1))*Z/\∀ty,
 (Builtin.append_ #[S,S] ty #[.slice base n c, .slice (some ⟨vb,0,none⟩) 1 vc]).run Tryz.prog w= .ok (.slice (some ⟨w.heap.size,0,none⟩) (n+1) c') (w.drew.alloc (.cells (cs.toArray++(vcur.toList.take Z).toArray++z) E)):=by
 obtain⟨i0,z,hi0,hz0,hy0,hz,hzs⟩:=h.info;obtain⟨hfit,hge,hle⟩:=h.fits w hroom Aa;have hB:=h.b;have hl2:(vcur.toList.take Z).length=1*i0.size:=by rw[hz0,List.length_take,Array.length_toList];omega
 refine⟨grownCap w (n+1) c E,Builtin.zeroCells z.cells (grownCap w (n+1) c E- (n+1)),hge,hle,by simp[Builtin.zeroCells,hzs],fun ty=>?_⟩
 cases base with
 |none=>
  obtain⟨rfl,rfl⟩:=hn rfl;have e0:cs=[] :=List.length_eq_zero_iff.1 (by simp[hcl])
  subst e0;have h:=run_append_nil (P:=Tryz.prog) w S ty E i0 z h.u hi0 hz ⟨vb,0,none⟩ 1 vc _ hl2 (fun j v hj=>cell_take hv hj) Aa Aa (by rw[hy0];omega)
  rw[h];simp
 |some a=>
  exact run_append_grow (P:=Tryz.prog) w S ty E i0 z h.u hi0 hz a n c cs (by rw[hz0];exact hcl) (hb a rfl) ⟨vb,0,none⟩ 1 vc _ hl2 (fun j v hj=>cell_take hv hj) hroom Aa (by rw[hy0];exact hfit)
theorem ElT.zeros(h:ElT S E Z B){b n c i:Nat}{cur:Array Value}{w:World}(hi:i<n)(hnc:n<=c)(hroom:c<n+1)(hbig:n<=1000000000)(hb:w.heap[b]? =some (.cells cur E (0,0)))(hbs:cur.size=c*Z):
 ∃(c':Nat) (R:Array Value),n+1<=c'/\c'<=maxLen/\R.size=c'*Z/\R.toList.take (i*Z)=cur.toList.take (i*Z)/\∀ty,
  (Builtin.append_ #[S,3] ty #[.slice (some ⟨b,0,none⟩) i c, .int .i64 ((n:Int)+1- (i:Int))]).run Tryz.prog w= .ok (.slice (some ⟨w.heap.size,0,none⟩) (n+1) c') (w.drew.alloc (.cells R E)):=by
 obtain⟨i0,z,hi0,hz0,hy0,hz,hzs⟩:=h.info;obtain⟨hfit,hge,hle⟩:=h.fits w hroom Aa;have hkk:(n:Int)+1- (i:Int)=((n+1-i:Nat):Int):=Aa;have hik:i+(n+1-i)=n+1:=Aa
 have m1:=(mulZ (Z:=Z) (show i<=c from Aa)).1
 have hold:(Builtin.firstCells i0.size i (.slice (some ⟨b,0,none⟩) i c)).run Tryz.prog w.drew= .ok (cur.toList.take (i*Z)).toArray w.drew:=by
  rw[hz0];exact run_firstCells_some w.drew Z i ⟨b,0,none⟩ i c (cur.toList.take (i*Z)) (by rw[List.length_take,Array.length_toList,hbs];omega) (fun j v hj=>cell_take (w:=w.drew) hb hj)
 refine⟨grownCap w (n+1) c E,(cur.toList.take (i*Z)).toArray++Builtin.zeroCells z.cells (n+1-i)++Builtin.zeroCells z.cells (grownCap w (n+1) c E- (n+1)),hge,hle,?_,?_,fun ty=>?_⟩
 ·have m2:=mulZ (Z:=Z) (show i<=n+1 from Aa)
  have m3:=mulZ (Z:=Z) hge;simp[Builtin.zeroCells,hzs,hbs,m2.2,m3.2];rw[Nat.min_eq_left Aa];omega
 ·have hl:(cur.toList.take (i*Z)).length=i*Z:=by rw[List.length_take,Array.length_toList,hbs];omega
  rw[Array.toList_append,Array.toList_append,List.append_assoc,List.take_append_of_le_length (by rw[hl];exact Nat.le_refl _)]
  exact List.take_of_length_le (by rw[hl];exact Nat.le_refl _)
 ·have h:=Lib.run_append_grow_zeros w S 3 ty E i0 _ .i64 .i64 h.u Tryz.underlying3 hi0 hz (some ⟨b,0,none⟩) i c (cur.toList.take (i*Z)) hold (n+1-i) Aa (by rw[hz0];exact h.z) Aa Aa (by rw[hy0];exact Nat.le_trans (Nat.mul_le_mul (by omega:n+1-i<=1000000001) h.b) (by decide)) (by rw[hy0,hik];exact hfit)
  rw[hik]at h;rw[hkk,h]
theorem seg_mem{cur:Array Value}{i n:Nat}{v:Value}(hi:i<=n)(hv:v∈(cur.toList.drop (i*Z)).take ((n-i)*Z)):v∈cur.toList.take (n*Z):=by
 have:(cur.toList.drop (i*Z)).take ((n-i)*Z)=(cur.toList.take (n*Z)).drop (i*Z):=by rw[List.drop_take,(mulZ hi).2]
 rw[this]at hv;exact List.mem_of_mem_drop hv
theorem ElT.shift(h:ElT S E Z B){b n c i vb vc:Nat}{cur vcur:Array Value}(hi:i<n)(hroom:n+1<=c)(hbs:cur.size=c*Z)(hvs:Z<=vcur.size)
 (h1:∀v∈cur.toList.take (n*Z),v.oneCell'=true)(h2:∀v∈vcur.toList.take Z,v.oneCell'=true):
 ∃X1,X1=lay cur ((i+1)*Z) ((cur.toList.drop (i*Z)).take ((n-i)*Z))/\
 (∀(W:World) (o1 o2 l1 l2:Nat) ty dc sc,W.heap[b]? =some (.cells cur E (0,0))->o1=(i+1)*Z->o2=i*Z->Nat.min l2 l1=n-i->
  (Builtin.copy_ #[S,S] ty #[.slice (some ⟨b,o1,none⟩) l1 dc, .slice (some ⟨b,o2,none⟩) l2 sc]).run Tryz.prog W= .ok (goInt (n-i:Nat)) (W.setRow b X1))/\
 ∀(W:World) (o1 l1:Nat) ty dc,W.heap[b]? =some (.cells X1 E (0,0))->W.heap[vb]? =some (.cells vcur E (0,0))->o1=i*Z->1<=l1->
  (Builtin.copy_ #[S,S] ty #[.slice (some ⟨b,o1,none⟩) l1 dc, .slice (some ⟨vb,0,none⟩) 1 vc]).run Tryz.prog W= .ok (goInt (1:Nat)) (W.setRow b (lay X1 (i*Z) (vcur.toList.take Z))):=by
 have m1:=mulZ (Z:=Z) (Nat.le_of_lt hi);have m2:=(mulZ (Z:=Z) hroom).1
 have m3:=(mulZ (Z:=Z) (show i+1<=n+1 from Aa)).1;have e3:(i+1)*Z=i*Z+Z:=Nat.succ_mul i Z
 have e4:(n+1)*Z=n*Z+Z:=Nat.succ_mul n Z;have hl:((cur.toList.drop (i*Z)).take ((n-i)*Z)).length=(n-i)*Z:=by rw[List.length_take,List.length_drop,Array.length_toList,hbs,m1.2];omega
 refine⟨_,rfl,fun W o1 o2 l1 l2 ty dc sc hW e1 e2 hm=>?_,fun W o1 l1 ty dc hW hW2 e1 hm=>?_⟩
 ·subst e1 e2
  exact h.cp ty dc sc hW hW hm Gn Gn (fun v hv=>h1 v (seg_mem (Nat.le_of_lt hi) hv))
 ·subst e1
  exact h.cp1 ty dc vc hW hW2 hm hvs (by rw[lay_size (by rw[hl,hbs,m1.2];omega),hbs];omega) h2
theorem ElT.grow(h:ElT S E Z B){b n c c' i vb vc N:Nat}{cur vcur R:Array Value}(hi:i<n)(hnc:n<=c)(hge:n+1<=c')(hbs:cur.size=c*Z)(hRs:R.size=c'*Z)(hvs:Z<=vcur.size)
 (h1:∀v∈cur.toList.take (n*Z),v.oneCell'=true)(h2:∀v∈vcur.toList.take Z,v.oneCell'=true):
 ∃X1,X1=lay R (i*Z) (vcur.toList.take Z)/\
 (∀(W:World) (o1 l1:Nat) ty dc,W.heap[N]? =some (.cells R E (0,0))->W.heap[vb]? =some (.cells vcur E (0,0))->o1=i*Z->1<=l1->
  (Builtin.copy_ #[S,S] ty #[.slice (some ⟨N,o1,none⟩) l1 dc, .slice (some ⟨vb,0,none⟩) 1 vc]).run Tryz.prog W= .ok (goInt (1:Nat)) (W.setRow N X1))/\
 ∀(W:World) (o1 o2 l1 l2:Nat) ty dc sc,W.heap[N]? =some (.cells X1 E (0,0))->W.heap[b]? =some (.cells cur E (0,0))->o1=(i+1)*Z->o2=i*Z->Nat.min l2 l1=n-i->
  (Builtin.copy_ #[S,S] ty #[.slice (some ⟨N,o1,none⟩) l1 dc, .slice (some ⟨b,o2,none⟩) l2 sc]).run Tryz.prog W= .ok (goInt (n-i:Nat)) (W.setRow N (lay X1 ((i+1)*Z) ((cur.toList.drop (i*Z)).take ((n-i)*Z)))):=by
 have m1:=mulZ (Z:=Z) (Nat.le_of_lt hi);have m2:=(mulZ (Z:=Z) hge).1
 have m3:=(mulZ (Z:=Z) (show i+1<=n+1 from Aa)).1;have m4:=(mulZ (Z:=Z) hnc).1
 have e3:(i+1)*Z=i*Z+Z:=Nat.succ_mul i Z;have e4:(n+1)*Z=n*Z+Z:=Nat.succ_mul n Z
 have hl:(vcur.toList.take Z).length=Z:=Cc;refine⟨_,rfl,fun W o1 l1 ty dc hW hW2 e1 hm=>?_,fun W o1 o2 l1 l2 ty dc sc hW hW2 e1 e2 hm=>?_⟩
 ·subst e1
  exact h.cp1 ty dc vc hW hW2 hm hvs (by rw[hRs];omega) h2
 ·subst e1 e2
  exact h.cp ty dc sc hW hW2 hm Gn (by rw[lay_size (by rw[hl,hRs];omega),hRs,m1.2];omega) (fun v hv=>h1 v (seg_mem (Nat.le_of_lt hi) hv))
end
def OvT(F E:Nat):Prop:=∀(w:World) (b vb ob lb cb vc:Nat) (cur vcur:Array Value),vb≠b->w.heap[b]? =some (.cells cur E (0,0))->w.heap[vb]? =some (.cells vcur E (0,0))->cur.size≠0->
 (callFunc F #[.slice (some ⟨vb,0,none⟩) 1 vc, .slice (some ⟨b,ob,none⟩) lb cb]).run Tryz.prog w= .ok (.value (.bool false)) w
def InsShift(F E Z:Nat):Prop:=∀(b n c i vb vc:Nat) (cur vcur:Array Value) (w:World),i<n->n+1<=c->c<=9223372036854775807->vb≠b->
 w.heap[b]? =some (.cells cur E (0,0))->w.heap[vb]? =some (.cells vcur E (0,0))->cur.size=c*Z->Z<=vcur.size->(∀v∈cur.toList.take (n*Z),v.oneCell'=true)->(∀v∈vcur.toList.take Z,v.oneCell'=true)->
 Calls Tryz.prog F #[.slice (some ⟨b,0,none⟩) n c, .int .i64 i, .slice (some ⟨vb,0,none⟩) 1 vc] w fun e w'=>
  e= .returned (.slice (some ⟨b,0,none⟩) (n+1) c)/\w'=(w.drew.setRow b (lay cur ((i+1)*Z) ((cur.toList.drop (i*Z)).take ((n-i)*Z)))).setRow b (lay (lay cur ((i+1)*Z) ((cur.toList.drop (i*Z)).take ((n-i)*Z))) (i*Z) (vcur.toList.take Z))
def InsEnd(F E Z:Nat):Prop:=∀(b n c vb vc:Nat) (cur vcur:Array Value) (w:World),n+1<=c->c<=9223372036854775807->
 w.heap[b]? =some (.cells cur E (0,0))->w.heap[vb]? =some (.cells vcur E (0,0))->cur.size=c*Z->Z<=vcur.size->(∀v∈vcur.toList.take Z,v.oneCell'=true)->
 Calls Tryz.prog F #[.slice (some ⟨b,0,none⟩) n c, .int .i64 n, .slice (some ⟨vb,0,none⟩) 1 vc] w fun e w'=>
  e= .returned (.slice (some ⟨b,0,none⟩) (n+1) c)/\w'=w.setRow b (lay cur (n*Z) (vcur.toList.take Z))
def InsEndG(F S E:Nat):Prop:=∀(base:Option Addr) (n c c' vb vc:Nat) (X:Array Value) (w:World),n<=c->c<n+1->n<=1000000000->(base=none->n=0/\c=0)->
 (∀ty,(Builtin.append_ #[S,S] ty #[.slice base n c, .slice (some ⟨vb,0,none⟩) 1 vc]).run Tryz.prog w= .ok (.slice (some ⟨w.heap.size,0,none⟩) (n+1) c') (w.drew.alloc (.cells X E)))->
 Calls Tryz.prog F #[.slice base n c, .int .i64 n, .slice (some ⟨vb,0,none⟩) 1 vc] w fun e w'=>e= .returned (.slice (some ⟨w.heap.size,0,none⟩) (n+1) c')/\w'=w.drew.alloc (.cells X E)
def InsGrow(F S E Z:Nat):Prop:=∀(b n c c' i vb vc:Nat) (cur vcur R:Array Value) (w:World),i<n->n<=c->c<n+1->n<=1000000000->n+1<=c'->c'<=maxLen->
 w.heap[b]? =some (.cells cur E (0,0))->w.heap[vb]? =some (.cells vcur E (0,0))->cur.size=c*Z->R.size=c'*Z->Z<=vcur.size->(∀v∈cur.toList.take (n*Z),v.oneCell'=true)->(∀v∈vcur.toList.take Z,v.oneCell'=true)->
 (∀ty,(Builtin.append_ #[S,3] ty #[.slice (some ⟨b,0,none⟩) i c, .int .i64 ((n:Int)+1- (i:Int))]).run Tryz.prog w= .ok (.slice (some ⟨w.heap.size,0,none⟩) (n+1) c') (w.drew.alloc (.cells R E)))->
 Calls Tryz.prog F #[.slice (some ⟨b,0,none⟩) n c, .int .i64 i, .slice (some ⟨vb,0,none⟩) 1 vc] w fun e w'=>e= .returned (.slice (some ⟨w.heap.size,0,none⟩) (n+1) c')/\
  w'=(((w.alloc (.cells R E)).drew.setRow w.heap.size (lay R (i*Z) (vcur.toList.take Z))).drew).setRow w.heap.size (lay (lay R (i*Z) (vcur.toList.take Z)) ((i+1)*Z) ((cur.toList.drop (i*Z)).take ((n-i)*Z)))
theorem ElT.nw{S E Z B:Nat}(h:ElT S E Z B)(w:World)(R:Array Value):((w.alloc (.cells R E)).drew).heap[w.heap.size]? =some (.cells R E (0,0))/\∀q,q<w.heap.size->((w.alloc (.cells R E)).drew).heap[q]? =w.heap[q]? :=
 ⟨Array.getElem?_push_size,fun q hq=>by
  show(w.heap.push _)[q]? =_;rw[Array.getElem?_push_lt hq,Array.getElem?_eq_getElem hq]⟩
end Go.Proofs.Led
namespace Go.Proofs.Led
open Go Go.Proofs Go.Ab
theorem ins_gen{F S E Z B:Nat}(el:ElT S E Z B)(hF:callable Tryz.prog F=true)(hs1:InsShift F E Z)(hs2:InsEnd F E Z)(hs3:InsEndG F S E)(hs4:InsGrow F S E Z)
 (l:List V)(x:V)(i:Nat)(hi:i<=l.length)(hl:l.length<=1000000000):Sp F [.own E l,I i, .own E [x]] (.own E (l.take i++x::l.drop i)):=by
 have eZ:(T.row E).size=Z:=el.s;refine⟨hF,fun w G cs h1 h2 h3 h4 h5=>?_⟩;obtain⟨v0,v1,v2,rfl⟩:=arr3 h1;have r0:Rb T w G 0 v0 (.own E l):=h4 0 v0 _ rfl rfl
 have r1:v1= .int .i64 i:=aN3 (h4 1 v1 (I i) rfl rfl);have r2:Rb T w G 2 v2 (.own E [x]):=h4 2 v2 _ rfl rfl
 subst r1;obtain⟨hE,hpl,ho⟩:=r0;obtain⟨_,hpx,hx⟩:=r2;obtain⟨vb,vc,vcur,rfl,hvO,hv,hvs,hxl,hxr⟩:=bY9 hx;rw[eZ]at hvs hxr;have hxl':=hxl;rw[eZ]at hxl';have hpx':x.pure:=aH.1 hpx x Ae
 have hpL:bM (l.take i++x::l.drop i):=aH.2 fun y hy=>by
  rcases List.mem_append.1 hy with h|h
  ·exact aH.1 hpl y (List.mem_of_mem_take h)
  ·rcases List.mem_cons.1 h with rfl|h
   ·exact hpx'
   ·exact aH.1 hpl y (List.mem_of_mem_drop h)
 have hlen:(l.take i++x::l.drop i).length=l.length+1:=A8;have hone:∀v∈vcur.toList.take Z,v.oneCell'=true:=hxr.one
 have hvl:(vcur.toList.take Z).length=Z:=Cc;have hvw:vb<w.heap.size:=(Array.getElem?_eq_some_iff.1 hv).1
 have hflat:(l.take i++x::l.drop i).flatMap V.cells=(l.take i).flatMap V.cells++x.cells++(l.drop i).flatMap V.cells:=by simp[List.flatMap_append,List.flatMap_cons]
 have ep:i*Z+(vcur.toList.take Z).length=(i+1)*Z:=by rw[hvl,Nat.succ_mul]
 obtain⟨mi,mn⟩:=mulZ (Z:=Z) hi;rcases ho with⟨hn0,rfl⟩|⟨b,c,cur,rfl,hO,hb,hlc,hcm,hcs,hzl,hrl⟩
 ·have hi0:i=0:=by simpa using hi
  subst hi0
  obtain⟨base,rfl⟩:∃base,v0= .slice base 0 0:=by
   rcases hn0 with rfl|⟨a,rfl⟩
   ·exact⟨none,rfl⟩
   ·exact⟨some a,rfl⟩
  obtain⟨c',z,hc1,hc2,hzz,hap⟩:=el.app base 0 0 vb vc [] vcur w (Nat.le_refl _) Aa Aa (fun _=>⟨rfl,rfl⟩) (fun a h j v hj=>by simp at hj) (Nat.zero_mul Z).symm hv hvs
  refine(hs3 base 0 0 c' vb vc _ w (Nat.le_refl _) Aa Aa (fun _=>⟨rfl,rfl⟩) hap).mono ?_;rintro e w' ⟨rfl,rfl⟩;have hz':∀y∈([x] :List V),y.cells.length=(T.row E).size:=fun y hy=>by rw[List.mem_singleton.1 hy];exact hxl
  have mc:=mulZ (Z:=Z) hc1;refine jM (L:=[x]) (n:=0+1) hE hpx rfl hz' ?_ Array.getElem?_push_size ?_ hc1 hc2 h2 h3 (.inr (Nat.le_refl _)) (fun q hq _=>?_) Dt rfl rfl rfl
  ·rw[eZ]
   have e2:((([] :List Value).toArray++(vcur.toList.take Z).toArray++z).toList.take ((0+1)*Z))=vcur.toList.take Z:=by
    simp only[Array.toList_append,List.nil_append];rw[List.take_append_of_le_length (by rw[hvl];omega)]
    exact List.take_of_length_le (by rw[hvl];omega)
   rw[e2];simpa using hxr
  ·rw[eZ]
   simp only[Array.size_append,List.size_toArray,hvl,hzz,List.length_nil];rw[mc.2];omega
  ·exact JQ
 ·rw[eZ]at hcs hrl
  have hcur0:cur.toList.length=c*Z:=FD;have hzl':=hzl
  rw[eZ]at hzl';have hbw:b<w.heap.size:=(Array.getElem?_eq_some_iff.1 hb).1;have hne:vb≠b:=by rintro rfl;rw[hvO]at hO;cases hO
  have hz':∀y∈l.take i++x::l.drop i,y.cells.length=(T.row E).size:=fun y hy=>by
   rcases List.mem_append.1 hy with h|h
   ·exact hzl y (List.mem_of_mem_take h)
   ·rcases List.mem_cons.1 h with rfl|h
    ·exact hxl
    ·exact hzl y (List.mem_of_mem_drop h)
  obtain⟨f1,f2⟩:=xW hzl' hi;have mlc:=(mulZ (Z:=Z) hlc).1
  have hA:RvL w G (cur.toList.take (i*Z)) ((l.take i).flatMap V.cells):=by
   have:=aM1 hrl (i*Z);rw[List.take_take,Nat.min_eq_left mi,f1]at this;exact this
  have hM:RvL w G ((cur.toList.drop (i*Z)).take ((l.length-i)*Z)) ((l.drop i).flatMap V.cells):=by
   have:=aL4 hrl (i*Z);rw[f2,List.drop_take,<-mn]at this;exact this
  have hml:((cur.toList.drop (i*Z)).take ((l.length-i)*Z)).length=(l.length-i)*Z:=by rw[List.length_take,List.length_drop,hcur0,mn];omega
  have hX:RvL w G (cur.toList.take (i*Z)++vcur.toList.take Z++(cur.toList.drop (i*Z)).take ((l.length-i)*Z)) ((l.take i++x::l.drop i).flatMap V.cells):=by
   rw[hflat];exact oH (oH hA hxr) hM
  have et:i*Z+(vcur.toList.take Z).length+((cur.toList.drop (i*Z)).take ((l.length-i)*Z)).length=(l.length+1)*Z:=by rw[hml,hvl,mn,Nat.succ_mul];omega
  have hc63:c<=9223372036854775807:=Fa;have et2:(l.length+1)*Z=l.length*Z+(vcur.toList.take Z).length:=by rw[hvl,Nat.succ_mul]
  by_cases hroom:l.length+1<=c
  ·have mr:=(mulZ (Z:=Z) hroom).1
   by_cases hin:i<l.length
   ·refine(hs1 b l.length c i vb vc cur vcur w hin hroom hc63 hne hb hv hcs hvs hrl.one hone).mono ?_
    rintro e w' ⟨rfl,rfl⟩;have hs1:=lay_size (cur:=cur) (o:=(i+1)*Z) (vs:=(cur.toList.drop (i*Z)).take ((l.length-i)*Z)) (by rw[<-ep,hcs];omega)
    refine jM hE hpL hlen hz' (X:=lay (lay cur ((i+1)*Z) ((cur.toList.drop (i*Z)).take ((l.length-i)*Z))) (i*Z) (vcur.toList.take Z)) ?_ (setRow_heap _ b _ _ _ _ (setRow_heap w.drew b cur _ _ _ hb)) ?_ hroom hcm h2 h3 (.inl hO) (fun q hq hqb=>?_) ?_ rfl rfl rfl
    ·rw[eZ,<-et,<-ep,layA (by rw[et,hcs];exact mr)]
     exact hX
    ·rw[lay_size (by rw[hs1,hcs];omega),hs1,hcs,eZ]
    ·rw[setRow_other _ b q _ hqb,setRow_other _ b q _ hqb];rfl
    ·rw[size_setRow,size_setRow];exact Nat.le_refl _
   ·have hin':i=l.length:=by omega
    subst hin';refine(hs2 b l.length c vb vc cur vcur w hroom hc63 hb hv hcs hvs hone).mono ?_;rintro e w' ⟨rfl,rfl⟩;refine jM hE hpL hlen hz' (X:=lay cur (l.length*Z) (vcur.toList.take Z)) ?_ (setRow_heap w b cur _ _ _ hb) ?_ hroom hcm h2 h3 (.inl hO) (fun q hq hqb=>?_) ?_ rfl rfl rfl
    ·rw[eZ]
     have e0:(cur.toList.drop (l.length*Z)).take ((l.length-l.length)*Z)=[] :=List.length_eq_zero_iff.1 (by rw[hml];omega)
     rw[e0,List.append_nil]at hX;rw[et2,layC (by rw[<-et2,hcs];exact mr)]
     exact hX
    ·rw[lay_size (by rw[<-et2,hcs];exact mr),hcs,eZ]
    ·rw[setRow_other _ b q _ hqb]
    ·rw[size_setRow];exact Nat.le_refl _
  ·have hroom':c<l.length+1:=by omega
   by_cases hin:i<l.length
   ·obtain⟨c',R,hc1,hc2,hRs,hRt,hrz⟩:=el.zeros hin hlc hroom' hl hb hcs
    obtain⟨hN,hO'⟩:=el.nw w R;refine(hs4 b l.length c c' i vb vc cur vcur R w hin hlc hroom' hl hc1 hc2 hb hv hcs hRs hvs hrl.one hone hrz).mono ?_;rintro e w' ⟨rfl,rfl⟩;have mc:=(mulZ (Z:=Z) hc1).1;have hs1:=lay_size (cur:=R) (o:=i*Z) (vs:=vcur.toList.take Z) (by rw[hRs];omega)
    refine jM hE hpL hlen hz' ?_ (setRow_heap (World.drew _) w.heap.size _ _ _ _ (setRow_heap _ w.heap.size R _ _ _ hN)) ?_ hc1 hc2 h2 h3 (.inr (Nat.le_refl _)) (fun q hq hqb=>?_) ?_ rfl rfl rfl
    ·rw[eZ,<-et,<-ep,layB (by rw[et,hRs];exact mc),hRt]
     exact hX
    ·rw[lay_size (by rw[hs1,hRs,<-ep];omega),hs1,hRs,eZ]
    ·rw[setRow_other _ _ q _ hqb]
     exact(setRow_other _ _ q _ hqb).trans (hO' q hq)
    ·rw[size_setRow]
     exact Nat.le_trans (Nat.le_succ _) (Nat.le_of_eq ((size_setRow _ _ _).trans (Array.size_push _)).symm)
   ·have hin':i=l.length:=by omega
    subst hin';have hcl:(cur.toList.take (l.length*Z)).length=l.length*Z:=by rw[List.length_take,hcur0];omega
    obtain⟨c',z,hc1,hc2,hzz,hap⟩:=el.app (some ⟨b,0,none⟩) l.length c vb vc (cur.toList.take (l.length*Z)) vcur w hlc hroom' hl (fun h=>Ag) (fun a ha j v hj=>by cases ha;exact cell_take hb hj) hcl hv hvs
    refine(hs3 (some ⟨b,0,none⟩) l.length c c' vb vc _ w hlc hroom' hl (fun h=>Ag) hap).mono ?_;rintro e w' ⟨rfl,rfl⟩;have mc:=mulZ (Z:=Z) hc1
    refine jM hE hpL hlen hz' ?_ Array.getElem?_push_size ?_ hc1 hc2 h2 h3 (.inr (Nat.le_refl _)) (fun q hq _=>?_) Dt rfl rfl rfl
    ·rw[eZ]
     have e0:(cur.toList.drop (l.length*Z)).take ((l.length-l.length)*Z)=[] :=List.length_eq_zero_iff.1 (by rw[hml];omega)
     rw[e0,List.append_nil]at hX
     have e2:(((cur.toList.take (l.length*Z)).toArray++(vcur.toList.take Z).toArray++z).toList.take ((l.length+1)*Z))=cur.toList.take (l.length*Z)++vcur.toList.take Z:=by
      simp only[Array.toList_append];exact uI (by rw[hcl,et2])
     rw[e2];exact hX
    ·rw[eZ]
     simp only[Array.size_append,List.size_toArray,hvl,hzz,hcl];rw[mc.2];omega
    ·exact JQ
end Go.Proofs.Led
namespace Go.Proofs.Led
open Go Go.Proofs Go.Ab Go.RowKit Go.Lib
theorem elP:ElT 47 71 9 104:=⟨Tryz.underlying47,of_decide_eq_true Ac,Ac,Ac,Ah,Ah⟩
theorem ovP:OvT 172 71:=fun w b vb ob lb cb vc cur vcur hvb hb hv hne=>by
 rw[run_callFunc_extern Tryz.func172 Ac Ac Ac (e:=Extern.SlicesOverlaps.overlaps #[47,47] #[4]) Ac,
  Lib.run_overlaps_apart w 47 4 71 Tryz.underlying47 9 Tryz.sizeOf71 ⟨vb,0,none⟩ ⟨b,ob,none⟩ 1 vc lb cb hvb 71 71 vcur.size cur.size EI EJ hne BG BG]
 rfl
theorem insP_all:InsShift 124 71 9/\InsEnd 124 71 9/\InsEndG 124 47 71/\InsGrow 124 47 71 9:=by
 have el:=elP;have ov:=ovP
 have fF:=Tryz.func124;have nF:=Tryz.ntmps124
 have zE:=Tryz.sizeOf71;have uS:=run_underlying Tryz.underlying47
 have t3:=Tryz.underlying3;have t4:=Tryz.underlying4;have u3:=run_underlying Tryz.underlying3;have u4:=run_underlying Tryz.underlying4
 have mixed:=mixed;refine⟨?_,?_,?_,?_⟩
 ·intro b n c i vb vc cur vcur w hi hroom hc63 hvb hb hv hbs hvs h1 h2
  have hov:=fun ob lb cb=>ov w b vb ob lb cb vc cur vcur hvb hb hv Aa;obtain⟨X1,hX1,hcp1,hcp2⟩:=el.shift (b:=b) (vb:=vb) (vc:=vc) hi hroom hbs hvs h1 h2;rw[<-hX1];clear hX1;have hw1:IntKind.i64.wrap ((i:Int)+1)=(i:Int)+1:=Am
  have hw2:IntKind.i64.wrap ((n:Int)+1)=(n:Int)+1:=Am;have hz1:¬((i:Int)=(n:Int)):=Aa
  have hb1:(0:Int)<=(i:Int)+1:=Aa;have htn:((i:Int)+1).toNat=i+1:=Aa
  have htn2:((n:Int)+1).toNat=n+1:=Aa;have hin:i<=n:=Aa
  have hb2:¬(c=i+1):=Aa;have hb3:(i:Int)<=(n:Int)+1:=Aa
  have hb4:¬(c=i):=Aa;have hb5:¬((c:Int)< (n:Int)+1):=Aa
  go_enter fF,nF
  go_wp2_with (simp only[hov])
  have hA1:=hcp1 w.drew _ _ (n-i) (n+1-i) 3 (c- (i+1)) (c-i) hb rfl rfl BR
  try simp only[Nat.mul_one]at hA1
  go_region_law_o (refine step_copy_runI rfl _ _ _ _ rfl _ _ Aw Aw hA1 ?_)
  exact KU
 ·intro b n c vb vc cur vcur w hroom hc63 hb hv hbs hvs h2
  exact Lc
 ·intro base n c c' vb vc X w hnc hroom hbig hn hA
  go_enter fF,nF
  cases base with
  |none=>exact Ht
  |some a=>exact Hw
 ·intro b n c c' i vb vc cur vcur R w hi hnc hroom hbig hge hle hb hv hbs hRs hvs h1 h2 hrz
  have hbw:b<w.heap.size:=(Array.getElem?_eq_some_iff.1 hb).1;have hvw:vb<w.heap.size:=(Array.getElem?_eq_some_iff.1 hv).1
  obtain⟨X1,hX1,hcpA,hcpB⟩:=el.grow (b:=b) (vb:=vb) (vc:=vc) (N:=w.heap.size) hi hnc hge hbs hRs hvs h1 h2;obtain⟨hN,hO⟩:=el.nw w R;have hA:=hcpA _ _ (n+1-i) 3 (c'-i) hN E8 rfl Aa;have hB:=hcpB ((World.setRow _ w.heap.size X1).drew) _ _ (n-i) (n-i) 3 (c'- (i+1)) (c-i) (setRow_heap _ w.heap.size R X1 _ _ hN) ((setRow_other _ w.heap.size b X1 Aa).trans EK) rfl rfl (Nat.min_self _)
  rw[<-hX1];clear hX1 hcpA hcpB hN hO;have hw1:IntKind.i64.wrap ((i:Int)+1)=(i:Int)+1:=Am;have hw2:IntKind.i64.wrap ((n:Int)+1)=(n:Int)+1:=Am
  have hw3:IntKind.i64.wrap ((n:Int)+1- (i:Int))=(n:Int)+1- (i:Int):=Am;have hz1:¬((i:Int)=(n:Int)):=Aa
  have hb1:(0:Int)<=(i:Int)+1:=Aa;have htn:((i:Int)+1).toNat=i+1:=Aa
  have hin:i<=n:=Aa;have hb2:¬(c'=i+1):=Aa
  have hb3:(i:Int)<=(n:Int)+1:=Aa;have hb4:¬(c=i):=Aa
  have hb5:(c:Int)< (n:Int)+1:=Aa;have hb6:¬(c'=i):=Aa
  have hb7:(i:Int)<=(c:Int):=Aa;have hle63:c'<=9223372036854775807:=DC
  try simp only[Nat.mul_one]at hA hB
  go_enter fF,nF
  go_wp2_with (first|simp only[hA,Result.andThen_ok] |(at_builtin;refine Lib.wpList_append_run _ rfl _ _ _ _ rfl _ _ rfl rfl _ _ (hrz _) ?_))
  go_region_law_o (refine step_copy_runI rfl _ _ _ _ rfl _ _ Aw Aw hB ?_)
  go_wp2
  go_ret
  first|exact⟨rfl,rfl⟩|exact⟨rfl,AV⟩
theorem dO8(l:List V)(x:V)(i:Nat)(hi:i<=l.length)(hl:l.length<=1000000000):Sp 124 [.own 71 l,I i, .own 71 [x]] (.own 71 (l.take i++x::l.drop i)):=
 ins_gen elP Ac insP_all.1 insP_all.2.1 insP_all.2.2.1 insP_all.2.2.2 l x i hi hl
theorem elS:ElT 46 86 14 216:=⟨Tryz.underlying46,of_decide_eq_true Ac,Ac,Ac,Ah,Ah⟩
theorem ovS:OvT 213 86:=fun w b vb ob lb cb vc cur vcur hvb hb hv hne=>by
 rw[run_callFunc_extern Tryz.func213 Ac Ac Ac (e:=Extern.SlicesOverlaps.overlaps #[46,46] #[4]) Ac,
  Lib.run_overlaps_apart w 46 4 86 Tryz.underlying46 14 Tryz.sizeOf86 ⟨vb,0,none⟩ ⟨b,ob,none⟩ 1 vc lb cb hvb 86 86 vcur.size cur.size EI EJ hne BG BG]
 rfl
theorem insS_all:InsShift 169 86 14/\InsEnd 169 86 14/\InsEndG 169 46 86/\InsGrow 169 46 86 14:=by
 have el:=elS;have ov:=ovS
 have fF:=Tryz.func169;have nF:=Tryz.ntmps169
 have zE:=Tryz.sizeOf86;have uS:=run_underlying Tryz.underlying46
 have t3:=Tryz.underlying3;have t4:=Tryz.underlying4;have u3:=run_underlying Tryz.underlying3;have u4:=run_underlying Tryz.underlying4
 have mixed:=mixed;refine⟨?_,?_,?_,?_⟩
 ·intro b n c i vb vc cur vcur w hi hroom hc63 hvb hb hv hbs hvs h1 h2
  have hov:=fun ob lb cb=>ov w b vb ob lb cb vc cur vcur hvb hb hv Aa;obtain⟨X1,hX1,hcp1,hcp2⟩:=el.shift (b:=b) (vb:=vb) (vc:=vc) hi hroom hbs hvs h1 h2;rw[<-hX1];clear hX1;have hw1:IntKind.i64.wrap ((i:Int)+1)=(i:Int)+1:=Am
  have hw2:IntKind.i64.wrap ((n:Int)+1)=(n:Int)+1:=Am;have hz1:¬((i:Int)=(n:Int)):=Aa
  have hb1:(0:Int)<=(i:Int)+1:=Aa;have htn:((i:Int)+1).toNat=i+1:=Aa
  have htn2:((n:Int)+1).toNat=n+1:=Aa;have hin:i<=n:=Aa
  have hb2:¬(c=i+1):=Aa;have hb3:(i:Int)<=(n:Int)+1:=Aa
  have hb4:¬(c=i):=Aa;have hb5:¬((c:Int)< (n:Int)+1):=Aa
  go_enter fF,nF
  go_wp2_with (simp only[hov])
  have hA1:=hcp1 w.drew _ _ (n-i) (n+1-i) 3 (c- (i+1)) (c-i) hb rfl rfl BR
  try simp only[Nat.mul_one]at hA1
  go_region_law_o (refine step_copy_runI rfl _ _ _ _ rfl _ _ Aw Aw hA1 ?_)
  exact KU
 ·intro b n c vb vc cur vcur w hroom hc63 hb hv hbs hvs h2
  exact Lc
 ·intro base n c c' vb vc X w hnc hroom hbig hn hA
  go_enter fF,nF
  cases base with
  |none=>exact Ht
  |some a=>exact Hw
 ·intro b n c c' i vb vc cur vcur R w hi hnc hroom hbig hge hle hb hv hbs hRs hvs h1 h2 hrz
  have hbw:b<w.heap.size:=(Array.getElem?_eq_some_iff.1 hb).1;have hvw:vb<w.heap.size:=(Array.getElem?_eq_some_iff.1 hv).1
  obtain⟨X1,hX1,hcpA,hcpB⟩:=el.grow (b:=b) (vb:=vb) (vc:=vc) (N:=w.heap.size) hi hnc hge hbs hRs hvs h1 h2;obtain⟨hN,hO⟩:=el.nw w R;have hA:=hcpA _ _ (n+1-i) 3 (c'-i) hN E8 rfl Aa;have hB:=hcpB ((World.setRow _ w.heap.size X1).drew) _ _ (n-i) (n-i) 3 (c'- (i+1)) (c-i) (setRow_heap _ w.heap.size R X1 _ _ hN) ((setRow_other _ w.heap.size b X1 Aa).trans EK) rfl rfl (Nat.min_self _)
  rw[<-hX1];clear hX1 hcpA hcpB hN hO;have hw1:IntKind.i64.wrap ((i:Int)+1)=(i:Int)+1:=Am;have hw2:IntKind.i64.wrap ((n:Int)+1)=(n:Int)+1:=Am
  have hw3:IntKind.i64.wrap ((n:Int)+1- (i:Int))=(n:Int)+1- (i:Int):=Am;have hz1:¬((i:Int)=(n:Int)):=Aa
  have hb1:(0:Int)<=(i:Int)+1:=Aa;have htn:((i:Int)+1).toNat=i+1:=Aa
  have hin:i<=n:=Aa;have hb2:¬(c'=i+1):=Aa
  have hb3:(i:Int)<=(n:Int)+1:=Aa;have hb4:¬(c=i):=Aa
  have hb5:(c:Int)< (n:Int)+1:=Aa;have hb6:¬(c'=i):=Aa
  have hb7:(i:Int)<=(c:Int):=Aa;have hle63:c'<=9223372036854775807:=DC
  try simp only[Nat.mul_one]at hA hB
  go_enter fF,nF
  go_wp2_with (first|simp only[hA,Result.andThen_ok] |(at_builtin;refine Lib.wpList_append_run _ rfl _ _ _ _ rfl _ _ rfl rfl _ _ (hrz _) ?_))
  go_region_law_o (refine step_copy_runI rfl _ _ _ _ rfl _ _ Aw Aw hB ?_)
  go_wp2
  go_ret
  first|exact⟨rfl,rfl⟩|exact⟨rfl,AV⟩
theorem dL7(l:List V)(x:V)(i:Nat)(hi:i<=l.length)(hl:l.length<=1000000000):Sp 169 [.own 86 l,I i, .own 86 [x]] (.own 86 (l.take i++x::l.drop i)):=
 ins_gen elS Ac insS_all.1 insS_all.2.1 insS_all.2.2.1 insS_all.2.2.2 l x i hi hl
theorem elZ:ElT 48 3 1 8:=⟨Tryz.underlying48,of_decide_eq_true Ac,Ac,Ac,Ah,Ah⟩
theorem ovZ:OvT 209 3:=fun w b vb ob lb cb vc cur vcur hvb hb hv hne=>by
 rw[run_callFunc_extern Tryz.func209 Ac Ac Ac (e:=Extern.SlicesOverlaps.overlaps #[48,48] #[4]) Ac,
  Lib.run_overlaps_apart w 48 4 3 Tryz.underlying48 1 Tryz.sizeOf3 ⟨vb,0,none⟩ ⟨b,ob,none⟩ 1 vc lb cb hvb 3 3 vcur.size cur.size EI EJ hne BG BG]
 rfl
theorem insZ_all:InsShift 164 3 1/\InsEnd 164 3 1/\InsEndG 164 48 3/\InsGrow 164 48 3 1:=by
 have el:=elZ;have ov:=ovZ
 have fF:=Tryz.func164;have nF:=Tryz.ntmps164
 have zE:=Tryz.sizeOf3;have uS:=run_underlying Tryz.underlying48
 have t3:=Tryz.underlying3;have t4:=Tryz.underlying4;have u3:=run_underlying Tryz.underlying3;have u4:=run_underlying Tryz.underlying4
 have mixed:=mixed;refine⟨?_,?_,?_,?_⟩
 ·intro b n c i vb vc cur vcur w hi hroom hc63 hvb hb hv hbs hvs h1 h2
  have hov:=fun ob lb cb=>ov w b vb ob lb cb vc cur vcur hvb hb hv Aa;obtain⟨X1,hX1,hcp1,hcp2⟩:=el.shift (b:=b) (vb:=vb) (vc:=vc) hi hroom hbs hvs h1 h2;rw[<-hX1];clear hX1;have hw1:IntKind.i64.wrap ((i:Int)+1)=(i:Int)+1:=Am
  have hw2:IntKind.i64.wrap ((n:Int)+1)=(n:Int)+1:=Am;have hz1:¬((i:Int)=(n:Int)):=Aa
  have hb1:(0:Int)<=(i:Int)+1:=Aa;have htn:((i:Int)+1).toNat=i+1:=Aa
  have htn2:((n:Int)+1).toNat=n+1:=Aa;have hin:i<=n:=Aa
  have hb2:¬(c=i+1):=Aa;have hb3:(i:Int)<=(n:Int)+1:=Aa
  have hb4:¬(c=i):=Aa;have hb5:¬((c:Int)< (n:Int)+1):=Aa
  go_enter fF,nF
  go_wp2_with (simp only[hov])
  have hA1:=hcp1 w.drew _ _ (n-i) (n+1-i) 3 (c- (i+1)) (c-i) hb rfl rfl BR
  try simp only[Nat.mul_one]at hA1
  go_region_law_o (refine step_copy_runI rfl _ _ _ _ rfl _ _ Aw Aw hA1 ?_)
  exact KU
 ·intro b n c vb vc cur vcur w hroom hc63 hb hv hbs hvs h2
  exact Lc
 ·intro base n c c' vb vc X w hnc hroom hbig hn hA
  go_enter fF,nF
  cases base with
  |none=>exact Ht
  |some a=>exact Hw
 ·intro b n c c' i vb vc cur vcur R w hi hnc hroom hbig hge hle hb hv hbs hRs hvs h1 h2 hrz
  have hbw:b<w.heap.size:=(Array.getElem?_eq_some_iff.1 hb).1;have hvw:vb<w.heap.size:=(Array.getElem?_eq_some_iff.1 hv).1
  obtain⟨X1,hX1,hcpA,hcpB⟩:=el.grow (b:=b) (vb:=vb) (vc:=vc) (N:=w.heap.size) hi hnc hge hbs hRs hvs h1 h2;obtain⟨hN,hO⟩:=el.nw w R;have hA:=hcpA _ _ (n+1-i) 3 (c'-i) hN E8 rfl Aa;have hB:=hcpB ((World.setRow _ w.heap.size X1).drew) _ _ (n-i) (n-i) 3 (c'- (i+1)) (c-i) (setRow_heap _ w.heap.size R X1 _ _ hN) ((setRow_other _ w.heap.size b X1 Aa).trans EK) rfl rfl (Nat.min_self _)
  rw[<-hX1];clear hX1 hcpA hcpB hN hO;have hw1:IntKind.i64.wrap ((i:Int)+1)=(i:Int)+1:=Am;have hw2:IntKind.i64.wrap ((n:Int)+1)=(n:Int)+1:=Am
  have hw3:IntKind.i64.wrap ((n:Int)+1- (i:Int))=(n:Int)+1- (i:Int):=Am;have hz1:¬((i:Int)=(n:Int)):=Aa
  have hb1:(0:Int)<=(i:Int)+1:=Aa;have htn:((i:Int)+1).toNat=i+1:=Aa
  have hin:i<=n:=Aa;have hb2:¬(c'=i+1):=Aa
  have hb3:(i:Int)<=(n:Int)+1:=Aa;have hb4:¬(c=i):=Aa
  have hb5:(c:Int)< (n:Int)+1:=Aa;have hb6:¬(c'=i):=Aa
  have hb7:(i:Int)<=(c:Int):=Aa;have hle63:c'<=9223372036854775807:=DC
  try simp only[Nat.mul_one]at hA hB
  go_enter fF,nF
  go_wp2_with (first|simp only[hA,Result.andThen_ok] |(at_builtin;refine Lib.wpList_append_run _ rfl _ _ _ _ rfl _ _ rfl rfl _ _ (hrz _) ?_))
  go_region_law_o (refine step_copy_runI rfl _ _ _ _ rfl _ _ Aw Aw hB ?_)
  go_wp2
  go_ret
  first|exact⟨rfl,rfl⟩|exact⟨rfl,AV⟩
theorem dM5(l:List V)(x:V)(i:Nat)(hi:i<=l.length)(hl:l.length<=1000000000):Sp 164 [.own 3 l,I i, .own 3 [x]] (.own 3 (l.take i++x::l.drop i)):=
 ins_gen elZ Ac insZ_all.1 insZ_all.2.1 insZ_all.2.2.1 insZ_all.2.2.2 l x i hi hl
end Go.Proofs.Led
namespace Go.Proofs.Led
open Go Go.Proofs Go.Ab
theorem dR6(l:List aN)(hl:l.length<=1000000):fnVC T Tryz.prog Tryz.f72 [.sl (l.map aQ)] (.own 86 (l.map aQ)):=by
 have hll:(l.map aQ).length=l.length:=Ae;have hcl:∀y∈l.map aQ,y.cells.length=14:=fun y hy=>AU
 repeat' ((conv=>whnf);first|(refine bV3.mk rfl (of_decide_eq_true Ac) Ac (.inl rfl) ?_;intro b hb;cases b)|refine iH rfl (.inl rfl) rfl (of_decide_eq_true rfl) hcl (by show 0+(List.map aQ l).length<=_;omega) ?_|refine zS ?_|fail)
 all_goals conv=>whnf
 ·exact Jc
 ·exact Ib
theorem aV4(l:List aN)(hl:l.length<=1000000):Sp 72 [.sl (l.map aQ)] (.own 86 (l.map aQ)):=zsp Tryz.func72 (dR6 l hl)
theorem dO4(l:List Piece)(hl:l.length<=1000000):fnVC T Tryz.prog Tryz.f73 [.sl (l.map aZ)] (.own 71 (l.map aZ)):=by
 have hll:(l.map aZ).length=l.length:=Ae;have hcl:∀y∈l.map aZ,y.cells.length=9:=fun y hy=>AU
 repeat' ((conv=>whnf);first|(refine bV3.mk rfl (of_decide_eq_true Ac) Ac (.inl rfl) ?_;intro b hb;cases b)|refine iH rfl (.inl rfl) rfl (of_decide_eq_true rfl) hcl (by show 0+(List.map aZ l).length<=_;omega) ?_|refine zS ?_|fail)
 all_goals conv=>whnf
 ·exact Jc
 ·exact Ib
theorem aV7(l:List Piece)(hl:l.length<=1000000):Sp 73 [.sl (l.map aZ)] (.own 71 (l.map aZ)):=zsp Tryz.func73 (dO4 l hl)
theorem dL1(l:List Int)(hl:l.length<=1000000):fnVC T Tryz.prog Tryz.f74 [.sl (l.map I)] (.own 3 (l.map I)):=by
 have hll:(l.map I).length=l.length:=Ae;have hcl:∀y∈l.map I,y.cells.length=1:=fun y hy=>AU
 repeat' ((conv=>whnf);first|(refine bV3.mk rfl (of_decide_eq_true Ac) Ac (.inl rfl) ?_;intro b hb;cases b)|refine iH rfl (.inl rfl) rfl (of_decide_eq_true rfl) hcl (by show 0+(List.map I l).length<=_;omega) ?_|refine zS ?_|fail)
 all_goals conv=>whnf
 ·exact Jc
 ·exact Ib
theorem aT5(l:List Int)(hl:l.length<=1000000):Sp 74 [.sl (l.map I)] (.own 3 (l.map I)):=zsp Tryz.func74 (dL1 l hl)
def stC(s:aJ):List V:=[.own 86 (s.stocks.map aQ), .own 71 (s.pieces.map aZ), .own 3 (s.used.map I),I s.received.1,I s.received.2,I s.scrap.1,I s.scrap.2]
structure Gd(s:aJ):Prop where
 ls:s.stocks.length<=1000000
 lp:s.pieces.length<=1000000
 lu:s.used.length<=1000000
 ss:(s.stocks.map sid).Pairwise (·<·)
 sp:(s.pieces.map Piece.id).Pairwise (·<·)
 su:(s.used.map id).Pairwise (·<·)
theorem eM1(s:aJ)(n:Int)(hs:Gd s):jR T Tryz.prog Tryz.f118 [.box 100000 0,I n] [stC s] (.tup [I (bs sid s.stocks n),DB (∃m∈s.stocks,sid m=n)]) [stC s] :=by
 have h1:=eB5 (g:=162) (t:=n) (fun m=>cR0 m n) s.stocks hs.ls hs.ss;generalize bs sid s.stocks n=k at*;generalize (∃m∈s.stocks,sid m=n)=P at*;exact LJ
theorem find_spec(s:aJ)(n:Int)(hs:Gd s):SpB 118 [.box 100000 0,I n] [stC s] (.tup [I (bs sid s.stocks n),DB (∃m∈s.stocks,sid m=n)]) [stC s] :=
 b_of Tryz.func118 Ac Ac rfl rfl (eM1 s n hs)
theorem dW2(s:aJ)(n:Int)(hs:Gd s):jR T Tryz.prog Tryz.f123 [.box 100000 0,I n] [stC s] (.tup [I (bs Piece.id s.pieces n),DB (∃m∈s.pieces,m.id=n)]) [stC s] :=by
 have h1:=eG9 (g:=171) (t:=n) (fun m=>cG0 m n) s.pieces hs.lp hs.sp;generalize bs Piece.id s.pieces n=k at*;generalize (∃m∈s.pieces,m.id=n)=P at*;exact LJ
theorem uQ(s:aJ)(n:Int)(hs:Gd s):SpB 123 [.box 100000 0,I n] [stC s] (.tup [I (bs Piece.id s.pieces n),DB (∃m∈s.pieces,m.id=n)]) [stC s] :=
 b_of Tryz.func123 Ac Ac rfl rfl (dW2 s n hs)
def putAt{α:Type}(l:List α)(i:Nat)(x:α):List α:=l.take i++x::l.drop i
theorem aR0{α:Type}(f:α->V)(l:List α)(i:Nat)(x:α):(l.map f).take i++f x::(l.map f).drop i=(putAt l i x).map f:=by
 unfold putAt;rw[List.map_append,List.map_cons,List.map_take,List.map_drop]
theorem bQ8{α:Type}(key:α->Int)(l:List α)(t:Int):bs key l t<=l.length:=by
 unfold bs;exact(List.takeWhile_prefix _).length_le
theorem dO3(l:List aN)(i:Nat)(x:aN)(hi:i<=l.length)(hl:l.length<=1000000000):Sp 169 [.own 86 (l.map aQ),I i, .own 86 [aQ x]] (.own 86 ((putAt l i x).map aQ)):=by
 have h:=dL7 (l.map aQ) (aQ x) i Dk AQ;rw[aR0]at h;exact h
theorem bU8(l:List Piece)(i:Nat)(x:Piece)(hi:i<=l.length)(hl:l.length<=1000000000):Sp 124 [.own 71 (l.map aZ),I i, .own 71 [aZ x]] (.own 71 ((putAt l i x).map aZ)):=by
 have h:=dO8 (l.map aZ) (aZ x) i Dk AQ;rw[aR0]at h;exact h
theorem bP5(l:List Int)(i:Nat)(x:Int)(hi:i<=l.length)(hl:l.length<=1000000000):Sp 164 [.own 3 (l.map I),I i, .own 3 [I x]] (.own 3 ((putAt l i x).map I)):=by
 have h:=dM5 (l.map I) (I x) i Dk AQ;rw[aR0]at h;exact h
def putS(l:List aN)(x:aN):List aN:=putAt l (bs sid l (sid x)) x
def addS(s:aJ)(x:aN):aJ:={s with stocks:=putS s.stocks x}
theorem fD2(s:aJ)(x:aN)(hs:Gd s):jR T Tryz.prog Tryz.f122 [.box 100000 0,aQ x] [stC s] (.tup []) [stC (addS s x)] :=by
 have h1:=aE2 x;have h2:=find_spec s (sid x) hs
 have h3:=dO3 s.stocks (bs sid s.stocks (sid x)) x (bQ8 _ _ _) (by have:=hs.ls;omega)
 unfold addS putS;generalize sid x=n at*;generalize bs sid s.stocks n=k at*;generalize (∃m∈s.stocks,sid m=n)=P at*
 repeat' ((conv=>whnf);first|refine zh (h2) [100000] ?_|refine bW8 [] [(21,[88888])] trivial Ac ?_|refine zh (xX h3) [] ?_|refine zS ?_|fail)
 all_goals conv=>whnf
 all_goals first|exact⟨_,rfl,zc1⟩|exact zc1
theorem cF7(s:aJ)(x:aN)(hs:Gd s):SpB 122 [.box 100000 0,aQ x] [stC s] (.tup []) [stC (addS s x)] :=
 b_of Tryz.func122 Ac Ac rfl rfl (fD2 s x hs)
end Go.Proofs.Led
