/- Lemmas. -/
import Derived.Test.YtcmgfjaiegpddaaGreatB1
import Derived.Laws.CopyRow
import Derived.Lib.AppendZerosOnto
import Derived.Lib.Overlaps
import Derived.Laws.Externs
import Derived.Laws.IdiomCopy
import Derived.Shelf.Spec.SlicesInsert
set_option linter.all false
set_option maxRecDepth 1000000
set_option maxHeartbeats 4000000
noncomputable section
namespace Go.Proofs.Led
open Go Go.Proofs Go.Ab Tryz
def lay(cur:Array Value)(o:Nat)(vs:List Value):Array Value:=(cur.toList.take o++vs++cur.toList.drop (o+vs.length)).toArray
def lay_size{cur:Array Value}{o:Nat}{vs:List Value}(h:o+vs.length<=cur.size):(lay cur o vs).size=cur.size:=by
 unfold lay;simp;omega
def iW{P:Program}(w:World)(p A ty b:TypeId)(g o c e:Nat)(a:Addr)(d k sz n:Nat)(cur:Array Value)(t:TypeId)(cs:List Value)
 (z:P.underlying p=some (.slice b))(q:(P.info? b).map (·.size)=some sz)
 (s:w.heap[g]? =some (.cells cur t (0,0)))(x:Nat.min d c=n)(y:cs.length=n*sz)
 (h:∀j v,cs[j]? =some v->w.cell? (a.add j)=some v)(f:o+cs.length<=cur.size)(r:∀v∈cs,v.oneCell'=true):
 (Builtin.copy_ #[p,A] ty #[.slice (some ⟨g,o,none⟩) c e, .slice (some a) d k]).run P w=
  .ok (goInt n) (w.setRow g (lay cur o cs)):=by
 have u:=run_loadCells_list (P:=P) w a cs h;have m:=run_storeCells_at P g o t cs 0 cur w s (by simpa using f) r;unfold lay;cases l:P.info? b with
 |none=>simp[l]at q
 |some i=>
  have hi:i.size=sz:=by simpa [l]using q
  simp[Builtin.copy_,Qb z,Builtin.lenOf,Builtin.firstCells,sizeOf,typeInfo,l,hi,x,<-y,u,m]
theorem xJ(cur:Array Value)(o:Nat)(vs:List Value):(lay cur o vs).toList=cur.toList.take o++vs++cur.toList.drop (o+vs.length):=by
 unfold lay;rfl
theorem uI{a:Type}{A B C:List a}{n:Nat}(h:A.length+B.length=n):(A++B++C).take n=A++B:=by
 grind
def layA{cur:Array Value}{p:Nat}{vs a:List Value}(h:p+vs.length+a.length<=cur.size):
 (lay (lay cur (p+vs.length) a) p vs).toList.take (p+vs.length+a.length)=cur.toList.take p++vs++a:=by
 have c:cur.toList.length=cur.size:=PX;rw[xJ,xJ];have b:(cur.toList.take (p+vs.length)).length=p+vs.length:=Bd;grind [Pq,RY,List.drop_left,uI,OY,PG]
def layB{R:Array Value}{p:Nat}{vs a:List Value}(h:p+vs.length+a.length<=R.size):
 (lay (lay R p vs) (p+vs.length) a).toList.take (p+vs.length+a.length)=R.toList.take p++vs++a:=by
 have c:R.toList.length=R.size:=PX;rw[xJ,xJ];have b:(R.toList.take p++vs).length=p+vs.length:=by rw[OY,PG];omega
 grind
def layC{cur:Array Value}{p:Nat}{vs:List Value}(h:p+vs.length<=cur.size):(lay cur p vs).toList.take (p+vs.length)=cur.toList.take p++vs:=by
 have a:cur.toList.length=cur.size:=PX;rw[xJ];exact uI Bd
def oH{w:World}{G:Gh}{a b:List Value}{x y:List V}(d:RvL w G a x)(e:RvL w G b y):RvL w G (a++b) (x++y):=by
 refine⟨by rw[OY,OY,d.len,e.len],λv hv=>?_,λi v z hv c=>?_⟩;rcases Pv.1 hv with h|h;exact d.one v h;exact e.one v h;rw[Sz]at hv c;rw[<-d.len]at c;split at hv;rename_i hi;rw[Pm hi]at c;exact d.rel i v z hv c;rename_i hi;rw[Ph hi]at c;exact e.rel _ v z hv c
def aM1{w:World}{G:Gh}{a:List Value}{x:List V}(h:RvL w G a x)(n:Nat):RvL w G (a.take n) (x.take n):=by
 refine⟨by rw[PG,PG,h.len],λv hv=>h.one v (PO hv),λi v z hv b=>?_⟩;rw[RU]at hv b;split at hv;rename_i hi;rw[Pm hi]at b;exact h.rel i v z hv b;cases hv
def aL4{w:World}{G:Gh}{a:List Value}{x:List V}(h:RvL w G a x)(n:Nat):RvL w G (a.drop n) (x.drop n):=by
 refine⟨by rw[Qm,Qm,h.len],λv hv=>h.one v (PU hv),λi v z hv b=>?_⟩;rw[Qe]at hv b;exact h.rel _ v z hv b
def xW{l:List V}{sz i:Nat}(b:∀x∈l,x.cells.length=sz)(hi:i<=l.length):(l.flatMap V.cells).take (i*sz)=(l.take i).flatMap V.cells/\(l.flatMap V.cells).drop (i*sz)=(l.drop i).flatMap V.cells:=by
 have e:l.flatMap V.cells=(l.take i).flatMap V.cells++(l.drop i).flatMap V.cells:=by rw[<-QF,Qq]
 have a:((l.take i).flatMap V.cells).length=i*sz:=by
  grind [Go.Ab.sH,PO,PG,RY]
 simp_all
def jM{w w':World}{G:Gh}{b n c:Nat}{E:TypeId}{X:Array Value}{L:List V}(z:E<T.n E)(hp:bM L)(f:L.length=n)(I:∀x∈L,x.cells.length=(T.row E).size)
 (A:RvL w G (X.toList.take (n*(T.row E).size)) (L.flatMap V.cells))(B:w'.heap[b]? =some (.cells X E (0,0)))(H:X.size=c*(T.row E).size)(g:n<=c)(D:c<=maxLen)
 (o:∀b,G.O b≠ .ext->b<w.heap.size)(r:∀b i,G.O b≠ .bx i)(C:G.O b= .ar 0\/w.heap.size<=b)
 (F:∀q,q<w.heap.size->q≠b->w'.heap[q]? =w.heap[q]?)(l:w.heap.size<=w'.heap.size)(s:w'.os=w.os)(t:w'.tape=w.tape)(u:w'.output=w.output):
 ∃v G',Ending.returned (.slice (some ⟨b,0,none⟩) n c)= .returned v/\Rr T w' G' v (.own E L)/\
  (∀b,G.O b= .fz->G'.O b= .fz)/\(∀b,G'.O b≠ .ext->b<w'.heap.size)/\(∀b i,G'.O b≠ .bx i)/\
  (∀b,G'.O b≠ .ext->(G.O b= .fz/\G'.O b= .fz)\/w.heap.size<=b\/∃j,G.O b= .ar j)/\
  (∀b,b<w.heap.size->(∀j,G.O b≠ .ar j)->w'.heap[b]? =w.heap[b]?)/\
  w.heap.size<=w'.heap.size/\w'.os=w.os/\w'.tape=w.tape/\w'.output=w.output:=by
 have a:∀q,G.O q= .fz->q≠b:=by
  grind
 have d:Keep w w' G {G with O:=λq=>if q=b then .ar 0 else G.O q}:=⟨λq hq=>by simp[a q hq,hq],λq hq=>F q (o q Az) (a q hq)⟩
 have k:bM (L.flatMap V.cells):=aH.2 λy hy=>by
  exact OD
 subst f;refine⟨_,{G with O:=λq=>if q=b then .ar 0 else G.O q},rfl,⟨z,hp, .inr ⟨b,c,X,rfl,Af,B,g,D,H,I,A.keep d k (λ_ h=>h.elim) (λ_ _ h=>h.elim)⟩⟩,d.fz,λq hq=>?_,λq i hq=>?_,λq hq=>?_,λq J K=>?_,l,s,t,u⟩
 ·grind
 ·grind
 ·by_cases e:q=b
  ·grind
  ·simp only[e,Rx]at hq⊢
   cases m:G.O q with
   |ext=>exact absurd m hq
   |fz=>exact .inl ⟨rfl,rfl⟩
   |bx i=>exact absurd m (r q i)
   |ar j=>exact .inr (.inr ⟨j,rfl⟩)
 ·grind
def bY9{w:World}{G:Gh}{k:Nat}{u:Value}{E:TypeId}{x:V}(h:gJ T w G k u E [x]):∃(b c:Nat) (cur:Array Value),u= .slice (some ⟨b,0,none⟩) 1 c/\G.O b= .ar k/\w.heap[b]? =some (.cells cur E (0,0))/\(T.row E).size<=cur.size/\
 x.cells.length=(T.row E).size/\RvL w G (cur.toList.take (T.row E).size) x.cells:=by
 rcases h with⟨_,h⟩|⟨b,c,cur,a,d,e,f,j,g,i,l⟩
 ·cases h
 ·refine⟨b,c,cur,a,d,e,?_,i x Af,?_⟩
  ·rw[g]
   exact Nat.le_mul_of_pos_left _ f
  ·simp_all
def aN3{w:World}{G:Gh}{j:Nat}{v:Value}{u:Value}(h:Rb T w G j v (.lit u)):v=u:=h.2.bH
def arr3{cs:Array Value}(h:cs.size=3):∃a b c,cs= #[a,b,c] :=by
 obtain⟨l⟩:=cs;match l,h with
 | [a,b,c],_=>exact⟨a,b,c,rfl⟩
end Go.Proofs.Led
namespace Go.Proofs.Led
open Go Go.Proofs Go.Ab Go.RowKit Go.Lib Tryz
structure ElT(S E Z B:Nat):Prop where
 u:Tryz.prog.underlying S=some (.slice E)
 t:E<T.n E
 s:(T.row E).size=Z
 y:(T.row E).bytes=B
 b:B<=1000
 z:0<Z
section
variable{S E Z B:Nat}
def ElT.info(h:ElT S E Z B):∃i z,Tryz.prog.info? E=some i/\i.size=Z/\i.bytes=B/\i.zero=some z/\z.cells.size=Z:=by
 obtain⟨i,c,d,e,z,f,a,_,b,_,_⟩:=(uG E h.t).info;exact⟨i,z,c,d.trans h.s,e.trans h.y,f,by rw[<-PX,a,b,h.s]⟩
def cell_seg{w:World}{b o n j:Nat}{X:Array Value}{v:Value}(h:w.heap[b]? =some (.cells X E (0,0)))(a:((X.toList.drop o).take n)[j]? =some v):w.cell? ((⟨b,o,none⟩:Addr).add j)=some v:=by
 rw[Addr.add_lit];rw[RU]at a;split at a;rw[Qe,Sl]at a;simp only[World.cell?,h];simpa using a;cases a
def cell_take{w:World}{b n j:Nat}{X:Array Value}{v:Value}(h:w.heap[b]? =some (.cells X E (0,0)))(a:(X.toList.take n)[j]? =some v):w.cell? ((⟨b,0,none⟩:Addr).add j)=some v:=
 cell_seg (o:=0) h a
def mulZ{a b:Nat}(h:a<=b):a*Z<=b*Z/\(b-a)*Z=b*Z-a*Z:=⟨SA Z h,Nat.sub_mul b a Z⟩
def ElT.cp(h:ElT S E Z B){W:World}{b d:Nat}{X Y:Array Value}{o1 o2 a c k:Nat}(ty:TypeId)(e g:Nat)(p:W.heap[b]? =some (.cells X E (0,0)))(o:W.heap[d]? =some (.cells Y E (0,0)))(s:Nat.min c a=k)
 (t:o2+k*Z<=Y.size)(q:o1+k*Z<=X.size)(n:∀v∈(Y.toList.drop o2).take (k*Z),v.oneCell'=true):
 (Builtin.copy_ #[S,S] ty #[.slice (some ⟨b,o1,none⟩) a e, .slice (some ⟨d,o2,none⟩) c g]).run Tryz.prog W= .ok (goInt k) (W.setRow b (lay X o1 ((Y.toList.drop o2).take (k*Z)))):=by
 obtain⟨i,z,l,m,_⟩:=h.info;have f:((Y.toList.drop o2).take (k*Z)).length=k*Z:=by rw[PG,Qm,PX];omega
 exact iW W S S ty E b o1 a e ⟨d,o2,none⟩ c g Z k X E _ h.u (by rw[l];simp[m]) p s f (λj v r=>cell_seg o r) (by rw[f];exact q) n
def ElT.cp1(h:ElT S E Z B){W:World}{b vb:Nat}{X Y:Array Value}{o1 c:Nat}(ty:TypeId)(a vc:Nat)(f:W.heap[b]? =some (.cells X E (0,0)))(e:W.heap[vb]? =some (.cells Y E (0,0)))(g:1<=c)
 (j:Z<=Y.size)(i:o1+Z<=X.size)(d:∀v∈Y.toList.take Z,v.oneCell'=true):
 (Builtin.copy_ #[S,S] ty #[.slice (some ⟨b,o1,none⟩) c a, .slice (some ⟨vb,0,none⟩) 1 vc]).run Tryz.prog W= .ok (goInt (1:Nat)) (W.setRow b (lay X o1 (Y.toList.take Z))):=by
 have:=h.cp (o1:=o1) (o2:=0) (k:=1) ty a vc f e (RY g) Aa Aa (by rw[Nat.one_mul];exact d);rw[Nat.one_mul]at this;exact this
def ElT.room(h:ElT S E Z B){b n c vb vc:Nat}{cur a:Array Value}{w:World}(d:n+1<=c)(l:w.heap[b]? =some (.cells cur E (0,0)))(hv:w.heap[vb]? =some (.cells a E (0,0)))(g:cur.size=c*Z)(q:Z<=a.size)
 (k:∀v∈a.toList.take Z,v.oneCell'=true)(ty:TypeId):
 (Builtin.append_ #[S,S] ty #[.slice (some ⟨b,0,none⟩) n c, .slice (some ⟨vb,0,none⟩) 1 vc]).run Tryz.prog w= .ok (.slice (some ⟨b,0,none⟩) (n+1) c) (w.setRow b (lay cur (n*Z) (a.toList.take Z))):=by
 obtain⟨s,z,i,e,r,_⟩:=h.info;have f:(a.toList.take Z).length=Z:=BZ;have o:=(mulZ (Z:=Z) d).1;rw[QL]at o;have h:=run_append_room (P:=Tryz.prog) w S ty E s h.u i b n c cur l ⟨vb,0,none⟩ 1 vc (a.toList.take Z) (by rw[f,e,Nat.one_mul]) (λj v m=>cell_take hv m) k d (by rw[f,e,g];omega);rw[e]at h;exact h
theorem ElT.fits(h:ElT S E Z B)(w:World){n c:Nat}(a:c<n)(d:n<=1000000001):Builtin.nextslicecap n c*B<=281474976710656/\n<=grownCap w n c E/\grownCap w n c E<=maxLen:=
 ⟨growslice_fits a (PD (Sv d h.b) Ai),grownCap_ge w n c E,grownCap_le_maxLen w n c E Dl⟩
def ElT.app(h:ElT S E Z B)(d:Option Addr)(n c vb vc:Nat)(cs:List Value)(e:Array Value)(w:World)(H:n<=c)(f:c<n+1)(A:n<=1000000000)
 (G:d=none->n=0/\c=0)(F:∀a,d=some a->∀j v,cs[j]? =some v->w.cell? (a.add j)=some v)(g:cs.length=n*Z)
 (hv:w.heap[vb]? =some (.cells e E (0,0)))(I:Z<=e.size):∃(q:Nat) (z:Array Value),n+1<=q/\q<=maxLen/\z.size=(q- (n+1))*Z/\∀ty,
 (Builtin.append_ #[S,S] ty #[.slice d n c, .slice (some ⟨vb,0,none⟩) 1 vc]).run Tryz.prog w= .ok (.slice (some ⟨w.heap.size,0,none⟩) (n+1) q) (w.drew.alloc (.cells (cs.toArray++(e.toList.take Z).toArray++z) E)):=by
 obtain⟨y,z,k,o,m,C,x⟩:=h.info;obtain⟨i,r,t⟩:=h.fits w f Aa;have J:=h.b;have l:(e.toList.take Z).length=1*y.size:=by rw[o,PG,PX];omega
 refine⟨grownCap w (n+1) c E,Builtin.zeroCells z.cells (grownCap w (n+1) c E- (n+1)),r,t,by simp[Builtin.zeroCells,x],λty=>?_⟩;cases d with
 |none=>
  obtain⟨rfl,rfl⟩:=G rfl;have D:cs=[] :=PV.1 (by simp[g]);subst D;have h:=run_append_nil (P:=Tryz.prog) w S ty E y z h.u k C ⟨vb,0,none⟩ 1 vc _ l (λj v s=>cell_take hv s) Aa Aa (by rw[m];omega);rw[h];simp
 |some a=>
  exact run_append_grow (P:=Tryz.prog) w S ty E y z h.u k C a n c cs (by rw[o];exact g) (F a rfl) ⟨vb,0,none⟩ 1 vc _ l (λj v s=>cell_take hv s) f Aa (by rw[m];exact i)
def ElT.zeros(h:ElT S E Z B){b n c i:Nat}{cur:Array Value}{w:World}(hi:i<n)(C:n<=c)(a:c<n+1)(t:n<=1000000000)(y:w.heap[b]? =some (.cells cur E (0,0)))(o:cur.size=c*Z):
 ∃(m:Nat) (R:Array Value),n+1<=m/\m<=maxLen/\R.size=m*Z/\R.toList.take (i*Z)=cur.toList.take (i*Z)/\∀ty,
  (Builtin.append_ #[S,3] ty #[.slice (some ⟨b,0,none⟩) i c, .int .i64 ((n:Int)+1- (i:Int))]).run Tryz.prog w= .ok (.slice (some ⟨w.heap.size,0,none⟩) (n+1) m) (w.drew.alloc (.cells R E)):=by
 obtain⟨x,z,q,l,k,D,F⟩:=h.info;obtain⟨d,e,s⟩:=h.fits w a Aa;have r:(n:Int)+1- (i:Int)=((n+1-i:Nat):Int):=Aa;have f:i+(n+1-i)=n+1:=Aa;have G:=(mulZ (Z:=Z) (show i<=c from Aa)).1
 have g:(Builtin.firstCells x.size i (.slice (some ⟨b,0,none⟩) i c)).run Tryz.prog w.drew= .ok (cur.toList.take (i*Z)).toArray w.drew:=by
  rw[l];exact run_firstCells_some w.drew Z i ⟨b,0,none⟩ i c (cur.toList.take (i*Z)) (by rw[PG,PX,o];omega) (λj v A=>cell_take (w:=w.drew) y A)
 refine⟨grownCap w (n+1) c E,(cur.toList.take (i*Z)).toArray++Builtin.zeroCells z.cells (n+1-i)++Builtin.zeroCells z.cells (grownCap w (n+1) c E- (n+1)),e,s,?_,?_,λty=>?_⟩
 ·have H:=mulZ (Z:=Z) (show i<=n+1 from Aa)
  have I:=mulZ (Z:=Z) e;grind [RY,Builtin.zeroCells]
 ·simp_all
 ·have h:=Lib.run_append_grow_zeros w S 3 ty E x _ .i64 .i64 h.u QK q D (some ⟨b,0,none⟩) i c (cur.toList.take (i*Z)) g (n+1-i) Aa (by rw[l];exact h.z) Aa Aa (by rw[k];exact PD (Sv (by omega:n+1-i<=1000000001) h.b) (by decide)) (by rw[k,f];exact d)
  rw[f]at h;rw[r,h]
def seg_mem{cur:Array Value}{i n:Nat}{v:Value}(hi:i<=n)(hv:v∈(cur.toList.drop (i*Z)).take ((n-i)*Z)):v∈cur.toList.take (n*Z):=by
 have:(cur.toList.drop (i*Z)).take ((n-i)*Z)=(cur.toList.take (n*Z)).drop (i*Z):=by rw[Rz,(mulZ hi).2]
 rw[this]at hv;exact PU hv
theorem ElT.shift(h:ElT S E Z B){b n c i vb vc:Nat}{cur a:Array Value}(hi:i<n)(e:n+1<=c)(hbs:cur.size=c*Z)(o:Z<=a.size)
 (t:∀v∈cur.toList.take (n*Z),v.oneCell'=true)(u:∀v∈a.toList.take Z,v.oneCell'=true):
 ∃g,g=lay cur ((i+1)*Z) ((cur.toList.drop (i*Z)).take ((n-i)*Z))/\
 (∀(W:World) (o1 o2 f q:Nat) ty d r,W.heap[b]? =some (.cells cur E (0,0))->o1=(i+1)*Z->o2=i*Z->Nat.min q f=n-i->
  (Builtin.copy_ #[S,S] ty #[.slice (some ⟨b,o1,none⟩) f d, .slice (some ⟨b,o2,none⟩) q r]).run Tryz.prog W= .ok (goInt (n-i:Nat)) (W.setRow b g))/\
 ∀(W:World) (o1 f:Nat) ty d,W.heap[b]? =some (.cells g E (0,0))->W.heap[vb]? =some (.cells a E (0,0))->o1=i*Z->1<=f->
  (Builtin.copy_ #[S,S] ty #[.slice (some ⟨b,o1,none⟩) f d, .slice (some ⟨vb,0,none⟩) 1 vc]).run Tryz.prog W= .ok (goInt (1:Nat)) (W.setRow b (lay g (i*Z) (a.toList.take Z))):=by
 have m1:=mulZ (Z:=Z) (Ri hi);have z:=(mulZ (Z:=Z) e).1;have A:=(mulZ (Z:=Z) (show i+1<=n+1 from Aa)).1;have x:(i+1)*Z=i*Z+Z:=QL i Z;have y:(n+1)*Z=n*Z+Z:=QL n Z;have w:((cur.toList.drop (i*Z)).take ((n-i)*Z)).length=(n-i)*Z:=by rw[PG,Qm,PX,hbs,m1.2];omega
 refine⟨_,rfl,λW o1 o2 f q ty d r j k s m=>?_,λW o1 f ty d j l k m=>?_⟩
 ·subst k s
  exact h.cp ty d r j j m GV GV (λv hv=>t v (seg_mem (Ri hi) hv))
 ·subst k
  exact h.cp1 ty d vc j l m o (by rw[lay_size (by rw[w,hbs,m1.2];omega),hbs];omega) u
def ElT.grow(h:ElT S E Z B){b n c u i vb vc N:Nat}{cur a R:Array Value}(hi:i<n)(q:n<=c)(m:n+1<=u)(hbs:cur.size=c*Z)(e:R.size=u*Z)(r:Z<=a.size)
 (x:∀v∈cur.toList.take (n*Z),v.oneCell'=true)(y:∀v∈a.toList.take Z,v.oneCell'=true):
 ∃j,j=lay R (i*Z) (a.toList.take Z)/\
 (∀(W:World) (o1 g:Nat) ty d,W.heap[N]? =some (.cells R E (0,0))->W.heap[vb]? =some (.cells a E (0,0))->o1=i*Z->1<=g->
  (Builtin.copy_ #[S,S] ty #[.slice (some ⟨N,o1,none⟩) g d, .slice (some ⟨vb,0,none⟩) 1 vc]).run Tryz.prog W= .ok (goInt (1:Nat)) (W.setRow N j))/\
 ∀(W:World) (o1 o2 g s:Nat) ty d t,W.heap[N]? =some (.cells j E (0,0))->W.heap[b]? =some (.cells cur E (0,0))->o1=(i+1)*Z->o2=i*Z->Nat.min s g=n-i->
  (Builtin.copy_ #[S,S] ty #[.slice (some ⟨N,o1,none⟩) g d, .slice (some ⟨b,o2,none⟩) s t]).run Tryz.prog W= .ok (goInt (n-i:Nat)) (W.setRow N (lay j ((i+1)*Z) ((cur.toList.drop (i*Z)).take ((n-i)*Z)))):=by
 have m1:=mulZ (Z:=Z) (Ri hi);have D:=(mulZ (Z:=Z) m).1;have F:=(mulZ (Z:=Z) (show i+1<=n+1 from Aa)).1;have G:=(mulZ (Z:=Z) q).1;have A:(i+1)*Z=i*Z+Z:=QL i Z;have C:(n+1)*Z=n*Z+Z:=QL n Z;have z:(a.toList.take Z).length=Z:=BZ;refine⟨_,rfl,λW o1 g ty d l f k o=>?_,λW o1 o2 g s ty d t l f k w o=>?_⟩
 ·subst k
  exact h.cp1 ty d vc l f o r (by rw[e];omega) y
 ·subst k w
  exact h.cp ty d t l f o GV (by rw[lay_size (by rw[z,e];omega),e,m1.2];omega) (λv hv=>x v (seg_mem (Ri hi) hv))
end
def OvT(F E:Nat):Prop:=∀(w:World) (b vb ob lb cb vc:Nat) (cur vcur:Array Value),vb≠b->w.heap[b]? =some (.cells cur E (0,0))->w.heap[vb]? =some (.cells vcur E (0,0))->cur.size≠0->
 (callFunc F #[.slice (some ⟨vb,0,none⟩) 1 vc, .slice (some ⟨b,ob,none⟩) lb cb]).run Tryz.prog w= .ok (.value (.bool false)) w
def InsShift(F E Z:Nat):Prop:=∀(b n c i vb vc:Nat) (cur vcur:Array Value) (w:World),i<n->n+1<=c->c<=9223372036854775807->vb≠b->
 w.heap[b]? =some (.cells cur E (0,0))->w.heap[vb]? =some (.cells vcur E (0,0))->cur.size=c*Z->Z<=vcur.size->(∀v∈cur.toList.take (n*Z),v.oneCell'=true)->(∀v∈vcur.toList.take Z,v.oneCell'=true)->
 Calls Tryz.prog F #[.slice (some ⟨b,0,none⟩) n c, .int .i64 i, .slice (some ⟨vb,0,none⟩) 1 vc] w λe w'=>
  e= .returned (.slice (some ⟨b,0,none⟩) (n+1) c)/\w'=(w.drew.setRow b (lay cur ((i+1)*Z) ((cur.toList.drop (i*Z)).take ((n-i)*Z)))).setRow b (lay (lay cur ((i+1)*Z) ((cur.toList.drop (i*Z)).take ((n-i)*Z))) (i*Z) (vcur.toList.take Z))
def InsEnd(F E Z:Nat):Prop:=∀(b n c vb vc:Nat) (cur vcur:Array Value) (w:World),n+1<=c->c<=9223372036854775807->
 w.heap[b]? =some (.cells cur E (0,0))->w.heap[vb]? =some (.cells vcur E (0,0))->cur.size=c*Z->Z<=vcur.size->(∀v∈vcur.toList.take Z,v.oneCell'=true)->
 Calls Tryz.prog F #[.slice (some ⟨b,0,none⟩) n c, .int .i64 n, .slice (some ⟨vb,0,none⟩) 1 vc] w λe w'=>
  e= .returned (.slice (some ⟨b,0,none⟩) (n+1) c)/\w'=w.setRow b (lay cur (n*Z) (vcur.toList.take Z))
def InsEndG(F S E:Nat):Prop:=∀(base:Option Addr) (n c c' vb vc:Nat) (X:Array Value) (w:World),n<=c->c<n+1->n<=1000000000->(base=none->n=0/\c=0)->
 (∀ty,(Builtin.append_ #[S,S] ty #[.slice base n c, .slice (some ⟨vb,0,none⟩) 1 vc]).run Tryz.prog w= .ok (.slice (some ⟨w.heap.size,0,none⟩) (n+1) c') (w.drew.alloc (.cells X E)))->
 Calls Tryz.prog F #[.slice base n c, .int .i64 n, .slice (some ⟨vb,0,none⟩) 1 vc] w λe w'=>e= .returned (.slice (some ⟨w.heap.size,0,none⟩) (n+1) c')/\w'=w.drew.alloc (.cells X E)
def InsGrow(F S E Z:Nat):Prop:=∀(b n c c' i vb vc:Nat) (cur vcur R:Array Value) (w:World),i<n->n<=c->c<n+1->n<=1000000000->n+1<=c'->c'<=maxLen->
 w.heap[b]? =some (.cells cur E (0,0))->w.heap[vb]? =some (.cells vcur E (0,0))->cur.size=c*Z->R.size=c'*Z->Z<=vcur.size->(∀v∈cur.toList.take (n*Z),v.oneCell'=true)->(∀v∈vcur.toList.take Z,v.oneCell'=true)->
 (∀ty,(Builtin.append_ #[S,3] ty #[.slice (some ⟨b,0,none⟩) i c, .int .i64 ((n:Int)+1- (i:Int))]).run Tryz.prog w= .ok (.slice (some ⟨w.heap.size,0,none⟩) (n+1) c') (w.drew.alloc (.cells R E)))->
 Calls Tryz.prog F #[.slice (some ⟨b,0,none⟩) n c, .int .i64 i, .slice (some ⟨vb,0,none⟩) 1 vc] w λe w'=>e= .returned (.slice (some ⟨w.heap.size,0,none⟩) (n+1) c')/\
  w'=(((w.alloc (.cells R E)).drew.setRow w.heap.size (lay R (i*Z) (vcur.toList.take Z))).drew).setRow w.heap.size (lay (lay R (i*Z) (vcur.toList.take Z)) ((i+1)*Z) ((cur.toList.drop (i*Z)).take ((n-i)*Z)))
def ElT.nw{S E Z B:Nat}(h:ElT S E Z B)(w:World)(R:Array Value):((w.alloc (.cells R E)).drew).heap[w.heap.size]? =some (.cells R E (0,0))/\∀q,q<w.heap.size->((w.alloc (.cells R E)).drew).heap[q]? =w.heap[q]? :=
 ⟨RP,λq a=>by
  show(w.heap.push _)[q]? =_;rw[Array.getElem?_push_lt a,Array.getElem?_eq_getElem a]⟩
end Go.Proofs.Led
namespace Go.Proofs.Led
open Go Go.Proofs Go.Ab Tryz
def ins_gen{F S E Z B:Nat}(el:ElT S E Z B)(hF:callable Tryz.prog F=true)(r:InsShift F E Z)(az:InsEnd F E Z)(ao:InsEndG F S E)(a0:InsGrow F S E Z)
 (l:List V)(x:V)(i:Nat)(hi:i<=l.length)(hl:l.length<=1000000000):Sp F [.own E l,I i, .own E [x]] (.own E (l.take i++x::l.drop i)):=by
 have A:(T.row E).size=Z:=el.s;refine⟨hF,λw G cs h1 h2 h3 h4 h5=>?_⟩;obtain⟨v0,v1,v2,rfl⟩:=arr3 h1;have r0:Rb T w G 0 v0 (.own E l):=h4 0 v0 _ rfl rfl;have r1:v1= .int .i64 i:=aN3 (h4 1 v1 (I i) rfl rfl);have r2:Rb T w G 2 v2 (.own E [x]):=h4 2 v2 _ rfl rfl;subst r1;obtain⟨hE,al,ho⟩:=r0;obtain⟨_,am,hx⟩:=r2;obtain⟨vb,vc,d,rfl,hvO,hv,H,ai,aa⟩:=bY9 hx;rw[A]at H aa;have aq:=ai;rw[A]at aq;have an:x.pure:=aH.1 am x Af
 have Y:bM (l.take i++x::l.drop i):=aH.2 λy hy=>by
  rcases Pv.1 hy with h|h;exact aH.1 al y (PO h);rcases P5.1 h with rfl|h;exact an;exact aH.1 al y (PU h)
 have C:(l.take i++x::l.drop i).length=l.length+1:=Be;have P:∀v∈d.toList.take Z,v.oneCell'=true:=aa.one;have t:(d.toList.take Z).length=Z:=BZ;have a2:vb<w.heap.size:=(PS.1 hv).1;have ag:(l.take i++x::l.drop i).flatMap V.cells=(l.take i).flatMap V.cells++x.cells++(l.drop i).flatMap V.cells:=by simp[QF,Qk]
 have ep:i*Z+(d.toList.take Z).length=(i+1)*Z:=by rw[t,QL]
 obtain⟨mi,mn⟩:=mulZ (Z:=Z) hi;rcases ho with⟨aw,rfl⟩|⟨b,c,cur,rfl,hO,hb,O,af,hcs,aj,Q⟩
 ·have av:i=0:=by simpa using hi
  subst av
  obtain⟨u,rfl⟩:∃u,v0= .slice u 0 0:=by
   rcases aw with rfl|⟨a,rfl⟩;exact⟨none,rfl⟩;exact⟨some a,rfl⟩
  obtain⟨c',z,k,D,ak,ad⟩:=el.app u 0 0 vb vc [] d w (Po _) Aa Aa (λ_=>⟨rfl,rfl⟩) (λa h j v hj=>by simp at hj) (Nat.zero_mul Z).symm hv H;refine(ao u 0 0 c' vb vc _ w (Po _) Aa Aa (λ_=>⟨rfl,rfl⟩) ad).mono ?_;rintro e w' ⟨rfl,rfl⟩;have J:∀y∈([x] :List V),y.cells.length=(T.row E).size:=λy hy=>by rw[Py.1 hy];exact ai
  have mc:=mulZ (Z:=Z) k;refine jM (L:=[x]) (n:=0+1) hE am rfl J ?_ RP ?_ k D h2 h3 (.inr (Po _)) (λq hq _=>?_) D5 rfl rfl rfl
  ·rw[A]
   have e2:((([] :List Value).toArray++(d.toList.take Z).toArray++z).toList.take ((0+1)*Z))=d.toList.take Z:=by
    simp only[Array.toList_append,Rh];rw[List.take_append_of_le_length (by rw[t];omega)];exact Q8 (by rw[t];omega)
   rw[e2];simpa using aa
  ·rw[A]
   simp only[Sj,List.size_toArray,t,ak,SE];rw[mc.2];omega
  ·exact Kz
 ·rw[A]at hcs Q
  have M:cur.toList.length=c*Z:=FI;have ac:=aj;rw[A]at ac;have a1:b<w.heap.size:=(PS.1 hb).1;have ax:vb≠b:=by rintro rfl;rw[hvO]at hO;cases hO
  have J:∀y∈l.take i++x::l.drop i,y.cells.length=(T.row E).size:=λy hy=>by
   rcases Pv.1 hy with h|h;exact aj y (PO h);rcases P5.1 h with rfl|h;exact ai;exact aj y (PU h)
  obtain⟨f1,f2⟩:=xW ac hi;have a3:=(mulZ (Z:=Z) O).1
  have hA:RvL w G (cur.toList.take (i*Z)) ((l.take i).flatMap V.cells):=by
   have:=aM1 Q (i*Z);rw[SH,RY mi,f1]at this;exact this
  have hM:RvL w G ((cur.toList.drop (i*Z)).take ((l.length-i)*Z)) ((l.drop i).flatMap V.cells):=by
   have:=aL4 Q (i*Z);rw[f2,Rz,<-mn]at this;exact this
  have ah:((cur.toList.drop (i*Z)).take ((l.length-i)*Z)).length=(l.length-i)*Z:=by rw[PG,Qm,M,mn];omega
  have hX:RvL w G (cur.toList.take (i*Z)++d.toList.take Z++(cur.toList.drop (i*Z)).take ((l.length-i)*Z)) ((l.take i++x::l.drop i).flatMap V.cells):=by
   rw[ag];exact oH (oH hA aa) hM
  have et:i*Z+(d.toList.take Z).length+((cur.toList.drop (i*Z)).take ((l.length-i)*Z)).length=(l.length+1)*Z:=by rw[ah,t,mn,QL];omega
  have ab:c<=9223372036854775807:=by unfold maxLen at af;omega
  have U:(l.length+1)*Z=l.length*Z+(d.toList.take Z).length:=by rw[t,QL]
  by_cases g:l.length+1<=c
  ·have mr:=(mulZ (Z:=Z) g).1
   by_cases W:i<l.length
   ·refine(r b l.length c i vb vc cur d w W g ab ax hb hv hcs H Q.one P).mono ?_
    rintro e w' ⟨rfl,rfl⟩;have r:=lay_size (cur:=cur) (o:=(i+1)*Z) (vs:=(cur.toList.drop (i*Z)).take ((l.length-i)*Z)) (by rw[<-ep,hcs];omega);refine jM hE Y C J (X:=lay (lay cur ((i+1)*Z) ((cur.toList.drop (i*Z)).take ((l.length-i)*Z))) (i*Z) (d.toList.take Z)) ?_ (QH _ b _ _ _ _ (QH w.drew b cur _ _ _ hb)) ?_ g af h2 h3 (.inl hO) (λq hq m=>?_) ?_ rfl rfl rfl
    ·rw[A,<-et,<-ep,layA (by rw[et,hcs];exact mr)]
     exact hX
    ·rw[lay_size (by rw[r,hcs];omega),r,hcs,A]
    ·rw[Q9 _ b q _ m,Q9 _ b q _ m];rfl
    ·rw[size_setRow,size_setRow];exact Po _
   ·have N:i=l.length:=by omega
    subst N;refine(az b l.length c vb vc cur d w g ab hb hv hcs H P).mono ?_;rintro e w' ⟨rfl,rfl⟩;refine jM hE Y C J (X:=lay cur (l.length*Z) (d.toList.take Z)) ?_ (QH w b cur _ _ _ hb) ?_ g af h2 h3 (.inl hO) (λq hq m=>?_) ?_ rfl rfl rfl
    ·rw[A]
     have e0:(cur.toList.drop (l.length*Z)).take ((l.length-l.length)*Z)=[] :=PV.1 (by rw[ah];omega);rw[e0,Pz]at hX;rw[U,layC (by rw[<-U,hcs];exact mr)];exact hX
    ·rw[lay_size (by rw[<-U,hcs];exact mr),hcs,A]
    ·rw[Q9 _ b q _ m]
    ·rw[size_setRow];exact Po _
  ·have f:c<l.length+1:=by omega
   by_cases W:i<l.length
   ·obtain⟨c',R,k,D,K,au,ay⟩:=el.zeros W O f hl hb hcs
    obtain⟨hN,ar⟩:=el.nw w R;refine(a0 b l.length c c' i vb vc cur d R w W O f hl k D hb hv hcs K H Q.one P ay).mono ?_;rintro e w' ⟨rfl,rfl⟩;have mc:=(mulZ (Z:=Z) k).1;have r:=lay_size (cur:=R) (o:=i*Z) (vs:=d.toList.take Z) (by rw[K];omega);refine jM hE Y C J ?_ (QH (World.drew _) w.heap.size _ _ _ _ (QH _ w.heap.size R _ _ _ hN)) ?_ k D h2 h3 (.inr (Po _)) (λq hq m=>?_) ?_ rfl rfl rfl
    ·rw[A,<-et,<-ep,layB (by rw[et,K];exact mc),au]
     exact hX
    ·rw[lay_size (by rw[r,K,<-ep];omega),r,K,A]
    ·rw[Q9 _ _ q _ m]
     exact(Q9 _ _ q _ m).trans (ar q hq)
    ·rw[size_setRow]
     exact PD (Nat.le_succ _) (Nat.le_of_eq ((size_setRow _ _ _).trans (Array.size_push _)).symm)
   ·have N:i=l.length:=by omega
    subst N;have ae:(cur.toList.take (l.length*Z)).length=l.length*Z:=by rw[PG,M];omega
    obtain⟨c',z,k,D,ak,ad⟩:=el.app (some ⟨b,0,none⟩) l.length c vb vc (cur.toList.take (l.length*Z)) d w O f hl (λh=>Ag) (λa ha j v hj=>by cases ha;exact cell_take hb hj) ae hv H;refine(ao (some ⟨b,0,none⟩) l.length c c' vb vc _ w O f hl (λh=>Ag) ad).mono ?_;rintro e w' ⟨rfl,rfl⟩;have mc:=mulZ (Z:=Z) k;refine jM hE Y C J ?_ RP ?_ k D h2 h3 (.inr (Po _)) (λq hq _=>?_) D5 rfl rfl rfl
    ·rw[A]
     have e0:(cur.toList.drop (l.length*Z)).take ((l.length-l.length)*Z)=[] :=PV.1 (by rw[ah];omega);rw[e0,Pz]at hX
     have e2:(((cur.toList.take (l.length*Z)).toArray++(d.toList.take Z).toArray++z).toList.take ((l.length+1)*Z))=cur.toList.take (l.length*Z)++d.toList.take Z:=by
      simp only[Array.toList_append];exact uI (by rw[ae,U])
     rw[e2];exact hX
    ·rw[A]
     simp only[Sj,List.size_toArray,t,ak,ae];rw[mc.2];omega
    ·exact Kz
end Go.Proofs.Led
namespace Go.Proofs.Led
open Go Go.Proofs Go.Ab Go.RowKit Go.Lib Tryz
def elP:ElT 62 127 9 104:=⟨underlying62,OZ Ac,Ac,Ac,Ai,Ai⟩
def ovP:OvT 169 127:=λw b vb i g f vc cur a d hb hv c=>by
 rw[run_callFunc_extern func169 Ac Ac Ac (e:=Extern.SlicesOverlaps.overlaps #[62,62] #[4]) Ac,
  Lib.run_overlaps_apart w 62 4 127 underlying62 9 sizeOf127 ⟨vb,0,none⟩ ⟨b,i,none⟩ 1 vc g f d 127 127 a.size cur.size Gm Gn c Ci Ci]
 rfl
def insP_all:InsShift 126 127 9/\InsEnd 126 127 9/\InsEndG 126 62 127/\InsGrow 126 62 127 9:=by
 have el:=elP;have U:=ovP;have fF:=func126;have nF:=ntmps126;have zE:=sizeOf127;have uS:=Qb underlying62;have V:=QK;have W:=QX;have Y:=Qb QK;have Z:=Qb QX;have mixed:=mixed;refine⟨?_,?_,?_,?_⟩
 ·intro b n c i vb vc cur e w hi hroom o hvb hb hv hbs hvs s h2
  have E:=λT S M=>U w b vb T S M vc cur e hvb hb hv Aa;obtain⟨X1,d,q,hcp2⟩:=el.shift (b:=b) (vb:=vb) (vc:=vc) hi hroom hbs hvs s h2;rw[<-d];clear d;have H:IntKind.i64.wrap ((i:Int)+1)=(i:Int)+1:=Ap;have I:IntKind.i64.wrap ((n:Int)+1)=(n:Int)+1:=Ap;have J:¬((i:Int)=(n:Int)):=Aa;have v:(0:Int)<=(i:Int)+1:=Aa;have G:((i:Int)+1).toNat=i+1:=Aa;have L:((n:Int)+1).toNat=n+1:=Aa;have C:i<=n:=Aa;have x:¬(c=i+1):=Aa;have y:(i:Int)<=(n:Int)+1:=Aa;have z:¬(c=i):=Aa;have A:¬((c:Int)< (n:Int)+1):=Aa
  go_enter fF,nF
  go_wp2_with (simp only[E])
  have l:=q w.drew _ _ (n-i) (n+1-i) 3 (c- (i+1)) (c-i) hb rfl rfl D6;try simp only[RJ]at l
  go_region_law_o (refine step_copy_runI rfl _ _ _ _ rfl _ _ Au Au l ?_)
  exact L6
 intro b n c vb vc cur e w hroom o hb hv hbs hvs h2;exact LH
 ·intro k n c j vb vc X w r hroom m hn hA
  go_enter fF,nF
  cases k with
  |none=>exact IB
  |some a=>exact IC
 intro b n c j i vb vc cur e R w hi r hroom m B hle hb hv hbs u hvs s h2 F;have hbw:b<w.heap.size:=(PS.1 hb).1;have hvw:vb<w.heap.size:=(PS.1 hv).1;obtain⟨X1,d,f,g⟩:=el.grow (b:=b) (vb:=vb) (vc:=vc) (N:=w.heap.size) hi r B hbs u hvs s h2;obtain⟨t,hO⟩:=el.nw w R;have hA:=f _ _ (n+1-i) 3 (j-i) t FV rfl Aa;have K:=g ((World.setRow _ w.heap.size X1).drew) _ _ (n-i) (n-i) 3 (j- (i+1)) (c-i) (QH _ w.heap.size R X1 _ _ t) ((Q9 _ w.heap.size b X1 Aa).trans Gs) rfl rfl (Nat.min_self _);rw[<-d];clear d f g t hO;have H:IntKind.i64.wrap ((i:Int)+1)=(i:Int)+1:=Ap;have I:IntKind.i64.wrap ((n:Int)+1)=(n:Int)+1:=Ap;have Q:IntKind.i64.wrap ((n:Int)+1- (i:Int))=(n:Int)+1- (i:Int):=Ap;have J:¬((i:Int)=(n:Int)):=Aa;have v:(0:Int)<=(i:Int)+1:=Aa;have G:((i:Int)+1).toNat=i+1:=Aa;have C:i<=n:=Aa;have x:¬(j=i+1):=Aa;have y:(i:Int)<=(n:Int)+1:=Aa;have z:¬(c=i):=Aa;have A:(c:Int)< (n:Int)+1:=Aa;have O:¬(j=i):=Aa;have P:(i:Int)<=(c:Int):=Aa;have D:j<=9223372036854775807:=Fp;try simp only[RJ]at hA K
 go_enter fF,nF
 go_wp2_with (first|simp only[hA,P9] |(at_builtin;refine Lib.wpList_append_run _ rfl _ _ _ _ rfl _ _ rfl rfl _ _ (F _) ?_))
 go_region_law_o (refine step_copy_runI rfl _ _ _ _ rfl _ _ Au Au K ?_)
 go_wp2
 go_ret
 first|exact⟨rfl,rfl⟩|exact⟨rfl,Bz⟩
theorem dO8(l:List V)(x:V)(i:Nat)(hi:i<=l.length)(a:l.length<=1000000000):Sp 126 [.own 127 l,I i, .own 127 [x]] (.own 127 (l.take i++x::l.drop i)):=
 ins_gen elP Ac insP_all.1 insP_all.2.1 insP_all.2.2.1 insP_all.2.2.2 l x i hi a
def elS:ElT 61 90 14 216:=⟨underlying61,OZ Ac,Ac,Ac,Ai,Ai⟩
def ovS:OvT 205 90:=λw b vb i g f vc cur a d hb hv c=>by
 rw[run_callFunc_extern func205 Ac Ac Ac (e:=Extern.SlicesOverlaps.overlaps #[61,61] #[4]) Ac,
  Lib.run_overlaps_apart w 61 4 90 underlying61 14 sizeOf90 ⟨vb,0,none⟩ ⟨b,i,none⟩ 1 vc g f d 90 90 a.size cur.size Gm Gn c Ci Ci]
 rfl
def insS_all:InsShift 166 90 14/\InsEnd 166 90 14/\InsEndG 166 61 90/\InsGrow 166 61 90 14:=by
 have el:=elS;have U:=ovS;have fF:=func166;have nF:=ntmps166;have zE:=sizeOf90;have uS:=Qb underlying61;have V:=QK;have W:=QX;have Y:=Qb QK;have Z:=Qb QX;have mixed:=mixed;refine⟨?_,?_,?_,?_⟩
 ·intro b n c i vb vc cur e w hi hroom o hvb hb hv hbs hvs s h2
  have E:=λT S M=>U w b vb T S M vc cur e hvb hb hv Aa;obtain⟨X1,d,q,hcp2⟩:=el.shift (b:=b) (vb:=vb) (vc:=vc) hi hroom hbs hvs s h2;rw[<-d];clear d;have H:IntKind.i64.wrap ((i:Int)+1)=(i:Int)+1:=Ap;have I:IntKind.i64.wrap ((n:Int)+1)=(n:Int)+1:=Ap;have J:¬((i:Int)=(n:Int)):=Aa;have v:(0:Int)<=(i:Int)+1:=Aa;have G:((i:Int)+1).toNat=i+1:=Aa;have L:((n:Int)+1).toNat=n+1:=Aa;have C:i<=n:=Aa;have x:¬(c=i+1):=Aa;have y:(i:Int)<=(n:Int)+1:=Aa;have z:¬(c=i):=Aa;have A:¬((c:Int)< (n:Int)+1):=Aa
  go_enter fF,nF
  go_wp2_with (simp only[E])
  have l:=q w.drew _ _ (n-i) (n+1-i) 3 (c- (i+1)) (c-i) hb rfl rfl D6;try simp only[RJ]at l
  go_region_law_o (refine step_copy_runI rfl _ _ _ _ rfl _ _ Au Au l ?_)
  exact L6
 intro b n c vb vc cur e w hroom o hb hv hbs hvs h2;exact LH
 ·intro k n c j vb vc X w r hroom m hn hA
  go_enter fF,nF
  cases k with
  |none=>exact IB
  |some a=>exact IC
 intro b n c j i vb vc cur e R w hi r hroom m B hle hb hv hbs u hvs s h2 F;have hbw:b<w.heap.size:=(PS.1 hb).1;have hvw:vb<w.heap.size:=(PS.1 hv).1;obtain⟨X1,d,f,g⟩:=el.grow (b:=b) (vb:=vb) (vc:=vc) (N:=w.heap.size) hi r B hbs u hvs s h2;obtain⟨t,hO⟩:=el.nw w R;have hA:=f _ _ (n+1-i) 3 (j-i) t FV rfl Aa;have K:=g ((World.setRow _ w.heap.size X1).drew) _ _ (n-i) (n-i) 3 (j- (i+1)) (c-i) (QH _ w.heap.size R X1 _ _ t) ((Q9 _ w.heap.size b X1 Aa).trans Gs) rfl rfl (Nat.min_self _);rw[<-d];clear d f g t hO;have H:IntKind.i64.wrap ((i:Int)+1)=(i:Int)+1:=Ap;have I:IntKind.i64.wrap ((n:Int)+1)=(n:Int)+1:=Ap;have Q:IntKind.i64.wrap ((n:Int)+1- (i:Int))=(n:Int)+1- (i:Int):=Ap;have J:¬((i:Int)=(n:Int)):=Aa;have v:(0:Int)<=(i:Int)+1:=Aa;have G:((i:Int)+1).toNat=i+1:=Aa;have C:i<=n:=Aa;have x:¬(j=i+1):=Aa;have y:(i:Int)<=(n:Int)+1:=Aa;have z:¬(c=i):=Aa;have A:(c:Int)< (n:Int)+1:=Aa;have O:¬(j=i):=Aa;have P:(i:Int)<=(c:Int):=Aa;have D:j<=9223372036854775807:=Fp;try simp only[RJ]at hA K
 go_enter fF,nF
 go_wp2_with (first|simp only[hA,P9] |(at_builtin;refine Lib.wpList_append_run _ rfl _ _ _ _ rfl _ _ rfl rfl _ _ (F _) ?_))
 go_region_law_o (refine step_copy_runI rfl _ _ _ _ rfl _ _ Au Au K ?_)
 go_wp2
 go_ret
 first|exact⟨rfl,rfl⟩|exact⟨rfl,Bz⟩
theorem dL7(l:List V)(x:V)(i:Nat)(hi:i<=l.length)(a:l.length<=1000000000):Sp 166 [.own 90 l,I i, .own 90 [x]] (.own 90 (l.take i++x::l.drop i)):=
 ins_gen elS Ac insS_all.1 insS_all.2.1 insS_all.2.2.1 insS_all.2.2.2 l x i hi a
end Go.Proofs.Led
