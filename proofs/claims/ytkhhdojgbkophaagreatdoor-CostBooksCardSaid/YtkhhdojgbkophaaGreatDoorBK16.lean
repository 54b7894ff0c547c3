/-
  The reference's invoice in plain Lean: the same lines and the same sum.
-/
import Derived.Test.YtkhhdojgbkophaaGreatDoorBK15
set_option linter.unusedVariables false
set_option linter.unusedSimpArgs false
set_option maxRecDepth 100000
set_option maxHeartbeats 4000000
noncomputable section
namespace Go.Proofs.Cost58
open Go Go.Proofs Go.Ab Go.Proofs.Led
abbrev Asc(l:List ByteArray):Prop:=l.Pairwise fun a b=>ltS a b=true
def insN(n:ByteArray):List ByteArray->List ByteArray
 | [] => [n]
 |x::r=>if ltS x n=true then x::insN n r else if x=n then x::r else n::x::r
open Classical in
def namS(o:ByteArray)(l:List ByteArray)(p:Pc):List ByteArray:=if shipped o p then insN p.part l else l
def namesR(o:ByteArray)(D:List Pc):List ByteArray:=D.foldl (namS o) []
theorem mem_runI(r:Rt)(o:ByteArray)(D:List Pc)(hD:D.length<=1000000)(a:ByteArray):a∈(runI r o D).names↔∃p∈D,shipped o p/\p.part=a:=by
 suffices h:∀(R D:List Pc),(D++R).length<=1000000->(a∈(runI r o D).names↔∃p∈D,shipped o p/\p.part=a)->(a∈(runI r o (D++R)).names↔∃p∈D++R,shipped o p/\p.part=a)from by
  have:=h D [] (by simpa using hD) (by simp[runI])
  simpa using this
 intro R
 induction R with
 |nil=>intro D _ h;simpa using h
 |cons p R ih=>
  intro D hl h;rw[show D++p::R=(D++[p])++R from Ae];refine ih (D++[p]) (by rw[List.append_assoc];exact hl) ?_
  have hok:=names_ok r o D (by simp at hl;omega)
  rw[runI_snoc]
  have e:a∈(stepI r o (runI r o D) p).names↔a∈(runI r o D).names\/shipped o p/\p.part=a:=by
   unfold stepI;split
   ·rename_i hs
    show a∈(if findP p.part (runI r o D).c=0 then(runI r o D).names++[p.part]else(runI r o D).names)↔_
    split
    ·rw[List.mem_append,List.mem_singleton]
     exact⟨fun h=>h.elim .inl fun h=> .inr ⟨hs,h.symm⟩,fun h=>h.elim .inl fun h=> .inr h.2.symm⟩
    ·rename_i hne
     exact⟨.inl,fun h=>h.elim id fun h=>by rw[<-h.2];exact(hok.mem _).2 hne⟩
   ·rename_i hs
    exact⟨.inl,fun h=>h.elim id fun h=>absurd h.1 hs⟩
  rw[e,h];constructor
  ·rintro(⟨q,h1,h2⟩|h)
   ·exact⟨q,GZ,h2⟩
   ·exact⟨p,Ae,h⟩
  ·rintro⟨q,h1,h2⟩
   rcases List.mem_append.1 h1 with h1|h1
   ·exact .inl ⟨q,h1,h2⟩
   ·rw[List.mem_singleton.1 h1]at h2;exact .inr h2
open Classical in
def cntS(o n:ByteArray)(c:Int)(p:Pc):Int:=if shipped o p/\p.part=n then W64 (c+1)else c
def cntR(o:ByteArray)(D:List Pc)(n:ByteArray):Int:=D.foldl (cntS o n) 0
open Classical in
def valS(r:Rt)(o n:ByteArray)(c:Int)(p:Pc):Int:=if shipped o p/\p.part=n then W64 (c+valR r p.size p.bar)else c
def valN(r:Rt)(o:ByteArray)(D:List Pc)(n:ByteArray):Int:=D.foldl (valS r o n) 0
def rline(r:Rt)(o:ByteArray)(D:List Pc)(n:ByteArray):ByteArray:=n++xB++itoaB (cntR o D n)++csB++itoaB (valN r o D n)
def linesR(r:Rt)(o:ByteArray)(D:List Pc):List ByteArray:=(namesR o D).map (rline r o D)
def rtE(r:Rt)(b:Bool):Int:=match b with|true=>r.bar|false=>r.sheet
theorem w64_mod(n:Int):∃k:Int,W64 n=n+k*18446744073709551616:=JJ
theorem w64_cong{a b:Int}(k:Int)(h:a=b+k*18446744073709551616):W64 a=W64 b:=by
 obtain⟨i,hi⟩:=w64_mod a;obtain⟨j,hj⟩:=w64_mod b;have:=w64_range a;have:=w64_range b
 omega
theorem w64_add2(a b:Int):W64 (W64 a+W64 b)=W64 (a+b):=by
 obtain⟨i,hi⟩:=w64_mod a;obtain⟨j,hj⟩:=w64_mod b;exact w64_cong (i+j) Aa
open Classical in
def exN(r:Rt)(o n:ByteArray):List Pc->Int
 | [] =>0
 |p::D=>(if shipped o p/\p.part=n then p.size*rtE r p.bar else 0)+exN r o n D
open Classical in
def exS(r:Rt)(o:ByteArray):List Pc->Int
 | [] =>0
 |p::D=>(if shipped o p then p.size*rtE r p.bar else 0)+exS r o D
open Classical in
open Classical in
theorem exS_cons(r:Rt)(o:ByteArray)(p:Pc)(D:List Pc):exS r o (p::D)=(if shipped o p then p.size*rtE r p.bar else 0)+exS r o D:=rfl
def exK(f:ByteArray->Int):List ByteArray->Int
 | [] =>0
 |n::K=>f n+exK f K
open Classical in
open Classical in
theorem run_sum(r:Rt)(o:ByteArray)(D:List Pc):(runI r o D).sum=W64 (exS r o D):=by
 suffices h:∀(D:List Pc) (x:Iv) (b:Int),x.sum=W64 b->(D.foldl (stepI r o) x).sum=W64 (b+exS r o D)from by
  have:=h D ⟨[],[],[],0⟩ 0 Ak;simpa [runI]using this
 intro D
 induction D with
 |nil=>intro a b h;simpa [exS]using h
 |cons p D ih=>
  intro x b h;rw[List.foldl_cons]
  have e:(stepI r o x p).sum=W64 (b+(if shipped o p then p.size*rtE r p.bar else 0)):=by
   unfold stepI;by_cases hs:shipped o p
   ·rw[if_pos hs,if_pos hs]
    show W64 (x.sum+valR r p.size p.bar)=_;rw[h];exact w64_add2 _ _
   ·rw[if_neg hs,if_neg hs,h];simp
  rw[ih _ _ e,exS_cons,Int.add_assoc]
theorem exK_add(f g:ByteArray->Int)(K:List ByteArray):exK (fun n=>f n+g n) K=exK f K+exK g K:=by
 induction K with
 |nil=>rfl
 |cons n K ih=>show f n+g n+exK _ K=f n+exK f K+(g n+exK g K);rw[ih];omega
theorem exK_zero(K:List ByteArray):exK (fun _=>0) K=0:=by
 induction K with
 |nil=>rfl
 |cons n K ih=>show 0+exK _ K=0;rw[ih];rfl
open Classical in
theorem exK_one(a:ByteArray)(v:Int)(K:List ByteArray)(hK:K.Nodup):exK (fun n=>if a=n then v else 0) K=if a∈K then v else 0:=by
 induction K with
 |nil=>simp[exK]
 |cons n K ih=>
  obtain⟨h1,h2⟩:=List.nodup_cons.1 hK;show(if a=n then v else 0)+exK _ K=_
  rw[ih h2];by_cases e:a=n
  ·subst e
   rw[if_pos rfl,if_neg h1,if_pos Ae];omega
  ·rw[if_neg e]
   by_cases m:a∈K
   ·rw[if_pos m,if_pos (by simp[m])];omega
   ·rw[if_neg m,if_neg (by simp[m,e])];rfl
open Classical in
def sumR(r:Rt)(o:ByteArray)(D:List Pc)(K:List ByteArray):Int:=K.foldl (fun s n=>W64 (s+valN r o D n)) 0
end Go.Proofs.Cost58
namespace Go.Proofs.Led
open Go Go.Proofs Go.Ab
structure PcOk(p:Piece):Prop where
 nm:iM p.part
 st:p.status=1\/p.status=2\/p.status=3
 od:p.status=3->iM p.order
def Shp(s:aJ):Prop:=∀p∈s.pieces,PcOk p
theorem shp0:Shp inv0:=by intro p hp;simp[inv0]at hp
theorem shp_step{s s':aJ}{e:Event}(h:Shp s)(hf:iD e)(hs:Step s e s'):Shp s':=by
 cases hs with
 |recv x hx hn=>exact h
 |setK k m p hk hm hid=>exact h
 |disc k m hk hm hid=>exact h
 |setP k m st o hk hm hst hid=>
  intro y hy;rcases mem_set hy with rfl|hy
  ·have hm2:=h m (fC hm)
   rcases hk with⟨_,rfl,rfl⟩|⟨hk,rfl,rfl⟩
   ·exact⟨hm2.nm, .inr (.inl rfl),fun q=>absurd q (by show¬(2:Int)=3;decide)⟩
   ·exact⟨hm2.nm, .inr (.inr rfl),fun _=>hf.2.2.2.2.2.1 (.inr hk)⟩
  ·exact h y hy
 |cut k m hk hfc hfr hm hid hp hr hl=>
  intro y hy;rw[aG4]at hy;have hy2:y∈s.pieces\/y∈e.cuts.map (fZ e m):=Jc;rcases hy2 with hy|hy
  ·exact h y hy
  ·obtain⟨c,hc,rfl⟩:=List.mem_map.1 hy
   exact⟨(hfc.1 c hc).2.1, .inl rfl,fun q=>absurd q (by show¬(1:Int)=3;decide)⟩
end Go.Proofs.Led
namespace Go.Proofs.Cost58
open Go Go.Proofs Go.Ab Go.Proofs.Led
def stE(r:Rt)(l:List aN):Int:=(l.map fun x=>sizeA x*rtE r x.isBar).sum
open Classical in
def pcE(r:Rt)(k:Int)(l:List Piece):Int:=(l.map fun p=>if p.status=k then p.size*rtE r p.isBar else 0).sum
theorem stA_ex(r:Rt)(l:List aN):stA r l=W64 (stE r l):=by
 suffices h:∀(l:List aN) (a b:Int),a=W64 b->l.foldl (stS r) a=W64 (b+stE r l)from by
  have:=h l 0 0 Ak;simpa [stA]using this
 intro l
 induction l with
 |nil=>intro a b h;simpa [stE]using h
 |cons x l ih=>
  intro a b h;rw[List.foldl_cons,ih (stS r a x) (b+sizeA x*rtE r x.isBar) (by rw[h];exact w64_add2 _ _)]
  unfold stE;rw[List.map_cons,List.sum_cons,Int.add_assoc]
theorem pcA_ex(r:Rt)(k:Int)(l:List Piece):pcA r k l=W64 (pcE r k l):=by
 suffices h:∀(l:List Piece) (a b:Int),a=W64 b->l.foldl (pcS r k) a=W64 (b+pcE r k l)from by
  have:=h l 0 0 Ak;simpa [pcA]using this
 intro l
 induction l with
 |nil=>intro a b h;simpa [pcE]using h
 |cons x l ih=>
  intro a b h
  have e:pcS r k a x=W64 (b+if x.status=k then x.size*rtE r x.isBar else 0):=by
   unfold pcS;by_cases c:x.status=k
   ·rw[if_pos c,if_pos c,h];exact w64_add2 _ _
   ·rw[if_neg c,if_neg c,h,Int.add_zero]
  rw[List.foldl_cons,ih _ _ e];unfold pcE;rw[List.map_cons,List.sum_cons,Int.add_assoc]
theorem scA_ex(r:Rt)(v:Led.Iv):scA r v=W64 (v.1*r.sheet+v.2*r.bar):=w64_add2 _ _
theorem stE_tot(r:Rt)(l:List aN):stE r l=totS false l*r.sheet+totS true l*r.bar:=by
 induction l with
 |nil=>simp[stE,totS]
 |cons x l ih=>
  have e:stE r (x::l)=sizeA x*rtE r x.isBar+stE r l:=by unfold stE;rw[List.map_cons,List.sum_cons]
  have e1:∀b,totS b (x::l)=(if x.isBar=b then sizeA x else 0)+totS b l:=fun b=>by unfold totS;rw[List.map_cons,List.sum_cons];rfl
  rw[e,ih,e1,e1];cases h:x.isBar<;>simp[rtE,Int.add_mul] <;>omega
theorem pcE_tot(r:Rt)(l:List Piece)(h:∀p∈l,PcOk p):pcE r 1 l+pcE r 2 l+pcE r 3 l=totP false l*r.sheet+totP true l*r.bar:=by
 induction l with
 |nil=>simp[pcE,totP]
 |cons x l ih=>
  have e:∀k,pcE r k (x::l)=(if x.status=k then x.size*rtE r x.isBar else 0)+pcE r k l:=fun k=>EY
  have e1:∀b,totP b (x::l)=(if x.isBar=b then x.size else 0)+totP b l:=fun b=>by unfold totP;rw[List.map_cons,List.sum_cons]
  have hi:=ih (fun p hp=>h p (by simp[hp]))
  have hst:=(h x Ae).st;rw[e,e,e,e1,e1]
  have hs:(if x.status=1 then x.size*rtE r x.isBar else 0)+(if x.status=2 then x.size*rtE r x.isBar else 0)+(if x.status=3 then x.size*rtE r x.isBar else 0)=x.size*rtE r x.isBar:=by
   rcases hst with q|q|q<;>rw[q] <;>simp
  have hs2:x.size*rtE r x.isBar+(totP false l*r.sheet+totP true l*r.bar)=((if x.isBar=false then x.size else 0)+totP false l)*r.sheet+((if x.isBar=true then x.size else 0)+totP true l)*r.bar:=by
   cases h:x.isBar<;>simp[rtE,Int.add_mul] <;>omega
  omega
theorem w64_five(a b c d e:Int):W64 (W64 (W64 (W64 (W64 a+W64 b)+W64 c)+W64 d)+W64 e)=W64 (a+b+c+d+e):=by
 rw[w64_add2 a b,w64_add2 (a+b) c,w64_add2 (a+b+c) d,w64_add2 (a+b+c+d) e]
theorem books_bal(r:Rt)(s:aJ)(hb:Bal s)(hp:Shp s):
 W64 (W64 (W64 (W64 (stA r s.stocks+pcA r 1 s.pieces)+pcA r 2 s.pieces)+pcA r 3 s.pieces)+scA r s.scrap)=scA r s.received:=by
 rw[stA_ex,pcA_ex,pcA_ex,pcA_ex,scA_ex,scA_ex];rw[w64_five];have h1:=hb.eq false;have h2:=hb.eq true
 obtain⟨k1,q1⟩:=dC2 (cls false s.scrap+totS false s.stocks+totP false s.pieces);obtain⟨k2,q2⟩:=dC2 (cls true s.scrap+totS true s.stocks+totP true s.pieces);rw[h1]at q1;rw[h2]at q2;have e1:s.received.1=s.scrap.1+totS false s.stocks+totP false s.pieces+k1*18446744073709551616:=q1;have e2:s.received.2=s.scrap.2+totS true s.stocks+totP true s.pieces+k2*18446744073709551616:=q2
 have t1:=stE_tot r s.stocks;have t2:=pcE_tot r s.pieces hp
 refine w64_cong (-(k1*r.sheet+k2*r.bar)) ?_;rw[e1,e2,t1];simp only[Int.add_mul,Int.neg_mul];have c1:k1*18446744073709551616*r.sheet=k1*r.sheet*18446744073709551616:=C9;have c2:k2*18446744073709551616*r.bar=k2*r.bar*18446744073709551616:=C9
 omega
open Classical in
def ordS(l:List ByteArray)(p:Piece):List ByteArray:=if p.status=3/\p.order∉l then l++[p.order]else l
def ordL(D:List Piece):List ByteArray:=D.foldl ordS []
theorem ordL_snoc(D:List Piece)(p:Piece):ordL (D++[p])=ordS (ordL D) p:=by simp[ordL]
theorem ord_ok(D:List Piece):(ordL D).Nodup/\(ordL D).length<=D.length/\∀o,o∈ordL D↔∃p∈D,p.status=3/\p.order=o:=by
 suffices h:∀(R D:List Piece),((ordL D).Nodup/\(ordL D).length<=D.length/\∀o,o∈ordL D↔∃p∈D,p.status=3/\p.order=o)->((ordL (D++R)).Nodup/\(ordL (D++R)).length<=(D++R).length/\∀o,o∈ordL (D++R)↔∃p∈D++R,p.status=3/\p.order=o)from by
  have:=h D [] (by simp[ordL]);simpa using this
 intro R
 induction R with
 |nil=>intro D h;simpa using h
 |cons p R ih=>
  intro D h;rw[show D++p::R=(D++[p])++R from Ae];refine ih (D++[p]) ?_;obtain⟨h1,h2,h3⟩:=h;rw[ordL_snoc];unfold ordS;by_cases c:p.status=3/\p.order∉ordL D
  ·rw[if_pos c]
   refine⟨List.nodup_append.2 ⟨h1,Ae,fun a ha b hb=>?_⟩,Ai,fun o=>?_⟩
   ·rw[List.mem_singleton.1 hb];rintro rfl;exact c.2 ha
   ·rw[List.mem_append,List.mem_singleton,h3]
    constructor
    ·rintro(⟨q,a,b⟩|rfl)
     ·exact⟨q,by simp[a],b⟩
     ·exact⟨p,Ae,c.1,rfl⟩
    ·rintro⟨q,a,b⟩
     rcases List.mem_append.1 a with a|a
     ·exact .inl ⟨q,a,b⟩
     ·rw[List.mem_singleton.1 a]at b;exact .inr b.2.symm
  ·rw[if_neg c]
   refine⟨h1,Ai,fun o=>?_⟩;rw[h3];constructor
   ·rintro⟨q,a,b⟩;exact⟨q,by simp[a],b⟩
   ·rintro⟨q,a,b⟩
    rcases List.mem_append.1 a with a|a
    ·exact⟨q,a,b⟩
    ·rw[List.mem_singleton.1 a]at b
     have:p.order∈ordL D:=Classical.byContradiction fun n=>c ⟨b.1,n⟩;rw[<-b.2];exact(h3 _).1 this
def invSum(r:Rt)(D:List Piece)(K:List ByteArray):Int:=K.foldl (fun s o=>W64 (s+(runI r o (D.map pcOf)).sum)) 0
theorem invSum_snoc(r:Rt)(D:List Piece)(K:List ByteArray)(o:ByteArray):invSum r D (K++[o])=W64 (invSum r D K+(runI r o (D.map pcOf)).sum):=by simp[invSum]
theorem invSum_ex(r:Rt)(D:List Piece)(K:List ByteArray):invSum r D K=W64 (exK (fun o=>exS r o (D.map pcOf)) K):=by
 suffices h:∀(K:List ByteArray) (a b:Int),a=W64 b->K.foldl (fun s o=>W64 (s+(runI r o (D.map pcOf)).sum)) a=W64 (b+exK (fun o=>exS r o (D.map pcOf)) K)from by
  have:=h K 0 0 Ak;simpa [invSum]using this
 intro K
 induction K with
 |nil=>intro a b h;simpa [exK]using h
 |cons n K ih=>
  intro a b h;rw[List.foldl_cons,ih _ (b+exS r n (D.map pcOf)) (by rw[h,run_sum,w64_add2])]
  show _=W64 (b+(exS r n _+exK _ K));rw[Int.add_assoc]
open Classical in
theorem ord_sum(r:Rt)(D:List Piece)(K:List ByteArray)(hK:K.Nodup)(h:∀p∈D,p.status=3->p.order∈K):exK (fun o=>exS r o (D.map pcOf)) K=pcE r 3 D:=by
 induction D with
 |nil=>exact exK_zero K
 |cons p D ih=>
  have e:∀o,exS r o ((p::D).map pcOf)=(if p.status=3 then(if p.order=o then p.size*rtE r p.isBar else 0)else 0)+exS r o (D.map pcOf):=by
   intro o;show(if shipped o (pcOf p)then _ else 0)+_=_
   congr 1;unfold shipped;by_cases c:p.status=3
   ·rw[if_pos c]
    by_cases d:p.order=o
    ·rw[if_pos d,if_pos ⟨c,d⟩];rfl
    ·rw[if_neg d,if_neg (fun q=>d q.2)]
   ·rw[if_neg c,if_neg (fun q=>c q.1)]
  have e2:pcE r 3 (p::D)=(if p.status=3 then p.size*rtE r p.isBar else 0)+pcE r 3 D:=EY
  rw[e2,<-ih (fun p hp=>h p (by simp[hp])),show(fun o=>exS r o ((p::D).map pcOf))=fun o=>(if p.status=3 then(if p.order=o then p.size*rtE r p.isBar else 0)else 0)+exS r o (D.map pcOf)from funext e,exK_add]
  congr 1;by_cases c:p.status=3
  ·simp only[if_pos c]
   rw[exK_one _ _ K hK,if_pos (h p Ae c)]
  ·simp only[if_neg c]
   exact exK_zero K
theorem orders_sum(r:Rt)(D:List Piece):invSum r D (ordL D)=pcA r 3 D:=by
 rw[invSum_ex,pcA_ex];obtain⟨h1,h2,h3⟩:=ord_ok D;rw[ord_sum r D (ordL D) h1 (fun p hp hs=>(h3 _).2 ⟨p,hp,hs,rfl⟩)]
theorem lines_pos(r:Rt)(D:List Piece)(hD:D.length<=1000000){o:ByteArray}(ho:o∈ordL D):0< (linesI r o (D.map pcOf)).length:=by
 obtain⟨p,hp,h1,h2⟩:=((ord_ok D).2.2 o).1 ho;have hm:=(mem_runI r o (D.map pcOf) (by simpa using hD) p.part).2 ⟨pcOf p,List.mem_map_of_mem hp,⟨h1,h2⟩,rfl⟩
 unfold linesI;rw[List.length_map,(sortB_perm _).length_eq];exact List.length_pos_of_mem hm
end Go.Proofs.Cost58
