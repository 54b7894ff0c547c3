/-
  The reference's invoice in plain Lean: the same lines and the same sum.
-/
import Derived.Test.YtkhhdojgbkophaaGreatDoorK15
set_option linter.unusedVariables false
set_option linter.unusedSimpArgs false
set_option maxRecDepth 100000
noncomputable section
namespace Go.Proofs.Cost58
open Go Go.Proofs Go.Ab Go.Proofs.Led
theorem ltS_iff(a b:ByteArray):ltS a b=true↔a.data.toList<b.data.toList:=by
 unfold ltS;rw[bytesLess_eq,decide_eq_true_eq];show a.toList<b.toList↔_;rw[ByteArray.toList_eq,ByteArray.toList_eq]
theorem ltS_trans{a b c:ByteArray}(h:ltS a b=true)(k:ltS b c=true):ltS a c=true:=by
 rw[ltS_iff]at*;exact List.lt_trans h k
theorem ltS_irr(a:ByteArray):¬ltS a a=true:=by
 rw[ltS_iff];exact List.lt_irrefl _
theorem ltS_tot{a b:ByteArray}(h:¬ltS a b=true)(k:a≠b):ltS b a=true:=by
 rw[ltS_iff]at*;rcases List.le_iff_lt_or_eq.1 (show b.data.toList<=a.data.toList from h)with q|q
 ·exact q
 ·exact absurd (ByteArray.ext (Array.toList_inj.1 q)).symm k
abbrev Asc(l:List ByteArray):Prop:=l.Pairwise fun a b=>ltS a b=true
def insN(n:ByteArray):List ByteArray->List ByteArray
 | [] => [n]
 |x::r=>if ltS x n=true then x::insN n r else if x=n then x::r else n::x::r
theorem mem_insN(n a:ByteArray)(l:List ByteArray):a∈insN n l↔a=n\/a∈l:=by
 induction l with
 |nil=>simp[insN]
 |cons x r ih=>
  unfold insN;split
  ·rw[List.mem_cons,ih,List.mem_cons]
   exact⟨fun h=>h.elim (fun h=> .inr (.inl h)) (fun h=>h.elim .inl fun h=> .inr (.inr h)),fun h=>h.elim (fun h=> .inr (.inl h)) (fun h=>h.elim .inl fun h=> .inr (.inr h))⟩
  ·split
   ·rename_i e
    exact⟨.inr,fun h=>h.elim (fun h=>by rw[h,<-e];simp) id⟩
   ·exact List.mem_cons
theorem asc_insN(n:ByteArray)(l:List ByteArray)(h:Asc l):Asc (insN n l):=by
 induction l with
 |nil=>exact List.pairwise_singleton _ _
 |cons x r ih=>
  obtain⟨h1,h2⟩:=List.pairwise_cons.1 h;unfold insN;split
  ·rename_i hx
   refine List.pairwise_cons.2 ⟨fun a ha=>?_,ih h2⟩;rcases(mem_insN n a r).1 ha with q|q
   ·rw[q];exact hx
   ·exact h1 a q
  ·rename_i hx
   split
   ·exact h
   ·rename_i hne
    have hlt:ltS n x=true:=ltS_tot hx hne;refine List.pairwise_cons.2 ⟨fun a ha=>?_,h⟩;rcases List.mem_cons.1 ha with q|q
    ·rw[q];exact hlt
    ·exact ltS_trans hlt (h1 a q)
theorem asc_uniq:∀(l k:List ByteArray),Asc l->Asc k->(∀a,a∈l↔a∈k)->l=k
 | [],[],_,_,_=>rfl
 | [],y::k,_,_,h=>absurd ((h y).2 Ae) Ae
 |x::l,[],_,_,h=>absurd ((h x).1 Ae) Ae
 |x::l,y::k,hl,hk,h=>by
  obtain⟨a1,a2⟩:=List.pairwise_cons.1 hl;obtain⟨b1,b2⟩:=List.pairwise_cons.1 hk
  have e:x=y:=by
   rcases List.mem_cons.1 ((h x).1 Ae)with q|q
   ·exact q
   ·rcases List.mem_cons.1 ((h y).2 Ae)with q2|q2
    ·exact q2.symm
    ·exact absurd (ltS_trans (b1 x q) (a1 y q2)) (ltS_irr _)
  subst e;refine congrArg _ (asc_uniq l k a2 b2 fun a=>⟨fun q=>?_,fun q=>?_⟩)
  ·rcases List.mem_cons.1 ((h a).1 (List.mem_cons_of_mem _ q))with q2|q2
   ·rw[q2]at q;exact absurd (a1 _ q) (ltS_irr _)
   ·exact q2
  ·rcases List.mem_cons.1 ((h a).2 (List.mem_cons_of_mem _ q))with q2|q2
   ·rw[q2]at q;exact absurd (b1 _ q) (ltS_irr _)
   ·exact q2
open Classical in
def namS(o:ByteArray)(l:List ByteArray)(p:Pc):List ByteArray:=if shipped o p then insN p.part l else l
def namesR(o:ByteArray)(D:List Pc):List ByteArray:=D.foldl (namS o) []
theorem namesR_snoc(o:ByteArray)(D:List Pc)(p:Pc):namesR o (D++[p])=namS o (namesR o D) p:=by simp[namesR]
theorem insN_len(n:ByteArray)(l:List ByteArray):(insN n l).length<=l.length+1:=by
 induction l with
 |nil=>simp[insN]
 |cons x r ih=>unfold insN;split<;>(try split)<;>simp<;>omega
theorem asc_names(o:ByteArray)(D:List Pc):Asc (namesR o D)/\(namesR o D).length<=D.length:=by
 suffices h:∀(D:List Pc) (l:List ByteArray),Asc l->Asc (D.foldl (namS o) l)/\(D.foldl (namS o) l).length<=l.length+D.length from by
  have:=h D [] List.Pairwise.nil;simpa [namesR]using this
 intro D
 induction D with
 |nil=>intro l h;exact⟨h,Ae⟩
 |cons p D ih=>
  intro l h;rw[List.foldl_cons]
  have h2:Asc (namS o l p)/\(namS o l p).length<=l.length+1:=by
   unfold namS;split
   ·exact⟨asc_insN _ _ h,insN_len _ _⟩
   ·exact⟨h,Aa⟩
  have:=ih _ h2.1;refine⟨this.1,?_⟩;have:=h2.2
  simp only[List.length_cons];omega
theorem mem_names(o:ByteArray)(D:List Pc)(a:ByteArray):a∈namesR o D↔∃p∈D,shipped o p/\p.part=a:=by
 suffices h:∀(D:List Pc) (l:List ByteArray),a∈D.foldl (namS o) l↔a∈l\/∃p∈D,shipped o p/\p.part=a from by
  have:=h D [];simpa [namesR]using this
 intro D
 induction D with
 |nil=>intro l;simp
 |cons p D ih=>
  intro l;rw[List.foldl_cons,ih]
  have e:a∈namS o l p↔a∈l\/shipped o p/\p.part=a:=by
   unfold namS;split
   ·rename_i hs
    rw[mem_insN];exact⟨fun h=>h.elim (fun h=> .inr ⟨hs,h.symm⟩) .inl,fun h=>h.elim .inr fun h=> .inl h.2.symm⟩
   ·rename_i hs
    exact NP
  rw[e];constructor
  ·rintro((h|h)|⟨q,h1,h2⟩)
   ·exact .inl h
   ·exact .inr ⟨p,Ae,h⟩
   ·exact .inr ⟨q,ET,h2⟩
  ·rintro(h|⟨q,h1,h2⟩)
   ·exact .inl (.inl h)
   ·rcases List.mem_cons.1 h1 with rfl|h1
    ·exact .inl (.inr h2)
    ·exact .inr ⟨q,h1,h2⟩
theorem mem_runI(r:Rt)(o:ByteArray)(D:List Pc)(hD:D.length<=1000000)(a:ByteArray):a∈(runI r o D).names↔∃p∈D,shipped o p/\p.part=a:=by
 suffices h:∀(R D:List Pc),(D++R).length<=1000000->(a∈(runI r o D).names↔∃p∈D,shipped o p/\p.part=a)->(a∈(runI r o (D++R)).names↔∃p∈D++R,shipped o p/\p.part=a)from by
  have:=h D [] (by simpa using hD) (by simp[runI])
  simpa using this
 intro R
 induction R with
 |nil=>intro D _ h;simpa using h
 |cons p R ih=>
  intro D hl h;rw[show D++p::R=(D++[p])++R from Ae];refine ih (D++[p]) (by rw[List.append_assoc];exact hl) ?_
  have hok:=names_ok r o D (by simp at hl;omega)
  rw[runI_snoc]
  have e:a∈(stepI r o (runI r o D) p).names↔a∈(runI r o D).names\/shipped o p/\p.part=a:=by
   unfold stepI;split
   ·rename_i hs
    show a∈(if findP p.part (runI r o D).c=0 then(runI r o D).names++[p.part]else(runI r o D).names)↔_
    split
    ·rw[List.mem_append,List.mem_singleton]
     exact⟨fun h=>h.elim .inl fun h=> .inr ⟨hs,h.symm⟩,fun h=>h.elim .inl fun h=> .inr h.2.symm⟩
    ·rename_i hne
     exact⟨.inl,fun h=>h.elim id fun h=>by rw[<-h.2];exact(hok.mem _).2 hne⟩
   ·rename_i hs
    exact NP
  rw[e,h];constructor
  ·rintro(⟨q,h1,h2⟩|h)
   ·exact⟨q,ET,h2⟩
   ·exact⟨p,Ae,h⟩
  ·rintro⟨q,h1,h2⟩
   rcases List.mem_append.1 h1 with h1|h1
   ·exact .inl ⟨q,h1,h2⟩
   ·rw[List.mem_singleton.1 h1]at h2;exact .inr h2
theorem names_eq(r:Rt)(o:ByteArray)(D:List Pc)(hD:D.length<=1000000):sortB (runI r o D).names=namesR o D:=by
 have hok:=names_ok r o D hD;refine asc_uniq _ _ ?_ (asc_names o D).1 fun a=>?_
 ·have hnd:(sortB (runI r o D).names).Nodup:=(sortB_perm _).nodup_iff.2 hok.nodup
  have hs:(sortB (runI r o D).names).Pairwise fun a b=>a.data.toList<=b.data.toList:=by
   unfold sortB;rw[List.pairwise_map];exact sortL_sorted _
  refine List.Pairwise.imp ?_ (List.pairwise_and_iff.2 ⟨hs,hnd⟩);intro a b ⟨h1,h2⟩;rw[ltS_iff];rcases List.le_iff_lt_or_eq.1 h1 with q|q
  ·exact q
  ·exact absurd (ByteArray.ext (Array.toList_inj.1 q)) h2
 ·rw[(sortB_perm _).mem_iff,mem_runI r o D hD,mem_names]
open Classical in
def cntS(o n:ByteArray)(c:Int)(p:Pc):Int:=if shipped o p/\p.part=n then W64 (c+1)else c
def cntR(o:ByteArray)(D:List Pc)(n:ByteArray):Int:=D.foldl (cntS o n) 0
open Classical in
def valS(r:Rt)(o n:ByteArray)(c:Int)(p:Pc):Int:=if shipped o p/\p.part=n then W64 (c+valR r p.size p.bar)else c
def valN(r:Rt)(o:ByteArray)(D:List Pc)(n:ByteArray):Int:=D.foldl (valS r o n) 0
theorem cntR_snoc(o:ByteArray)(D:List Pc)(n:ByteArray)(p:Pc):cntR o (D++[p]) n=cntS o n (cntR o D n) p:=by simp[cntR]
theorem valN_snoc(r:Rt)(o:ByteArray)(D:List Pc)(n:ByteArray)(p:Pc):valN r o (D++[p]) n=valS r o n (valN r o D n) p:=by simp[valN]
theorem run_find(r:Rt)(o:ByteArray)(D:List Pc)(n:ByteArray):findP n (runI r o D).c=cntR o D n/\findP n (runI r o D).t=valN r o D n:=by
 suffices h:∀(D:List Pc) (x:Iv) (a b:Int),findP n x.c=a->findP n x.t=b->findP n (D.foldl (stepI r o) x).c=D.foldl (cntS o n) a/\findP n (D.foldl (stepI r o) x).t=D.foldl (valS r o n) b from h D _ 0 0 rfl rfl
 intro D
 induction D with
 |nil=>intro x a b h1 h2;exact⟨h1,h2⟩
 |cons p D ih=>
  intro x a b h1 h2;rw[List.foldl_cons,List.foldl_cons,List.foldl_cons];refine ih _ _ _ ?_ ?_
  ·unfold stepI cntS
   by_cases hs:shipped o p
   ·rw[if_pos hs]
    show(if p.part=n then W64 (findP p.part x.c+1)else findP n x.c)=_
    by_cases e:p.part=n
    ·rw[if_pos e,if_pos ⟨hs,e⟩,e,h1]
    ·rw[if_neg e,if_neg (fun h=>e h.2),h1]
   ·rw[if_neg hs,if_neg (fun h=>hs h.1),h1]
  ·unfold stepI valS
   by_cases hs:shipped o p
   ·rw[if_pos hs]
    show(if p.part=n then W64 (findP p.part x.t+valR r p.size p.bar)else findP n x.t)=_
    by_cases e:p.part=n
    ·rw[if_pos e,if_pos ⟨hs,e⟩,e,h2]
    ·rw[if_neg e,if_neg (fun h=>e h.2),h2]
   ·rw[if_neg hs,if_neg (fun h=>hs h.1),h2]
def rline(r:Rt)(o:ByteArray)(D:List Pc)(n:ByteArray):ByteArray:=n++xB++itoaB (cntR o D n)++csB++itoaB (valN r o D n)
def linesR(r:Rt)(o:ByteArray)(D:List Pc):List ByteArray:=(namesR o D).map (rline r o D)
theorem eC4(r:Rt)(o:ByteArray)(D:List Pc)(hD:D.length<=1000000):linesI r o D=linesR r o D:=by
 unfold linesI linesR;rw[names_eq r o D hD];refine List.map_congr_left fun n _=>?_;unfold iline rline;rw[(run_find r o D n).1,(run_find r o D n).2]
def rtE(r:Rt)(b:Bool):Int:=match b with|true=>r.bar|false=>r.sheet
theorem w64_mod(n:Int):∃k:Int,W64 n=n+k*18446744073709551616:=by
 simp[IntKind.wrap,IntKind.signed,IntKind.bits];split;all_goals first|exact⟨-(n/18446744073709551616),Aa⟩|exact⟨-(n/18446744073709551616)-1,Aa⟩
theorem w64_cong{a b:Int}(k:Int)(h:a=b+k*18446744073709551616):W64 a=W64 b:=by
 obtain⟨i,hi⟩:=w64_mod a;obtain⟨j,hj⟩:=w64_mod b;have:=w64_range a;have:=w64_range b
 omega
theorem w64_add2(a b:Int):W64 (W64 a+W64 b)=W64 (a+b):=by
 obtain⟨i,hi⟩:=w64_mod a;obtain⟨j,hj⟩:=w64_mod b;exact w64_cong (i+j) Aa
open Classical in
def exN(r:Rt)(o n:ByteArray):List Pc->Int
 | [] =>0
 |p::D=>(if shipped o p/\p.part=n then p.size*rtE r p.bar else 0)+exN r o n D
open Classical in
def exS(r:Rt)(o:ByteArray):List Pc->Int
 | [] =>0
 |p::D=>(if shipped o p then p.size*rtE r p.bar else 0)+exS r o D
open Classical in
theorem exN_cons(r:Rt)(o n:ByteArray)(p:Pc)(D:List Pc):exN r o n (p::D)=(if shipped o p/\p.part=n then p.size*rtE r p.bar else 0)+exN r o n D:=rfl
open Classical in
theorem exS_cons(r:Rt)(o:ByteArray)(p:Pc)(D:List Pc):exS r o (p::D)=(if shipped o p then p.size*rtE r p.bar else 0)+exS r o D:=rfl
def exK(f:ByteArray->Int):List ByteArray->Int
 | [] =>0
 |n::K=>f n+exK f K
open Classical in
theorem valN_ex(r:Rt)(o n:ByteArray)(D:List Pc):valN r o D n=W64 (exN r o n D):=by
 suffices h:∀(D:List Pc) (a b:Int),a=W64 b->D.foldl (valS r o n) a=W64 (b+exN r o n D)from by
  have:=h D 0 0 Aj;simpa [valN]using this
 intro D
 induction D with
 |nil=>intro a b h;simpa [exN]using h
 |cons p D ih=>
  intro a b h;rw[List.foldl_cons]
  have e:valS r o n a p=W64 (b+(if shipped o p/\p.part=n then p.size*rtE r p.bar else 0)):=by
   unfold valS;by_cases hs:shipped o p/\p.part=n
   ·rw[if_pos hs,if_pos hs,h];exact w64_add2 _ _
   ·rw[if_neg hs,if_neg hs,h];simp
  rw[ih _ _ e,exN_cons,Int.add_assoc]
open Classical in
theorem run_sum(r:Rt)(o:ByteArray)(D:List Pc):(runI r o D).sum=W64 (exS r o D):=by
 suffices h:∀(D:List Pc) (x:Iv) (b:Int),x.sum=W64 b->(D.foldl (stepI r o) x).sum=W64 (b+exS r o D)from by
  have:=h D ⟨[],[],[],0⟩ 0 Aj;simpa [runI]using this
 intro D
 induction D with
 |nil=>intro a b h;simpa [exS]using h
 |cons p D ih=>
  intro x b h;rw[List.foldl_cons]
  have e:(stepI r o x p).sum=W64 (b+(if shipped o p then p.size*rtE r p.bar else 0)):=by
   unfold stepI;by_cases hs:shipped o p
   ·rw[if_pos hs,if_pos hs]
    show W64 (x.sum+valR r p.size p.bar)=_;rw[h];exact w64_add2 _ _
   ·rw[if_neg hs,if_neg hs,h];simp
  rw[ih _ _ e,exS_cons,Int.add_assoc]
theorem exK_add(f g:ByteArray->Int)(K:List ByteArray):exK (fun n=>f n+g n) K=exK f K+exK g K:=by
 induction K with
 |nil=>rfl
 |cons n K ih=>show f n+g n+exK _ K=f n+exK f K+(g n+exK g K);rw[ih];omega
theorem exK_zero(K:List ByteArray):exK (fun _=>0) K=0:=by
 induction K with
 |nil=>rfl
 |cons n K ih=>show 0+exK _ K=0;rw[ih];rfl
open Classical in
theorem exK_one(a:ByteArray)(v:Int)(K:List ByteArray)(hK:K.Nodup):exK (fun n=>if a=n then v else 0) K=if a∈K then v else 0:=by
 induction K with
 |nil=>simp[exK]
 |cons n K ih=>
  obtain⟨h1,h2⟩:=List.nodup_cons.1 hK;show(if a=n then v else 0)+exK _ K=_
  rw[ih h2];by_cases e:a=n
  ·subst e
   rw[if_pos rfl,if_neg h1,if_pos Ae];omega
  ·rw[if_neg e]
   by_cases m:a∈K
   ·rw[if_pos m,if_pos (by simp[m])];omega
   ·rw[if_neg m,if_neg (by simp[m,e])];rfl
open Classical in
theorem ex_swap(r:Rt)(o:ByteArray)(D:List Pc)(K:List ByteArray)(hK:K.Nodup)(h:∀p∈D,shipped o p->p.part∈K):exK (fun n=>exN r o n D) K=exS r o D:=by
 induction D with
 |nil=>exact exK_zero K
 |cons p D ih=>
  have hf:(fun n=>exN r o n (p::D))=fun n=>(if shipped o p/\p.part=n then p.size*rtE r p.bar else 0)+exN r o n D:=funext fun n=>exN_cons r o n p D
  rw[hf,exS_cons,exK_add,ih (fun p hp=>h p (by simp[hp]))]
  by_cases hs:shipped o p
  ·rw[if_pos hs]
   have e:=exK_one p.part (p.size*rtE r p.bar) K hK;rw[if_pos (h p Ae hs)]at e
   have hg:(fun n=>if shipped o p/\p.part=n then p.size*rtE r p.bar else 0)=fun n=>if p.part=n then p.size*rtE r p.bar else 0:=funext fun n=>by
    by_cases q:p.part=n
    ·rw[if_pos ⟨hs,q⟩,if_pos q]
    ·rw[if_neg (fun h=>q h.2),if_neg q]
   rw[hg,e]
  ·have hg:(fun n=>if shipped o p/\p.part=n then p.size*rtE r p.bar else 0)=fun _=>(0:Int):=funext fun n=>by
    rw[if_neg (fun h=>hs h.1)]
   rw[if_neg hs,hg,exK_zero]
def sumR(r:Rt)(o:ByteArray)(D:List Pc)(K:List ByteArray):Int:=K.foldl (fun s n=>W64 (s+valN r o D n)) 0
theorem sumR_ex(r:Rt)(o:ByteArray)(D:List Pc)(K:List ByteArray):sumR r o D K=W64 (exK (fun n=>exN r o n D) K):=by
 suffices h:∀(K:List ByteArray) (a b:Int),a=W64 b->K.foldl (fun s n=>W64 (s+valN r o D n)) a=W64 (b+exK (fun n=>exN r o n D) K)from by
  have:=h K 0 0 Aj;simpa [sumR]using this
 intro K
 induction K with
 |nil=>intro a b h;simpa [exK]using h
 |cons n K ih=>
  intro a b h;rw[List.foldl_cons,ih (W64 (a+valN r o D n)) (b+exN r o n D) (by rw[h,valN_ex,w64_add2])]
  show _=W64 (b+(exN r o n D+exK _ K));rw[Int.add_assoc]
theorem sum_eq(r:Rt)(o:ByteArray)(D:List Pc):sumR r o D (namesR o D)=(runI r o D).sum:=by
 rw[sumR_ex,run_sum];congr 1;refine ex_swap r o D _ ?_ fun p hp hs=>(mem_names o D _).2 ⟨p,hp,hs,rfl⟩;exact(asc_names o D).1.imp fun {a b} h e=>by rw[e]at h;exact ltS_irr _ h
end Go.Proofs.Cost58
