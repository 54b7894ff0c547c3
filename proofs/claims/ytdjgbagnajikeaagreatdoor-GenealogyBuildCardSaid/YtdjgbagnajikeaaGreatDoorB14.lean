/-
  The genealogy's children: the map, as a map that stays as it is.
-/
import Derived.Test.YtdjgbagnajikeaaGreatDoorSGC1
import Derived.Test.YtdjgbagnajikeaaGreatDoorB13
import Derived.Maps.Views
import Derived.Shelf.Small.Bits
import Derived.Shelf.Strconv.Itoa0
import Derived.Shelf.Strconv.Itoa1
import Derived.Shelf.LaysM
import Derived.Shelf.Strconv.Itoa2
import Derived.Shelf.Strconv.Itoa3
import Derived.Below
import Derived.Sort.Grow
import Derived.Shelf.Strconv.Itoa4
import Derived.Lib.ItoaLen
import Derived.Lib.Builder
import Derived.Lib.UnsafeStr
import Derived.Shelf.RegionOpenPlain
import Derived.Lib.AppendStr
import Derived.Maps.OwnRows
set_option linter.unusedVariables false
set_option linter.unusedSimpArgs false
set_option maxRecDepth 1000000
set_option maxHeartbeats 8000000
noncomputable section
namespace Go.Proofs.Led
open Go Go.Proofs Go.Ab Go.RowKit Go.Maps Go.MapKept Go.ChangeMaps Go.WideShapes
theorem chl_none(a:Option Addr)(cap:Nat)(w:World):
 Calls Tryz.prog 45 #[.slice a 0 cap] w λe w'=>e= .returned (.map (some w.heap.size))/\w'.ownsGroups (H:=Unit) Tryz.prog 3 (w.heap.size+1) 3 .i64 w.heap.size 0 (grpD [])/\Below w.heap.size w w':=by
 have b:= @run_makeMap Tryz.prog
 go_enter Tryz.func45,Tryz.ntmps45
 go_wp2
 refine wp_loop_rounds 1 ?_;rw[rounds_succ]
 go_wp2
 go_ret
 exact⟨rfl,World.ownsGroups_made _ _ _ _ _,(Below.refl _ _).alloc (QV _) _⟩
def kidsL:List Node->Int->List Int
 | [],_=> []
 |x::l,p=>if x.parent=p then kidsL l p++[x.id]else kidsL l p
def kidE:List Node->List V
 | [] => []
 |x::l=>if x.parent=0 then kidE l else .tup [.lit (.int .i64 x.parent), .sl ((kidsL (x::l) x.parent).map I)] ::kidE l
theorem kidE_get(n:Int):∀l:List Node,jG (.int .i64 n) (kidE l)=if n=0\/kidsL l n=[]then none else some (.sl ((kidsL l n).map I))
 | [] =>by simp[kidE,kidsL,jG]
 |x::l=>by
  unfold kidE;by_cases b:x.parent=0
  ·rw[QO b,kidE_get n l]
   by_cases c:n=0
   ·simp[c]
   ·exact La
  ·rw[Q5 b]
   unfold jG;by_cases a:x.parent=n
   ·rw[QO (by rw[a]),Q5,a]
    rintro(h|h)
    ·exact b (a.trans h)
    ·unfold kidsL at h
     rw[QO a]at h;simp at h
   ·have e:kidsL (x::l) n=kidsL l n:=by conv=>lhs;unfold kidsL
                                        rw[Q5 a]
    rw[Q5 (by simpa using a),kidE_get n l,e]
theorem grpD_map:∀l:List Node,IsMap (grpD l)
 | [] =>⟨_,rfl⟩
 |x::l=>by
  unfold grpD;split
  ·exact grpD_map l
  ·obtain⟨es,h⟩:=grpD_map l
   rw[h];exact⟨_,rfl⟩
theorem grpD_get(n:Int):∀(l:List Node) (z:DataW Unit),(grpD l).atKey (.int .i64 n) z=if n=0\/kidsL l n=[]then z else .slice (ChangeShapes.lits .i64 (kidsL l n)) []
 | [],z=>by simp[grpD,kidsL,DataW.atKey]
 |x::l,z=>by
  unfold grpD;by_cases a:x.parent=0
  ·rw[QO a,grpD_get n l]
   by_cases d:n=0
   ·simp[d]
   ·exact La
  ·rw[Q5 a]
   by_cases c:x.parent=n
   ·subst c
    rw[atKey_put_same (grpD_map l) (by trivial:WideAt.IsKeyLit (.int .i64 x.parent)),Q5,grpD_get x.parent l]
    ·have e:kidsL (x::l) x.parent=kidsL l x.parent++[x.id] :=by conv=>lhs;unfold kidsL
                                                                rw[QO rfl]
     rw[e];by_cases b:kidsL l x.parent=[]
     ·rw[QO (.inr b),b]
      rfl
     ·rw[Q5 (by simp[a,b])]
      simp[itemsD,ChangeShapes.lits]
    ·rintro(h|h)
     ·exact a h
     ·unfold kidsL at h
      rw[QO rfl]at h;simp at h
   ·have e:kidsL (x::l) n=kidsL l n:=by conv=>lhs;unfold kidsL
                                        rw[Q5 c]
    rw[atKey_put_other (by simpa using λh=>c h.symm),grpD_get n l,e]
theorem lits_inj{a b:List Int}(h:ChangeShapes.lits (H:=Unit) .i64 a=ChangeShapes.lits .i64 b):a=b:=
 (List.map_inj_right (λx y h=>Fp)).1 h
theorem kidE_pure:∀l:List Node,bM (kidE l)
 | [] =>by simp[kidE,bM,V.okL]
 |x::l=>by
  unfold kidE;split
  ·exact kidE_pure l
  ·refine⟨⟨by simp[V.ok],?_,trivial⟩,kidE_pure l⟩
   simp only[V.ok]
   exact aH.2 λy a=>by
    obtain⟨z,_,rfl⟩:=Ru.1 a;simp[I,V.ok]
theorem flatI:∀a:List Int,(a.map I).flatMap V.cells=a.map I
 | [] =>rfl
 |z::r=>by
  rw[Rq,SS,flatI r];rfl
theorem rv_ints{w:World}{G:Gh}{c:Nat}{v:Value}{a:List Int}(h:w.ownsInts c 3 .i64 v a)(l:∀b,c<=b->b<w.heap.size->G.O b= .fz):Rv w G v (.sl (a.map I)):=by
 have d:∀g,v.ownBlock=some g->_:=λg=>h.1.cells (g:=g);have f:=h.1.lt
 rcases h.1.2 with⟨rfl,k⟩|⟨g,cap,cur,rfl,m,q,r,n,s,t⟩
 ·rw[RH.1 k]
  exact .slN
 ·have e:(a.map I).length=a.length:=by simp
  have i:=flatI a
  have:=Rv.slS (w:=w) (G:=G) ⟨g,0,none⟩ cap (a.map I) 1 (λj=> .int .i64 (a.getD j 0)) Aa n (λ_=>l g m (f g rfl).2) (λx o=>by
   obtain⟨z,_,rfl⟩:=Ru.1 o
   rfl) (λj y hy=>by
   rw[i]at hy;obtain⟨z,hz,rfl⟩:∃z,a[j]? =some z/\I z=y:=Dv;refine⟨?_,rfl⟩;have:=d g rfl j (.int .i64 z) Iy;rw[this];simp only[Sj,hz]
   rfl) (λj y hy=>by
   rw[i]at hy;obtain⟨z,hz,rfl⟩:∃z,a[j]? =some z/\I z=y:=Dv;simp only[Sj,hz];exact .lit _ rfl)
  rw[e]at this;exact this
theorem rv_groups{w:World}{G:Gh}{a b n:Nat}{l:List Node}(h:w.ownsGroups (H:=Unit) Tryz.prog 3 a 3 .i64 b n (grpD l))(hl:∀x∈l,(Lit.int .i64 x.parent).wf=true)(T:G.O b= .fz)(hO:∀b,a<=b->b<w.heap.size->G.O b= .fz):
 Rv w G (.map (some b)) (V.mapV (.int .i64 0) (kidE l)):=by
 obtain⟨es,u,hb,F,t,hD,ad,aa,ac⟩:=h;have D:=S9;have K:=int_keyed D
 have f:∀e∈es.toList,∃m,e.key= .int .i64 m/\(Lit.int .i64 m).wf=true/\keyOf Tryz.prog 3 e.key=some (.int .i64 m)/\∃M,w.ownsInts a 3 .i64 e.val M/\(WideElems.rg Tryz.prog 3 (rowElem (H:=Unit) w a 3 .i64) e)=(.int .i64 m,rowDatum .i64 e.val M):=λe I=>by
  obtain⟨y,X⟩:=F.reads e I;have c:=WideElems.rd_key X;obtain⟨z,hz,hd⟩:=WideElems.rd_val X;obtain⟨M,U,rfl⟩:=rowElem_inv hz;have hg:=WideElems.rg_of X
  have ab:=c;simp only[keyOf,D]at c;cases L:e.key<;>simp[L,mapKey,D]at c;grind
 have C:∀m,(Instr.findNow (.int .i64) (.int .i64 m) es.toList 0=some none/\∀e∈es.toList,e.key≠ .int .i64 m)\/∃(j:Nat) (e:MapEntry),Instr.findNow (.int .i64) (.int .i64 m) es.toList 0=some (some (j,e.val))/\e∈es.toList/\e.key= .int .i64 m:=λm=>by
  rcases findNow_spec (d:= .int .i64) (k:= .int .i64 m) rfl es.toList 0 (λx o=>by obtain⟨m',h,_⟩:=f x o;rw[h];rfl)with h|⟨j,e,c,g,B⟩
  ·exact .inl h
  ·exact .inr ⟨0+j,e,c,QT g,B⟩
 have W:∀(l:List Node) m,(∀x∈l,(Lit.int .i64 x.parent).wf=true)->kidsL l m≠ []->(Lit.int .i64 m).wf=true:=λl m=>by
  induction l with
  |nil=>intro _ h;exact absurd rfl h
  |cons x l ih=>
   intro hw h;unfold kidsL at h;split at h
   ·rename_i e
    exact e▸hw x (.head _)
   ·exact ih (λx o=>hw x (.tail _ o)) h
 have J:∀m,(Lit.int .i64 m).wf=true->((∀p∈es.toList.map (WideElems.rg Tryz.prog 3 (rowElem (H:=Unit) w a 3 .i64)),p.1≠ .int .i64 m)->∀z,(grpD l).atKey (.int .i64 m) z=z)/\(∀p∈es.toList.map (WideElems.rg Tryz.prog 3 (rowElem (H:=Unit) w a 3 .i64)),p.1= .int .i64 m->∀z,(grpD l).atKey (.int .i64 m) z=p.2):=λm P=>by
  rw[hD];exact atKey_sorted _ (fit_rising K F) (.int .i64 m) trivial
 have i:∀m,(∃(j:Nat) (e:MapEntry),Instr.findNow (.int .i64) (.int .i64 m) es.toList 0=some (some (j,e.val))/\m≠0/\kidsL l m≠ []/\w.ownsInts a 3 .i64 e.val (kidsL l m))\/(Instr.findNow (.int .i64) (.int .i64 m) es.toList 0=some none/\(m=0\/kidsL l m=[])):=λm=>by
  rcases C m with⟨c,g⟩|⟨j,e,c,g,B⟩
  ·refine .inr ⟨c,?_⟩
   by_cases R:m=0\/kidsL l m=[]
   ·exact R
   ·have P:=W l m hl (λh=>R (.inr h))
    have:=(J m P).1 (λp hp=>by
     obtain⟨e,I,rfl⟩:=Ru.1 hp;obtain⟨m',A,_,_,M,_,N⟩:=f e I;rw[N];intro e3;simp only[Lit.int.injEq,true_and]at e3;subst e3;exact g e I A) .nil
    rw[grpD_get,Q5 R]at this;cases this
  ·obtain⟨m',A,P,_,M,U,N⟩:=f e g
   rw[B]at A;cases A;have r:=(J m P).2 _ (RJ g) (by rw[N])
   rw[N]at r;simp only[grpD_get]at r
   have S:¬(m=0\/kidsL l m=[]):=λh=>by
    have Z:=r .nil;have Q:=r (.lit (.bool true))
    rw[QO h]at Z Q;rw[<-Z]at Q;cases Q
   have E:=r .nil;rw[Q5 S]at E;refine .inl ⟨j,e,c,λh=>S (.inl h),λh=>S (.inr h),?_⟩;rcases U.datum (H:=Unit)with⟨Y,_⟩|Y
   ·rw[Y]at E;cases E
   ·rw[Y]at E
    simp only[DataW.slice.injEq,U4]at E;rw[lits_inj E];exact U
 refine Rv.mp b es u 0 (.int .i64 0) (kidE l) (λs=>match Instr.findNow (.int .i64) s es.toList 0 with|some (some (_,v))=>v|_=>undef) T hb (λe I=>by obtain⟨m,h,_⟩:=f e I;rw[h];rfl) (λs t hn=>?_) (λs x t o=>?_) (λs x t o=>?_)
 ·cases s<;>simp only[litD,IsKey]at t
  rename_i q m;subst t;rcases i m with⟨j,e,c,g,B,r⟩|⟨c,g⟩
  ·simp_all [kidE_get,Q5]
  ·exact c
 ·cases s<;>simp only[litD,IsKey]at t
  rename_i q m;subst t;rcases i m with⟨j,e,c,g,B,r⟩|⟨c,g⟩
  ·refine⟨⟨j,by simp only[litD,c]⟩,?_⟩
   simp only[c];rcases r.1.2 with⟨A,_⟩|⟨_,_,_,A,_⟩<;>rw[A] <;>rfl
  ·rw[kidE_get,QO g]at o
   cases o
 ·cases s<;>simp only[litD,IsKey]at t
  rename_i q m;subst t;rcases i m with⟨j,e,c,g,B,r⟩|⟨c,g⟩
  ·rw[kidE_get,Q5 (by simp[g,B])]at o
   cases o;simp only[c];exact rv_ints r hO
  ·rw[kidE_get,QO g]at o
   cases o
def stayG(w w':World)(G:Gh):Gh:={G with O:=λb=>if w.heap.size<=b/\b<w'.heap.size then .fz else G.O b}
theorem flat_node:∀(f:List Node) (k:Nat) (x:Node),f[k]? =some x->∀(j:Nat) (y:V),(nodeC x)[j]? =some y->((f.map nodeV).flatMap V.cells)[k*9+j]? =some y
 | [],k,x,h,_,_,_=>Hw
 |z::f,0,x,h,j,y,a=>by
  cases h;rw[Rq,SS,List.getElem?_append_left]
  ·rw[Nat.zero_mul,Tm]
   exact a
  ·have:=(QR.1 a).1
   show 0*9+j< (nodeC z).length;omega
 |z::f,k+1,x,h,j,y,a=>by
  rw[Rq,SS,Ut]
  ·have e:(k+1)*9+j- (nodeV z).cells.length=k*9+j:=by
    show(k+1)*9+j-9=_;omega
   rw[e];exact flat_node f k x h j y a
  ·show 9<=_
   omega
theorem children_spec(f:List Node)(T:f.length<=1000000)(N:∀x∈f,(Lit.int .i64 x.id).wf=true/\(Lit.int .i64 x.parent).wf=true):Sp 45 [.sl (f.map nodeV)] (V.mapV (.int .i64 0) (kidE f.reverse)):=by
 refine⟨Ac,λw G cs s K h3 S W=>?_⟩
 obtain⟨I,rfl⟩:∃a,cs= #[a] :=by
  obtain⟨l⟩:=cs
  match l,s with
  | [a],_=>exact⟨a,rfl⟩
 have U:Rv w G I (.sl (f.map nodeV)):=(S 0 I _ rfl rfl).2
 have o:Calls Tryz.prog 45 #[I] w λe w'=>e= .returned (.map (some w.heap.size))/\w'.ownsGroups (H:=Unit) Tryz.prog 3 (w.heap.size+1) 3 .i64 w.heap.size f.length (grpD f.reverse)/\Below w.heap.size w w':=by
  rcases U.bK8 with⟨rfl,m⟩|⟨a,c,sz,cc,rfl,X,Y,E,Z,r,D⟩
  ·have:f=[] :=by simpa using m
   subst this;exact chl_none none 0 w
  ·rw[Rl]
   rw[Rl]at E;rcases Nat.eq_zero_or_pos f.length with m|u
   ·have:f=[] :=RH.1 m
    subst this;exact chl_none (some a) c w
   ·have n:∀k x,f[k]? =some x->∀j v,(nodeA x)[j]? =some v->w.cell? (a.add (k*9+j))=some v:=λk x y j v hv=>by
     have Q:(nodeC x)[j]? =some (.lit v):=by
      show((nodeA x).toList.map V.lit)[j]? =_;rw[RD,TG,hv];rfl
     have J:=flat_node f k x y j _ Q;have R:=(D _ _ J).bH
     rw[<-R];exact(r _ _ J).1
    obtain⟨b,off,P⟩:=a;have m:=n 0 f[0] (QS u) 0 _ rfl
    have F:P=none:=by
     cases P with
     |none=>rfl
     |some q=>
      unfold World.cell? at m;split at m
      ·simp[Addr.add]at m
      ·cases m
    subst F
    exact chl_any f b off c w T (block_lt_of_cell m) (λk x y j v hv=>by
     have s:=n k x y j v hv;by_cases L:k*9+j=0
     ·rw[L]at s⊢
      exact s
     ·simp only[Addr.add,Q5 L]at s
      exact s) N
 refine o.mono ?_;rintro e w' ⟨rfl,M,t⟩
 have C:w.heap.size<w'.heap.size:=by
  obtain⟨es,A,hb,_⟩:=M;exact(Rj.1 hb).1
 have g:∀b,b<w.heap.size->(stayG w w' G).O b=G.O b:=λb hb=>Q5 Aa;have d:∀b,w.heap.size<=b->b<w'.heap.size->(stayG w w' G).O b= .fz:=λb h z=>QO ⟨h,z⟩
 refine⟨_,stayG w w' G,rfl,⟨?_,rv_groups M (λx y=>(N x (List.mem_reverse.1 y)).2) (d _ (QV _) C) (λb hb B=>d b Aa B)⟩,λb hb=>?_,λb hb=>?_,λb i=>?_,λb hb=>?_,λb hb _=>t.block b hb,t.size,t.os,t.tape,t.output⟩
 ·simp only[V.mapV,V.ok,V.okL,U4,true_and]
  exact kidE_pure _
 ·rw[g b (K b AP)]
  exact hb
 ·rcases RX b w'.heap.size with h|h
  ·exact h
  ·have:(stayG w w' G).O b=G.O b:=Q5 Aa
   rw[this]at hb;exact SB (K b hb) t.size
 ·rcases RX b w.heap.size with h|h
  ·rw[g b h]
   exact h3 b i
  ·rcases RX b w'.heap.size with z|z
   ·rw[d b h z]
    simp
   ·have:(stayG w w' G).O b=G.O b:=Q5 Aa
    rw[this];exact h3 b i
 ·rcases RX b w.heap.size with h|h
  ·rw[g b h]at hb⊢
   exact Oi
  ·exact .inr (.inl h)
end Go.Proofs.Led
namespace Go.Proofs.Led
open Go Go.Proofs Go.Ab
abbrev WfN(f:List Node):Prop:=∀x∈f,(Lit.int .i64 x.id).wf=true/\(Lit.int .i64 x.parent).wf=true
theorem ch_pos{f:List Node}{x:Node}:1<=(chN f x).length:=by
 obtain⟨r,e⟩:∃r,chN f x=x::r:=Ky;rw[e];simp
def pthSt(C D:List Node):St:=match D with
 | [] =>mkSt [(8, .lit (.slice none 0 0)),(22, .sl (C.map nodeV)),(23,I C.length),(24,I 0)] [] []
 |x::r=>mkSt [(8, .arr 32 r.length),(22, .sl (C.map nodeV)),(23,I C.length),(24,I ((r.length:Int)+1))] [] [(32,⟨r.length, .own,3,((x::r).map Node.id).map I⟩)]
def pathL(f:List Node)(x:Node):List Int:=((chN f x).map Node.id).reverse
theorem pathY_spec(f:List Node)(n:Int)(x:Node)(g:f.length<=1000000)(t:SzN f)(h:RightF f)(b:getN f n=some x):Sp 21 [.sl (f.map nodeV),I n] (.tup [.own 3 ((pathL f x).map I),I 0]):=by
 refine zsp Tryz.func21 ?_;have u:=nodeY_spec f n x g t h b;have v:=climbL_spec f x g h (getN_mem b).1
 have a:=ch_le (f:=f) (x:=x);have c:chN f x≠ [] :=λe=>by have:=ch_pos (f:=f) (x:=x);rw[e]at this;simp at this
 unfold pathL;clear b;generalize chN f x=C at*;have j:(C.map nodeV).length=C.length:=Af
 repeat' ((conv=>whnf);first|(exfalso;contradiction)|refine zS ?_|refine zm (λx d=>?_)|refine zT ?_ ?_<;>intro _|fail)
 refine aU (A:=List Node) (B:=List Node) (λD R=>pthSt C D) (λD R=>C=D++R) (λD R=>R.length) [] C ?_ rfl (λD R hp=>?_)
 ·refine Le.trans (fB (k:=22) rfl (.inl rfl)) ?_
  show Le T _ (mkSt [(8, .lit (.slice none 0 0)),(22, .sl (C.map nodeV)),(23,I C.length),(24,I 0)] [] []);rw[<-j];exact zj
 cases R with
 |nil=>
  rw[Rn]at hp;subst hp
  cases C with
  |nil=>exact absurd rfl c
  |cons y r=>
   have o:=rev_spec ((y::r).map Node.id) (by simp at a⊢;omega)
   have s:(y::r).length=r.length+1:=rfl;unfold pthSt
   repeat' ((conv=>whnf);first|omega|(refine aQ2 (o) rfl rfl ?_ rfl rfl ?_;focus ((repeat' (first|exact trivial|refine And.intro ?_ ?_|with_reducible rfl|exact(λh=>Ah)|exact rfl));done))|refine zS ?_|refine zm (λx d=>?_)|refine zT ?_ ?_<;>intro _|fail)
   all_goals exact zE
 |cons z R=>
  have i:=aO hp;have m:C.length=D.length+1+R.length:=by rw[hp];simp;omega
  cases D with
  |nil=>
   unfold pthSt
   repeat' ((conv=>whnf);first|omega|refine aF (l:=C) (A:=[]) (x:=z) (B:=R) hp Af ?_|refine gX (Q9 rfl) (dA rfl) (show 1<=1000000000 from Aa) ?_|refine zS ?_|refine zm (λx d=>?_)|refine zT ?_ ?_<;>intro _|fail)
   all_goals conv=>whnf
   refine⟨([z],R),?_,by rw[hp];rfl,Af⟩
   show Le T _ (mkSt [(8, .arr 32 0),(22, .sl (C.map nodeV)),(23,I C.length),(24,I (((0:Nat):Int)+1))] [] [(32,⟨0, .own,3,[I z.id]⟩)]);exact zj
  |cons y D=>
   have q:(y::D).length=D.length+1:=rfl;have w:(((y::D).map Node.id).map I).length=D.length+1:=Af
   unfold pthSt
   repeat' ((conv=>whnf);first|omega|refine iH rfl (.inl rfl) rfl (Q9 rfl) (dA rfl) (show(((y::D).map Node.id).map I).length+1<=1000000000 from Aa) ?_|refine zS ?_|refine zm (λx d=>?_)|refine zT ?_ ?_<;>intro _|fail)
   all_goals conv=>whnf
   refine⟨(y::(D++[z]),R),?_,Ae,Af⟩;show Le T _ (mkSt [(8, .arr 32 (D++[z]).length),(22, .sl (C.map nodeV)),(23,I C.length),(24,I (((D++[z]).length:Nat)+1))] [] [(32,⟨(D++[z]).length, .own,3,((y::(D++[z])).map Node.id).map I⟩)]);rw[<-Ui,RF,RF,QU];exact zj
theorem mapget_i{es:List V}{s:Value}{z:V}{K:V->Prop}{v:V}(h:(jG s es).getD z=v)(k:K v):eG6 es s z K:=⟨by rw[h];exact k⟩
theorem kidsL_rev(f:List Node)(n:Int):kidsL f.reverse n=(kidsN f n).map Node.id:=by
 have h:∀l:List Node,kidsL l n=((kidsN l.reverse n).map Node.id):=λl=>by
  induction l<;>grind [List.reverse_cons,kidsL,kidsN]
 rw[h,List.reverse_reverse]
abbrev g0N(x:Node):Int:=if x.kind≠3/\x.gone=false then x.size else 0
abbrev g1N(x:Node):Int:=if x.kind=3 then x.size else 0
abbrev g2N(x:Node):Int:=x.scrap
abbrev smB(f:List Node)(E:List V)(a b c:Int):List (List V):=[[I (W a),I (W b),I (W c)],[V.mapV (.int .i64 0) E],[.sl (f.map nodeV)],[.fn 46 [.box 100000 0, .box 100001 0, .box 100002 0, .box 100003 0]]]
def smSt(f:List Node)(E:List V)(K:List Int)(d a b c:Int):St:=mkSt [(1, .box 100000 0),(2, .box 100001 0),(3, .box 100002 0),(4, .box 100003 0),(39, .sl (K.map I)),(40,I K.length),(41,I d)] [(100000,[I (W a),I (W b),I (W c)]),(100001,[V.mapV (.int .i64 0) E]),(100002,[.sl (f.map nodeV)]),(100003,[.fn 46 [.box 100000 0, .box 100001 0, .box 100002 0, .box 100003 0]])] []
theorem sum1_step(f:List Node)(M:f.length<=1000000)(h:RightF f)(X:WfN f)(n:Node)(O:n∈f)(i k l:Node->Int)(S:∀x∈kidsN f n.id,∀a b c:Int,SpB 46 [nodeV x, .box 100000 0, .box 100001 0, .box 100002 0, .box 100003 0] (smB f (kidE f.reverse) a b c) (.tup []) (smB f (kidE f.reverse) (a+i x) (b+k x) (c+l x)))(a b c:Int):
 SpB 46 [nodeV n, .box 100000 0, .box 100001 0, .box 100002 0, .box 100003 0] (smB f (kidE f.reverse) a b c) (.tup []) (smB f (kidE f.reverse) (a+(g0N n+((kidsN f n.id).map i).sum)) (b+(g1N n+((kidsN f n.id).map k).sum)) (c+(g2N n+((kidsN f n.id).map l).sum))):=by
 refine b_of Tryz.func46 Ac Ac rfl rfl ?_;have w:n.id≠0:=by have:=(h.own n O).1;omega
 have o:=kidE_get n.id f.reverse;rw[<-UK,<-UK,<-UK];have G:(kidsN f n.id).length<=f.length:=List.length_filter_le _ _
 have v:∀x∈kidsN f n.id,x∈f:=λx t=>(mem_kids.1 t).1;rw[kidsL_rev]at o;generalize kidE f.reverse=E at*;generalize kidsN f n.id=K at*;have N:(f.map nodeV).length=f.length:=Af
 have F:((K.map Node.id).map I).length=K.length:=Af
 have s:(jG (.int .i64 n.id) E).getD (.lit (.slice none 0 0))= .lit (.slice none 0 0)/\K=[]\/(jG (.int .i64 n.id) E).getD (.lit (.slice none 0 0))= .sl ((K.map Node.id).map I):=by
  by_cases d:(K.map Node.id)=[]
  ·rw[QO (.inr d)]at o
   exact .inl ⟨by rw[o];rfl,by simpa using d⟩
  ·rw[Q5 (by simp only[w,d,or_self,not_false_iff])]at o
   exact .inr (by rw[o];rfl)
 clear o;rcases s with⟨s,u⟩|s
 all_goals repeat' ((conv=>whnf);first|omega|(exfalso;contradiction)|refine mapget_i s ?_|refine zS ?_|refine zm (λx t=>?_)|refine zT ?_ ?_<;>intro _|fail)
 all_goals (refine aU (A:=List Node) (B:=List Node) (λD R=>smSt f E (K.map Node.id) D.length (a+g0N n+(D.map i).sum) (b+g1N n+(D.map (k)).sum) (c+g2N n+(D.map (l)).sum)) (λD R=>K=D++R) (λD R=>R.length) [] K ?_ rfl (λD R hp=>?_))
 all_goals first
  |(show Le T _ (mkSt [(1, .box 100000 0),(2, .box 100001 0),(3, .box 100002 0),(4, .box 100003 0),(39, .sl ((K.map Node.id).map I)),(40,I ((K.map Node.id).length:Nat)),(41,I 0)] [(100000,[I (W (a+g0N n+0)),I (W (b+g1N n+0)),I (W (c+g2N n+0))]),(100001,[V.mapV (.int .i64 0) E]),(100002,[.sl (f.map nodeV)]),(100003,[.fn 46 [.box 100000 0, .box 100001 0, .box 100002 0, .box 100003 0]])] [])
    try simp only[u,SC,SL]
    refine dV ?_ ?_ ?_ ?_;all_goals repeat' (first|exact trivial|refine And.intro ?_ ?_|with_reducible rfl|exact(λh=>Ah)|exact QV _|omega|exact rfl)
    all_goals first
     |(simp only[g0N,g1N,g2N,Int.add_zero,bF8];congr 1;simp[*];done)
     |(simp only[Rl];done)
     |(rw[bF8,Int.add_zero];done))
  |skip
 all_goals (cases R with
  |nil=>
   rw[Rn]at hp;subst hp;have q:(K.map Node.id).length=K.length:=Af;unfold smSt
   repeat' ((conv=>whnf);first|omega|refine zS ?_|refine zm (λx t=>?_)|refine zT ?_ ?_<;>intro _|fail)
   all_goals conv=>whnf
   all_goals first|exact⟨_,rfl,zc1⟩|exact zc1
  |cons x R=>
   have z:=aO hp;have r:x∈K:=Ae
   have y:=v x r;have q:(K.map Node.id).length=K.length:=Af
   have P:K.map Node.id=D.map Node.id++x.id::R.map Node.id:=Ae;have C:(D.map Node.id).length=D.length:=Af
   have U:=findN_spec f x.id M h.so;have H:=getN_bs h.so (getN_some h.so y)
   have J:=(QR.1 H).1;have L:=S x r (a+g0N n+(D.map i).sum) (b+g1N n+(D.map (k)).sum) (c+g2N n+(D.map (l)).sum)
   have e:∀g:Node->Int,((D++[x]).map g).sum=(D.map g).sum+g x:=λg=>Af;unfold smSt;generalize bs Node.id f x.id=j at*;generalize (∃m∈f,m.id=x.id)=Q at*
   repeat' ((conv=>whnf);first|omega|refine bW8 [] [(56,[100000,100001,100002,100003])] trivial Aj ?_|refine zh (L) [100000,100001,100002,100003] ?_|refine zS ?_|refine zm (λx t=>?_)|refine zT ?_ ?_<;>intro _|fail)
   all_goals conv=>whnf
   refine⟨(D++[x],R),?_,Ae,Af⟩;show Le T _ (smSt f E (K.map Node.id) ((D++[x]).length:Nat) (a+g0N n+((D++[x]).map i).sum) (b+g1N n+((D++[x]).map k).sum) (c+g2N n+((D++[x]).map l).sum));rw[e,e,e,<-UK,<-UK,<-UK,QU,QY];unfold smSt;show Le T _ (mkSt [(1, .box 100000 0),(2, .box 100001 0),(3, .box 100002 0),(4, .box 100003 0),(39, .sl ((K.map Node.id).map I)),(40,I (K.map Node.id).length),(41,I ((D.length:Int)+1))] [(100000,[I (W (a+g0N n+(D.map i).sum+i x)),I (W (b+g1N n+(D.map k).sum+k x)),I (W (c+g2N n+(D.map l).sum+l x))]),(100001,[V.mapV (.int .i64 0) E]),(100002,[.sl (f.map nodeV)]),(100003,[.fn 46 [.box 100000 0, .box 100001 0, .box 100002 0, .box 100003 0]])] []);exact zj
   done)
theorem sum1_spec(f:List Node)(j:f.length<=1000000)(h:RightF f)(m:WfN f):∀(k:Nat) (n:Node),n∈f->f.length+1<=k+(chN f n).length->∀a b c:Int,
 SpB 46 [nodeV n, .box 100000 0, .box 100001 0, .box 100002 0, .box 100003 0] (smB f (kidE f.reverse) a b c) (.tup []) (smB f (kidE f.reverse) (a+visitR f g0N k n) (b+visitR f g1N k n) (c+visitR f g2N k n)):=by
 intro k
 induction k with
 |zero=>
  intro n d p a b c
  have hK:kidsN f n.id=[] :=by
   cases o:kidsN f n.id with
   |nil=>rfl
   |cons x l=>
    obtain⟨g,i⟩:=mem_kids.1 (show x∈kidsN f n.id by rw[o];simp)
    have:=ch_le (f:=f) (x:=x);grind [ch_child,Rf]
  have:=sum1_step f j h m n d (λ_=>0) (λ_=>0) (λ_=>0) (λx e=>by rw[hK]at e;cases e) a b c
  rw[hK]at this;simpa [visitR]using this
 |succ k q=>
  intro n d p a b c
  exact sum1_step f j h m n d (visitR f g0N k) (visitR f g1N k) (visitR f g2N k) (λx e=>by
   obtain⟨g,i⟩:=mem_kids.1 e;refine q x g ?_;rw[ch_child h g d i,Rf]at*;omega) a b c
def acC(f:List Node)(n:Int):List V:=[I (W (allU f g0N n)),I (W (allU f g1N n)),I (W (allU f g2N n))]
theorem sumY_spec(f:List Node)(n:Int)(x:Node)(j:f.length<=1000000)(o:SzN f)(m:WfN f)(h:RightF f)(k:getN f n=some x):Sp 18 [.sl (f.map nodeV),I n] (.tup [.agg (acC f n),I 0]):=by
 refine zsp Tryz.func18 ?_;have q:=nodeY_spec f n x j o h k;have r:=children_spec f j m
 obtain⟨l,i⟩:=getN_mem k
 have d:f.length+1<=f.length+(chN f x).length:=by
  have:=ch_pos (f:=f) (x:=x);omega
 have e:=sum1_spec f j h m f.length x l d 0 0 0;have hv:=λg=>visit_all h g f.length l d
 rw[hv,hv,hv,i,UR,UR,UR]at e;unfold smB at e;rw[show W 0=0 from w_in Aa]at e;unfold acC;clear k hv;generalize kidE f.reverse=E at*;generalize allU f g0N n=a at*;generalize allU f g1N n=b at*;generalize allU f g2N n=c at*
 repeat' ((conv=>whnf);first|(exfalso;contradiction)|refine zh (e) [9,8,2,10] ?_|refine zS ?_|refine zm (λx l=>?_)|refine zT ?_ ?_<;>intro _|fail)
 all_goals exact zE
def firstN(f:List Node)(n:Int):Int:=match f.findIdx? (λx=>decide (x.id=n))with|some i=>i|none=> -1
theorem firstN_none{l:List Node}{n:Int}(h:∀x∈l,x.id≠n):firstN l n= -1:=by
 unfold firstN;grind
theorem firstN_some{D R:List Node}{x:Node}{n:Int}(h:∀x∈D,x.id≠n)(a:x.id=n):firstN (D++x::R) n=D.length:=by
 unfold firstN;grind
theorem rfind_spec(f:List Node)(n:Int)(d:f.length<=1000000):Sp 60 [.sl (f.map nodeV),I n] (I (firstN f n)):=by
 refine zsp Tryz.func60 ?_;have c:(f.map nodeV).length=f.length:=Af
 repeat' ((conv=>whnf);first|omega|refine zS ?_|refine zd (λhd=>?_) (λhd=>?_)|refine zl (λhlt=>?_) (λhlt=>?_)|refine zk (λhle=>?_) (λhle=>?_)|refine ze (λheq=>?_) (λheq=>?_)|refine zm (λx hx=>?_)|refine zb (λhbb=>?_) (λhbb=>?_))
 refine aU (A:=List Node) (B:=List Node) (λD R=>mkSt [(0, .sl (f.map nodeV)),(1,I n),(5,I D.length)] [] []) (λD R=>f=D++R/\∀x∈D,x.id≠n) (λD R=>R.length) [] f ?_ ⟨rfl,Af⟩ (λD R hp=>?_)
 ·exact zj
 obtain⟨hp,hD⟩:=hp
 cases R with
 |nil=>
  have a:f.length=D.length:=Ae;have e:firstN f n= -1:=firstN_none DT
  rw[e];exact Oe
 |cons x R=>
  have a:=aO hp;have b:x.id=n->firstN f n=D.length:=λh=>by rw[hp];exact firstN_some hD h
  have hN:x.id≠n->∀y∈D++[x],y.id≠n:=λh y hy=>J9;generalize firstN f n=F at*
  repeat' ((conv=>whnf);first|omega|refine zS ?_|refine zd (λhd=>?_) (λhd=>?_)|refine zl (λhlt=>?_) (λhlt=>?_)|refine zk (λhle=>?_) (λhle=>?_)|refine ze (λheq=>?_) (λheq=>?_)|refine zm (λx hx=>?_)|refine zb (λhbb=>?_) (λhbb=>?_))
  all_goals conv=>whnf
  ·exact aG (b heq).symm
  ·exact JS
end Go.Proofs.Led
namespace Go.Proofs
open Go.Shelf Go.Ab
def Tryz.laysM171_ren:Go.Shelf.Ren:=⟨λ|171=>58|243=>107|246=>145|283=>188|284=>189|285=>190|286=>191|129=>232|317=>231|318=>233|319=>234|320=>235|337=>283|338=>284|n=>n,λ|3=>3|9=>9|2=>2|4=>4|171=>258|0=>0|53=>191|37=>138|5=>5|173=>261|212=>286|51=>287|20=>20|213=>288|46=>212|232=>354|233=>355|n=>n,λ|17=>0|18=>1|19=>2|n=>n⟩
theorem Tryz.laysM171:Go.Proofs.LaysM.n171 Tryz.prog Tryz.laysM171_ren:={
 mixed:=Ac
 f129:=Tryz.func232.trans (Ry some Ac)
 f171:=Tryz.func58.trans (Ry some Ac)
 f243:=Tryz.func107.trans (Ry some Ac)
 f246:=Tryz.func145.trans (Ry some Ac)
 f283:=Tryz.func188.trans (Ry some Ac)
 f284:=Tryz.func189.trans (Ry some Ac)
 f285:=Tryz.func190.trans (Ry some Ac)
 f286:=Tryz.func191.trans (Ry some Ac)
 f317:=Tryz.func231.trans (Ry some Ac)
 f318:=Tryz.func233.trans (Ry some Ac)
 f319:=Tryz.func234.trans (Ry some Ac)
 f320:=Tryz.func235.trans (Ry some Ac)
 f337:=Tryz.func283.trans (Ry some Ac)
 f338:=Tryz.func284.trans (Ry some Ac)
 t0:=Tryz.underlying0
 a0:=Tryz.isAgg0
 z0:=Tryz.sizeOf0
 v0:=Tryz.zeroValue0
 t2:=Tryz.underlying2
 a2:=Tryz.isAgg2
 z2:=Tryz.sizeOf2
 v2:=Tryz.zeroValue2
 t3:=Tryz.underlying3
 a3:=Tryz.isAgg3
 z3:=Tryz.sizeOf3
 v3:=Tryz.zeroValue3
 t4:=Tryz.underlying4
 a4:=Tryz.isAgg4
 z4:=Tryz.sizeOf4
 v4:=Tryz.zeroValue4
 t5:=Tryz.underlying5
 a5:=Tryz.isAgg5
 z5:=Tryz.sizeOf5
 v5:=Tryz.zeroValue5
 t9:=Tryz.underlying9
 a9:=Tryz.isAgg9
 z9:=Tryz.sizeOf9
 v9:=Tryz.zeroValue9
 t20:=Tryz.underlying20
 a20:=Tryz.isAgg20
 z20:=Tryz.sizeOf20
 v20:=Tryz.zeroValue20
 t37:=Tryz.underlying138
 a37:=Tryz.isAgg138
 z37:=Tryz.sizeOf138
 v37:=Tryz.zeroValue138
 t46:=Tryz.underlying212
 a46:=Tryz.isAgg212
 z46:=Tryz.sizeOf212
 v46:=Tryz.zeroValue212
 t51:=Tryz.underlying287
 a51:=Tryz.isAgg287
 z51:=Tryz.sizeOf287
 v51:=Tryz.zeroValue287
 t53:=Tryz.underlying191
 a53:=Tryz.isAgg191
 z53:=Tryz.sizeOf191
 v53:=Tryz.zeroValue191
 t171:=Tryz.underlying258
 a171:=Tryz.isAgg258
 z171:=Tryz.sizeOf258
 v171:=Tryz.zeroValue258
 t173:=Tryz.underlying261
 a173:=Tryz.isAgg261
 z173:=Tryz.sizeOf261
 v173:=Tryz.zeroValue261
 t212:=Tryz.underlying286
 a212:=Tryz.isAgg286
 z212:=Tryz.sizeOf286
 v212:=Tryz.zeroValue286
 t213:=Tryz.underlying288
 a213:=Tryz.isAgg288
 z213:=Tryz.sizeOf288
 t232:=Tryz.underlying354
 a232:=Tryz.isAgg354
 z232:=Tryz.sizeOf354
 v232:=Tryz.zeroValue354
 t233:=Tryz.underlying355
 a233:=Tryz.isAgg355
 z233:=Tryz.sizeOf355
 v233:=Tryz.zeroValue355
 g17:=Ac
 g18:=Ac
 g19:=Ac
 i0:=Ac
 i2:=Ac
 i3:=Ac
 i4:=Ac
 i5:=Ac
 i9:=Ac
 i20:=Ac
 i37:=Ac
 i46:=Ac
 i51:=Ac
 i53:=Ac
 i171:=Ac
 i173:=Ac
 i212:=Ac
 i232:=Ac
 i233:=Ac
 m17:=Ac
 m18:=Ac
 m19:=Ac}
end Go.Proofs
namespace Go.Proofs.Led
open Go Go.Proofs Go.Ab Go.RowKit Go.Shelf
theorem below_grow{w:World}{k:Nat}{os:Array Obj}:Below w.heap.size w (Sort.grow (w.drewN k) os):=
 ⟨rfl,rfl,rfl,by show w.heap.size<=(w.heap++os).size;simp,λb a=>by show(w.heap++os)[b]? =w.heap[b]?;rw[Uu a]⟩
theorem spec_of_calls{f:FuncId}{ys:List V}{r:V}(o:callable Tryz.prog f=true)
 (h:∀(w:World) (G:Gh) (cs:Array Value),cs.size=ys.length->(∀b,G.O b≠ .ext->b<w.heap.size)->(∀(j:Nat) v y,cs[j]? =some v->ys[j]? =some y->Rb T w G j v y)->LayP w (λb=>G.O b= .fz)->
  Calls Tryz.prog f cs w λe w'=>Below w.heap.size w w'/\∃v,e= .returned v/\Rr T w' G v r):Sp f ys r:=by
 refine⟨o,λw G cs l d g m n=>(h w G cs l d m n).mono ?_⟩;rintro e w' ⟨c,v,rfl,p⟩;refine⟨v,G,rfl,p,λ_ h=>h,λb a=>SB (d b a) c.size,g,λb a=>?_,λb a _=>c.block b a,c.size,c.os,c.tape,c.output⟩
 cases k:G.O b with
 |ext=>exact absurd k a
 |fz=>exact .inl ⟨rfl,rfl⟩
 |bx i=>exact absurd k (g b i)
 |ar j=>exact .inr (.inr ⟨j,rfl⟩)
def itoaB(n:Int):ByteArray:=⟨(Lib.itoa n).toArray⟩
theorem itoa_calls(n:Int)(a: -9223372036854775808<=n)(b:n<=9223372036854775807)(w:World)(F:Nat->Prop)(c:LayP w F):Calls Tryz.prog 58 #[.int .i64 n] w λe w'=>e= .returned (.string (itoaB n))/\Below w.heap.size w w':=by
 refine(Any.strconv_Itoa Tryz.laysM171 n a b w ?_).mono ?_
 ·obtain⟨t,z,d⟩:=c.p10.2
  refine Option.bind_eq_some_iff.2 ⟨0,Ac,?_⟩;rw[d]
 ·rintro e w' ⟨rfl,k,os,rfl⟩
  exact⟨rfl,below_grow⟩
end Go.Proofs.Led
namespace Go.Proofs.Led
open Go Go.Proofs Go.Ab
end Go.Proofs.Led
namespace Go.Proofs.Led
open Go Go.Proofs Go.Ab Go.RowKit
theorem bld_size:(Tryz.prog.info? 140).map (·.size)=some 2:=Ac
theorem bld_lies:liesAt Tryz.prog Tryz.prog.depth 140 (2/Tryz.prog.cellsOf 140) 0 140 1=true:=Ac
theorem cc_new(b:Nat)(w:World)(l:w.cell? ⟨b,0,none⟩=some (.pointer none))(a:w.shape? b=some (140,2))(i:w.frozen? ⟨b,0,none⟩=false):
 Calls Tryz.prog 106 #[.pointer (some ⟨b,0,none⟩)] w λe w'=>e= .returned (.tuple #[])/\w'=w.setCell ⟨b,0,none⟩ (.pointer (some ⟨b,0,none⟩)):=by
 obtain⟨j,g,c⟩:=Option.map_eq_some_iff.1 bld_size;have d:=Tryz.underlying137;have k:=Tryz.underlying140;have f:=Tryz.underlying215
 have uP:=Rw d;have m:=Rw k;have uU:=Rw f
 have aP:=Tryz.isAgg137;have aB:=Tryz.isAgg140
 go_enter Tryz.func106,Tryz.ntmps106
 go_wp2
 rw[Lib.run_to_unsafe w ⟨b,0,none⟩ d f g (by rw[c];decide) a (Nat.zero_lt_succ 1)]
 simp only[Result.andThen];rw[Ud]
 go_wp2
 rw[U8 Tryz.func144 Ac Ac Ac (e:=Extern.AbiNoEscape.same) Ac];rw[Lib.run_noEscape];simp only[Result.andThen];rw[Ud]
 go_wp2
 rw[Lib.run_from_unsafe w ⟨b,0,none⟩ f d g a bld_lies];simp only[Result.andThen];rw[Ud]
 go_wp2
 go_end0
 exact⟨rfl,rfl⟩
theorem cc_old(b:Nat)(w:World)(h:w.cell? ⟨b,0,none⟩=some (.pointer (some ⟨b,0,none⟩))):
 Calls Tryz.prog 106 #[.pointer (some ⟨b,0,none⟩)] w λe w'=>e= .returned (.tuple #[])/\w'=w:=by
 obtain⟨j,c,d⟩:=Option.map_eq_some_iff.1 bld_size;have a:=Tryz.underlying137;have f:=Tryz.underlying140;have g:=Tryz.underlying215
 have uP:=Rw a;have i:=Rw f;have uU:=Rw g
 have aP:=Tryz.isAgg137;have aB:=Tryz.isAgg140
 go_enter Tryz.func106,Tryz.ntmps106
 go_wp2
 rw[Lib.run_neq_ptr_same w _ a c]
 go_wp2
 go_end0
 exact⟨rfl,rfl⟩
theorem bld_byte:Tryz.prog.cellsOf 5=1:=Ac
theorem str_calls(b g n cap:Nat)(p:Value)(cur:Array Value)(l:List UInt8)(w:World)(k:w.heap[b]? =some (.cells #[p, .slice (some ⟨g,0,none⟩) n cap] 140 (0,0)))(d:w.heap[g]? =some (.cells cur 5 (0,0)))
 (q:n=l.length)(c:l≠ [])(C:n<=cap)(hcm:cap<=maxLen)(D:cur.size=cap)(m:∀(j:Nat) (x:UInt8),l[j]? =some x->cur[j]? =some (Value.int .u8 x.toNat)):
 Calls Tryz.prog 59 #[.pointer (some ⟨b,0,none⟩)] w λe w'=>e= .returned (.string ⟨l.toArray⟩)/\w'=w.drew.freeze ⟨g,0,none⟩ n:=by
 have o:l.length≠0:=by simpa using c
 subst q
 have B:w.drew.cell? ⟨b,1,none⟩=some (.slice (some ⟨g,0,none⟩) l.length cap):=by
  have:w.drew.heap[b]? =some (.cells #[p, .slice (some ⟨g,0,none⟩) l.length cap] 140 (0,0)):=k;rw[Lib.cell_of_heap this];rfl
 have f:(Builtin.unsafeSliceData_ #[138] 190 #[.slice (some ⟨g,0,none⟩) l.length cap]).run Tryz.prog w.drew= .ok (.pointer (some ⟨g,0,none⟩)) w.drew:=
  Lib.run_unsafeSliceData_row _ _ _ _ _ _ Aa
 have i:(Builtin.unsafeString_ #[190,3] 9 #[.pointer (some ⟨g,0,none⟩), .int .i64 l.length]).run Tryz.prog w.drew= .ok (.string ⟨l.toArray⟩) (w.drew.freeze ⟨g,0,none⟩ l.length):=by
  refine Lib.run_unsafeString_row w.drew 190 3 9 5 Tryz.underlying190 bld_byte g cur.size (by have a:w.drew.heap[g]? =some (.cells cur 5 (0,0)):=d;simp[World.shape?,a]) l c Aa Gu ?_
  intro j x r;have a:w.drew.heap[g]? =some (.cells cur 5 (0,0)):=d;have:=m j x r
  rw[Addr.add_lit];simp only[World.cell?,a];simpa using this
 have y:=Tryz.underlying137;have v:=Tryz.underlying140;have z:=Tryz.underlying138;have A:=Tryz.underlying190
 have s:=S9;have u:=Tryz.underlying9;have t:=Tryz.underlying5
 have uP:=Rw y;have H:=Rw v;have I:=Rw z;have J:=Rw A
 have E:=Rw s;have G:=Rw u;have F:=Rw t
 have aP:=Tryz.isAgg137;have aB:=Tryz.isAgg140;have aS:=Tryz.isAgg138
 have mixed:=mixed
 go_enter Tryz.func59,Tryz.ntmps59
 go_wp2
 go_region_o
 all_goals (go_wp2;go_ret;exact⟨rfl,rfl⟩)
end Go.Proofs.Led
namespace Go.Proofs.Led
open Go Go.Proofs Go.Ab Go.RowKit Go.Lib
theorem byte_info:(Tryz.prog.info? 5).map (λi=>(i.zero,i.size,i.bytes))=some (some (.int .u8 0),1,1):=Ac
def BOk(w:World)(X base:Nat)(acc:ByteArray):Prop:=
 ∃p v,w.heap[X]? =some (.cells #[p,v] 140 (0,0))/\(p= .pointer none\/p= .pointer (some ⟨X,0,none⟩))/\w.ownsRow base 5 1 v acc.size (strCells acc)/\X<base/\base<=w.heap.size
structure Bel(base X:Nat)(w w':World):Prop where
 os:w'.os=w.os
 tape:w'.tape=w.tape
 output:w'.output=w.output
 size:w.heap.size<=w'.heap.size
 block:∀k,k<base->k≠X->w'.heap[k]? =w.heap[k]?
 typed:∀k c t fr,w.heap[k]? =some (.cells c t fr)->t≠5->k≠X->w'.heap[k]? =w.heap[k]?
theorem Bel.refl{a X:Nat}{w:World}:Bel a X w w:=⟨rfl,rfl,rfl,QV _,λ_ _ _=>rfl,λ_ _ _ _ _ _ _=>rfl⟩
theorem Bel.trans{d X:Nat}{a b c:World}(h:Bel d X a b)(k:Bel d X b c):Bel d X a c:=
 ⟨k.os.trans h.os,k.tape.trans h.tape,k.output.trans h.output,Ro h.size k.size,λi hi e=>(k.block i hi e).trans (h.block i hi e),λi c t f hi g e=>(k.typed i c t f ((h.typed i c t f hi g e).trans hi) g e).trans (h.typed i c t f hi g e)⟩
theorem strCells_app(a b:ByteArray):strCells (a++b)=strCells a++strCells b:=by simp[strCells]
theorem row_slice{w:World}{b:Nat}{e:TypeId}{size n:Nat}{v:Value}{xs:List Value}(h:w.ownsRow b e size v n xs):∃a m c,v= .slice a m c:=by
 rcases h.2 with⟨rfl,_⟩|⟨g,cap,_,rfl,_⟩
 ·exact⟨_,_,_,rfl⟩
 ·exact⟨_,_,_,rfl⟩
theorem row_typed{w:World}{a:Nat}{e:TypeId}{size n k:Nat}{v:Value}{xs:List Value}{c:Array Value}{t:TypeId}{b:Nat×Nat}(h:w.ownsRow a e size v n xs)(hv:v.ownBlock=some k)(f:w.heap[k]? =some (.cells c t b))(i:t≠e):False:=by
 rcases h.2 with⟨rfl,_⟩|⟨g,cap,cur,rfl,_,d,_⟩
 ·cases hv
 ·cases hv<;>simp_all
theorem set_grown{w:World}{X i:Nat}{u:Value}:w.grownBy (w.setCell ⟨X,i,none⟩ u) (some X):=
 ⟨EY,EY,EY,by unfold World.setCell;split<;>simp,λk _ a=>heap_setCell_other w _ k _ (λe=>a Iu)⟩
theorem ws_calls(X b:Nat)(d s:ByteArray)(w:World)(h:BOk w X b d)(Z:d.size+s.size<=1000000000):
 Calls Tryz.prog 57 #[.pointer (some ⟨X,0,none⟩), .string s] w λe w'=>(∃m,e= .returned (.tuple #[m, .nilIface]))/\BOk w' X b (d++s)/\Bel b X w w':=by
 obtain⟨p,v,u,V,l,G,z⟩:=h;obtain⟨W,hi,J,K,L⟩:=info_parts byte_info;have B:∀k,v.ownBlock=some k->b<=k:=λk o=>(l.lt k o).1
 have H:Calls Tryz.prog 106 #[.pointer (some ⟨X,0,none⟩)] w λe w'=>e= .returned (.tuple #[])/\w'.heap[X]? =some (.cells #[.pointer (some ⟨X,0,none⟩),v] 140 (0,0))/\w'.ownsRow b 5 1 v d.size (strCells d)/\Bel b X w w':=by
  have M:w.cell? ⟨X,0,none⟩=some p:=by simp[World.cell?,u]
  have S:w.frozen? ⟨X,0,none⟩=false:=by simp[World.frozen?,u]
  have I:w.shape? X=some (140,2):=by simp[World.shape?,u]
  rcases V with rfl|rfl
  ·refine(cc_new X w M I S).mono ?_
   rintro e w' ⟨rfl,rfl⟩;have f:w.grownBy (w.setCell ⟨X,0,none⟩ (.pointer (some ⟨X,0,none⟩))) (some X):=set_grown;refine⟨rfl,?_,l.kept f ?_,⟨f.os,f.tape,f.output,f.size,λk o g=>f.block k Aa (λe=>g (by cases e;rfl)),λk c t U o O g=>f.block k (Rj.1 o).1 (λe=>g (by cases e;rfl))⟩⟩
   ·rw[heap_setCell_same _ _ _ _ _ _ u]
    rfl
   ·grind
  ·refine(cc_old X w M).mono ?_
   rintro e w' ⟨rfl,rfl⟩;exact⟨rfl,u,l,Bel.refl⟩
 go_enter Tryz.func57,Tryz.ntmps57
 go_wp2_with (first
  |(go_at_call 106;refine H.mono ?_;rintro e Q ⟨rfl,x,n,j⟩;have Y:Q.cell? ⟨X,1,none⟩=some v:=by {simp[World.cell?,x]})
  |(at_builtin;refine wpList_append_own_string _ rfl _ _ 138 9 rfl b 5 W Tryz.underlying138 Tryz.underlying9 hi J K L v d.size (strCells d) rfl n s rfl CB Aa (Ro z j.size) ?_;intro v' C i a N;obtain⟨D,F,E,rfl⟩:=row_slice i;have q:=a.block X (SB Aa j.size) (λr=>by {have:=B X r.symm;omega});rw[x]at q;have R:C.cell? ⟨X,1,none⟩=some v:=by {simp[World.cell?,q]};have T:C.frozen? ⟨X,1,none⟩=false:=by {simp[World.frozen?,q]})
  |go_in)
 go_ret2
 have f:C.grownBy (C.setCell ⟨X,1,none⟩ (.slice D F E)) (some X):=set_grown;have P:∀k,(Value.slice D F E).ownBlock=some k->b<=k:=λk o=>(i.lt k o).1
 have y:Bel b X Q (C.setCell ⟨X,1,none⟩ (.slice D F E)):=⟨f.os.trans a.os,f.tape.trans a.tape,f.output.trans a.output,Ro a.size f.size,λk o g=>(f.block k (SB Aa (Ro j.size a.size)) (λe=>g (by cases e;rfl))).trans (a.block k (SB Aa j.size) (λr=>by have:=B k r.symm;omega)),λk c t U o O g=>by
  have A:=(Rj.1 o).1;rw[f.block k (SB A a.size) (λe=>g (by cases e;rfl)),a.block k A (λr=>row_typed n r.symm o O)]⟩
 refine⟨⟨_,rfl⟩,⟨.pointer (some ⟨X,0,none⟩), .slice D F E,?_, .inr rfl,?_,G,Ro z (Ro j.size (Ro a.size f.size))⟩,j.trans y⟩
 ·rw[heap_setCell_same _ _ _ _ _ _ q]
  rfl
 ·have e:(d++s).size=d.size+s.size:=SY
  rw[e,strCells_app];refine i.kept f ?_;grind
theorem str_of(X b:Nat)(a:ByteArray)(w:World)(h:BOk w X b a)(u:a.size≠0):
 Calls Tryz.prog 59 #[.pointer (some ⟨X,0,none⟩)] w λe w'=>e= .returned (.string a)/\Bel b X w w':=by
 obtain⟨p,v,A,I,f,B,D⟩:=h;rcases f.2 with⟨_,F⟩|⟨g,cap,cur,rfl,C,y,q,l,m,d⟩
 ·exact absurd F u
 ·have o:a.data.toList.length=a.size:=by simp
  refine(str_calls X g a.size cap p cur a.data.toList w A y o.symm (λe=>u (by rw[<-o,e];rfl)) q l (by simpa using m) (λj x z=>?_)).mono ?_
  ·have E:j<a.size:=by rw[<-o];exact(QR.1 z).1
   have s:(cur.toList.take (a.size*1))[j]? =(strCells a)[j]? :=by rw[d]
   rw[TK,QO Aa]at s;rw[<-TG,s];simp[strCells,z]
  ·rintro e w' ⟨rfl,rfl⟩
   refine⟨Af,Ff,Ff,Ff,?_,λk i n=>?_,λk c t H i G n=>?_⟩
   ·unfold World.freeze
    split
    ·exact QV _
    ·exact Nat.le_of_eq (Array.size_modify ..).symm
   ·unfold World.freeze
    split
    ·rfl
    ·show(w.heap.modify g _)[k]? =_
     rw[Array.getElem?_modify,Q5 Aa]
   ·have r:g≠k:=λe=>by
     subst e;rw[y]at i;simp only[Sv,Obj.cells.injEq]at i;exact G i.2.1.symm
    unfold World.freeze;split
    ·rfl
    ·show(w.heap.modify g _)[k]? =_
     rw[Array.getElem?_modify,Q5 r]
def fzG(G:Gh):Gh:={G with O:=λb=>match G.O b with| .fz=> .fz|_=> .ext}
theorem fzG_iff{G:Gh}{b:Nat}:(fzG G).O b= .fz↔G.O b= .fz:=by
 unfold fzG;dsimp only;cases G.O b<;>simp
theorem fzG_ext{G:Gh}{b:Nat}(h:(fzG G).O b≠ .ext):G.O b= .fz:=by
 grind [fzG]
theorem sp_at{f:FuncId}{ys:List V}{r:V}(h:Sp f ys r){w w':World}{G:Gh}(g:∀b,G.O b≠ .ext->b<w.heap.size)(m:LayP w (λb=>G.O b= .fz))(l:Below w.heap.size w w')(cs:Array Value)(q:cs.size=ys.length)
 (n:∀(j:Nat) v y,cs[j]? =some v->ys[j]? =some y->Rb T w' (fzG G) j v y):
 Calls Tryz.prog f cs w' λe a=>∃v G',e= .returned v/\Rr T a G' v r/\Below w'.heap.size w' a/\∀b,G'.O b≠ .ext->G'.O b= .fz\/w'.heap.size<=b:=by
 refine(h.2 w' (fzG G) cs q (λb hb=>SB (g b (by rw[fzG_ext hb];simp)) l.size) (λb i hb=>?_) n ?_).mono ?_
 ·grind [fzG_ext,fzG_iff]
 ·refine layP_mono (λb hb=>?_) m
  exact⟨fzG_iff.2 hb,l.block b (g b AP)⟩
 ·rintro e a ⟨v,G',rfl,s,A,B,C,D,t,u,x,z,d⟩
  have c:∀b j,(fzG G).O b≠ .ar j:=λb j hb=>by
   grind [fzG_ext,fzG_iff]
  refine⟨v,G',rfl,s,⟨x,z,d,u,λk o=>t k o (λj=>c k j)⟩,λb hb=>?_⟩;grind
theorem rb_later{w w':World}{G:Gh}(c:∀b,G.O b≠ .ext->b<w.heap.size)(d:Below w.heap.size w w'){v:Value}{l:List V}(a:V.pure (.sl l))(h:Rv w G v (.sl l))(j:Nat):Rb T w' (fzG G) j v (.sl l):=by
 refine⟨a,Rv.keep (w:=w) (G:=G) ⟨λb hb=>fzG_iff.2 hb,λb hb=>d.block b (c b AP)⟩ h a (λ_ h=>h.elim) (λ_ _ h=>h.elim)⟩
theorem rb_nodeA{w:World}{G:Gh}{j:Nat}(x:Node):Rb T w G j (.agg (nodeA x)) (nodeV x):=by
 refine⟨by simp only[V.pure,nodeV,nodeC,V.ok,V.okL,I,S,B,and_self], .agg (nodeA x) (nodeC x) rfl (by
  intro c a;simp only[nodeA,List.mem_toArray,Rh,TW,UU]at a;rcases a with rfl|rfl|rfl|rfl|rfl|rfl|rfl|rfl|rfl<;>rfl) λi c y a d=>?_⟩
 have e:nodeC x=(nodeA x).toList.map V.lit:=rfl;rw[e,RD,TG,a]at d;cases d;refine .lit _ ?_;have b:c∈(nodeA x):=Array.mem_of_getElem? a
 simp only[nodeA,List.mem_toArray,Rh,TW,UU]at b;rcases b with rfl|rfl|rfl|rfl|rfl|rfl|rfl|rfl|rfl<;>rfl
theorem nodeA_of{w:World}{G:Gh}{v:Value}{x:Node}(h:Rv w G v (nodeV x)):v= .agg (nodeA x):=by
 obtain⟨cs,rfl,c,_,b⟩:=Rv.zV (show Rv w G v (.agg (nodeC x))from h);congr 1;apply Array.ext
 ·rw[c];rfl
 ·intro i a d
  have e:(nodeC x)[i]? =some (.lit (nodeA x)[i]):=by
   show((nodeA x).toList.map V.lit)[i]? =_;simp_all
  exact(b i _ _ (U0 a) e).bH
section
variable{w:World}{G:Gh}{v0:Value}{f:List Node}(h2:∀b,G.O b≠ .ext->b<w.heap.size)(h5:LayP w (λb=>G.O b= .fz))(hp:V.pure (.sl (f.map nodeV)))(hv:Rv w G v0 (.sl (f.map nodeV)))
include h2 h5 hp hv
theorem node_calls{n i:Int}{y:Node}(h:Sp 44 [.sl (f.map nodeV),I n] (.tup [nodeV y,I i])){w':World}(l:Below w.heap.size w w'):
 Calls Tryz.prog 44 #[v0, .int .i64 n] w' λe g=>e= .returned (.tuple #[.agg (nodeA y), .int .i64 i])/\Below w'.heap.size w' g:=by
 refine(sp_at h h2 h5 l #[v0, .int .i64 n] rfl (λj v y c d=>?_)).mono ?_
 ·match j,c,d with
  |0,c,d=>cases c;cases d;exact rb_later h2 l hp hv 0
  |1,c,d=>cases c;cases d;exact⟨by simp only[V.pure,I,V.ok], .lit _ rfl⟩
 ·rintro e g ⟨v,G',rfl,⟨vs,rfl,q,m⟩,k,_⟩
  refine⟨?_,k⟩;obtain⟨a,b,rfl⟩:=arr2 q;have o:=nodeA_of (m 0 a _ rfl rfl).2;have p:b= .int .i64 i:=dZ9 (m 1 b _ rfl rfl)
  rw[o,p]
theorem climb_calls{x:Node}{C:List Node}(h:Sp 52 [.sl (f.map nodeV),nodeV x] (.own 42 (C.map nodeV)))(A:C≠ []){w':World}(o:Below w.heap.size w w'):
 Calls Tryz.prog 52 #[v0, .agg (nodeA x)] w' λe d=>(∃g cap,e= .returned (.slice (some ⟨g,0,none⟩) C.length cap)/\w'.heap.size<=g/\g<d.heap.size/\∀(k:Nat) y,C[k]? =some y->∀(j:Nat) v,(nodeA y)[j]? =some v->d.cell? ⟨g,k*9+j,none⟩=some v)/\Below w'.heap.size w' d:=by
 refine(sp_at h h2 h5 o #[v0, .agg (nodeA x)] rfl (λj v y a i=>?_)).mono ?_
 ·match j,a,i with
  |0,a,i=>cases a;cases i;exact rb_later h2 o hp hv 0
  |1,a,i=>cases a;cases i;exact rb_nodeA x
 ·rintro e d ⟨v,G',rfl,⟨_,_,J⟩,m,B⟩
  refine⟨?_,m⟩;rcases J with⟨_,z⟩|⟨b,cap,cur,rfl,hO,q,K,D,E,L,r⟩
  ·exact absurd (List.map_eq_nil_iff.1 z) A
  ·refine⟨b,cap,by rw[Rl],?_,(Rj.1 q).1,λk y H j u F=>?_⟩
   ·rcases B b Ie with h|h
    ·rw[hO]at h;cases h
    ·exact h
   ·have s:(nodeC y)[j]? =some (.lit u):=by
     show((nodeA y).toList.map V.lit)[j]? =_;rw[RD,TG,F];rfl
    have n:=flat_node C k y H j _ s;have c:k*9+j< ((C.map nodeV).flatMap V.cells).length:=(QR.1 n).1
    have I:=c;rw[<-r.len]at c;have t:=(r.rel _ _ _ (QS c) n).bH
    have l:=QS c;rw[t,TK]at l;split at l
    ·rw[World.cell?,q]
     simpa using l
    ·cases l
omit hp hv in
theorem itoa_at{m:Int}(c: -9223372036854775808<=m)(d:m<=9223372036854775807){w':World}(g:Below w.heap.size w w'):
 Calls Tryz.prog 58 #[.int .i64 m] w' λe a=>e= .returned (.string (itoaB m))/\Below w'.heap.size w' a:=
 itoa_calls m c d w' _ (layP_mono (λb hb=>⟨hb,g.block b (h2 b AP)⟩) h5)
end
end Go.Proofs.Led
