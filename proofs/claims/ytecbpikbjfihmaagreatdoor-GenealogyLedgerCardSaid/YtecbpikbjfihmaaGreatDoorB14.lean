/- Lemmas. -/
import Derived.Test.YtecbpikbjfihmaaGreatDoorSGC1
import Derived.Test.YtecbpikbjfihmaaGreatDoorB13
import Derived.Maps.Views
set_option linter.all false
set_option autoImplicit true
set_option relaxedAutoImplicit true
set_option maxRecDepth 100000
set_option maxHeartbeats 8000000
noncomputable section
namespace Go.Proofs.Led
open Go Go.Proofs Go.Ab Go.RowKit Go.Maps Go.MapKept Go.ChangeMaps Go.WideShapes Tryz
def chl_none a cap w:
 Calls Tryz.prog 36 #[.slice a 0 cap] w λe w'=>e= .returned (.map (some w.heap.size))/\w'.ownsGroups (H:=Unit) Tryz.prog 3 (w.heap.size+1) 3 .i64 w.heap.size 0 (grpD [])/\Below w.heap.size w w':=by
 have b:= @run_makeMap Tryz.prog
 go_enter func36,ntmps36
 go_wp2
 refine wp_loop_rounds 1 ?_;rw[rounds_succ]
 go_wp2
 go_ret
 exact⟨rfl,World.ownsGroups_made _ _ _ _ _,(Below.refl _ _).alloc (Rf _) _⟩
def kidsL:List Node->Int->List Int
 | [],_=> []
 |x::l,p=>if x.parent=p then kidsL l p++[x.id]else kidsL l p
def kidE:List Node->List V
 | [] => []
 |x::l=>if x.parent=0 then kidE l else .tup [.lit (.int .i64 x.parent), .sl ((kidsL (x::l) x.parent).map I)] ::kidE l
theorem kidE_get n:∀l,jG (.int .i64 n) (kidE l)=if n=0\/kidsL l n=[]then none else some (.sl ((kidsL l n).map I))
 | [] =>by simp[kidE,kidsL,jG]
 |x::l=>by
  unfold kidE;by_cases b:x.parent=0;rw[QU b,kidE_get n l];by_cases c:n=0;simp[c];exact KT;rw[Q9 b];unfold jG;by_cases a:x.parent=n;rw[QU (by rw[a]),Q9,a];rintro(h|h);exact b (a.trans h);unfold kidsL at h;rw[QU a]at h;simp at h
  have e:kidsL (x::l) n=kidsL l n:=by conv=>lhs;unfold kidsL
                                      rw[Q9 a]
  rw[Q9 (by simpa using a),kidE_get n l,e]
def grpD_map:∀l,IsMap (grpD l)
 | [] =>⟨_,rfl⟩
 |x::l=>by
  unfold grpD;split;exact grpD_map l;let⟨es,h⟩:=grpD_map l;rw[h];exact⟨_,rfl⟩
theorem grpD_get n:∀ l  z,(grpD l).atKey (.int .i64 n) z=if n=0\/kidsL l n=[]then z else .slice (ChangeShapes.lits .i64 (kidsL l n)) []
 | [],z=>by simp[grpD,kidsL,DataW.atKey]
 |x::l,z=>by
  unfold grpD;by_cases a:x.parent=0;rw[QU a,grpD_get n l];by_cases d:n=0;simp[d];exact KT;rw[Q9 a];by_cases c:x.parent=n;subst c;rw[atKey_put_same (grpD_map l) (by trivial:WideAt.IsKeyLit (.int .i64 x.parent)),Q9,grpD_get x.parent l]
  have e:kidsL (x::l) x.parent=kidsL l x.parent++[x.id] :=by conv=>lhs;unfold kidsL
                                                             rw[QU rfl]
  rw[e];by_cases b:kidsL l x.parent=[];rw[QU (.inr b),b];rfl;rw[Q9 (by simp[a,b])];simp[itemsD,ChangeShapes.lits];rintro(h|h);exact a h;unfold kidsL at h;simp at h
  have e:kidsL (x::l) n=kidsL l n:=by conv=>lhs;unfold kidsL
                                      rw[Q9 c]
  rw[atKey_put_other (by simpa using λh=>c h.symm),grpD_get n l,e]
def lits_inj(h:ChangeShapes.lits (H:=Unit) .i64 a=ChangeShapes.lits .i64 b):a=b:=
 (List.map_inj_right (λx y h=>Fj)).1 h
def kidE_pure:∀l,bM (kidE l)
 | [] =>by simp[kidE,bM,V.okL]
 |x::l=>by
  unfold kidE;split;exact kidE_pure l;refine⟨⟨by simp[V.ok],?_,trivial⟩,kidE_pure l⟩;simp[V.ok]
  exact aH.2 λy a=>by
   obtain⟨z,_,rfl⟩:=Rn.1 a;simp[I,V.ok]
def flatI:∀a:List Int,(a.map I).flatMap V.cells=a.map I
 | [] =>rfl
 |z::r=>by
  rw[Rt,Tm,flatI r];rfl
def rv_ints(h:w.ownsInts c 3 .i64 v a)(l:∀b,c<=b->b<w.heap.size->G.O b= .fz):Rv w G v (.sl (a.map I)):=by
 have d:=λg=>h.1.cells (g:=g);have f:=h.1.lt;rcases h.1.2 with⟨rfl,k⟩|⟨g,cap,cur,rfl,m,q,r,n,s,t⟩;rw[RS.1 k];exact .slN;have e:(a.map I).length=a.length:=by simp
 have i:=flatI a
 have:=Rv.slS (w:=w) (G:=G) ⟨g,0,none⟩ cap (a.map I) 1 (λj=> .int .i64 (a.getD j 0)) Aa n (λ_=>l g m (f g rfl).2) (λx o=>by
  obtain⟨z,_,rfl⟩:=Rn.1 o
  rfl) (λj y hy=>by
  rw[i]at hy;obtain⟨z,hz,rfl⟩:∃z,a[j]? =some z/\I z=y:=Dj;refine⟨?_,rfl⟩;have:=d g rfl j (.int .i64 z) IA;rw[this];simp only[Sz,hz]
  rfl) (λj y hy=>by
  rw[i]at hy;obtain⟨z,hz,rfl⟩:∃z,a[j]? =some z/\I z=y:=Dj;simp[Sz,hz];exact .lit _ rfl)
 rw[e]at this;exact this
def rv_groups(h:w.ownsGroups (H:=Unit) Tryz.prog 3 a 3 .i64 b n (grpD l))(hl:∀x∈l,(Lit.int .i64 x.parent).wf=true)(T:G.O b= .fz)(hO:∀b,a<=b->b<w.heap.size->G.O b= .fz):
 Rv w G (.map (some b)) (V.mapV (.int .i64 0) (kidE l)):=by
 let⟨es,u,hb,F,t,hD,ad,aa,ac⟩:=h;have D:=SL;have K:=int_keyed D
 have f:∀e∈es.toList,∃m,e.key= .int .i64 m/\(Lit.int .i64 m).wf=true/\keyOf Tryz.prog 3 e.key=some (.int .i64 m)/\∃M,w.ownsInts a 3 .i64 e.val M/\(WideElems.rg Tryz.prog 3 (rowElem (H:=Unit) w a 3 .i64) e)=(.int .i64 m,rowDatum .i64 e.val M):=λe I=>by
  let⟨y,X⟩:=F.reads e I;have c:=WideElems.rd_key X;let⟨z,hz,hd⟩:=WideElems.rd_val X;obtain⟨M,U,rfl⟩:=rowElem_inv hz;have hg:=WideElems.rg_of X;have ab:=c;simp[keyOf,D]at c;cases L:e.key<;>simp[L,mapKey,D]at c;grind
 have C:∀m,(Instr.findNow (.int .i64) (.int .i64 m) es.toList 0=some none/\∀e∈es.toList,e.key≠ .int .i64 m)\/∃(j:Nat) (e:MapEntry),Instr.findNow (.int .i64) (.int .i64 m) es.toList 0=some (some (j,e.val))/\e∈es.toList/\e.key= .int .i64 m:=λm=>by
  rcases findNow_spec (d:= .int .i64) (k:= .int .i64 m) rfl es.toList 0 (λx o=>by let⟨m',h,_⟩:=f x o;rw[h];rfl)with h|⟨j,e,c,g,B⟩;exact .inl h;exact .inr ⟨0+j,e,c,QZ g,B⟩
 have W:∀(l:List Node) m,(∀x∈l,(Lit.int .i64 x.parent).wf=true)->kidsL l m≠ []->(Lit.int .i64 m).wf=true:=λl m=>by
  induction l with
  |nil=>intro _ h;exact absurd rfl h
  |cons x l ih=>
   intro hw h;unfold kidsL at h;split at h;rename_i e;exact e▸hw x (.head _);exact ih (λx o=>hw x (.tail _ o)) h
 have J:∀m,(Lit.int .i64 m).wf=true->((∀p∈es.toList.map (WideElems.rg Tryz.prog 3 (rowElem (H:=Unit) w a 3 .i64)),p.1≠ .int .i64 m)->∀z,(grpD l).atKey (.int .i64 m) z=z)/\(∀p∈es.toList.map (WideElems.rg Tryz.prog 3 (rowElem (H:=Unit) w a 3 .i64)),p.1= .int .i64 m->∀z,(grpD l).atKey (.int .i64 m) z=p.2):=λm P=>by
  rw[hD];exact atKey_sorted _ (fit_rising K F) (.int .i64 m) trivial
 have i:∀m,(∃(j:Nat) (e:MapEntry),Instr.findNow (.int .i64) (.int .i64 m) es.toList 0=some (some (j,e.val))/\m≠0/\kidsL l m≠ []/\w.ownsInts a 3 .i64 e.val (kidsL l m))\/(Instr.findNow (.int .i64) (.int .i64 m) es.toList 0=some none/\(m=0\/kidsL l m=[])):=λm=>by
  rcases C m with⟨c,g⟩|⟨j,e,c,g,B⟩;refine .inr ⟨c,?_⟩;by_cases R:m=0\/kidsL l m=[];exact R;have P:=W l m hl (λh=>R (.inr h))
  have:=(J m P).1 (λp hp=>by
   obtain⟨e,I,rfl⟩:=Rn.1 hp;let⟨m',A,_,_,M,_,N⟩:=f e I;rw[N];intro e3;simp[Lit.int.injEq,true_and]at e3;subst e3;exact g e I A) .nil
  rw[grpD_get,Q9 R]at this;cases this;let⟨m',A,P,_,M,U,N⟩:=f e g;rw[B]at A;cases A;have r:=(J m P).2 _ (RD g) (by rw[N]);rw[N]at r;simp[grpD_get]at r
  have S:¬(m=0\/kidsL l m=[]):=λh=>by
   have Z:=r .nil;have Q:=r (.lit (.bool true));rw[QU h]at Z Q;rw[<-Z]at Q;cases Q
  have E:=r .nil;rw[Q9 S]at E;refine .inl ⟨j,e,c,λh=>S (.inl h),λh=>S (.inr h),?_⟩;rcases U.datum (H:=Unit)with⟨Y,_⟩|Y;rw[Y]at E;cases E;rw[Y]at E;simp[DataW.slice.injEq,UJ]at E;rw[lits_inj E];exact U
 refine Rv.mp b es u 0 (.int .i64 0) (kidE l) (λs=>match Instr.findNow (.int .i64) s es.toList 0 with|some (some (_,v))=>v|_=>undef) T hb (λe I=>by let⟨m,h,_⟩:=f e I;rw[h];rfl) (λs t hn=>?_) (λs x t o=>?_) (λs x t o=>?_)
 ·cases s<;>simp[litD,IsKey]at t
  rename_i q m;subst t;rcases i m with⟨j,e,c,g,B,r⟩|⟨c,g⟩
  ·simp_all [kidE_get,Q9]
  ·exact c
 ·cases s<;>simp[litD,IsKey]at t
  rename_i q m;subst t;rcases i m with⟨j,e,c,g,B,r⟩|⟨c,g⟩
  ·refine⟨⟨j,by simp[litD,c]⟩,?_⟩
   simp[c];rcases r.1.2 with⟨A,_⟩|⟨_,_,_,A,_⟩<;>rw[A] <;>rfl
  ·rw[kidE_get,QU g]at o
   cases o
 ·cases s<;>simp[litD,IsKey]at t
  rename_i q m;subst t;rcases i m with⟨j,e,c,g,B,r⟩|⟨c,g⟩
  ·rw[kidE_get,Q9 (by simp[g,B])]at o
   cases o;simp[c];exact rv_ints r hO
  ·rw[kidE_get,QU g]at o
   cases o
def stayG(w w':World)(G:Gh):Gh:={G with O:=λb=>if w.heap.size<=b/\b<w'.heap.size then .fz else G.O b}
def flat_node:∀(f:List Node)  k  x,f[k]? =some x->∀ j  y,(nodeC x)[j]? =some y->((f.map nodeV).flatMap V.cells)[k*9+j]? =some y
 | [],k,x,h,_,_,_=>HY
 |z::f,0,x,h,j,y,a=>by
  cases h;rw[Rt,Tm,List.getElem?_append_left];rw[Nat.zero_mul,SX];exact a;have:=(QW.1 a).1;show 0*9+j< (nodeC z).length;omega
 |z::f,k+1,x,h,j,y,a=>by
  rw[Rt,Tm,U1]
  have e:(k+1)*9+j- (nodeV z).cells.length=k*9+j:=by
   show(k+1)*9+j-9=_;omega
  rw[e];exact flat_node f k x h j y a;show 9<=_;omega
def children_spec(f:List Node)(T:f.length<=1000000)(N:∀x∈f,(Lit.int .i64 x.id).wf=true/\(Lit.int .i64 x.parent).wf=true):Sp 36 [.sl (f.map nodeV)] (V.mapV (.int .i64 0) (kidE f.reverse)):=by
 refine⟨Ac,λw G cs s K h3 S W=>?_⟩
 obtain⟨I,rfl⟩:∃a,cs= #[a] :=by
  obtain⟨l⟩:=cs;match l,s with
  | [a],_=>exact⟨a,rfl⟩
 have U:Rv w G I (.sl (f.map nodeV)):=(S 0 I _ rfl rfl).2
 have o:Calls Tryz.prog 36 #[I] w λe w'=>e= .returned (.map (some w.heap.size))/\w'.ownsGroups (H:=Unit) Tryz.prog 3 (w.heap.size+1) 3 .i64 w.heap.size f.length (grpD f.reverse)/\Below w.heap.size w w':=by
  rcases U.bK8 with⟨rfl,m⟩|⟨a,c,sz,cc,rfl,X,Y,E,Z,r,D⟩;have:f=[] :=by simpa using m
  subst this;exact chl_none none 0 w;rw[Rw];rw[Rw]at E;rcases Nat.eq_zero_or_pos f.length with m|u;have:f=[] :=RS.1 m;subst this;exact chl_none (some a) c w
  have n:∀k x,f[k]? =some x->∀j v,(nodeA x)[j]? =some v->w.cell? (a.add (k*9+j))=some v:=λk x y j v hv=>by
   have Q:(nodeC x)[j]? =some (.lit v):=by
    show((nodeA x).toList.map V.lit)[j]? =_;rw[RN,Ud,hv];rfl
   have J:=flat_node f k x y j _ Q;have R:=(D _ _ J).bH;rw[<-R];exact(r _ _ J).1
  obtain⟨b,off,P⟩:=a;have m:=n 0 f[0] (QX u) 0 _ rfl
  have F:P=none:=by
   cases P with
   |none=>rfl
   |some q=>
    unfold World.cell? at m;split at m;simp[Addr.add]at m;cases m
  subst F
  exact chl_any f b off c w T (block_lt_of_cell m) (λk x y j v hv=>by
   have s:=n k x y j v hv;by_cases L:k*9+j=0;rw[L]at s⊢;exact s;simp only[Addr.add,Q9 L]at s
   exact s) N
 refine o.mono ?_;rintro e w' ⟨rfl,M,t⟩
 have C:w.heap.size<w'.heap.size:=by
  obtain⟨es,A,hb,_⟩:=M;exact(Ry.1 hb).1
 have g:∀b,b<w.heap.size->(stayG w w' G).O b=G.O b:=λb hb=>Q9 Aa;have d:∀b,w.heap.size<=b->b<w'.heap.size->(stayG w w' G).O b= .fz:=λb h z=>QU ⟨h,z⟩;refine⟨_,stayG w w' G,rfl,⟨⟨?_,rv_groups M (λx y=>(N x (List.mem_reverse.1 y)).2) (d _ (Rf _) C) (λb hb B=>d b Aa B)⟩,trivial⟩,λb hb=>?_,λb hb=>?_,λb i=>?_,λb hb=>?_,λb hb _=>t.block b hb,t.size,t.os,t.tape,t.output⟩;simp only[V.mapV,V.ok,V.okL,UJ,true_and];exact kidE_pure _;rw[g b (K b AV)];exact hb;rcases Sj b w'.heap.size with h|h;exact h;have:(stayG w w' G).O b=G.O b:=Q9 Aa;rw[this]at hb;exact SS (K b hb) t.size;rcases Sj b w.heap.size with h|h;rw[g b h];exact h3 b i;rcases Sj b w'.heap.size with z|z;rw[d b h z];simp;have:(stayG w w' G).O b=G.O b:=Q9 Aa;rw[this];exact h3 b i;rcases Sj b w.heap.size with h|h;rw[g b h]at hb⊢;exact Oc;exact .inr (.inl h)
end Go.Proofs.Led
namespace Go.Proofs.Led
open Go Go.Proofs Go.Ab Tryz
abbrev WfN(f:List Node):Prop:=∀x∈f,(Lit.int .i64 x.id).wf=true/\(Lit.int .i64 x.parent).wf=true
def ch_pos:1<=(chN f x).length:=by
 obtain⟨r,e⟩:∃r,chN f x=x::r:=Ku;rw[e];simp
def pthSt(C D:List Node):St:=match D with
 | [] =>mkSt [(8, .lit (.slice none 0 0)),(22, .sl (C.map nodeV)),(23,I C.length),(24,I 0)] [] []
 |x::r=>mkSt [(8, .arr 32 r.length),(22, .sl (C.map nodeV)),(23,I C.length),(24,I ((r.length:Int)+1))] [] [(32,⟨r.length, .own,3,((x::r).map Node.id).map I⟩)]
def pathL(f:List Node)(x:Node):List Int:=((chN f x).map Node.id).reverse
def pathY_spec f n x(g:f.length<=1000000)(t:SzN f)(h:RightF f)(b:getN f n=some x):Sp 13 [.sl (f.map nodeV),I n] (.tup [.own 3 ((pathL f x).map I),I 0]):=by
 refine zsp func13 ?_;have u:=nodeY_spec f n x g t h b;have v:=climbL_spec f x g h (getN_mem b).1;have a:=ch_le (f:=f) (x:=x);have c:chN f x≠ [] :=λe=>by have:=ch_pos (f:=f) (x:=x);rw[e]at this;simp at this
 unfold pathL;clear b;generalize chN f x=C at*;have j:(C.map nodeV).length=C.length:=Ad;repeat' ((conv=>whnf);first|(exfalso;contradiction)|refine zS ?_|refine zm (λx d=>?_)|refine zT ?_ ?_<;>intro _|fail)
 refine aU (A:=List Node) (B:=List Node) (λD R=>pthSt C D) (λD R=>C=D++R) (λD R=>R.length) [] C ?_ rfl (λD R hp=>?_);refine Le.trans (fB (k:=22) rfl (.inl rfl)) ?_;show Le T _ (mkSt [(8, .lit (.slice none 0 0)),(22, .sl (C.map nodeV)),(23,I C.length),(24,I 0)] [] []);rw[<-j];exact zj;cases R with
 |nil=>
  rw[Rq]at hp;subst hp;cases C with
  |nil=>exact absurd rfl c
  |cons y r=>
   have o:=rev_spec ((y::r).map Node.id) (by simp at a⊢;omega);have s:(y::r).length=r.length+1:=rfl;unfold pthSt;repeat' ((conv=>whnf);first|omega|(refine aQ2 (o) rfl rfl ?_ rfl rfl ?_;focus ((repeat' (first|exact trivial|refine And.intro ?_ ?_|with_reducible rfl|exact(λh=>Ah)|exact rfl));done))|refine zS ?_|refine zm (λx d=>?_)|refine zT ?_ ?_<;>intro _|fail)
   all_goals exact zE
 |cons z R=>
  have i:=aO hp;have m:C.length=D.length+1+R.length:=by rw[hp];simp;omega
  cases D with
  |nil=>
   unfold pthSt;repeat' ((conv=>whnf);first|omega|refine aF (l:=C) (A:=[]) (x:=z) (B:=R) hp Ad ?_|refine gX (QV rfl) (dA rfl) (show 1<=1000000000 from Aa) ?_|refine zS ?_|refine zm (λx d=>?_)|refine zT ?_ ?_<;>intro _|fail)
   all_goals conv=>whnf
   refine⟨([z],R),?_,by rw[hp];rfl,Ad⟩;show Le T _ (mkSt [(8, .arr 32 0),(22, .sl (C.map nodeV)),(23,I C.length),(24,I (((0:Nat):Int)+1))] [] [(32,⟨0, .own,3,[I z.id]⟩)]);exact zj
  |cons y D=>
   have q:(y::D).length=D.length+1:=rfl;have w:(((y::D).map Node.id).map I).length=D.length+1:=Ad;unfold pthSt;repeat' ((conv=>whnf);first|omega|refine iH rfl (.inl rfl) rfl (QV rfl) (dA rfl) (show(((y::D).map Node.id).map I).length+1<=1000000000 from Aa) ?_|refine zS ?_|refine zm (λx d=>?_)|refine zT ?_ ?_<;>intro _|fail)
   all_goals conv=>whnf
   refine⟨(y::(D++[z]),R),?_,Ae,Ad⟩;show Le T _ (mkSt [(8, .arr 32 (D++[z]).length),(22, .sl (C.map nodeV)),(23,I C.length),(24,I (((D++[z]).length:Nat)+1))] [] [(32,⟨(D++[z]).length, .own,3,((y::(D++[z])).map Node.id).map I⟩)]);rw[<-Ur,RH,RH,QY];exact zj
def mapget_i(h:(jG s es).getD z=v)(k:K v):eG6 es s z K:=⟨by rw[h];exact k⟩
theorem kidsL_rev f n:kidsL f.reverse n=(kidsN f n).map Node.id:=by
 have h:∀l:List Node,kidsL l n=((kidsN l.reverse n).map Node.id):=λl=>by
  induction l<;>grind [List.reverse_cons,kidsL,kidsN]
 rw[h,List.reverse_reverse]
abbrev g0N(x:Node):Int:=if x.kind≠3/\x.gone=false then x.size else 0
abbrev g1N(x:Node):Int:=if x.kind=3 then x.size else 0
abbrev g2N(x:Node):Int:=x.scrap
abbrev smB(f:List Node)(E:List V)(a b c:Int):List (List V):=[[I (W a),I (W b),I (W c)],[V.mapV (.int .i64 0) E],[.sl (f.map nodeV)],[.fn 37 [.box 100000 0, .box 100001 0, .box 100002 0, .box 100003 0]]]
def smSt(f:List Node)(E:List V)(K:List Int)(d a b c:Int):St:=mkSt [(1, .box 100000 0),(2, .box 100001 0),(3, .box 100002 0),(4, .box 100003 0),(39, .sl (K.map I)),(40,I K.length),(41,I d)] [(100000,[I (W a),I (W b),I (W c)]),(100001,[V.mapV (.int .i64 0) E]),(100002,[.sl (f.map nodeV)]),(100003,[.fn 37 [.box 100000 0, .box 100001 0, .box 100002 0, .box 100003 0]])] []
def sum1_step(f:List Node)(M:f.length<=1000000)(h:RightF f)(X:WfN f)(n:Node)(O:n∈f)(i k l:Node->Int)(S:∀x∈kidsN f n.id,∀a b c:Int,SpB 37 [nodeV x, .box 100000 0, .box 100001 0, .box 100002 0, .box 100003 0] (smB f (kidE f.reverse) a b c) (.tup []) (smB f (kidE f.reverse) (a+i x) (b+k x) (c+l x)))(a b c:Int):
 SpB 37 [nodeV n, .box 100000 0, .box 100001 0, .box 100002 0, .box 100003 0] (smB f (kidE f.reverse) a b c) (.tup []) (smB f (kidE f.reverse) (a+(g0N n+((kidsN f n.id).map i).sum)) (b+(g1N n+((kidsN f n.id).map k).sum)) (c+(g2N n+((kidsN f n.id).map l).sum))):=by
 refine b_of func37 Ac Ac rfl rfl ?_;have w:n.id≠0:=by have:=(h.own n O).1;omega
 have o:=kidE_get n.id f.reverse;rw[<-UE,<-UE,<-UE];have G:(kidsN f n.id).length<=f.length:=U0 _ _;have v:∀x∈kidsN f n.id,x∈f:=λx t=>(mem_kids.1 t).1;rw[kidsL_rev]at o;generalize kidE f.reverse=E at*;generalize kidsN f n.id=K at*;have N:(f.map nodeV).length=f.length:=Ad;have F:((K.map Node.id).map I).length=K.length:=Ad
 have s:(jG (.int .i64 n.id) E).getD (.lit (.slice none 0 0))= .lit (.slice none 0 0)/\K=[]\/(jG (.int .i64 n.id) E).getD (.lit (.slice none 0 0))= .sl ((K.map Node.id).map I):=by
  by_cases d:(K.map Node.id)=[];rw[QU (.inr d)]at o;exact .inl ⟨by rw[o];rfl,by simpa using d⟩;rw[Q9 (by simp only[w,d,or_self,not_false_iff])]at o;exact .inr (by rw[o];rfl)
 clear o;rcases s with⟨s,u⟩|s;all_goals repeat' ((conv=>whnf);first|omega|(exfalso;contradiction)|refine mapget_i s ?_|refine zS ?_|refine zm (λx t=>?_)|refine zT ?_ ?_<;>intro _|fail)
 all_goals (refine aU (A:=List Node) (B:=List Node) (λD R=>smSt f E (K.map Node.id) D.length (a+g0N n+(D.map i).sum) (b+g1N n+(D.map (k)).sum) (c+g2N n+(D.map (l)).sum)) (λD R=>K=D++R) (λD R=>R.length) [] K ?_ rfl (λD R hp=>?_))
 all_goals first
  |(show Le T _ (mkSt [(1, .box 100000 0),(2, .box 100001 0),(3, .box 100002 0),(4, .box 100003 0),(39, .sl ((K.map Node.id).map I)),(40,I ((K.map Node.id).length:Nat)),(41,I 0)] [(100000,[I (W (a+g0N n+0)),I (W (b+g1N n+0)),I (W (c+g2N n+0))]),(100001,[V.mapV (.int .i64 0) E]),(100002,[.sl (f.map nodeV)]),(100003,[.fn 37 [.box 100000 0, .box 100001 0, .box 100002 0, .box 100003 0]])] [])
    try simp only[u,SY,Tc]
    refine dV ?_ ?_ ?_ ?_;all_goals repeat' (first|exact trivial|refine And.intro ?_ ?_|with_reducible rfl|exact(λh=>Ah)|exact Rf _|omega|exact rfl)
    all_goals first
     |(simp only[g0N,g1N,g2N,Us,bF8];congr 1;simp[*];done)
     |(simp only[Rw];done)
     |(rw[bF8,Us];done))
  |skip
 all_goals (cases R with
  |nil=>
   rw[Rq]at hp;subst hp;have q:(K.map Node.id).length=K.length:=Ad;unfold smSt;repeat' ((conv=>whnf);first|omega|refine zS ?_|refine zm (λx t=>?_)|refine zT ?_ ?_<;>intro _|fail)
   all_goals conv=>whnf
   all_goals first|exact⟨_,rfl,zc1⟩|exact zc1
  |cons x R=>
   have z:=aO hp;have r:x∈K:=Ae;have y:=v x r;have q:(K.map Node.id).length=K.length:=Ad;have P:K.map Node.id=D.map Node.id++x.id::R.map Node.id:=Ae;have C:(D.map Node.id).length=D.length:=Ad;have U:=findN_spec f x.id M h.so;have H:=getN_bs h.so (getN_some h.so y);have J:=(QW.1 H).1;have L:=S x r (a+g0N n+(D.map i).sum) (b+g1N n+(D.map (k)).sum) (c+g2N n+(D.map (l)).sum);have e:∀g:Node->Int,((D++[x]).map g).sum=(D.map g).sum+g x:=λg=>Ad;unfold smSt;generalize bs Node.id f x.id=j at*;generalize (∃m∈f,m.id=x.id)=Q at*;repeat' ((conv=>whnf);first|omega|refine bW8 [] [(56,[100000,100001,100002,100003])] trivial Ak ?_|refine zh (L) [100000,100001,100002,100003] ?_|refine zS ?_|refine zm (λx t=>?_)|refine zT ?_ ?_<;>intro _|fail)
   all_goals conv=>whnf
   refine⟨(D++[x],R),?_,Ae,Ad⟩;show Le T _ (smSt f E (K.map Node.id) ((D++[x]).length:Nat) (a+g0N n+((D++[x]).map i).sum) (b+g1N n+((D++[x]).map k).sum) (c+g2N n+((D++[x]).map l).sum));rw[e,e,e,<-UE,<-UE,<-UE,QY,Rj];unfold smSt;show Le T _ (mkSt [(1, .box 100000 0),(2, .box 100001 0),(3, .box 100002 0),(4, .box 100003 0),(39, .sl ((K.map Node.id).map I)),(40,I (K.map Node.id).length),(41,I ((D.length:Int)+1))] [(100000,[I (W (a+g0N n+(D.map i).sum+i x)),I (W (b+g1N n+(D.map k).sum+k x)),I (W (c+g2N n+(D.map l).sum+l x))]),(100001,[V.mapV (.int .i64 0) E]),(100002,[.sl (f.map nodeV)]),(100003,[.fn 37 [.box 100000 0, .box 100001 0, .box 100002 0, .box 100003 0]])] []);exact zj
   done)
def sum1_spec f(j:f.length<=1000000)(h:RightF f)(m:WfN f):∀ k  n,n∈f->f.length+1<=k+(chN f n).length->∀a b c,
 SpB 37 [nodeV n, .box 100000 0, .box 100001 0, .box 100002 0, .box 100003 0] (smB f (kidE f.reverse) a b c) (.tup []) (smB f (kidE f.reverse) (a+visitR f g0N k n) (b+visitR f g1N k n) (c+visitR f g2N k n)):=by
 intro k;induction k with
 |zero=>
  intro n d p a b c
  have hK:kidsN f n.id=[] :=by
   cases o:kidsN f n.id with
   |nil=>rfl
   |cons x l=>
    let⟨g,i⟩:=mem_kids.1 (show x∈kidsN f n.id by rw[o];simp);have:=ch_le (f:=f) (x:=x);grind [ch_child,Ro]
  have:=sum1_step f j h m n d (λ_=>0) (λ_=>0) (λ_=>0) (λx e=>by rw[hK]at e;cases e) a b c;rw[hK]at this;simpa [visitR]using this
 |succ k q=>
  intro n d p a b c
  exact sum1_step f j h m n d (visitR f g0N k) (visitR f g1N k) (visitR f g2N k) (λx e=>by
   let⟨g,i⟩:=mem_kids.1 e;refine q x g ?_;rw[ch_child h g d i,Ro]at*;omega) a b c
def acC(f:List Node)(n:Int):List V:=[I (W (allU f g0N n)),I (W (allU f g1N n)),I (W (allU f g2N n))]
def sumY_spec f n x(j:f.length<=1000000)(o:SzN f)(m:WfN f)(h:RightF f)(k:getN f n=some x):Sp 15 [.sl (f.map nodeV),I n] (.tup [.agg (acC f n),I 0]):=by
 refine zsp func15 ?_;have q:=nodeY_spec f n x j o h k;have r:=children_spec f j m;let⟨l,i⟩:=getN_mem k
 have d:f.length+1<=f.length+(chN f x).length:=by
  have:=ch_pos (f:=f) (x:=x);omega
 have e:=sum1_spec f j h m f.length x l d 0 0 0;have hv:=λg=>visit_all h g f.length l d;rw[hv,hv,hv,i,U7,U7,U7]at e;unfold smB at e;rw[show W 0=0 from w_in Aa]at e;unfold acC;clear k hv;generalize kidE f.reverse=E at*;generalize allU f g0N n=a at*;generalize allU f g1N n=b at*;generalize allU f g2N n=c at*;repeat' ((conv=>whnf);first|(exfalso;contradiction)|refine zh (e) [9,8,2,10] ?_|refine zS ?_|refine zm (λx l=>?_)|refine zT ?_ ?_<;>intro _|fail)
 all_goals exact zE
end Go.Proofs.Led
