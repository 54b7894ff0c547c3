/-
  append, slice expressions.
-/
import Derived.Test.YtdjgbagnajikeaaGreatDoorA3
set_option linter.unusedVariables false
set_option linter.unusedSimpArgs false
noncomputable section
namespace Go.Ab
section
variable{T:Tab}{P:Program}{Φ:Fr}{σ:St}{a:Act}{w:World}{G:Gh}{K:VK}{o:Oper}{d:Nat}
def Src(w:World)(G:Gh)(v:Value)(xs:List V):Prop:=
 (v= .slice none 0 0/\xs=[])\/∃ad c sz,v= .slice (some ad) xs.length c/\xs.length<=c/\c<=maxLen/\(∀x∈xs,x.cells.length=sz)/\Here w G ad (xs.flatMap V.cells)
theorem Rv.src{v:Value}{l:List V}(h:Rv w G v (.sl l)):Src w G v l:=by
 exact OJ
theorem aV9(inv:Inv T Φ σ a w G)(x:Operand){K:List V->Prop}(h:lF σ (σ.ev x) K):∃xs,K xs/\bM xs/\Src w G (a.eval x) xs:=by
 obtain⟨b,e⟩:=inv.ev x;unfold lF at h;split at h
 ·rename_i l c
  rw[c]at b e;simp only[V.ok]at e;exact⟨l,h,e,b.src⟩
 ·rename_i l c
  rw[c]at b e;simp only[V.ok]at e;exact⟨l,h,e,b.wK.src⟩
 ·rename_i c
  rw[c]at b;exact⟨[],h,BX, .inl ⟨b.bH,rfl⟩⟩
 ·rename_i k g c
  rw[c]at b;split at h
  ·rename_i en f
   obtain⟨⟨i,m⟩,j⟩:=dX h;subst i;refine⟨en.l,j,inv.wfA k en f,?_⟩;have:=(inv.arr k en f).reads m;rw[b.oQ];exact this
  ·exact h.elim
 ·exact h.elim
theorem Src.news{v:Value}{xs:List V}{z:Nat}(h:Src w G v xs)(n:∀x∈xs,x.cells.length=z):∃b:List Value,b.length=xs.length*z/\RvL w G b (xs.flatMap V.cells)/\
 ((v= .slice none 0 0/\xs=[])\/∃g c,v= .slice (some g) xs.length c/\∀j u,b[j]? =some u->w.cell? (g.add j)=some u):=by
 rcases h with⟨i,l⟩|⟨g,c,sz,i,l,r,s,m⟩
 ·subst l
  exact⟨[],Ae,⟨rfl,(λ_ h=>Ah),(λ_ _ _ h=>Ht)⟩, .inl ⟨i,rfl⟩⟩
 ·obtain⟨cc,k,t⟩:=m.out
  have q:=sH n;refine⟨(List.range (xs.flatMap V.cells).length).map cc,by rw[QS,List.length_range,q],⟨Ae,?_,?_⟩, .inr ⟨g,c,i,?_⟩⟩
  ·intro u e
   obtain⟨j,f,rfl⟩:=QZ.1 e;rw[Sl]at f;exact(k j _ (QE f)).2
  ·grind
  ·intro j u e
   rw[Rk]at e;by_cases f:j< (xs.flatMap V.cells).length
   ·rw[List.getElem?_range f]at e
    simp at e;subst e;exact(k j _ (QE f)).1
   ·simp_all
structure AppSrc(P:Program)(w:World)(t':TypeId)(v:Value)(n sz:Nat)(news:List Value):Prop where
 ty:P.underlying t'=some .string\/∃e',P.underlying t'=some (.slice e')
 len:∀w':World,(Builtin.lenOf v).run P w'= .ok n w'
 fst:∀w':World,w'.heap=w.heap->(Builtin.firstCells sz n v).run P w'= .ok news.toArray w'
theorem app_none{t f ty e:TypeId}{i:TypeInfo}(l:P.underlying t=some (.slice e))(hi:P.info? e=some i)(b:Option Addr){n c:Nat}(k:n<=c){v:Value}(h:AppSrc P w f v 0 i.size []):
 (Builtin.append_ #[t,f] ty #[.slice b n c,v]).run P w= .ok (.slice b n c) w:=by
 have j:=h.fst w rfl;have m:=h.len w
 rcases h.ty with g|⟨p,g⟩<;>cases b<;>simp[Builtin.append_,Rf l,Rf g,sizeOf,typeInfo,hi,m,j,k,storeCells]
theorem app_nil{t g ty e:TypeId}{i:TypeInfo}{z:Value}(u:P.underlying t=some (.slice e))(hi:P.info? e=some i)(m:i.zero=some z){n:Nat}{v:Value}{b:List Value}(h:AppSrc P w g v n i.size b)
 (k:0<n)(s:(n:Int)<=9223372036854775807)(l:n*i.bytes<=281474976710656):
 (Builtin.append_ #[t,g] ty #[.slice none 0 0,v]).run P w=
  .ok (.slice (some ⟨w.heap.size,0,none⟩) n (grownCap w n 0 e)) (w.drew.alloc (.cells (b.toArray++Builtin.zeroCells z.cells (grownCap w n 0 e-n)) e)):=by
 have r:n≠0:=Aa;have c:¬(9223372036854775807< (n:Int)):=Aa
 have f:¬(281474976710656<Builtin.nextslicecap n 0*i.bytes):=by rw[nextslicecap_zero k];omega
 have q:=h.fst w.drew rfl;have x:=h.len w
 rcases h.ty with j|⟨y,j⟩<;>simp[Builtin.append_,Rf u,Rf j,sizeOf,typeInfo,zeroValue,hi,m,x,r,c,f,Question.forced,run_firstCells_none,q,newRow,grownCap]
theorem app_grow{t y ty e:TypeId}{i:TypeInfo}{z:Value}(A:P.underlying t=some (.slice e))(hi:P.info? e=some i)(F:i.zero=some z)
 (b:Addr)(c f:Nat)(g:List Value)(r:g.length=c*i.size)(l:∀j v,g[j]? =some v->w.cell? (b.add j)=some v)
 {n:Nat}{v:Value}{k:List Value}(h:AppSrc P w y v n i.size k)
 (H:f<c+n)(C:((c+n:Nat):Int)<=9223372036854775807)(u:Builtin.nextslicecap (c+n) f*i.bytes<=281474976710656):
 (Builtin.append_ #[t,y] ty #[.slice (some b) c f,v]).run P w=
  .ok (.slice (some ⟨w.heap.size,0,none⟩) (c+n) (grownCap w (c+n) f e))
   (w.drew.alloc (.cells (g.toArray++k.toArray++Builtin.zeroCells z.cells (grownCap w (c+n) f e- (c+n))) e)):=by
 have E:¬(c+n<=f):=Aa;have m:¬(9223372036854775807< ((c:Int)+(n:Int))):=Aa
 have q:¬(281474976710656<Builtin.nextslicecap (c+n) f*i.bytes):=Aa;have B:=h.fst w.drew rfl
 have D:=h.len w;have s:=run_firstCells_some (P:=P) w.drew i.size c b c f g r (by simpa using l)
 rcases h.ty with x|⟨I,x⟩
 all_goals
  simp[Builtin.append_,Rf A,Rf x,sizeOf,typeInfo,zeroValue,hi,F,D,E,m,q,Question.forced,B,s,newRow,grownCap];congr 2;apply Array.ext';simp[Si]
theorem app_room{t n ty e:TypeId}{i:TypeInfo}(s:P.underlying t=some (.slice e))(hi:P.info? e=some i)
 (g b f:Nat)(cur:Array Value)(q:w.heap[g]? =some (.cells cur e (0,0)))
 {m:Nat}{v:Value}{c:List Value}(h:AppSrc P w n v m i.size c)(y:∀u∈c,u.oneCell'=true)
 (j:b+m<=f)(k:b*i.size+c.length<=cur.size):
 (Builtin.append_ #[t,n] ty #[.slice (some ⟨g,0,none⟩) b f,v]).run P w=
  .ok (.slice (some ⟨g,0,none⟩) (b+m) f) (w.setRow g (cur.toList.take (b*i.size)++c++cur.toList.drop (b*i.size+c.length)).toArray):=by
 have r:=h.fst w rfl;have x:=h.len w
 have l:=run_storeCells_at P g (b*i.size) e c 0 cur w q (by simpa using k) y
 simp only[Tq]at l;rcases h.ty with p|⟨z,p⟩<;>simp[Builtin.append_,Rf s,Rf p,sizeOf,typeInfo,hi,x,j,r,Addr.add_lit,l]
def ASrc(P:Program)(w:World)(G:Gh)(t':TypeId)(v:Value)(sz:Nat)(xs:List V):Prop:=
 ∃news:List Value,news.length=xs.length*sz/\RvL w G news (xs.flatMap V.cells)/\AppSrc P w t' v xs.length sz news
theorem Src.app{e k:TypeId}(r:P.underlying e=some (.slice k)){v:Value}{xs:List V}{z:Nat}(h:Src w G v xs)(p:∀x∈xs,x.cells.length=z):ASrc P w G e v z xs:=by
 obtain⟨b,i,s,g⟩:=h.news p;refine⟨b,i,s, .inr ⟨k,r⟩,λw'=>?_,λw' l=>?_⟩
 ·rcases g with⟨rfl,rfl⟩|⟨f,c,rfl,_⟩<;>simp[Builtin.lenOf]
 ·rcases g with⟨rfl,rfl⟩|⟨f,c,rfl,m⟩
  ·simp_all [Rn,Builtin.firstCells]
  ·have n:∀a:Addr,w'.cell? a=w.cell? a:=λa=>by unfold World.cell?;rw[l]
   exact run_firstCells_some (P:=P) w' z xs.length f xs.length c b i (λj u q=>by rw[n];exact m j u q)
theorem str_app{c:TypeId}(j:P.underlying c=some .string)(s:ByteArray){z:Nat}(e:∀x∈strV s,x.cells.length=z):ASrc P w G c (.string s) z (strV s):=by
 have i:(strV s).flatMap V.cells=(s.data.toList.map λb=>Value.int .u8 b.toNat).map .lit:=by
  unfold strV;rw[Uc]
  induction s.data.toList with
  |nil=>rfl
  |cons b l k=>rw[QW,RZ,k];rfl
 have f:(strV s).length=s.size:=Eb;refine⟨s.data.toList.map λb=>Value.int .u8 b.toNat,?_,?_, .inl j,λw'=>?_,λw' _=>?_⟩
 ·unfold strV at e⊢
  cases g:s.data.toList with
  |nil=>simp
  |cons b l=>
   have:=e (.lit (.int .u8 b.toNat)) (by rw[g];simp)
   grind [QK,V.cells]
 ·rw[i]
  exact aM4 (λv hv=>by obtain⟨b,_,rfl⟩:=QZ.1 hv;rfl)
 ·rw[f];simp[Builtin.lenOf]
 ·rw[f]
  simp[Builtin.firstCells];apply Array.ext';simp
theorem cV9(hT:bP T P)(inv:Inv T Φ σ a w G){t X:TypeId}(ht:t<T.n t)(aw:(T.row t).kd= .slice)(he:(T.row t).elem<T.n (T.row t).elem)(ty:TypeId){k gen:Nat}(af:∀g,σ.hasA k g->g<gen){F:AK}{u v:Value}{l xs:List V}
 (U:bM l)(a6:bM xs)(an:ASrc P w G X v (T.row (T.row t).elem).size xs)(Y:∀x∈l,x.cells.length=(T.row (T.row t).elem).size)(hz:∀x∈xs,x.cells.length=(T.row (T.row t).elem).size)(hb:(l.length+xs.length)*(T.row (T.row t).elem).bytes<=140737488355328)(a7:l.length+xs.length<=140737488355328)
 (R:(gJ T w G k u (T.row t).elem l/\(F= .own\/F= .ap))\/(Rv w G u (.cap l)/\F= .ap)):
 ∃B w' G',(Builtin.append_ #[t,X] ty #[u,v]).run P w= .ok B w'/\Inv T Φ (σ.apps [.a k ⟨gen,F,(T.row t).elem,l++xs⟩]) a w' G'/\G'.av k gen=B/\B.oneCell'=true:=by
 have a2:F= .own\/F= .ap:=by rcases R with⟨_,h⟩|⟨_,h⟩<;>first|exact h|exact .inr h
 have ac:bM (l++xs):=aH.2 λx hx=>by
  grind [aH]
 have ar:∀x∈l++xs,x.cells.length=(T.row (T.row t).elem).size:=λx hx=>by
  grind
 obtain⟨m,n1,n2,n3⟩:=an;obtain⟨i,i1,i2,i3,z,i4,i5,i6,i7,i8,i9⟩:=(hT _ he).info;have Q:=jW (hT t ht) aw
 have au:z.cells.size=i.size:=by
  grind
 have same:xs=[]->(Builtin.append_ #[t,X] ty #[u,v]).run P w= .ok u w->u.oneCell'=true->gW T w G k ⟨gen,F,(T.row t).elem,l⟩\/True->∃B w' G',(Builtin.append_ #[t,X] ty #[u,v]).run P w= .ok B w'/\Inv T Φ (σ.apps [.a k ⟨gen,F,(T.row t).elem,l++xs⟩]) a w' G'/\G'.av k gen=B/\B.oneCell'=true:=by
  intro ay M H _;subst ay;refine⟨u,w,{G with av:=λA g=>if A=k/\g=gen then u else G.av A g,O:=G.O},M,?_,Ae,H⟩
  have S:Keep w w G {G with av:=λA g=>if A=k/\g=gen then u else G.av A g,O:=G.O}:=⟨λ_ h=>h,λ_ _=>rfl⟩
  refine inv.zU (w':=w) (k:=k) (en:=⟨gen,F,(T.row t).elem,l++[]⟩) (λg hg=>TR (af g hg)) (λA g hg=>?_) (by rw[QU];exact U) ?_ (λ_ _ _=>rfl) (λ_=> .inl rfl) (λ_ _ _=>rfl) (QH _) rfl rfl rfl
  ·grind
  ·rw[QU]
   have ah:(λA g=>if A=k/\g=gen then u else G.av A g) k gen=u:=Ae
   unfold gW;rcases R with⟨h,rfl|rfl⟩|⟨h,rfl⟩
   ·show _/\gJ _ _ _ _ ((λA g=>if A=k/\g=gen then u else G.av A g) k gen) _ _;rw[ah];exact⟨he,h.keep S U (λb hb=>⟨hb,rfl⟩)⟩
   ·show _/\(gJ _ _ _ _ ((λA g=>if A=k/\g=gen then u else G.av A g) k gen) _ _\/_);rw[ah];exact⟨he, .inl (h.keep S U (λb hb=>⟨hb,rfl⟩))⟩
   ·refine⟨he, .inr ⟨?_,Y⟩⟩;show Rv _ _ ((λA g=>if A=k/\g=gen then u else G.av A g) k gen) _;rw[ah];exact h.aW S (by simp only[V.pure,V.ok];exact U)
 have ab:∀(f:List Value) (r:Nat),RvL w G f (l.flatMap V.cells)->l.length+xs.length<=r->r<=maxLen->
  (Builtin.append_ #[t,X] ty #[u,v]).run P w= .ok (.slice (some ⟨w.heap.size,0,none⟩) (l.length+xs.length) r) (w.drew.alloc (.cells (f.toArray++m.toArray++Builtin.zeroCells z.cells (r- (l.length+xs.length))) (T.row t).elem))->
  ∃B w' G',(Builtin.append_ #[t,X] ty #[u,v]).run P w= .ok B w'/\Inv T Φ (σ.apps [.a k ⟨gen,F,(T.row t).elem,l++xs⟩]) a w' G'/\G'.av k gen=B/\B.oneCell'=true:=by
  intro f r ho as a1 M;have ak:f.length=l.length*(T.row (T.row t).elem).size:=by rw[ho.len,sH Y]
  have ae:(f++m).length=(l++xs).length*(T.row (T.row t).elem).size:=by rw[QG,ak,n1,QG,Nat.add_mul]
  obtain⟨G',am,W⟩:=inv.dC7 (n0:=w.drawn+1) af a2 he (cur:=f.toArray++m.toArray++Builtin.zeroCells z.cells (r- (l.length+xs.length))) (l:=l++xs) (cap:=r) (by simpa using as) a1
   (by simp only[U2,SH,size_zeroCells,au,ak,n1,i2,<-Nat.add_mul];congr 1;omega) ar ac
   (by
    rw[<-ae,TA];have:(f.toArray++m.toArray++Builtin.zeroCells z.cells (r- (l.length+xs.length))).toList=(f++m)++(Builtin.zeroCells z.cells (r- (l.length+xs.length))).toList:=Ae;rw[this,List.take_left];exact ho.append n2)
  exact⟨_,_,G',M,am,by rw[W];simp,rfl⟩
 have az:((l.length+xs.length:Nat):Int)<=9223372036854775807:=Aa;have aj:∀old,old<l.length+xs.length->Builtin.nextslicecap (l.length+xs.length) old*i.bytes<=281474976710656:=λold h=>growslice_fits h (by rw[i3];exact hb)
 have ao:∀old,grownCap w (l.length+xs.length) old (T.row t).elem<=maxLen:=λold=>grownCap_le_maxLen w _ _ _ Cf;rw[<-i2]at n3
 have empty:xs=[]->∀(b:Option Addr) (n c:Nat),n<=c->(Builtin.append_ #[t,X] ty #[.slice b n c,v]).run P w= .ok (.slice b n c) w:=by
  rintro rfl b n c a5;grind [Rn,app_none]
 by_cases hx0:xs=[]
 ·
  rcases R with⟨J,ai⟩|⟨L,ai⟩
  ·rcases J with⟨rfl|⟨a0,rfl⟩,rfl⟩|⟨b,cap,cur,rfl,I,h3,h4,h5,h6,h7,h8⟩
   ·exact MC
   ·exact same hx0 (empty hx0 (some a0) 0 0 (QH _)) rfl (.inr trivial)
   ·exact same hx0 (empty hx0 _ _ _ h4) rfl (.inr trivial)
  ·rcases L.vP with⟨rfl,_⟩|⟨ad,sz,cc,rfl,_⟩
   ·exact MC
   ·exact same hx0 (empty hx0 _ _ _ (QH _)) rfl (.inr trivial)
 ·have al:0<xs.length:=List.length_pos_iff.2 hx0
  have C:u= .slice none 0 0->l=[]->∃B w' G',(Builtin.append_ #[t,X] ty #[u,v]).run P w= .ok B w'/\Inv T Φ (σ.apps [.a k ⟨gen,F,(T.row t).elem,l++xs⟩]) a w' G'/\G'.av k gen=B/\B.oneCell'=true:=by
   rintro rfl rfl;have hr:=app_nil (ty:=ty) Q i1 i4 n3 al Aa (by rw[i3];simp at hb;omega)
   refine ab [] (grownCap w xs.length 0 (T.row t).elem) ⟨rfl,(λ_ h=>Ah),(λ_ _ _ h=>Ht)⟩ (by simpa using grownCap_ge w xs.length 0 _) (by simpa using ao 0) ?_
   rw[hr];simp
  have s:∀(b:Addr) (cap:Nat) (f:List Value),u= .slice (some b) l.length cap->RvL w G f (l.flatMap V.cells)->(∀j v,f[j]? =some v->w.cell? (b.add j)=some v)->cap<l.length+xs.length->
   ∃B w' G',(Builtin.append_ #[t,X] ty #[u,v]).run P w= .ok B w'/\Inv T Φ (σ.apps [.a k ⟨gen,F,(T.row t).elem,l++xs⟩]) a w' G'/\G'.av k gen=B/\B.oneCell'=true:=by
   rintro b cap f rfl ho ag aq;have hr:=app_grow (ty:=ty) Q i1 i4 b l.length cap f (by rw[ho.len,sH Y,i2]) ag n3 aq az (aj cap aq)
   exact ab f _ ho (grownCap_ge w _ _ _) (ao cap) hr
  rcases R with⟨J,ai⟩|⟨L,ai⟩
  ·rcases J with⟨H|⟨a0,H⟩,I⟩|⟨b,cap,cur,H,I,h3,h4,h5,h6,h7,h8⟩
   ·exact C H I
   ·exact s a0 0 [] (by rw[H,I];rfl) (by rw[I];exact⟨rfl,(λ_ h=>by cases h),(λ_ _ _ h=>by simp at h)⟩) (λj v h=>Ht) (by rw[I];simpa using al)
   ·have Z:∀j v,(cur.toList.take (l.length*(T.row (T.row t).elem).size))[j]? =some v->w.cell? ((⟨b,0,none⟩:Addr).add j)=some v:=by
     intro j v hv;rw[rY,SL,cell_of_row w b j cur _ _ h3];grind
    by_cases D:l.length+xs.length<=cap
    ·
     subst H;have N:l.length*i.size+m.length<=cur.size:=by rw[n1,h6,i2,<-Nat.add_mul];exact U8 _ D
     have hr:=app_room (ty:=ty) Q i1 b l.length cap cur h3 n3 n2.one D N;rw[i2]at hr N
     let E:=(cur.toList.take (l.length*(T.row (T.row t).elem).size)++m++cur.toList.drop (l.length*(T.row (T.row t).elem).size+m.length)).toArray
     let w':=w.setRow b E
     let av':Nat->Nat->Value:=λA g=>if A=k/\g=gen then .slice (some ⟨b,0,none⟩) (l.length+xs.length) cap else G.av A g
     have W:av' k gen= .slice (some ⟨b,0,none⟩) (l.length+xs.length) cap:=Iu;have S:Keep w w' G {G with av:=av',O:=G.O}:=⟨λ_ h=>h,λb' aa=>SI w b b' _ (λe=>by subst e;rw[I]at aa;cases aa)⟩
     have a4:(cur.toList.take (l.length*(T.row (T.row t).elem).size)).length=l.length*(T.row (T.row t).elem).size:=by rw[h8.len,sH Y]
     have ax:gJ T w' {G with av:=av',O:=G.O} k (av' k gen) (T.row t).elem (l++xs):=by
      refine .inr ⟨b,cap,E,by rw[W];simp,I,SY w b cur E _ _ h3,by simpa using D,h5,?_,ar,?_⟩
      ·grind
      ·have e1:E.toList.take ((l++xs).length*(T.row (T.row t).elem).size)=cur.toList.take (l.length*(T.row (T.row t).elem).size)++m:=by
        grind [QG,Nat.add_mul,List.take_left]
       rw[e1,TA];refine(h8.append n2).keep S (p:=λ_=>False) (q:=λ_ _=>False) ?_ (λ_ h=>h.elim) (λ_ _ h=>h.elim);rw[<-TA];refine aH.2 λy hy=>?_;obtain⟨j,hj⟩:=QY hy;exact dF ac hj
     refine⟨_,w',{G with av:=av',O:=G.O},hr,?_,W,rfl⟩
     refine inv.zU (w':=w') (k:=k) (en:=⟨gen,F,(T.row t).elem,l++xs⟩) (av':=av') (O':=G.O) (λg hg=>TR (af g hg)) (λA g hg=>?_) ac ?_ (λ_ _ _=>rfl) (λ_=> .inl rfl)
      (λb' _ aa=>SI w b b' _ (λe=>by subst e;exact aa I)) GR rfl rfl rfl
     ·grind
     ·grind [gW]
    ·exact s ⟨b,0,none⟩ cap _ H h8 Z Aa
  ·rcases L.vP with⟨H,I⟩|⟨a3,sz,cc,H,I,h3,h4,h5,h6⟩
   ·exact C H I
   ·refine s a3 l.length ((List.range (l.flatMap V.cells).length).map cc) H ⟨Ae,?_,?_⟩ ?_ Aa
    ·intro u R
     obtain⟨j,hj,rfl⟩:=QZ.1 R;rw[Sl]at hj;exact(h5 j _ (QE hj)).2
    ·grind
    ·intro j u R
     rw[Rk]at R;by_cases hj:j< (l.flatMap V.cells).length
     ·rw[List.getElem?_range hj]at R
      simp at R;subst R;exact(h5 j _ (QE hj)).1
     ·simp_all
theorem contsK_sound(i:bP T P)(inv:Inv T Φ σ a w G){c:TypeId}(e:c<T.n c)(x:Operand){K:List V->Prop}(h:contsK (T.row c).kd σ (σ.ev x) K):∃xs,K xs/\bM xs/\∀z,(∀x∈xs,x.cells.length=z)->ASrc P w G c (a.eval x) z xs:=by
 unfold contsK at h;split at h
 ·rename_i b
  obtain⟨xs,f,l,k⟩:=aV9 inv x h;exact⟨xs,f,l,λz g=>k.app (jW (i c e) b) g⟩
 ·rename_i s b j
  have f:=(inv.ev x).1;rw[j]at f;refine⟨_,h,?_,λz g=>?_⟩
  ·grind [aH,dL,strV]
  ·rw[f.bH]
   exact str_app (aF2 (i c e) b) s g
 ·exact h.elim
theorem dV0{k:Kd}(h:dG6 k=true):k= .slice:=by cases k<;>first|rfl|cases h
theorem cB7(hT:bP T P)(inv:Inv T Φ σ a w G)(t J:TypeId)(s x:Operand)(ho:o.op= .call ⟨.builtin .append,⟨[s,x]⟩,⟨[t,J]⟩⟩)(ht:t<T.n t)(Z:J<T.n J)(h:kT T (T.row t) (T.row J).kd σ d (σ.ev s) (σ.ev x) K):Out T Φ σ a K ((execOp a.eval o).run P w):=by
 obtain⟨H,W⟩:=inv.ev s
 have ab:(T.row t).kd= .slice->∀(I:Value) (w':World),(Builtin.append_ #[t,J] o.type #[a.eval s,a.eval x]).run P w= .ok I w'->(execOp a.eval o).run P w= .ok (.value I) w':=by
  intro f I w' hr;simp only[execOp,ho,resolve,invoke,builtin,RN,Sz,QX,List.map_toArray,QW,RY,hr]
 have q:∀(k gen:Nat) (Q:AK) (l xs:List V),(∀g,σ.hasA k g->g<gen)->bM l->bM xs->(T.row t).kd= .slice->(T.row t).elem<T.n (T.row t).elem->ASrc P w G J (a.eval x) (T.row (T.row t).elem).size xs->(∀x∈l,x.cells.length=(T.row (T.row t).elem).size)->(∀x∈xs,x.cells.length=(T.row (T.row t).elem).size)->
  (l.length+xs.length)*(T.row (T.row t).elem).bytes<=140737488355328->l.length+xs.length<=140737488355328->((gJ T w G k (a.eval s) (T.row t).elem l/\(Q= .own\/Q= .ap))\/(Rv w G (a.eval s) (.cap l)/\Q= .ap))->
  K (.arr k gen) [.a k ⟨gen,Q,(T.row t).elem,l++xs⟩]->Out T Φ σ a K ((execOp a.eval o).run P w):=by
  intro k gen Q l xs A X i f E O aa hz hb U hu hk;obtain⟨I,w',G',hr,L,Y,h1⟩:=cV9 hT inv ht f E o.type A X i O aa hz hb U hu;refine⟨I,w',_,_,G', .inl (ab f I w' hr),hk,L,?_,?_⟩
  ·subst Y;exact .arr k gen h1
  ·exact JL
 unfold kT at h;split at h
 ·rename_i f
  obtain⟨hc,h2⟩:=aT h;simp only[QN]at hc;have E:=blt hc.1;obtain⟨xs,z,i,e⟩:=contsK_sound hT inv Z x h2;split at z
  ·rename_i M
   rw[M]at H;split at z
   ·rename_i R
    obtain⟨⟨C,D,m⟩,B⟩:=dX z;exact q d 0 .own [] xs (zK R 0) BX i f E (e _ m) (λx hx=>Hq) m (by simpa using C) (by simpa using D) (.inl ⟨.inl ⟨.inl H.bH,rfl⟩, .inl rfl⟩) (by simpa using B)
   ·exact z.elim
  ·rename_i l M
   rw[M]at H W;split at z
   ·rename_i R
    obtain⟨⟨C,D,m⟩,B⟩:=dX z;simp only[V.ok]at W
    cases l with
    |nil=>
     have hn:Nil0 (a.eval s):=by
      rcases H.vP with⟨h,_⟩|⟨ad,sz,cc,h,_⟩
      ·exact .inl h
      ·exact .inr ⟨ad,h⟩
     exact q d 0 .own [] xs (zK R 0) BX i f E (e _ λx hx=>m x BH) (λx hx=>Hq) (λx hx=>m x BH) C D (.inl ⟨.inl ⟨hn,rfl⟩, .inl rfl⟩) B
    |cons y l=>
    exact q d 0 .ap (y::l) xs (zK R 0) W i f E (e _ λx hx=>m x (QJ.2 (.inr hx))) (λx hx=>m x (QJ.2 (.inl hx))) (λx hx=>m x (QJ.2 (.inr hx))) C D (.inr ⟨H,rfl⟩) B
   ·exact z.elim
  ·rename_i k g M
   rw[M]at H;split at z
   ·rename_i en r
    obtain⟨⟨hg,j,S,C,D,m⟩,B⟩:=dX z;subst hg;have c:=inv.arr k en r;have A:∀g,σ.hasA k g->g<en.gen+1:=λg ⟨ac,q1,q2⟩=>by rw[r]at q1;cases q1;omega
    have F:=H.oQ;unfold gW at c;rw[S]at c
    have v:∀ {u:Value},gJ T w G k u (T.row t).elem en.l->∀x∈en.l,x.cells.length=(T.row (T.row t).elem).size:=by
     intro u N x hx;rcases N with⟨_,h⟩|⟨b,cap,cur,_,_,_,_,_,_,h7,_⟩
     ·rw[h]at hx;cases hx
     ·exact h7 x hx
    rcases j with j|j
    ·rw[j]at c
     exact q k (en.gen+1) en.kind en.l xs A (inv.wfA k en r) i f E (e _ m) (v c.2) m C D (.inl ⟨by rw[F];exact c.2, .inl j⟩) B
    ·rw[j]at c
     rcases c.2 with c|c
     ·exact q k (en.gen+1) en.kind en.l xs A (inv.wfA k en r) i f E (e _ m) (v c) m C D (.inl ⟨by rw[F];exact c, .inr j⟩) B
     ·exact q k (en.gen+1) en.kind en.l xs A (inv.wfA k en r) i f E (e _ m) c.2 m C D (.inr ⟨by rw[F];exact c.1,j⟩) B
   ·exact z.elim
  ·exact z.elim
 ·exact h.elim
end
section
variable{T:Tab}{P:Program}{Φ:Fr}{σ:St}{a:Act}{w:World}{G:Gh}{K:VK}{o:Oper}{d:Nat}
theorem cL9{xs:List V}{sz:Nat}(f:∀x∈xs,x.cells.length=sz){l h:Nat}(j:Nat){y:V}(i:(((xs.take h).drop l).flatMap V.cells)[j]? =some y):(xs.flatMap V.cells)[l*sz+j]? =some y:=by
 have e:xs.take h=(xs.take h).take l++(xs.take h).drop l:=(RQ l _).symm;have g:xs=xs.take h++xs.drop h:=(RQ h xs).symm
 by_cases k:l<=(xs.take h).length
 ·have b:(((xs.take h).take l).flatMap V.cells).length=l*sz:=by
   rw[sH (sz:=sz) (λx c=>f x (Ri (Ri c))),QL];congr 1;omega
  rw[g,TA,e,TA,Si,Uf Aa,b,Nat.add_sub_cancel_left];grind
 ·grind
theorem qC(inv:Inv T Φ σ a w G)(x:Option Operand)(b:Int){K:Int->Prop}(h:bound (x.map σ.ev) b K):(x=none/\K b)\/∃y k n,x=some y/\a.eval y= .int k n/\K n:=by
 unfold bound at h;split at h
 ·simp_all
 ·rename_i k n c
  cases x with
  |none=>simp at c
  |some y=>
   simp at c;have:=(inv.ev y).1;rw[c]at this;exact .inr ⟨y,k,n,rfl,this.bH,h⟩
 ·exact h.elim
theorem fV(k:IntKind)(n:Int)(y:Nat)(c:BoundsCode)(b:0<=n)(e:n<=y):(Instr.sliceBound (.int k n) y c).run P w= .ok n.toNat w:=by
 simp[Instr.sliceBound,asIntOf,b,e]
theorem aW3(isS:Bool)(c cap:Nat)(lo hi:Option Value)(l b:Int)(j:(lo=none/\l=0)\/∃k,lo=some (.int k l))(e:(hi=none/\b=c)\/∃k,hi=some (.int k b))(g:0<=l)(m:l<=b)(i:b<=cap):
 (Instr.sliceBounds isS c cap lo hi none).run P w= .ok (l.toNat,b.toNat,cap) w:=by
 rcases j with⟨rfl,rfl⟩|⟨k,rfl⟩
 ·rcases e with⟨rfl,rfl⟩|⟨f,rfl⟩
  ·simp[Instr.sliceBounds]
  ·simp[Instr.sliceBounds,fV f b cap _ Aa i]
 ·rcases e with⟨rfl,rfl⟩|⟨f,rfl⟩
  ·simp[Instr.sliceBounds,fV k l c _ g Aa]
  ·simp[Instr.sliceBounds,fV f b cap _ Aa i,fV k l b.toNat _ g Aa]
theorem cP5(isS:Bool)(f cap:Nat)(lo:Option Value)(l b:Int)(e c:IntKind)(j:(lo=none/\l=0)\/∃k,lo=some (.int k l))(i:0<=l)(m:l<=b)(g:b<=cap):
 (Instr.sliceBounds isS f cap lo (some (.int e b)) (some (.int c b))).run P w= .ok (l.toNat,b.toNat,b.toNat) w:=by
 rcases j with⟨rfl,rfl⟩|⟨k,rfl⟩
 ·simp[Instr.sliceBounds,fV c b cap _ Aa g,fV e b b.toNat _ Aa Aa]
 ·simp[Instr.sliceBounds,fV c b cap _ Aa g,fV e b b.toNat _ Aa Aa,fV k l b.toNat _ i Aa]
theorem cH8(hT:bP T P)(inv:Inv T Φ σ a w G)(t:TypeId)(x:Operand)(lo hi N:Option Operand)(ho:o.op= .slice t x lo hi N)(ht:t<T.n t)
 (h:sZ T (T.row t) σ (σ.ev x) (lo.map σ.ev) (hi.map σ.ev) (N.map σ.ev) K):Out T Φ σ a K ((execOp a.eval o).run P w):=by
 obtain⟨E,W⟩:=inv.ev x
 have B:∀(z:Option Operand) (n M:Int),((z=none/\n=M)\/∃y k,z=some y/\a.eval y= .int k n)->((z.map a.eval=none/\n=M)\/∃k,z.map a.eval=some (.int k n)):=by
  grind
 unfold sZ at h;split at h
 ·rename_i s U C
  rw[C]at E;have hu:=aF2 (hT t ht) U;split at h
  ·rename_i hm
   have ai:N=none:=by cases N<;>simp_all
   subst ai
   have D:∀(l e:Int),((lo=none/\l=0)\/∃y k,lo=some y/\a.eval y= .int k l)->((hi=none/\e=s.size)\/∃y k,hi=some y/\a.eval y= .int k e)->need (0<=l/\l<=e/\e<=s.size) (K (.lit (.string (s.extract l.toNat e.toNat))) [])->Out T Φ σ a K ((execOp a.eval o).run P w):=by
    intro l e hl H hn;obtain⟨⟨q1,Z,q3⟩,hk⟩:=dX hn;have hb:=aW3 (P:=P) (w:=w) false s.size s.size _ _ l e (B lo l 0 hl) (B hi e s.size H) q1 Z q3;refine .plain inv (v':= .string (s.extract l.toNat e.toNat)) ?_ hk (.lit _ rfl) dL;simp only[execOp,ho,E.bH,Instr.sliceAt,RN,dI hu,QX,Instr.slice,Option.map_none,Option.isSome_none,Bool.false_eq_true,Ue,Sz,hb]
   rcases qC inv lo 0 h with⟨q,h⟩|⟨y,k,n,q,u,h⟩
   ·rcases qC inv hi _ h with⟨F,h⟩|⟨y',X,n',F,f2,h⟩
    ·simp_all
    ·simp_all
   ·grind [qC]
  ·exact h.elim
 ·rename_i U
  have hu:=jW (hT t ht) U;obtain⟨hc,h⟩:=aT h;have he:=blt hc
  obtain⟨xs,h,ak,an⟩:∃xs,(bound (lo.map σ.ev) 0 λl=>bound (hi.map σ.ev) xs.length λh=>match N.map σ.ev with
   |none=>need (0<=l/\l<=h/\h<=xs.length/\(l=0\/∀x∈xs,x.cells.length=(T.row (T.row t).elem).size)) (K (.sl ((xs.take h.toNat).drop l.toNat)) [])
   |some m=>match hi.map σ.ev with
    |none=>False
    |some _=>bound (some m) 0 λm=>need (0<=l/\l<=h/\h<=xs.length/\m=h/\(l=0\/∀x∈xs,x.cells.length=(T.row (T.row t).elem).size)) (K (.cap ((xs.take h.toNat).drop l.toNat)) []))/\bM xs/\Rv w G (a.eval x) (.sl xs):=by
   unfold lV at h;split at h
   ·rename_i l C
    rw[C]at E W;simp only[V.ok]at W;exact⟨l,h,W,E⟩
   ·rename_i l C
    rw[C]at E W;simp only[V.ok]at W;exact⟨l,h,W,E.wK⟩
   ·rename_i C
    rw[C]at E;exact⟨[],h,BX,by rw[E.bH];exact .slN⟩
   ·rename_i k g C
    split at h
    ·rename_i en aa
     obtain⟨⟨hg,hk⟩,h⟩:=dX h;rw[C]at E;have S:=inv.arr k en aa;unfold gW at S;rw[hk]at S;exact⟨en.l,h,inv.wfA k en aa,by rw[E.oQ,<-hg];exact S⟩
    ·exact h.elim
   ·exact h.elim
  have hsub:∀l e:Nat,bM ((xs.take e).drop l):=λl e=>aH.2 λy R=>aH.1 ak y (Ri (Rj R))
  obtain⟨b,f,cap,hv,I,A⟩:∃b f cap,a.eval x= .slice b f cap/\f=xs.length/\((b=none/\f=0/\cap=0)\/∃r sz cc,b=some r/\f<=cap/\cap<=maxLen/\(0<f->G.O r.block= .fz)/\(∀x∈xs,x.cells.length=sz)/\At w r cc (xs.flatMap V.cells)/\∀(j:Nat) y,(xs.flatMap V.cells)[j]? =some y->Rv w G (cc j) y):=by
   rcases an.bK8 with⟨q,u⟩|⟨r,c,sz,cc,q,u,e3,e4,Y,e6,e7⟩
   ·exact⟨none,0,0,q,by rw[u];rfl, .inl ⟨rfl,rfl,rfl⟩⟩
   ·exact⟨some r,_,c,q,rfl, .inr ⟨r,sz,cc,rfl,u,e3,e4,Y,e6,e7⟩⟩
  have as:f<=cap:=by rcases A with⟨_,h1,h2⟩|⟨_,_,_,_,h,_⟩<;>omega
  have Q:∀(l e m:Nat),l<=e->e<=f->e<=m->m<=cap->(l=0\/∀x∈xs,x.cells.length=(T.row (T.row t).elem).size)->
   Rv w G (.slice (if m=l then b else b.map (·.add (l*(T.row (T.row t).elem).size))) (e-l) (m-l)) (.sl ((xs.take e).drop l))/\
   (m=e->Rv w G (.slice (if m=l then b else b.map (·.add (l*(T.row (T.row t).elem).size))) (e-l) (m-l)) (.cap ((xs.take e).drop l))):=by
   intro l e m q1 Z q3 q4 q5;have ah:((xs.take e).drop l).length=e-l:=by rw[Rz,QL];omega
   rcases A with⟨rfl,u,e3⟩|⟨r,sz,cc,rfl,u,e3,e4,Y,e6,e7⟩
   ·have aj:m=l:=by omega
    have h0:e-l=0:=Aa;have h1:m-l=0:=Aa
    have ac:(xs.take e).drop l=[] :=Tc Aa;rw[Q9 aj,h0,h1,ac];exact⟨.slN,λ_=> .capN⟩
   ·
    obtain⟨i,ar,ae,am⟩:∃i,(if m=l then some r else(some r).map (·.add (l*(T.row (T.row t).elem).size)))=some i/\i.block=r.block/\(l<e->i=r.add (l*sz)):=by
     by_cases af:m=l
     ·rw[Q9 af];exact⟨r,rfl,rfl,λh=>Aa⟩
     ·rw[Q5 af]
      refine⟨_,rfl,add_block _ _,λab=>?_⟩;rcases q5 with rfl|q5
      ·simp
      ·have ao:xs≠ [] :=by rintro rfl;simp at I;omega
       obtain⟨y,ys,rfl⟩:=List.exists_cons_of_ne_nil ao;rw[<-q5 y Ae,Y y Ae]
    rw[ar]
    have v:At w i (λj=>cc (l*sz+j)) (((xs.take e).drop l).flatMap V.cells):=by
     intro j y R
     have ab:l<e:=by
      rcases Ry l e with h|h
      ·exact h
      ·rw[Tc (by omega:((xs.take e).drop l).length=0)]at R;simp at R
     rw[am ab,add_add'];exact e6 _ y (cL9 Y j R)
    have L:∀(j:Nat) y,(((xs.take e).drop l).flatMap V.cells)[j]? =some y->Rv w G (cc (l*sz+j)) y:=λj y R=>e7 _ y (cL9 Y j R);have J:0< ((xs.take e).drop l).length->G.O i.block= .fz:=λh=>by rw[ae];exact e4 (by omega)
    have ag:∀x∈(xs.take e).drop l,x.cells.length=sz:=λx C=>Y x (Ri (Rj C));constructor
    ·have:=Rv.slS (w:=w) (G:=G) i (m-l) ((xs.take e).drop l) sz _ Aa Aa J ag v L
     rwa [ah]at this
    ·intro aq
     have:=Rv.capS (w:=w) (G:=G) i ((xs.take e).drop l) sz _ Aa J ag v L;rw[ah]at this;rw[aq];exact this
  have run:∀(l e m:Nat),(Instr.sliceBounds true f cap (lo.map a.eval) (hi.map a.eval) (N.map a.eval)).run P w= .ok (l,e,m) w->
   (execOp a.eval o).run P w= .ok (.value (.slice (if m=l then b else b.map (·.add (l*(T.row (T.row t).elem).size))) (e-l) (m-l))) w:=by
   intro l e m hb;simp only[execOp,ho,hv,Instr.sliceAt,RN,dI hu,QX,Instr.slice,hb,iV hT he,Sz]
  have D:∀(l e:Int),((lo=none/\l=0)\/∃y k,lo=some y/\a.eval y= .int k l)->((hi=none/\e=xs.length)\/∃y k,hi=some y/\a.eval y= .int k e)->
   (match N.map σ.ev with
   |none=>need (0<=l/\l<=e/\e<=xs.length/\(l=0\/∀x∈xs,x.cells.length=(T.row (T.row t).elem).size)) (K (.sl ((xs.take e.toNat).drop l.toNat)) [])
   |some m=>match hi.map σ.ev with
    |none=>False
    |some _=>bound (some m) 0 λm=>need (0<=l/\l<=e/\e<=xs.length/\m=e/\(l=0\/∀x∈xs,x.cells.length=(T.row (T.row t).elem).size)) (K (.cap ((xs.take e.toNat).drop l.toNat)) []))->Out T Φ σ a K ((execOp a.eval o).run P w):=by
   intro l e hl H hn
   cases N with
   |none=>
    simp only[Option.map_none]at hn;obtain⟨⟨q1,Z,q3,q4⟩,hk⟩:=dX hn;have hb:=aW3 (P:=P) (w:=w) true f cap _ _ l e (B lo l 0 hl) (B hi e f (by rw[I];exact H)) q1 Z Aa
    have hnv:=(Q l.toNat e.toNat cap Aa Aa Aa (QH _) (q4.imp (λh=>by rw[h];rfl) id)).1
    exact PL
   |some my=>
    rcases H with⟨rfl,_⟩|⟨yh,kh,rfl,al⟩
    ·exact hn.elim
    simp only[Sr]at hn;rcases qC inv (some my) 0 H6 with⟨q,_⟩|⟨y',X,m,q,u,hn⟩
    ·cases q
    ·cases q
     obtain⟨⟨q1,Z,q3,q5,q4⟩,hk⟩:=dX hn;subst q5;have hb:=cP5 (P:=P) (w:=w) true f cap (lo.map a.eval) l m kh X (B lo l 0 hl) q1 Z Aa;rw[<-al,<-u]at hb;have hnv:=(Q l.toNat m.toNat m.toNat Aa Aa (QH _) Aa (q4.imp (λh=>by rw[h];rfl) id)).2 rfl
     exact PL
  rcases qC inv lo 0 h with⟨q,h⟩|⟨y,k,n,q,u,h⟩
  ·rcases qC inv hi _ h with⟨F,h⟩|⟨y',X,n',F,f2,h⟩
   ·exact D 0 xs.length (.inl ⟨q,rfl⟩) (.inl ⟨F,rfl⟩) h
   ·exact D 0 n' (.inl ⟨q,rfl⟩) (.inr ⟨y',X,F,f2⟩) h
  ·rcases qC inv hi _ h with⟨F,h⟩|⟨y',X,n',F,f2,h⟩
   ·exact D n xs.length (.inr ⟨y,k,q,u⟩) (.inl ⟨F,rfl⟩) h
   ·exact D n n' (.inr ⟨y,k,q,u⟩) (.inr ⟨y',X,F,f2⟩) h
 ·exact h.elim
end
section
variable{T:Tab}{P:Program}{Φ:Fr}{σ:St}{a:Act}{w:World}{G:Gh}{K:VK}{o:Oper}{d:Nat}
theorem dT4{d:TypeDesc}{k s:Value}{e:MapEntry}(g:e.key=k)(n:MapKept.IsKey d k)(m:MapKept.IsKey d s):∀(l:List MapEntry) (i:Nat),(∀e∈l,MapKept.IsKey d e.key)->Instr.findNow d k l i=some none->
 Instr.findNow d s (l++[e]) i= @ite _ (k=s) (Classical.propDecidable _) (some (some (i+l.length,e.val))) (Instr.findNow d s l i):=by
 intro l
 induction l with
 |nil=>
  intro i _ _;obtain⟨r,y,C⟩:=TK m n;simp only[TM,Instr.findNow,g,y];grind
 |cons x r u=>
  intro i j q;have f:=j x Ae;have B:=u (i+1) (λe g=>j e (by simp[g]))
  obtain⟨b,t,A⟩:=TK n f;obtain⟨c,v,z⟩:=TK m f;simp only[TU,Instr.findNow,t,v]at q⊢;grind
theorem cN7{d:TypeDesc}{k s:Value}{v:Value}(y:MapKept.IsKey d k)(A:MapKept.IsKey d s):∀(l:List MapEntry) (i j:Nat) (u:Value),(∀e∈l,MapKept.IsKey d e.key)->Instr.findNow d k l i=some (some (j,u))->
 ∃q,j=i+q/\(∃e,l[q]? =some e/\e.key=k)/\Instr.findNow d s (l.modify q λe=> {e with key:=k,val:=v}) i= @ite _ (k=s) (Classical.propDecidable _) (some (some (j,v))) (Instr.findNow d s l i):=by
 intro l
 induction l with
 |nil=>intro i j u _ h;simp[Instr.findNow]at h
 |cons x r D=>
  intro i j u z f;have g:=z x Ae;obtain⟨b,C,F⟩:=TK y g;obtain⟨c,B,M⟩:=TK A g;obtain⟨J,E,L⟩:=TK A y;simp only[Instr.findNow,C]at f
  cases b with
  |true=>
   simp only[RS,Prod.mk.injEq]at f;obtain⟨rfl,rfl⟩:=f;have n:=F.1 rfl;refine⟨0,rfl,⟨x,rfl,n.symm⟩,?_⟩;simp only[List.modify_zero_cons,Instr.findNow,B,E];grind
  |false=>
   simp only at f;obtain⟨H,rfl,⟨e,t,m⟩,N⟩:=D (i+1) j u (λe I=>z e (by simp[I])) f
   refine⟨H+1,Aa,⟨e,by simpa using t,m⟩,?_⟩
   simp only[List.modify_succ_cons,Instr.findNow,B];grind
theorem eO1{c:Kd}{b:TypeDesc}(h:c=kdOf (some b))(e:dY9 c=true):keyD c=b:=by
 subst h;cases b<;>simp_all [kdOf,dY9,keyD]
theorem dF2{b:Kd}{s:Value}(h:cD3 b s=true):MapKept.IsKey (keyD b) s:=by
 unfold cD3 at h;split at h
 ·split at h
  ·exact trivial
  ·cases h
 ·split at h
  ·have:=QC h
   subst this;exact rfl
  ·cases h
 ·cases h
theorem lit_key{b:Kd}{s:Value}(h:cD3 b s=true):litD s=keyD b:=by
 unfold cD3 at h;split at h
 ·split at h
  ·rfl
  ·cases h
 ·split at h
  ·have:=QC h
   subst this;rfl
  ·cases h
 ·cases h
theorem aW5(c:bP T P){t:TypeId}(l:t<T.n t)(h:bD5 T (T.row t)=true):∃e b,P.underlying t=some (.map e b)/\P.underlying e=some (keyD (T.row (T.row t).alen).kd)/\b=(T.row t).elem/\b<T.n b/\(T.row b).agg=false:=by
 unfold bD5 at h;simp only[QN,Bool.not_eq_true']at h;obtain⟨⟨⟨⟨j,p⟩,g⟩,f⟩,q⟩:=h
 have k:(T.row t).kd= .map:=by
  revert j;cases(T.row t).kd<;>simp
 obtain⟨r,i,m,_⟩:=(c _ (blt g)).und;refine⟨_,_,eT8 (c t l) k,?_,rfl,blt f,q⟩;rw[eO1 m p];exact i
theorem bM3(v:bP T P)(inv:Inv T Φ σ a w G)(t:TypeId)(r:o.op= .makeMap t none)(x:t<T.n t)(h:oN T t σ d K):Out T Φ σ a K ((execOp a.eval o).run P w):=by
 unfold oN at h;split at h
 ·rename_i q
  obtain⟨_,u⟩:=aT h
  let av':Nat->Nat->Value:=λj g=>if j=d/\g=0 then .map (some w.heap.size)else G.av j g
  have f:av' d 0= .map (some w.heap.size):=Iu;have e:∀b,b<w.heap.size->(w.alloc (.map #[] 0)).heap[b]? =w.heap[b]? :=λb i=>Ua w _ i
  have c:Inv T Φ (σ.apps [.a d ⟨0, .dead,t,[.bot]⟩]) a (w.alloc (.map #[] 0)) {G with av:=av',O:=upd G.O w.heap.size (.ar d)}:=by
   refine inv.zU (w':=w.alloc (.map #[] 0)) (k:=d) (en:=⟨0, .dead,t,[.bot]⟩) (av':=av') (O':=upd G.O w.heap.size (.ar d)) (λg l=>TR (zK q 0 g l)) (λj g l=>?_) ?_ ?_ ?_ ?_ (λb i _=>e b i) Ae rfl rfl rfl
   ·have:¬(j=d/\g=0):=by rintro⟨rfl,rfl⟩;exact absurd (zK q 0 0 l) Aa
    simp[av',this]
   ·simp only[bM,V.okL,V.ok,and_self]
   ·exact⟨w.heap.size, #[],0,f,upd_same _ _ _,Un w _,Ae,λs _=>rfl⟩
   ·intro b i _;exact upd_ne _ _ (by have:=inv.tag b i;omega)
   ·intro b
    by_cases m:b=w.heap.size
    ·subst m;exact .inr (.inr (.inl ⟨upd_same _ _ _,aN0 inv,Ae⟩))
    ·exact .inl (upd_ne _ _ m)
  refine⟨.map (some w.heap.size),w.alloc (.map #[] 0),_,_,_, .inl ?_,u,c,aQ0 (by rw[<-f]) rfl,?_⟩
  ·simp[execOp,r,Instr.makeMap,Result.andThen]
  ·exact JL
 ·exact h.elim
theorem eF3(f:bP T P){t:TypeId}(g:t<T.n t)(e:(T.row t).agg=false){z:Value}(b:(zeroValue t).run P w= .ok z w):(T.row t).zero=[z] :=by
 obtain⟨i,k,s,l,h,c,r,p,q,m,j⟩:=(f _ g).info
 have:(zeroValue t).run P w= .ok h w:=by
  simp[zeroValue,cO9 k,c,Result.andThen]
 rw[this]at b;cases b;exact j e
theorem bZ4(B:bP T P)(inv:Inv T Φ σ a w G)(t:TypeId)(x y:Operand)(ho:o.op= .lookup t x y false)(ht:t<T.n t)(h:rG T t σ (σ.ev x) (σ.ev y) K):Out T Φ σ a K ((execOp a.eval o).run P w):=by
 obtain⟨I,N⟩:=inv.ev x;obtain⟨L,y2⟩:=inv.ev y;unfold rG at h;split at h
 ·rename_i k g s W M
  rw[W]at I;rw[M]at L;split at h
  ·rename_i en Q
   split at h
   ·rename_i es Z hl
    obtain⟨hg,h2⟩:=dX h;obtain⟨q,D⟩:=aT h2;simp only[QN]at q;obtain⟨X,et,u1,u2,rfl,F,Y⟩:=aW5 B ht q.1.1;have c:=dF2 q.1.2;have O:en.ty=t:=Sj q.2
    have r:=inv.arr k en Q;unfold gW at r;rw[Z,hl]at r;obtain⟨b,C,A,q1,q2,q3,J,E⟩:=(r:bL6 _ w G k _ es);rw[O]at J E;have ex:a.eval x= .map (some b):=by rw[I.oQ,<-hg,q1]
    have ey:a.eval y=s:=L.bH;obtain⟨z,H,U,u,_⟩:=aC3 (w:=w) B F;have f:(T.row (T.row t).elem).zero=[z] :=eF3 B F Y H
    rw[f]at D;have j:=D.out;have hc:∀e,(Instr.checkKey e 10000 X s).run P w= .ok () w:=λe=>MapKept.run_checkKey u2 c e 9999
    have l:=E s c
    cases m:jG s es with
    |none=>
     rw[m]at l j;refine .plain inv (v':=z) ?_ j (.lit z (u z (by rw[f];simp))) (by simp only[Option.getD,V.ok])
     simp[execOp,ho,ex,ey,Instr.lookup,dI u1,Tv q3,hc,Ut u2 l,H,Result.andThen]
    |some R=>
     rw[m]at l j;obtain⟨i,v,r1,r2,r3,r4⟩:=l;refine .plain inv (v':=v) ?_ j r3 (r4.ok _ _);exact OV
   ·exact h.elim
  ·exact h.elim
 ·rename_i g cs s W M
  rw[W]at I N;rw[M]at L;split at h
  ·rename_i kz es
   obtain⟨q,D⟩:=aT h;simp only[QN]at q;obtain⟨X,et,u1,u2,rfl,F,Y⟩:=aW5 B ht q.1.1;have c:=dF2 q.1.2;have S:litD kz=keyD (T.row (T.row t).alen).kd:=lit_key q.2
   obtain⟨b,C,A,val,ex,q3,J,E,q6⟩:=I.mp_inv;rw[S]at J E q6;have ey:a.eval y=s:=L.bH;obtain⟨z,H,U,u,_⟩:=aC3 (w:=w) B F;have f:(T.row (T.row t).elem).zero=[z] :=eF3 B F Y H
   rw[f]at D;have j:=D.out;have hc:∀e,(Instr.checkKey e 10000 X s).run P w= .ok () w:=λe=>MapKept.run_checkKey u2 c e 9999
   cases m:jG s es with
   |none=>
    rw[m]at j;refine .plain inv (v':=z) ?_ j (.lit z (u z (by rw[f];simp))) (by simp only[Option.getD,V.ok])
    simp[execOp,ho,ex,ey,Instr.lookup,dI u1,Tv q3,hc,Ut u2 (J s c m),H,Result.andThen]
   |some R=>
    rw[m]at j;obtain⟨⟨i,r1⟩,r2⟩:=E s R c m;have hp:bM es:=by simp only[V.ok,V.okL]at N;exact N.2.2.1
    refine .plain inv (v':=val s) ?_ j (q6 s R c m) ((assoc_pure hp m).ok _ _);exact OV
  ·exact h.elim
 ·exact h.elim
theorem cQ6{x:V}{p:Nat->Prop}{q:Nat->Nat->Prop}(h:x.atom=true)(hok:x.ok p q):x.pure:=JI
theorem Rv.dV8{w:World}{G:Gh}{v:Value}{x:V}(h:Rv w G v x)(b:x.atom=true):v.oneCell'=true:=by
 cases h with
 |lit u c=>exact c
 |slN=>rfl
 |slS=>rfl
 |capN=>rfl
 |capS=>rfl
 |fn=>rfl
 |fb=>rfl
 |mp=>rfl
 |_=>simp[V.atom]at b
theorem aA0(hT:bP T P)(inv:Inv T Φ σ a w G)(t:TypeId)(x y z:Operand)(Z:o.op= .mapUpdate t x y z\/o.op= .insert t x y z)(ht:t<T.n t)(h:iE T t σ (σ.ev x) (σ.ev y) (σ.ev z) K):Out T Φ σ a K ((execOp a.eval o).run P w):=by
 obtain⟨x1,x2⟩:=inv.ev x;obtain⟨y1,y2⟩:=inv.ev y;obtain⟨z1,z2⟩:=inv.ev z;unfold iE at h;split at h
 ·rename_i k g s hx hy
  rw[hx]at x1;rw[hy]at y1;split at h
  ·rename_i en N
   split at h
   ·rename_i es ad hl
    obtain⟨hg,h2⟩:=dX h;obtain⟨J,h3⟩:=aT h2;simp only[QN]at J;obtain⟨kt,et,u1,u2,rfl,u4,u5⟩:=aW5 hT ht J.1.1.1;have A:=dF2 J.1.1.2;have E:en.ty=t:=Sj J.1.2
    have F:=inv.arr k en N;unfold gW at F;rw[ad,hl]at F;obtain⟨b,l,r,q1,X,I,q4,q5⟩:=(F:bL6 _ w G k _ es);rw[E]at q4 q5;generalize U:keyD (T.row (T.row t).alen).kd=L at*;have ex:a.eval x= .map (some b):=by rw[x1.oQ,<-hg,q1]
    have ey:a.eval y=s:=y1.bH;have hc:∀e,(Instr.checkKey e 10000 kt s).run P w= .ok () w:=λe=>MapKept.run_checkKey u2 A e 9999
    have zp:(σ.ev z).pure:=cQ6 J.2 z2;have zo:(a.eval z).oneCell'=true:=z1.dV8 J.2
    have key:∃c f,(Instr.mapUpdate t (.map (some b)) s (a.eval z)).run P w= .ok () {w with heap:=w.heap.setIfInBounds b (.map c f)}/\(∀e∈c.toList,MapKept.IsKey L e.key)/\
     ∀u,MapKept.IsKey L u->∃j,Instr.findNow L u c.toList 0= @ite _ (s=u) (Classical.propDecidable _) (some (some (j,a.eval z))) (Instr.findNow L u l.toList 0):=by
     have Q:=q5 s A
     cases W:jG s es with
     |none=>
      rw[W]at Q;refine⟨l.push {key:=s,val:=a.eval z,born:=r},r+1,?_,?_,λu m=>?_⟩
      ·simp[Instr.mapUpdate,dI u1,Tv I,hc,Ut u2 Q,MapKept.run_setObj_map _ I,Result.andThen]
      ·grind
      ·refine⟨0+l.toList.length,?_⟩
       rw[Array.toList_push];exact dT4 rfl A m _ 0 q4 Q
     |some vv=>
      rw[W]at Q;obtain⟨i,v,Y,_,_,_⟩:=Q;have hm:=λu m=>cN7 (d:=L) (k:=s) (s:=u) (v:=a.eval z) A m l.toList 0 i v q4 Y;obtain⟨q,hi,⟨e,ab,aa⟩,_⟩:=hm s A;have ac:i=q:=Aa
      subst ac;have H:l[i]? =some e:=by simpa using ab
      refine⟨l.modify i λe=> {e with key:=s,val:=a.eval z},r,?_,?_,λu m=>?_⟩
      ·simp[Instr.mapUpdate,dI u1,Tv I,hc,Ut u2 Y,H,aa,MapKept.run_keyThatStays A,MapKept.run_setObj_map _ I,Result.andThen]
      ·intro e' M
       rw[Array.toList_modify]at M;obtain⟨j,ag⟩:=QY M;grind
      ·grind
    obtain⟨c,f,k1,k2,k3⟩:=key;have ae:b<w.heap.size:=inv.tag b (by rw[X];simp)
    have D:∀C,C≠b->({w with heap:=w.heap.setIfInBounds b (.map c f)}:World).heap[C]? =w.heap[C]? :=λC B=>(MapKept.heap_set I).2 C B
    have S:Keep w {w with heap:=w.heap.setIfInBounds b (.map c f)} G {G with av:=G.av,O:=G.O}:=⟨λ_ h=>h,λC B=>D C (by rintro rfl;rw[X]at B;cases B)⟩
    have R:Inv T Φ (σ.apps [.a k ⟨en.gen, .dead,en.ty, .bot:: .tup [.lit s,σ.ev z] ::es⟩]) a {w with heap:=w.heap.setIfInBounds b (.map c f)} {G with av:=G.av,O:=G.O}:=by
     refine inv.zU (w':={w with heap:=w.heap.setIfInBounds b (.map c f)}) (k:=k) (en:=⟨en.gen, .dead,en.ty, .bot:: .tup [.lit s,σ.ev z] ::es⟩) (av':=G.av) (O':=G.O) ?_ (λ_ _ _=>rfl) ?_ ?_ (λ_ _ _=>rfl) (λ_=> .inl rfl) (λC B hn=>D C (by rintro rfl;exact hn X)) Ae rfl rfl rfl
     ·rintro g' ⟨af,e1,e2⟩;simp_all
     ·have:=inv.wfA k en N
      rw[hl]at this;simp_all [true_and,Uo,bM,V.okL,V.ok]
     ·refine⟨b,c,f,q1,X,(MapKept.heap_set I).1,by rw[E,U];exact k2,λu m=>?_⟩
      rw[E,U]at m⊢;obtain⟨j,H⟩:=k3 u m;by_cases hs:s=u
      ·subst hs
       rw[Q9 rfl]at H;simp only[jG,TQ];exact⟨j,_,H,zo,z1.aW S zp,zp⟩
      ·rw[Q5 hs]at H
       simp only[jG,hs,Ue];have:=q5 u m
       cases W:jG u es with
       |none=>rw[W]at this;rw[H];exact this
       |some vv=>
        rw[W]at this;obtain⟨i,v,Y,r2,r3,r4⟩:=this;exact⟨i,v,H.trans Y,r2,r3.aW S r4,r4⟩
    refine⟨undef,_,_,_,_, .inr ⟨?_,rfl⟩,h3,R, .bot _,BK⟩;rcases Z with Z|Z<;>simp[execOp,Z,ex,ey,k1,Result.andThen]
   ·exact h.elim
  ·exact h.elim
 ·exact h.elim
end
end Go.Ab
