/- Lemmas. -/
import Derived.Test.YtcmgfjaiegpddaaGreatA3
import Derived.Laws.BytesString
import Derived.Lib.ConvBytes
import Derived.Laws.Cells
set_option linter.all false
noncomputable section
namespace Go.Ab
section
variable{T:Tab}{P:Program}{Φ:Fr}{σ:St}{a:Act}{w:World}{G:Gh}{K:VK}{o:Oper}{d:Nat}
def Src(w:World)(G:Gh)(v:Value)(xs:List V):Prop:=
 (v= .slice none 0 0/\xs=[])\/∃ad c sz,v= .slice (some ad) xs.length c/\xs.length<=c/\c<=maxLen/\(∀x∈xs,x.cells.length=sz)/\Here w G ad (xs.flatMap V.cells)
def Rv.src{v:Value}{l:List V}(h:Rv w G v (.sl l)):Src w G v l:=by
 exact Nv
def aV9(inv:Inv T Φ σ a w G)(x:Operand){K:List V->Prop}(h:lF σ (σ.ev x) K):∃xs,K xs/\bM xs/\Src w G (a.eval x) xs:=by
 obtain⟨b,e⟩:=inv.ev x;unfold lF at h;split at h;rename_i l c;rw[c]at b e;simp only[V.ok]at e;exact⟨l,h,e,b.src⟩;rename_i l c;rw[c]at b e;simp only[V.ok]at e;exact⟨l,h,e,b.wK.src⟩;rename_i c;rw[c]at b;exact⟨[],h,BH, .inl ⟨b.bH,rfl⟩⟩;rename_i k g c;rw[c]at b;split at h;rename_i en f;obtain⟨⟨m,j⟩,i⟩:=dX h;subst m;refine⟨en.l,i,inv.wfA k en f,?_⟩;have:=(inv.arr k en f).reads j;rw[b.oQ];exact this;exact h.elim;exact h.elim
def Src.news{v:Value}{xs:List V}{z:Nat}(h:Src w G v xs)(q:∀x∈xs,x.cells.length=z):∃b:List Value,b.length=xs.length*z/\RvL w G b (xs.flatMap V.cells)/\
 ((v= .slice none 0 0/\xs=[])\/∃g c,v= .slice (some g) xs.length c/\∀j u,b[j]? =some u->w.cell? (g.add j)=some u):=by
 rcases h with⟨i,k⟩|⟨g,c,sz,i,k,r,s,m⟩
 ·subst k
  exact⟨[],Af,⟨rfl,(λ_ h=>Ag),(λ_ _ _ h=>Hu)⟩, .inl ⟨i,rfl⟩⟩
 ·obtain⟨cc,l,t⟩:=m.out
  have n:=sH q;refine⟨(List.range (xs.flatMap V.cells).length).map cc,by rw[P6,List.length_range,n],⟨Af,?_,?_⟩, .inr ⟨g,c,i,?_⟩⟩
  ·intro u e
   obtain⟨j,f,rfl⟩:=PI.1 e;rw[Qh]at f;exact(l j _ (Pj f)).2
  ·grind
  ·intro j u e
   rw[PK]at e;by_cases f:j< (xs.flatMap V.cells).length
   ·rw[List.getElem?_range f]at e
    simp at e;subst e;exact(l j _ (Pj f)).1
   ·simp_all
structure AppSrc(P:Program)(w:World)(t':TypeId)(v:Value)(n sz:Nat)(news:List Value):Prop where
 ty:P.underlying t'=some .string\/∃e',P.underlying t'=some (.slice e')
 len:∀w':World,(Builtin.lenOf v).run P w'= .ok n w'
 fst:∀w':World,w'.heap=w.heap->(Builtin.firstCells sz n v).run P w'= .ok news.toArray w'
theorem app_none{t g ty e:TypeId}{i:TypeInfo}(m:P.underlying t=some (.slice e))(hi:P.info? e=some i)(b:Option Addr){n c:Nat}(l:n<=c){v:Value}(h:AppSrc P w g v 0 i.size []):
 (Builtin.append_ #[t,g] ty #[.slice b n c,v]).run P w= .ok (.slice b n c) w:=by
 have j:=h.fst w rfl;have k:=h.len w;rcases h.ty with f|⟨p,f⟩<;>cases b<;>simp[Builtin.append_,Qb m,Qb f,sizeOf,typeInfo,hi,k,j,l,storeCells]
def app_nil{t j ty e:TypeId}{i:TypeInfo}{z:Value}(u:P.underlying t=some (.slice e))(hi:P.info? e=some i)(x:i.zero=some z){n:Nat}{v:Value}{b:List Value}(h:AppSrc P w j v n i.size b)
 (k:0<n)(m:(n:Int)<=9223372036854775807)(l:n*i.bytes<=281474976710656):
 (Builtin.append_ #[t,j] ty #[.slice none 0 0,v]).run P w=
  .ok (.slice (some ⟨w.heap.size,0,none⟩) n (grownCap w n 0 e)) (w.drew.alloc (.cells (b.toArray++Builtin.zeroCells z.cells (grownCap w n 0 e-n)) e)):=by
 have s:n≠0:=Aa;have f:¬(9223372036854775807< (n:Int)):=Aa;have c:¬(281474976710656<Builtin.nextslicecap n 0*i.bytes):=by rw[nextslicecap_zero k];omega
 have q:=h.fst w.drew rfl;have r:=h.len w;rcases h.ty with g|⟨y,g⟩<;>simp[Builtin.append_,Qb u,Qb g,sizeOf,typeInfo,zeroValue,hi,x,r,s,f,c,Question.forced,run_firstCells_none,q,newRow,grownCap]
def app_grow{t y ty e:TypeId}{i:TypeInfo}{z:Value}(E:P.underlying t=some (.slice e))(hi:P.info? e=some i)(F:i.zero=some z)
 (b:Addr)(c f:Nat)(g:List Value)(s:g.length=c*i.size)(l:∀j v,g[j]? =some v->w.cell? (b.add j)=some v)
 {n:Nat}{v:Value}{k:List Value}(h:AppSrc P w y v n i.size k)
 (I:f<c+n)(A:((c+n:Nat):Int)<=9223372036854775807)(u:Builtin.nextslicecap (c+n) f*i.bytes<=281474976710656):
 (Builtin.append_ #[t,y] ty #[.slice (some b) c f,v]).run P w=
  .ok (.slice (some ⟨w.heap.size,0,none⟩) (c+n) (grownCap w (c+n) f e))
   (w.drew.alloc (.cells (g.toArray++k.toArray++Builtin.zeroCells z.cells (grownCap w (c+n) f e- (c+n))) e)):=by
 have D:¬(c+n<=f):=Aa;have q:¬(9223372036854775807< ((c:Int)+(n:Int))):=Aa;have m:¬(281474976710656<Builtin.nextslicecap (c+n) f*i.bytes):=Aa;have B:=h.fst w.drew rfl;have C:=h.len w;have r:=run_firstCells_some (P:=P) w.drew i.size c b c f g s (by simpa using l);rcases h.ty with x|⟨H,x⟩
 all_goals
  simp[Builtin.append_,Qb E,Qb x,sizeOf,typeInfo,zeroValue,hi,F,C,D,q,m,Question.forced,B,r,newRow,grownCap];congr 2;apply Array.ext';simp[Pq]
def app_room{t p ty e:TypeId}{i:TypeInfo}(y:P.underlying t=some (.slice e))(hi:P.info? e=some i)
 (g b f:Nat)(cur:Array Value)(s:w.heap[g]? =some (.cells cur e (0,0)))
 {m:Nat}{v:Value}{c:List Value}(h:AppSrc P w p v m i.size c)(q:∀u∈c,u.oneCell'=true)
 (j:b+m<=f)(k:b*i.size+c.length<=cur.size):
 (Builtin.append_ #[t,p] ty #[.slice (some ⟨g,0,none⟩) b f,v]).run P w=
  .ok (.slice (some ⟨g,0,none⟩) (b+m) f) (w.setRow g (cur.toList.take (b*i.size)++c++cur.toList.drop (b*i.size+c.length)).toArray):=by
 have r:=h.fst w rfl;have x:=h.len w;have l:=run_storeCells_at P g (b*i.size) e c 0 cur w s (by simpa using k) q;simp only[Rq]at l;rcases h.ty with n|⟨z,n⟩<;>simp[Builtin.append_,Qb y,Qb n,sizeOf,typeInfo,hi,x,j,r,Addr.add_lit,l]
def ASrc(P:Program)(w:World)(G:Gh)(t':TypeId)(v:Value)(sz:Nat)(xs:List V):Prop:=
 ∃news:List Value,news.length=xs.length*sz/\RvL w G news (xs.flatMap V.cells)/\AppSrc P w t' v xs.length sz news
def Src.app{k f:TypeId}(p:P.underlying k=some (.slice f)){v:Value}{xs:List V}{z:Nat}(h:Src w G v xs)(r:∀x∈xs,x.cells.length=z):ASrc P w G k v z xs:=by
 obtain⟨b,g,s,i⟩:=h.news r;refine⟨b,g,s, .inr ⟨f,p⟩,λw'=>?_,λw' q=>?_⟩;rcases i with⟨rfl,rfl⟩|⟨e,c,rfl,_⟩<;>simp[Builtin.lenOf];rcases i with⟨rfl,rfl⟩|⟨e,c,rfl,l⟩;simp_all [PV,Builtin.firstCells];have m:∀a:Addr,w'.cell? a=w.cell? a:=λa=>by unfold World.cell?;rw[q]
 exact run_firstCells_some (P:=P) w' z xs.length e xs.length c b g (λj u n=>by rw[m];exact l j u n)
def str_app{f:TypeId}(j:P.underlying f=some .string)(s:ByteArray){z:Nat}(e:∀x∈strV s,x.cells.length=z):ASrc P w G f (.string s) z (strV s):=by
 have g:(strV s).flatMap V.cells=(s.data.toList.map λb=>Value.int .u8 b.toNat).map .lit:=by
  unfold strV;rw[Sr];induction s.data.toList with
  |nil=>rfl
  |cons b l k=>rw[PW,Qk,k];rfl
 have c:(strV s).length=s.size:=Dx;refine⟨s.data.toList.map λb=>Value.int .u8 b.toNat,?_,?_, .inl j,λw'=>?_,λw' _=>?_⟩;unfold strV at e⊢;cases i:s.data.toList with
 |nil=>simp
 |cons b l=>
  have:=e (.lit (.int .u8 b.toNat)) (by rw[i];simp);grind [PL,V.cells]
 rw[g];exact aM4 (λv hv=>by obtain⟨b,_,rfl⟩:=PI.1 hv;rfl);rw[c];simp[Builtin.lenOf];rw[c];simp[Builtin.firstCells];apply Array.ext';simp
def cV9(hT:bP T P)(inv:Inv T Φ σ a w G){t t':TypeId}(ht:t<T.n t)(ay:(T.row t).kd= .slice)(he:(T.row t).elem<T.n (T.row t).elem)(ty:TypeId){k gen:Nat}(ag:∀g,σ.hasA k g->g<gen){F:AK}{u v:Value}{l xs:List V}
 (Y:bM l)(a7:bM xs)(am:ASrc P w G t' v (T.row (T.row t).elem).size xs)(Z:∀x∈l,x.cells.length=(T.row (T.row t).elem).size)(hz:∀x∈xs,x.cells.length=(T.row (T.row t).elem).size)(hb:(l.length+xs.length)*(T.row (T.row t).elem).bytes<=140737488355328)(a5:l.length+xs.length<=140737488355328)
 (R:(gJ T w G k u (T.row t).elem l/\(F= .own\/F= .ap))\/(Rv w G u (.cap l)/\F= .ap)):
 ∃B w' G',(Builtin.append_ #[t,t'] ty #[u,v]).run P w= .ok B w'/\Inv T Φ (σ.apps [.a k ⟨gen,F,(T.row t).elem,l++xs⟩]) a w' G'/\G'.av k gen=B/\B.oneCell'=true:=by
 have az:F= .own\/F= .ap:=by rcases R with⟨_,h⟩|⟨_,h⟩<;>first|exact h|exact .inr h
 have ah:bM (l++xs):=aH.2 λx hx=>by
  grind [aH]
 have ao:∀x∈l++xs,x.cells.length=(T.row (T.row t).elem).size:=λx hx=>by
  grind
 obtain⟨r,n1,n2,n3⟩:=am;obtain⟨i,i1,i2,i3,z,i4,i5,i6,i7,i8,i9⟩:=(hT _ he).info;have S:=jW (hT t ht) ay
 have a3:z.cells.size=i.size:=by
  grind
 have same:xs=[]->(Builtin.append_ #[t,t'] ty #[u,v]).run P w= .ok u w->u.oneCell'=true->gW T w G k ⟨gen,F,(T.row t).elem,l⟩\/True->∃B w' G',(Builtin.append_ #[t,t'] ty #[u,v]).run P w= .ok B w'/\Inv T Φ (σ.apps [.a k ⟨gen,F,(T.row t).elem,l++xs⟩]) a w' G'/\G'.av k gen=B/\B.oneCell'=true:=by
  intro a2 Q H _;subst a2;refine⟨u,w,{G with av:=λA g=>if A=k/\g=gen then u else G.av A g,O:=G.O},Q,?_,Af,H⟩;have M:Keep w w G {G with av:=λA g=>if A=k/\g=gen then u else G.av A g,O:=G.O}:=⟨λ_ h=>h,λ_ _=>rfl⟩;refine inv.zU (w':=w) (k:=k) (en:=⟨gen,F,(T.row t).elem,l++[]⟩) (λg hg=>Ri (ag g hg)) (λA g hg=>?_) (by rw[Pz];exact Y) ?_ (λ_ _ _=>rfl) (λ_=> .inl rfl) (λ_ _ _=>rfl) (Po _) rfl rfl rfl;grind;rw[Pz];have ab:(λA g=>if A=k/\g=gen then u else G.av A g) k gen=u:=Af;unfold gW;rcases R with⟨h,rfl|rfl⟩|⟨h,rfl⟩;show _/\gJ _ _ _ _ ((λA g=>if A=k/\g=gen then u else G.av A g) k gen) _ _;rw[ab];exact⟨he,h.keep M Y (λb hb=>⟨hb,rfl⟩)⟩;show _/\(gJ _ _ _ _ ((λA g=>if A=k/\g=gen then u else G.av A g) k gen) _ _\/_);rw[ab];exact⟨he, .inl (h.keep M Y (λb hb=>⟨hb,rfl⟩))⟩;refine⟨he, .inr ⟨?_,Z⟩⟩;show Rv _ _ ((λA g=>if A=k/\g=gen then u else G.av A g) k gen) _;rw[ab];exact h.aW M (by simp only[V.pure,V.ok];exact Y)
 have aa:∀(f:List Value) (m:Nat),RvL w G f (l.flatMap V.cells)->l.length+xs.length<=m->m<=maxLen->
  (Builtin.append_ #[t,t'] ty #[u,v]).run P w= .ok (.slice (some ⟨w.heap.size,0,none⟩) (l.length+xs.length) m) (w.drew.alloc (.cells (f.toArray++r.toArray++Builtin.zeroCells z.cells (m- (l.length+xs.length))) (T.row t).elem))->
  ∃B w' G',(Builtin.append_ #[t,t'] ty #[u,v]).run P w= .ok B w'/\Inv T Φ (σ.apps [.a k ⟨gen,F,(T.row t).elem,l++xs⟩]) a w' G'/\G'.av k gen=B/\B.oneCell'=true:=by
  intro f m ho aw ax Q;have al:f.length=l.length*(T.row (T.row t).elem).size:=by rw[ho.len,sH Z]
  have ac:(f++r).length=(l++xs).length*(T.row (T.row t).elem).size:=by rw[OY,al,n1,OY,Nat.add_mul]
  obtain⟨G',aq,U⟩:=inv.dC7 (n0:=w.drawn+1) ag az he (cur:=f.toArray++r.toArray++Builtin.zeroCells z.cells (m- (l.length+xs.length))) (l:=l++xs) (cap:=m) (by simpa using aw) ax
   (by simp only[Sj,List.size_toArray,size_zeroCells,a3,al,n1,i2,<-Nat.add_mul];congr 1;omega) ao ah
   (by
    rw[<-ac,QF];have:(f.toArray++r.toArray++Builtin.zeroCells z.cells (m- (l.length+xs.length))).toList=(f++r)++(Builtin.zeroCells z.cells (m- (l.length+xs.length))).toList:=Af;rw[this,SK];exact ho.append n2)
  exact⟨_,_,G',Q,aq,by rw[U];simp,rfl⟩
 have au:((l.length+xs.length:Nat):Int)<=9223372036854775807:=Aa;have ai:∀old,old<l.length+xs.length->Builtin.nextslicecap (l.length+xs.length) old*i.bytes<=281474976710656:=λold h=>growslice_fits h (by rw[i3];exact hb);have aj:∀old,grownCap w (l.length+xs.length) old (T.row t).elem<=maxLen:=λold=>grownCap_le_maxLen w _ _ _ Dl;rw[<-i2]at n3
 have empty:xs=[]->∀(b:Option Addr) (n c:Nat),n<=c->(Builtin.append_ #[t,t'] ty #[.slice b n c,v]).run P w= .ok (.slice b n c) w:=by
  rintro rfl b n c a6;grind [PV,app_none]
 by_cases hx0:xs=[]
 ·
  rcases R with⟨N,af⟩|⟨J,af⟩
  ·rcases N with⟨rfl|⟨a0,rfl⟩,rfl⟩|⟨b,cap,cur,rfl,I,h3,h4,h5,h6,h7,h8⟩
   ·exact KX
   ·exact same hx0 (empty hx0 (some a0) 0 0 (Po _)) rfl (.inr trivial)
   ·exact same hx0 (empty hx0 _ _ _ h4) rfl (.inr trivial)
  ·rcases J.vP with⟨rfl,_⟩|⟨ad,sz,cc,rfl,_⟩
   ·exact KX
   ·exact same hx0 (empty hx0 _ _ _ (Po _)) rfl (.inr trivial)
 ·have an:0<xs.length:=Rw.2 hx0
  have C:u= .slice none 0 0->l=[]->∃B w' G',(Builtin.append_ #[t,t'] ty #[u,v]).run P w= .ok B w'/\Inv T Φ (σ.apps [.a k ⟨gen,F,(T.row t).elem,l++xs⟩]) a w' G'/\G'.av k gen=B/\B.oneCell'=true:=by
   rintro rfl rfl;have hr:=app_nil (ty:=ty) S i1 i4 n3 an Aa (by rw[i3];simp at hb;omega);refine aa [] (grownCap w xs.length 0 (T.row t).elem) ⟨rfl,(λ_ h=>Ag),(λ_ _ _ h=>Hu)⟩ (by simpa using grownCap_ge w xs.length 0 _) (by simpa using aj 0) ?_;rw[hr];simp
  have s:∀(b:Addr) (cap:Nat) (f:List Value),u= .slice (some b) l.length cap->RvL w G f (l.flatMap V.cells)->(∀j v,f[j]? =some v->w.cell? (b.add j)=some v)->cap<l.length+xs.length->
   ∃B w' G',(Builtin.append_ #[t,t'] ty #[u,v]).run P w= .ok B w'/\Inv T Φ (σ.apps [.a k ⟨gen,F,(T.row t).elem,l++xs⟩]) a w' G'/\G'.av k gen=B/\B.oneCell'=true:=by
   rintro b cap f rfl ho ae ak;have hr:=app_grow (ty:=ty) S i1 i4 b l.length cap f (by rw[ho.len,sH Z,i2]) ae n3 ak au (ai cap ak);exact aa f _ ho (grownCap_ge w _ _ _) (aj cap) hr
  rcases R with⟨N,af⟩|⟨J,af⟩
  ·rcases N with⟨H|⟨a0,H⟩,I⟩|⟨b,cap,cur,H,I,h3,h4,h5,h6,h7,h8⟩
   ·exact C H I
   ·exact s a0 0 [] (by rw[H,I];rfl) (by rw[I];exact⟨rfl,(λ_ h=>by cases h),(λ_ _ _ h=>by simp at h)⟩) (λj v h=>Hu) (by rw[I];simpa using an)
   ·have X:∀j v,(cur.toList.take (l.length*(T.row (T.row t).elem).size))[j]? =some v->w.cell? ((⟨b,0,none⟩:Addr).add j)=some v:=by
     intro j v hv;rw[rY,QD,cell_of_row w b j cur _ _ h3];grind
    by_cases D:l.length+xs.length<=cap
    ·
     subst H;have L:l.length*i.size+r.length<=cur.size:=by rw[n1,h6,i2,<-Nat.add_mul];exact SA _ D
     have hr:=app_room (ty:=ty) S i1 b l.length cap cur h3 n3 n2.one D L;rw[i2]at hr L;let E:=(cur.toList.take (l.length*(T.row (T.row t).elem).size)++r++cur.toList.drop (l.length*(T.row (T.row t).elem).size+r.length)).toArray;let w':=w.setRow b E;let av':Nat->Nat->Value:=λA g=>if A=k/\g=gen then .slice (some ⟨b,0,none⟩) (l.length+xs.length) cap else G.av A g
     have U:av' k gen= .slice (some ⟨b,0,none⟩) (l.length+xs.length) cap:=Hr;have M:Keep w w' G {G with av:=av',O:=G.O}:=⟨λ_ h=>h,λb' W=>Q9 w b b' _ (λe=>by subst e;rw[I]at W;cases W)⟩;have a4:(cur.toList.take (l.length*(T.row (T.row t).elem).size)).length=l.length*(T.row (T.row t).elem).size:=by rw[h8.len,sH Z]
     have a1:gJ T w' {G with av:=av',O:=G.O} k (av' k gen) (T.row t).elem (l++xs):=by
      refine .inr ⟨b,cap,E,by rw[U];simp,I,QH w b cur E _ _ h3,by simpa using D,h5,?_,ao,?_⟩;grind
      have e1:E.toList.take ((l++xs).length*(T.row (T.row t).elem).size)=cur.toList.take (l.length*(T.row (T.row t).elem).size)++r:=by
       grind [OY,Nat.add_mul,SK]
      rw[e1,QF];refine(h8.append n2).keep M (p:=λ_=>False) (q:=λ_ _=>False) ?_ (λ_ h=>h.elim) (λ_ _ h=>h.elim);rw[<-QF];refine aH.2 λy hy=>?_;obtain⟨j,hj⟩:=P7 hy;exact dF ah hj
     refine⟨_,w',{G with av:=av',O:=G.O},hr,?_,U,rfl⟩
     refine inv.zU (w':=w') (k:=k) (en:=⟨gen,F,(T.row t).elem,l++xs⟩) (av':=av') (O':=G.O) (λg hg=>Ri (ag g hg)) (λA g hg=>?_) ah ?_ (λ_ _ _=>rfl) (λ_=> .inl rfl)
      (λb' _ W=>Q9 w b b' _ (λe=>by subst e;exact W I)) FD rfl rfl rfl
     ·grind
     ·grind [gW]
    ·exact s ⟨b,0,none⟩ cap _ H h8 X Aa
  ·rcases J.vP with⟨H,I⟩|⟨ar,sz,cc,H,I,h3,h4,h5,h6⟩
   ·exact C H I
   ·refine s ar l.length ((List.range (l.flatMap V.cells).length).map cc) H ⟨Af,?_,?_⟩ ?_ Aa
    ·intro u R
     obtain⟨j,hj,rfl⟩:=PI.1 R;rw[Qh]at hj;exact(h5 j _ (Pj hj)).2
    ·grind
    ·intro j u R
     rw[PK]at R;by_cases hj:j< (l.flatMap V.cells).length
     ·rw[List.getElem?_range hj]at R
      simp at R;subst R;exact(h5 j _ (Pj hj)).1
     ·simp_all
def contsK_sound(i:bP T P)(inv:Inv T Φ σ a w G){c:TypeId}(e:c<T.n c)(x:Operand){K:List V->Prop}(h:contsK (T.row c).kd σ (σ.ev x) K):∃xs,K xs/\bM xs/\∀z,(∀x∈xs,x.cells.length=z)->ASrc P w G c (a.eval x) z xs:=by
 unfold contsK at h;split at h;rename_i b;obtain⟨xs,f,j,k⟩:=aV9 inv x h;exact⟨xs,f,j,λz g=>k.app (jW (i c e) b) g⟩;rename_i s b l;have f:=(inv.ev x).1;rw[l]at f;refine⟨_,h,?_,λz g=>?_⟩;grind [aH,dL,strV];rw[f.bH];exact str_app (aF2 (i c e) b) s g;exact h.elim
def dV0{k:Kd}(h:dG6 k=true):k= .slice:=by cases k<;>first|rfl|cases h
def cB7(hT:bP T P)(inv:Inv T Φ σ a w G)(t I:TypeId)(s x:Operand)(ho:o.op= .call ⟨.builtin .append,⟨[s,x]⟩,⟨[t,I]⟩⟩)(ht:t<T.n t)(Y:I<T.n I)(h:kT T (T.row t) (T.row I).kd σ d (σ.ev s) (σ.ev x) K):Out T Φ σ a K ((execOp a.eval o).run P w):=by
 obtain⟨H,s2⟩:=inv.ev s
 have ab:(T.row t).kd= .slice->∀(J:Value) (w':World),(Builtin.append_ #[t,I] o.type #[a.eval s,a.eval x]).run P w= .ok J w'->(execOp a.eval o).run P w= .ok (.value J) w':=by
  intro f J w' X;simp only[execOp,ho,resolve,invoke,builtin,Qd,Qz,P9,List.map_toArray,PW,QC,X]
 have q:∀(k gen:Nat) (Q:AK) (l xs:List V),(∀g,σ.hasA k g->g<gen)->bM l->bM xs->(T.row t).kd= .slice->(T.row t).elem<T.n (T.row t).elem->ASrc P w G I (a.eval x) (T.row (T.row t).elem).size xs->(∀x∈l,x.cells.length=(T.row (T.row t).elem).size)->(∀x∈xs,x.cells.length=(T.row (T.row t).elem).size)->
  (l.length+xs.length)*(T.row (T.row t).elem).bytes<=140737488355328->l.length+xs.length<=140737488355328->((gJ T w G k (a.eval s) (T.row t).elem l/\(Q= .own\/Q= .ap))\/(Rv w G (a.eval s) (.cap l)/\Q= .ap))->
  K (.arr k gen) [.a k ⟨gen,Q,(T.row t).elem,l++xs⟩]->Out T Φ σ a K ((execOp a.eval o).run P w):=by
  intro k gen Q l xs z W j f E N aa hz hb U hu hk;obtain⟨J,w',G',X,O,S,h1⟩:=cV9 hT inv ht f E o.type z W j N aa hz hb U hu;refine⟨J,w',_,_,G', .inl (ab f J w' X),hk,O,?_,?_⟩
  ·subst S;exact .arr k gen h1
  ·exact Jp
 unfold kT at h;split at h
 ·rename_i f
  obtain⟨hc,h2⟩:=aT h;simp only[Px]at hc;have E:=blt hc.1;obtain⟨xs,r,j,e⟩:=contsK_sound hT inv Y x h2;split at r;rename_i M;rw[M]at H;split at r;rename_i R;obtain⟨⟨B,C,m⟩,D⟩:=dX r;exact q d 0 .own [] xs (zK R 0) BH j f E (e _ m) (λx hx=>by cases hx) m (by simpa using B) (by simpa using C) (.inl ⟨.inl ⟨.inl H.bH,rfl⟩, .inl rfl⟩) (by simpa using D);exact r.elim
  ·rename_i l M
   rw[M]at H s2;split at r
   ·rename_i R
    obtain⟨⟨B,C,m⟩,D⟩:=dX r;simp only[V.ok]at s2;cases l with
    |nil=>
     have hn:Nil0 (a.eval s):=by
      rcases H.vP with⟨h,_⟩|⟨ad,sz,cc,h,_⟩;exact .inl h;exact .inr ⟨ad,h⟩
     exact q d 0 .own [] xs (zK R 0) BH j f E (e _ λx hx=>m x BO) (λx hx=>by cases hx) (λx hx=>m x BO) B C (.inl ⟨.inl ⟨hn,rfl⟩, .inl rfl⟩) D
    |cons y l=>
    exact q d 0 .ap (y::l) xs (zK R 0) s2 j f E (e _ λx hx=>m x (Pv.2 (.inr hx))) (λx hx=>m x (Pv.2 (.inl hx))) (λx hx=>m x (Pv.2 (.inr hx))) B C (.inr ⟨H,rfl⟩) D
   exact r.elim
  rename_i k g M;rw[M]at H;split at r;rename_i en v;obtain⟨⟨hg,i,Z,B,C,m⟩,D⟩:=dX r;subst hg;have c:=inv.arr k en v;have z:∀g,σ.hasA k g->g<en.gen+1:=λg ⟨ac,q1,q2⟩=>by rw[v]at q1;cases q1;omega
  have F:=H.oQ;unfold gW at c;rw[Z]at c
  have A:∀ {u:Value},gJ T w G k u (T.row t).elem en.l->∀x∈en.l,x.cells.length=(T.row (T.row t).elem).size:=by
   intro u L x hx;rcases L with⟨_,h⟩|⟨b,cap,cur,_,_,_,_,_,_,h7,_⟩;rw[h]at hx;cases hx;exact h7 x hx
  rcases i with i|i;rw[i]at c;exact q k (en.gen+1) en.kind en.l xs z (inv.wfA k en v) j f E (e _ m) (A c.2) m B C (.inl ⟨by rw[F];exact c.2, .inl i⟩) D;rw[i]at c;rcases c.2 with c|c;exact q k (en.gen+1) en.kind en.l xs z (inv.wfA k en v) j f E (e _ m) (A c) m B C (.inl ⟨by rw[F];exact c, .inr i⟩) D;exact q k (en.gen+1) en.kind en.l xs z (inv.wfA k en v) j f E (e _ m) c.2 m B C (.inr ⟨by rw[F];exact c.1,i⟩) D;exact r.elim;exact r.elim
 exact h.elim
end
section
variable{T:Tab}{P:Program}{Φ:Fr}{σ:St}{a:Act}{w:World}{G:Gh}{K:VK}{o:Oper}{d:Nat}
def cL9{xs:List V}{sz:Nat}(g:∀x∈xs,x.cells.length=sz){l h:Nat}(j:Nat){y:V}(k:(((xs.take h).drop l).flatMap V.cells)[j]? =some y):(xs.flatMap V.cells)[l*sz+j]? =some y:=by
 have c:xs.take h=(xs.take h).take l++(xs.take h).drop l:=(Qq l _).symm;have e:xs=xs.take h++xs.drop h:=(Qq h xs).symm;by_cases i:l<=(xs.take h).length
 have b:(((xs.take h).take l).flatMap V.cells).length=l*sz:=by
  rw[sH (sz:=sz) (λx f=>g x (PO (PO f))),PG];congr 1;omega
 rw[e,QF,c,QF,Pq,List.getElem?_append_right Aa,b,Nat.add_sub_cancel_left];grind;grind
theorem qC(inv:Inv T Φ σ a w G)(x:Option Operand)(b:Int){K:Int->Prop}(h:bound (x.map σ.ev) b K):(x=none/\K b)\/∃y k n,x=some y/\a.eval y= .int k n/\K n:=by
 unfold bound at h;split at h;simp_all;rename_i k n c;cases x with
 |none=>simp at c
 |some y=>
  simp at c;have:=(inv.ev y).1;rw[c]at this;exact .inr ⟨y,k,n,rfl,this.bH,h⟩
 exact h.elim
def fV(k:IntKind)(n:Int)(y:Nat)(c:BoundsCode)(b:0<=n)(e:n<=y):(Instr.sliceBound (.int k n) y c).run P w= .ok n.toNat w:=by
 simp[Instr.sliceBound,asIntOf,b,e]
def aW3(isS:Bool)(c cap:Nat)(lo hi:Option Value)(l b:Int)(j:(lo=none/\l=0)\/∃k,lo=some (.int k l))(e:(hi=none/\b=c)\/∃k,hi=some (.int k b))(g:0<=l)(m:l<=b)(i:b<=cap):
 (Instr.sliceBounds isS c cap lo hi none).run P w= .ok (l.toNat,b.toNat,cap) w:=by
 rcases j with⟨rfl,rfl⟩|⟨k,rfl⟩
 ·rcases e with⟨rfl,rfl⟩|⟨f,rfl⟩
  ·simp[Instr.sliceBounds]
  ·simp[Instr.sliceBounds,fV f b cap _ Aa i]
 ·rcases e with⟨rfl,rfl⟩|⟨f,rfl⟩
  ·simp[Instr.sliceBounds,fV k l c _ g Aa]
  ·simp[Instr.sliceBounds,fV f b cap _ Aa i,fV k l b.toNat _ g Aa]
def cP5(isS:Bool)(f cap:Nat)(lo:Option Value)(l b:Int)(c e:IntKind)(j:(lo=none/\l=0)\/∃k,lo=some (.int k l))(i:0<=l)(m:l<=b)(g:b<=cap):
 (Instr.sliceBounds isS f cap lo (some (.int c b)) (some (.int e b))).run P w= .ok (l.toNat,b.toNat,b.toNat) w:=by
 rcases j with⟨rfl,rfl⟩|⟨k,rfl⟩
 ·simp[Instr.sliceBounds,fV e b cap _ Aa g,fV c b b.toNat _ Aa Aa]
 ·simp[Instr.sliceBounds,fV e b cap _ Aa g,fV c b b.toNat _ Aa Aa,fV k l b.toNat _ i Aa]
def cH8(hT:bP T P)(inv:Inv T Φ σ a w G)(t:TypeId)(x:Operand)(lo hi M:Option Operand)(ho:o.op= .slice t x lo hi M)(ht:t<T.n t)
 (h:sZ T (T.row t) σ (σ.ev x) (lo.map σ.ev) (hi.map σ.ev) (M.map σ.ev) K):Out T Φ σ a K ((execOp a.eval o).run P w):=by
 obtain⟨E,Z⟩:=inv.ev x
 have D:∀(z:Option Operand) (n I:Int),((z=none/\n=I)\/∃y k,z=some y/\a.eval y= .int k n)->((z.map a.eval=none/\n=I)\/∃k,z.map a.eval=some (.int k n)):=by
  grind
 unfold sZ at h;split at h
 ·rename_i s Q C
  rw[C]at E;have hu:=aF2 (hT t ht) Q;split at h
  ·rename_i hm
   have an:M=none:=by cases M<;>simp_all
   subst an
   have v:∀(l e:Int),((lo=none/\l=0)\/∃y k,lo=some y/\a.eval y= .int k l)->((hi=none/\e=s.size)\/∃y k,hi=some y/\a.eval y= .int k e)->need (0<=l/\l<=e/\e<=s.size) (K (.lit (.string (s.extract l.toNat e.toNat))) [])->Out T Φ σ a K ((execOp a.eval o).run P w):=by
    intro l e hl H hn;obtain⟨⟨X,Y,q3⟩,hk⟩:=dX hn;have hb:=aW3 (P:=P) (w:=w) false s.size s.size _ _ l e (D lo l 0 hl) (D hi e s.size H) X Y q3;refine .plain inv (v':= .string (s.extract l.toNat e.toNat)) ?_ hk (.lit _ rfl) dL;simp only[execOp,ho,E.bH,Instr.sliceAt,Qd,dI hu,P9,Instr.slice,Option.map_none,Option.isSome_none,Bool.false_eq_true,Rx,Qz,hb]
   rcases qC inv lo 0 h with⟨q,h⟩|⟨y,k,n,q,u,h⟩
   ·rcases qC inv hi _ h with⟨F,h⟩|⟨y',W,n',F,f2,h⟩
    ·simp_all
    ·simp_all
   ·grind [qC]
  ·exact h.elim
 ·rename_i Q
  have hu:=jW (hT t ht) Q;obtain⟨hc,h⟩:=aT h;have he:=blt hc
  obtain⟨xs,h,ao,ak⟩:∃xs,(bound (lo.map σ.ev) 0 λl=>bound (hi.map σ.ev) xs.length λh=>match M.map σ.ev with
   |none=>need (0<=l/\l<=h/\h<=xs.length/\(l=0\/∀x∈xs,x.cells.length=(T.row (T.row t).elem).size)) (K (.sl ((xs.take h.toNat).drop l.toNat)) [])
   |some m=>match hi.map σ.ev with
    |none=>False
    |some _=>bound (some m) 0 λm=>need (0<=l/\l<=h/\h<=xs.length/\m=h/\(l=0\/∀x∈xs,x.cells.length=(T.row (T.row t).elem).size)) (K (.cap ((xs.take h.toNat).drop l.toNat)) []))/\bM xs/\Rv w G (a.eval x) (.sl xs):=by
   unfold lV at h;split at h
   ·rename_i l C
    rw[C]at E Z;simp only[V.ok]at Z;exact⟨l,h,Z,E⟩
   ·rename_i l C
    rw[C]at E Z;simp only[V.ok]at Z;exact⟨l,h,Z,E.wK⟩
   ·rename_i C
    rw[C]at E;exact⟨[],h,BH,by rw[E.bH];exact .slN⟩
   ·rename_i k g C
    split at h
    ·rename_i en ab
     obtain⟨⟨hg,hk⟩,h⟩:=dX h;rw[C]at E;have R:=inv.arr k en ab;unfold gW at R;rw[hk]at R;exact⟨en.l,h,inv.wfA k en ab,by rw[E.oQ,<-hg];exact R⟩
    ·exact h.elim
   ·exact h.elim
  have hsub:∀l e:Nat,bM ((xs.take e).drop l):=λl e=>aH.2 λy S=>aH.1 ao y (PO (PU S))
  obtain⟨b,f,cap,hv,L,A⟩:∃b f cap,a.eval x= .slice b f cap/\f=xs.length/\((b=none/\f=0/\cap=0)\/∃r sz cc,b=some r/\f<=cap/\cap<=maxLen/\(0<f->G.O r.block= .fz)/\(∀x∈xs,x.cells.length=sz)/\At w r cc (xs.flatMap V.cells)/\∀(j:Nat) y,(xs.flatMap V.cells)[j]? =some y->Rv w G (cc j) y):=by
   rcases ak.bK8 with⟨q,u⟩|⟨r,c,sz,cc,q,u,e3,e4,U,e6,e7⟩;exact⟨none,0,0,q,by rw[u];rfl, .inl ⟨rfl,rfl,rfl⟩⟩;exact⟨some r,_,c,q,rfl, .inr ⟨r,sz,cc,rfl,u,e3,e4,U,e6,e7⟩⟩
  have au:f<=cap:=by rcases A with⟨_,h1,h2⟩|⟨_,_,_,_,h,_⟩<;>omega
  have N:∀(l e m:Nat),l<=e->e<=f->e<=m->m<=cap->(l=0\/∀x∈xs,x.cells.length=(T.row (T.row t).elem).size)->
   Rv w G (.slice (if m=l then b else b.map (·.add (l*(T.row (T.row t).elem).size))) (e-l) (m-l)) (.sl ((xs.take e).drop l))/\
   (m=e->Rv w G (.slice (if m=l then b else b.map (·.add (l*(T.row (T.row t).elem).size))) (e-l) (m-l)) (.cap ((xs.take e).drop l))):=by
   intro l e m X Y q3 q4 q5;have ac:((xs.take e).drop l).length=e-l:=by rw[Qm,PG];omega
   rcases A with⟨rfl,u,e3⟩|⟨r,sz,cc,rfl,u,e3,e4,U,e6,e7⟩
   ·have al:m=l:=by omega
    have h0:e-l=0:=Aa;have h1:m-l=0:=Aa;have ag:(xs.take e).drop l=[] :=PZ Aa;rw[Pm al,h0,h1,ag];exact⟨.slN,λ_=> .capN⟩
   ·
    obtain⟨i,aj,aa,ai⟩:∃i,(if m=l then some r else(some r).map (·.add (l*(T.row (T.row t).elem).size)))=some i/\i.block=r.block/\(l<e->i=r.add (l*sz)):=by
     by_cases af:m=l;rw[Pm af];exact⟨r,rfl,rfl,λh=>Aa⟩;rw[Ph af];refine⟨_,rfl,add_block _ _,λae=>?_⟩;rcases q5 with rfl|q5;simp;have aq:xs≠ [] :=by rintro rfl;simp at L;omega
     obtain⟨y,ys,rfl⟩:=List.exists_cons_of_ne_nil aq;rw[<-q5 y Af,U y Af]
    rw[aj]
    have B:At w i (λj=>cc (l*sz+j)) (((xs.take e).drop l).flatMap V.cells):=by
     intro j y S
     have ae:l<e:=by
      rcases Qx l e with h|h;exact h;rw[PZ (by omega:((xs.take e).drop l).length=0)]at S;simp at S
     rw[ai ae,add_add'];exact e6 _ y (cL9 U j S)
    have hrel:∀(j:Nat) y,(((xs.take e).drop l).flatMap V.cells)[j]? =some y->Rv w G (cc (l*sz+j)) y:=λj y S=>e7 _ y (cL9 U j S);have J:0< ((xs.take e).drop l).length->G.O i.block= .fz:=λh=>by rw[aa];exact e4 (by omega)
    have ah:∀x∈(xs.take e).drop l,x.cells.length=sz:=λx C=>U x (PO (PU C));constructor
    ·have:=Rv.slS (w:=w) (G:=G) i (m-l) ((xs.take e).drop l) sz _ Aa Aa J ah B hrel
     rwa [ac]at this
    ·intro am
     have:=Rv.capS (w:=w) (G:=G) i ((xs.take e).drop l) sz _ Aa J ah B hrel;rw[ac]at this;rw[am];exact this
  have run:∀(l e m:Nat),(Instr.sliceBounds true f cap (lo.map a.eval) (hi.map a.eval) (M.map a.eval)).run P w= .ok (l,e,m) w->
   (execOp a.eval o).run P w= .ok (.value (.slice (if m=l then b else b.map (·.add (l*(T.row (T.row t).elem).size))) (e-l) (m-l))) w:=by
   intro l e m hb;simp only[execOp,ho,hv,Instr.sliceAt,Qd,dI hu,P9,Instr.slice,hb,iV hT he,Qz]
  have v:∀(l e:Int),((lo=none/\l=0)\/∃y k,lo=some y/\a.eval y= .int k l)->((hi=none/\e=xs.length)\/∃y k,hi=some y/\a.eval y= .int k e)->
   (match M.map σ.ev with
   |none=>need (0<=l/\l<=e/\e<=xs.length/\(l=0\/∀x∈xs,x.cells.length=(T.row (T.row t).elem).size)) (K (.sl ((xs.take e.toNat).drop l.toNat)) [])
   |some m=>match hi.map σ.ev with
    |none=>False
    |some _=>bound (some m) 0 λm=>need (0<=l/\l<=e/\e<=xs.length/\m=e/\(l=0\/∀x∈xs,x.cells.length=(T.row (T.row t).elem).size)) (K (.cap ((xs.take e.toNat).drop l.toNat)) []))->Out T Φ σ a K ((execOp a.eval o).run P w):=by
   intro l e hl H hn;cases M with
   |none=>
    simp only[Option.map_none]at hn;obtain⟨⟨X,Y,q3,q4⟩,hk⟩:=dX hn;have hb:=aW3 (P:=P) (w:=w) true f cap _ _ l e (D lo l 0 hl) (D hi e f (by rw[L];exact H)) X Y Aa;have hnv:=(N l.toNat e.toNat cap Aa Aa Aa (Po _) (q4.imp (λh=>Hw) id)).1;exact Oj
   |some my=>
    rcases H with⟨rfl,_⟩|⟨yh,kh,rfl,ar⟩;exact hn.elim;simp only[Qg]at hn;rcases qC inv (some my) 0 G9 with⟨q,_⟩|⟨y',W,m,q,u,hn⟩;cases q;cases q;obtain⟨⟨X,Y,q3,q5,q4⟩,hk⟩:=dX hn;subst q5;have hb:=cP5 (P:=P) (w:=w) true f cap (lo.map a.eval) l m kh W (D lo l 0 hl) X Y Aa;rw[<-ar,<-u]at hb;have hnv:=(N l.toNat m.toNat m.toNat Aa Aa (Po _) Aa (q4.imp (λh=>Hw) id)).2 rfl;exact Oj
  rcases qC inv lo 0 h with⟨q,h⟩|⟨y,k,n,q,u,h⟩
  ·rcases qC inv hi _ h with⟨F,h⟩|⟨y',W,n',F,f2,h⟩
   ·exact v 0 xs.length (.inl ⟨q,rfl⟩) (.inl ⟨F,rfl⟩) h
   ·exact v 0 n' (.inl ⟨q,rfl⟩) (.inr ⟨y',W,F,f2⟩) h
  ·rcases qC inv hi _ h with⟨F,h⟩|⟨y',W,n',F,f2,h⟩
   ·exact v n xs.length (.inr ⟨y,k,q,u⟩) (.inl ⟨F,rfl⟩) h
   ·exact v n n' (.inr ⟨y,k,q,u⟩) (.inr ⟨y',W,F,f2⟩) h
 ·exact h.elim
end
section
variable{T:Tab}{P:Program}{Φ:Fr}{σ:St}{a:Act}{w:World}{G:Gh}{K:VK}{o:Oper}{d:Nat}
def dT4{d:TypeDesc}{k s:Value}{e:MapEntry}(g:e.key=k)(j:MapKept.IsKey d k)(m:MapKept.IsKey d s):∀(l:List MapEntry) (i:Nat),(∀e∈l,MapKept.IsKey d e.key)->Instr.findNow d k l i=some none->
 Instr.findNow d s (l++[e]) i= @ite _ (k=s) (Classical.propDecidable _) (some (some (i+l.length,e.val))) (Instr.findNow d s l i):=by
 intro l;induction l with
 |nil=>
  intro i _ _;obtain⟨r,u,B⟩:=Rf m j;simp only[Rh,Instr.findNow,g,u];grind
 |cons x r y=>
  intro i n v;have f:=n x Af;have C:=y (i+1) (λe g=>n e (by simp[g]));obtain⟨b,q,z⟩:=Rf j f;obtain⟨c,t,A⟩:=Rf m f;simp only[RN,Instr.findNow,q,t]at v⊢;grind
def cN7{d:TypeDesc}{k s:Value}{v:Value}(z:MapKept.IsKey d k)(A:MapKept.IsKey d s):∀(l:List MapEntry) (i j:Nat) (u:Value),(∀e∈l,MapKept.IsKey d e.key)->Instr.findNow d k l i=some (some (j,u))->
 ∃q,j=i+q/\(∃e,l[q]? =some e/\e.key=k)/\Instr.findNow d s (l.modify q λe=> {e with key:=k,val:=v}) i= @ite _ (k=s) (Classical.propDecidable _) (some (some (j,v))) (Instr.findNow d s l i):=by
 intro l;induction l with
 |nil=>intro i j u _ h;simp[Instr.findNow]at h
 |cons x r H=>
  intro i j u B f;have g:=B x Af;obtain⟨b,C,D⟩:=Rf z g;obtain⟨c,y,L⟩:=Rf A g;obtain⟨J,E,M⟩:=Rf A z;simp only[Instr.findNow,C]at f;cases b with
  |true=>
   simp only[Ql,QY]at f;obtain⟨rfl,rfl⟩:=f;have t:=D.1 rfl;refine⟨0,rfl,⟨x,rfl,t.symm⟩,?_⟩;simp only[List.modify_zero_cons,Instr.findNow,y,E];grind
  |false=>
   simp only at f;obtain⟨I,rfl,⟨e,m,n⟩,N⟩:=H (i+1) j u (λe F=>B e (by simp[F])) f;refine⟨I+1,Aa,⟨e,by simpa using m,n⟩,?_⟩;simp only[List.modify_succ_cons,Instr.findNow,y];grind
def eO1{c:Kd}{b:TypeDesc}(h:c=kdOf (some b))(e:dY9 c=true):keyD c=b:=by
 subst h;cases b<;>simp_all [kdOf,dY9,keyD]
def dF2{b:Kd}{s:Value}(h:cD3 b s=true):MapKept.IsKey (keyD b) s:=by
 unfold cD3 at h;split at h;split at h;exact trivial;cases h;split at h;have:=OZ h;subst this;exact rfl;cases h;cases h
def lit_key{b:Kd}{s:Value}(h:cD3 b s=true):litD s=keyD b:=by
 unfold cD3 at h;split at h;split at h;rfl;cases h;split at h;have:=OZ h;subst this;rfl;cases h;cases h
def aW5(c:bP T P){t:TypeId}(q:t<T.n t)(h:bD5 T (T.row t)=true):∃e b,P.underlying t=some (.map e b)/\P.underlying e=some (keyD (T.row (T.row t).alen).kd)/\b=(T.row t).elem/\b<T.n b/\(T.row b).agg=false:=by
 unfold bD5 at h;simp only[Px,RI]at h;obtain⟨⟨⟨⟨i,j⟩,k⟩,l⟩,m⟩:=h
 have p:(T.row t).kd= .map:=by
  revert i;cases(T.row t).kd<;>simp
 obtain⟨r,f,g,_⟩:=(c _ (blt k)).und;refine⟨_,_,eT8 (c t q) p,?_,rfl,blt l,m⟩;rw[eO1 g j];exact f
def bM3(v:bP T P)(inv:Inv T Φ σ a w G)(t:TypeId)(u:o.op= .makeMap t none)(x:t<T.n t)(h:oN T t σ d K):Out T Φ σ a K ((execOp a.eval o).run P w):=by
 unfold oN at h;split at h;rename_i q;obtain⟨_,r⟩:=aT h;let av':Nat->Nat->Value:=λj g=>if j=d/\g=0 then .map (some w.heap.size)else G.av j g
 have c:av' d 0= .map (some w.heap.size):=Hr;have f:∀b,b<w.heap.size->(w.alloc (.map #[] 0)).heap[b]? =w.heap[b]? :=λb e=>Ry w _ e
 have i:Inv T Φ (σ.apps [.a d ⟨0, .dead,t,[.bot]⟩]) a (w.alloc (.map #[] 0)) {G with av:=av',O:=upd G.O w.heap.size (.ar d)}:=by
  refine inv.zU (w':=w.alloc (.map #[] 0)) (k:=d) (en:=⟨0, .dead,t,[.bot]⟩) (av':=av') (O':=upd G.O w.heap.size (.ar d)) (λg l=>Ri (zK q 0 g l)) (λj g l=>?_) ?_ ?_ ?_ ?_ (λb e _=>f b e) Af rfl rfl rfl;have:¬(j=d/\g=0):=by rintro⟨rfl,rfl⟩;exact absurd (zK q 0 0 l) Aa
  simp[av',this];simp only[bM,V.okL,V.ok,and_self];exact⟨w.heap.size, #[],0,c,upd_same _ _ _,heap_alloc_new w _,Af,λs _=>rfl⟩;intro b e _;exact upd_ne _ _ (by have:=inv.tag b e;omega);intro b;by_cases m:b=w.heap.size;subst m;exact .inr (.inr (.inl ⟨upd_same _ _ _,aN0 inv,Af⟩));exact .inl (upd_ne _ _ m)
 refine⟨.map (some w.heap.size),w.alloc (.map #[] 0),_,_,_, .inl ?_,r,i,aQ0 (by rw[<-c]) rfl,?_⟩;simp[execOp,u,Instr.makeMap,Result.andThen];exact Jp;exact h.elim
def eF3(c:bP T P){t:TypeId}(f:t<T.n t)(e:(T.row t).agg=false){z:Value}(b:(zeroValue t).run P w= .ok z w):(T.row t).zero=[z] :=by
 obtain⟨i,g,l,m,k,h,p,q,r,s,j⟩:=(c _ f).info
 have:(zeroValue t).run P w= .ok k w:=by
  simp[zeroValue,cO9 g,h,Result.andThen]
 rw[this]at b;cases b;exact j e
def bZ4(B:bP T P)(inv:Inv T Φ σ a w G)(t:TypeId)(x y:Operand)(ho:o.op= .lookup t x y false)(ht:t<T.n t)(h:rG T t σ (σ.ev x) (σ.ev y) K):Out T Φ σ a K ((execOp a.eval o).run P w):=by
 obtain⟨J,Z⟩:=inv.ev x;obtain⟨L,y2⟩:=inv.ev y;unfold rG at h;split at h;rename_i k g s R S;rw[R]at J;rw[S]at L;split at h;rename_i en M;split at h;rename_i es N hl;obtain⟨hg,h2⟩:=dX h;obtain⟨m,D⟩:=aT h2;simp only[Px]at m;obtain⟨W,et,u1,u2,rfl,H,X⟩:=aW5 B ht m.1.1;have c:=dF2 m.1.2;have Q:en.ty=t:=Qp m.2;have u:=inv.arr k en M;unfold gW at u;rw[N,hl]at u;obtain⟨b,C,r,q1,q2,q3,I,F⟩:=(u:bL6 _ w G k _ es);rw[Q]at I F;have ex:a.eval x= .map (some b):=by rw[J.oQ,<-hg,q1]
 have ey:a.eval y=s:=L.bH;obtain⟨z,E,U,A,_⟩:=aC3 (w:=w) B H;have f:(T.row (T.row t).elem).zero=[z] :=eF3 B H X E;rw[f]at D;have j:=D.out;have hc:∀e,(Instr.checkKey e 10000 W s).run P w= .ok () w:=λe=>MapKept.run_checkKey u2 c e 9999;have q:=F s c;cases l:jG s es with
 |none=>
  rw[l]at q j;refine .plain inv (v':=z) ?_ j (.lit z (A z (by rw[f];simp))) (by simp only[Option.getD,V.ok]);simp[execOp,ho,ex,ey,Instr.lookup,dI u1,RF q3,hc,RQ u2 q,E,Result.andThen]
 |some Y=>
  rw[l]at q j;obtain⟨i,v,r1,r2,r3,r4⟩:=q;refine .plain inv (v':=v) ?_ j r3 (r4.ok _ _);exact ND
 exact h.elim;exact h.elim;rename_i g cs s R S;rw[R]at J Z;rw[S]at L;split at h;rename_i kz es;obtain⟨m,D⟩:=aT h;simp only[Px]at m;obtain⟨W,et,u1,u2,rfl,H,X⟩:=aW5 B ht m.1.1;have c:=dF2 m.1.2;have O:litD kz=keyD (T.row (T.row t).alen).kd:=lit_key m.2;obtain⟨b,C,r,val,ex,q3,I,F,q6⟩:=J.mp_inv;rw[O]at I F q6;have ey:a.eval y=s:=L.bH;obtain⟨z,E,U,A,_⟩:=aC3 (w:=w) B H;have f:(T.row (T.row t).elem).zero=[z] :=eF3 B H X E;rw[f]at D;have j:=D.out;have hc:∀e,(Instr.checkKey e 10000 W s).run P w= .ok () w:=λe=>MapKept.run_checkKey u2 c e 9999;cases l:jG s es with
 |none=>
  rw[l]at j;refine .plain inv (v':=z) ?_ j (.lit z (A z (by rw[f];simp))) (by simp only[Option.getD,V.ok]);simp[execOp,ho,ex,ey,Instr.lookup,dI u1,RF q3,hc,RQ u2 (I s c l),E,Result.andThen]
 |some Y=>
  rw[l]at j;obtain⟨⟨i,r1⟩,r2⟩:=F s Y c l;have hp:bM es:=by simp only[V.ok,V.okL]at Z;exact Z.2.2.1
  refine .plain inv (v':=val s) ?_ j (q6 s Y c l) ((assoc_pure hp l).ok _ _);exact ND
 exact h.elim;exact h.elim
def cQ6{x:V}{p:Nat->Prop}{q:Nat->Nat->Prop}(h:x.atom=true)(hok:x.ok p q):x.pure:=Jj
def Rv.dV8{w:World}{G:Gh}{v:Value}{x:V}(h:Rv w G v x)(b:x.atom=true):v.oneCell'=true:=by
 cases h with
 |lit u c=>exact c
 |slN=>rfl
 |slS=>rfl
 |capN=>rfl
 |capS=>rfl
 |fn=>rfl
 |fb=>rfl
 |mp=>rfl
 |_=>simp[V.atom]at b
def aA0(hT:bP T P)(inv:Inv T Φ σ a w G)(t:TypeId)(x y z:Operand)(X:o.op= .mapUpdate t x y z\/o.op= .insert t x y z)(ht:t<T.n t)(h:iE T t σ (σ.ev x) (σ.ev y) (σ.ev z) K):Out T Φ σ a K ((execOp a.eval o).run P w):=by
 obtain⟨x1,x2⟩:=inv.ev x;obtain⟨y1,y2⟩:=inv.ev y;obtain⟨z1,z2⟩:=inv.ev z;unfold iE at h;split at h;rename_i k g s hx hy;rw[hx]at x1;rw[hy]at y1;split at h;rename_i en R;split at h;rename_i es ad hl;obtain⟨hg,h2⟩:=dX h;obtain⟨I,h3⟩:=aT h2;simp only[Px]at I;obtain⟨kt,et,u1,u2,rfl,u4,u5⟩:=aW5 hT ht I.1.1.1;have u:=dF2 I.1.1.2;have H:en.ty=t:=Qp I.1.2;have F:=inv.arr k en R;unfold gW at F;rw[ad,hl]at F;obtain⟨b,l,r,q1,Y,J,q4,q5⟩:=(F:bL6 _ w G k _ es);rw[H]at q4 q5;generalize N:keyD (T.row (T.row t).alen).kd=L at*;have ex:a.eval x= .map (some b):=by rw[x1.oQ,<-hg,q1]
 have ey:a.eval y=s:=y1.bH;have hc:∀e,(Instr.checkKey e 10000 kt s).run P w= .ok () w:=λe=>MapKept.run_checkKey u2 u e 9999;have zp:(σ.ev z).pure:=cQ6 I.2 z2;have zo:(a.eval z).oneCell'=true:=z1.dV8 I.2
 have key:∃f c,(Instr.mapUpdate t (.map (some b)) s (a.eval z)).run P w= .ok () {w with heap:=w.heap.setIfInBounds b (.map f c)}/\(∀e∈f.toList,MapKept.IsKey L e.key)/\
  ∀A,MapKept.IsKey L A->∃j,Instr.findNow L A f.toList 0= @ite _ (s=A) (Classical.propDecidable _) (some (some (j,a.eval z))) (Instr.findNow L A l.toList 0):=by
  have U:=q5 s u;cases M:jG s es with
  |none=>
   rw[M]at U;refine⟨l.push {key:=s,val:=a.eval z,born:=r},r+1,?_,?_,λA m=>?_⟩;simp[Instr.mapUpdate,dI u1,RF J,hc,RQ u2 U,MapKept.run_setObj_map _ J,Result.andThen];grind;refine⟨0+l.toList.length,?_⟩;rw[Array.toList_push];exact dT4 rfl u m _ 0 q4 U
  |some vv=>
   rw[M]at U;obtain⟨i,v,Z,_,_,_⟩:=U;have hm:=λA m=>cN7 (d:=L) (k:=s) (s:=A) (v:=a.eval z) u m l.toList 0 i v q4 Z;obtain⟨q,hi,⟨e,aa,ab⟩,_⟩:=hm s u;have ac:i=q:=Aa;subst ac;have E:l[i]? =some e:=by simpa using aa
   refine⟨l.modify i λe=> {e with key:=s,val:=a.eval z},r,?_,?_,λA m=>?_⟩;simp[Instr.mapUpdate,dI u1,RF J,hc,RQ u2 Z,E,ab,MapKept.run_keyThatStays u,MapKept.run_setObj_map _ J,Result.andThen];intro e' Q;rw[Array.toList_modify]at Q;obtain⟨j,ag⟩:=P7 Q;grind;grind
 obtain⟨f,c,k1,k2,k3⟩:=key;have ae:b<w.heap.size:=inv.tag b (by rw[Y];simp);have D:∀C,C≠b->({w with heap:=w.heap.setIfInBounds b (.map f c)}:World).heap[C]? =w.heap[C]? :=λC B=>(MapKept.heap_set J).2 C B;have S:Keep w {w with heap:=w.heap.setIfInBounds b (.map f c)} G {G with av:=G.av,O:=G.O}:=⟨λ_ h=>h,λC B=>D C (by rintro rfl;rw[Y]at B;cases B)⟩
 have W:Inv T Φ (σ.apps [.a k ⟨en.gen, .dead,en.ty, .bot:: .tup [.lit s,σ.ev z] ::es⟩]) a {w with heap:=w.heap.setIfInBounds b (.map f c)} {G with av:=G.av,O:=G.O}:=by
  refine inv.zU (w':={w with heap:=w.heap.setIfInBounds b (.map f c)}) (k:=k) (en:=⟨en.gen, .dead,en.ty, .bot:: .tup [.lit s,σ.ev z] ::es⟩) (av':=G.av) (O':=G.O) ?_ (λ_ _ _=>rfl) ?_ ?_ (λ_ _ _=>rfl) (λ_=> .inl rfl) (λC B hn=>D C (by rintro rfl;exact hn Y)) Af rfl rfl rfl;rintro g' ⟨af,e1,e2⟩;simp_all;have:=inv.wfA k en R;rw[hl]at this;simp_all [true_and,and_true,bM,V.okL,V.ok];refine⟨b,f,c,q1,Y,(MapKept.heap_set J).1,by rw[H,N];exact k2,λA m=>?_⟩;rw[H,N]at m⊢;obtain⟨j,E⟩:=k3 A m;by_cases hs:s=A;subst hs;rw[Pm rfl]at E;simp only[jG,QM];exact⟨j,_,E,zo,z1.aW S zp,zp⟩;rw[Ph hs]at E;simp only[jG,hs,Rx];have:=q5 A m;cases M:jG A es with
  |none=>rw[M]at this;rw[E];exact this
  |some vv=>
   rw[M]at this;obtain⟨i,v,Z,r2,r3,r4⟩:=this;exact⟨i,v,E.trans Z,r2,r3.aW S r4,r4⟩
 refine⟨undef,_,_,_,_, .inr ⟨?_,rfl⟩,h3,W, .bot _,Bq⟩;rcases X with X|X<;>simp[execOp,X,ex,ey,k1,Result.andThen];exact h.elim;exact h.elim;exact h.elim
end
section
variable{T:Tab}{P:Program}{Φ:Fr}{σ:St}{a:Act}{w:World}{G:Gh}{K:VK}{o:Oper}{d:Nat}
def Inv.newFrz(inv:Inv T Φ σ a w G){k:Nat}(E:σ.ar k=none){w':World}{ty:TypeId}{l:List V}{cc:Nat->Value}{cap sz:Nat}(r:l.length<=cap)(F:cap<=maxLen)(L:∀x∈l,x.cells.length=sz)(I:bM l)
 (A:At w' ⟨w.heap.size,0,none⟩ cc (l.flatMap V.cells))(J:∀G':Gh,∀(j:Nat) y,(l.flatMap V.cells)[j]? =some y->Rv w' G' (cc j) y)
 (H:∀b,b<w.heap.size->w'.heap[b]? =w.heap[b]?)(D:w.heap.size<w'.heap.size)(C:w'.os=w.os)(m:w'.tape=w.tape)(t:w'.output=w.output):
 ∃G',Inv T Φ (σ.apps [.a k ⟨0, .frz,ty,l⟩]) a w' G'/\G'.av k 0= .slice (some ⟨w.heap.size,0,none⟩) l.length cap:=by
 have s:∀g,¬σ.hasA k g:=λg ⟨en,h,_⟩=>by rw[E]at h;cases h
 let av':Nat->Nat->Value:=λv g=>if v=k/\g=0 then .slice (some ⟨w.heap.size,0,none⟩) l.length cap else G.av v g
 have u:=inv.zU (w':=w') (k:=k) (en:=⟨0, .dead,ty,[]⟩) (av':=av') (O':=upd G.O w.heap.size (.ar k)) (λg f=>(s g f).elim) (λv g f=>by
  have:¬(v=k/\g=0):=by rintro⟨rfl,rfl⟩;exact s _ f
  simp[av',this]) BH (by unfold gW;trivial)
  (λb z _=>upd_ne _ _ (by have:=inv.tag b z;omega)) (λb=>by
   by_cases e:b=w.heap.size;subst e;exact .inr (.inr (.inl ⟨upd_same _ _ _,aN0 inv,D⟩))
   exact .inl (upd_ne _ _ e)) (λb z _=>H b z) (Ri D) C m t
 let O':Nat->Tag:=upd G.O w.heap.size .fz;have q:av' k 0= .slice (some ⟨w.heap.size,0,none⟩) l.length cap:=Hr;have n:∀b,b≠w.heap.size->O' b=upd G.O w.heap.size (.ar k) b:=λb e=>by show upd _ _ _ b=upd _ _ _ b;rw[upd_ne _ _ e,upd_ne _ _ e]
 have c:upd G.O w.heap.size (.ar k) w.heap.size= .ar k:=upd_same _ _ _
 have i:=u.zU (w':=w') (k:=k) (en:=⟨0, .frz,ty,l⟩) (av':=av') (O':=O') (λg f=>by
  obtain⟨en,h,f⟩:=f;have h:upd σ.ar k _ k=some en:=h
  rw[upd_same]at h;cases h;exact f) (λv g f=>rfl) I (by
   unfold gW;show Rv w' _ (av' k 0) (.sl l);rw[q];exact .slS _ _ _ _ cc r F (λ_=>upd_same _ _ _) L A (J _))
  (λb z B=>by
   refine n b λe=>?_;subst e
   exact B c) (λb=>by
   by_cases e:b=w.heap.size;subst e;exact .inr (.inr (.inr ⟨upd_same _ _ _,c⟩))
   exact .inl (n b e)) (λb _ _=>rfl) (Po _) rfl rfl rfl
 refine⟨{G with av:=av',O:=O'},?_,q⟩
 have e:(σ.apps [.a k ⟨0, .dead,ty,[]⟩]).apps [.a k ⟨0, .frz,ty,l⟩] =σ.apps [.a k ⟨0, .frz,ty,l⟩] :=by
  show({σ with ar:=upd (upd σ.ar k _) k _}:St)={σ with ar:=upd σ.ar k _};congr 1;funext j;grind [upd_same,upd_ne]
 rw[e]at i;exact i
theorem convB_sound(m:bP T P)(inv:Inv T Φ σ a w G)(s t:TypeId)(x:Operand)(F:o.op= .convert s t x)(q:(T.row s).kd= .str)(h:convB T σ d s t (σ.ev x) K):Out T Φ σ a K ((execOp a.eval o).run P w):=by
 unfold convB at h;split at h;rename_i b E H;obtain⟨v,h⟩:=aT h;simp only[Px]at v;obtain⟨⟨⟨⟨z,A⟩,B⟩,Q⟩,C⟩:=v;obtain⟨R,D⟩:=dX h;have J:(T.row t).kd= .slice:=dV0 B
 have L:(T.row (T.row t).elem).kd= .int .u8:=by
  grind [isU8]
 have M:=aF2 (m s (blt z)) q;have N:=jW (m t (blt A)) J;have O:=bY7 (m _ (blt C)) L;have u:=(inv.ev x).1;rw[H]at u;have r:(strV b).length=b.size:=Dx
 have i:(strV b).flatMap V.cells=strV b:=by
  unfold strV;induction b.data.toList with
  |nil=>rfl
  |cons c l I=>rw[PW,Qk,I];rfl
 have e:∀(j:Nat) y,(strV b)[j]? =some y->j<b.size/\y= .lit (.int .u8 (b.data.toList.getD j 0).toNat):=λj y f=>by
  have g:j<b.size:=by rw[<-r];exact(Pg.1 f).1
  refine⟨g,?_⟩;unfold strV at f;simp_all
 obtain⟨G',k,n⟩:=inv.newFrz E (w':=Go.Lib.bytesWorld w (T.row t).elem b) (ty:=(T.row t).elem) (l:=strV b) (cc:=λj=> .int .u8 (b.data.toList.getD j 0).toNat) (cap:=grownCap w b.size 0 (T.row t).elem) (sz:=1)
  (by rw[r];exact grownCap_ge w b.size 0 _) (grownCap_le_maxLen w _ _ _ Dl) (λy f=>by
   obtain⟨j,g⟩:=P7 f
   rw[(e j y g).2];rfl) (aH.2 λy f=>by
   obtain⟨j,g⟩:=P7 f;rw[(e j y g).2];exact dL)
  (by
   rw[i];intro j y f;refine⟨?_,rfl⟩;rw[rY,QD];exact Go.Lib.bytesWorld_cell w _ b j (e j y f).1)
  (by
   rw[i];intro G' j y f;rw[(e j y f).2];exact .lit _ rfl)
  (λj g=>Go.Lib.bytesWorld_at_old w _ b j g) (by rw[Go.Lib.bytesWorld_size];omega) rfl rfl rfl
 refine⟨.slice (some ⟨w.heap.size,0,none⟩) b.size (grownCap w b.size 0 (T.row t).elem),Go.Lib.bytesWorld w (T.row t).elem b,_,_,G', .inl ?_,D,k,aQ0 (by rw[n,r]) rfl,?_⟩;simp only[execOp,F,u.bH,Qd,Go.Lib.run_convert_string_bytes w s t _ b M N O,P9,Qz];exact Jp;exact h.elim
def cD9(g:bP T P)(inv:Inv T Φ σ a w G)(s t:TypeId)(x:Operand)(B:o.op= .convert s t x)(h:aF1 T σ d s t (σ.ev x) K):Out T Φ σ a K ((execOp a.eval o).run P w):=by
 unfold aF1 at h;split at h;grind [convB_sound];rename_i q;obtain⟨y,h⟩:=aT h;simp only[Px]at y;obtain⟨⟨⟨⟨H,I⟩,U⟩,W⟩,J⟩:=y
 have R:(T.row t).kd= .str:=by
  grind [isStr]
 have S:(T.row (T.row s).elem).kd= .int .u8:=by
  grind [isU8]
 have D:=jW (g s (blt H)) q;have E:=aF2 (g t (blt I)) R;have F:=bY7 (g _ (blt J)) S;obtain⟨xs,O,X,f⟩:=aV9 inv x h;obtain⟨ns,r,p⟩:=cC4 O;subst r
 have b:∀l:List Int,(l.map (λn=>V.lit (.int .u8 n))).flatMap V.cells=l.map (λn=>V.lit (.int .u8 n)):=by
  intro l;induction l with
  |nil=>rfl
  |cons n l Q=>rw[PW,Qk,Q];rfl
 have u:(convert s t (a.eval x)).run P w= .ok (.string (strOf ns)) w:=by
  rcases f with⟨k,L⟩|⟨i,c,sz,k,_,_,_,z⟩;have e:ns=[] :=by simpa using L
  subst e;rw[k,run_convert_bytes_string w s t _ none 0 0 D F E];rfl;rw[k,run_convert_bytes_string w s t _ (some i) _ c D F E];rw[b]at z;obtain⟨cc,m,hrel⟩:=z.out;refine run_bytesToString w i _ c ns ?_;have A:=run_loadCells_list (P:=P) (w:=w) i (ns.map (Value.int .u8)) (λj v hv=>?_);rw[P6]at A⊢;exact A;rw[PK]at hv;cases e:ns[j]? with
  |none=>rw[e]at hv;cases hv
  |some n=>
   rw[e]at hv;cases hv;have C:(ns.map (λn=>V.lit (.int .u8 n)))[j]? =some (.lit (.int .u8 n)):=by rw[PK,e];rfl
   have M:=(m j _ C).1;have N:cc j= .int .u8 n:=(hrel j _ C).bH;rw[M,N]
 exact .plain inv (v':= .string (strOf ns)) (by simp only[execOp,B,Qd,u,P9,Qz]) p (.lit _ rfl) dL;exact cY0 g inv s t x B h
def eF4{u:Option TypeDesc}{k:IntKind}(h:kdOf u= .int k):u=some (.int k):=by
 cases u with
 |none=>simp[kdOf]at h
 |some b=>cases b<;>simp[kdOf]at h;subst h;rfl
def dX0{u:Option TypeDesc}(h:kdOf u= .str):u=some .string:=KR
def dS0{u:Option TypeDesc}(h:kdOf u= .bool):u=some .bool:=KR
def qF{t:TypeId}{b:TypeDesc}(c:P.underlying t=some b)(e:aggB (some b)=false)(xs:Array Value)(off:Nat){v:Value}(hv:xs[off]? =some v):(part t xs off).run P w= .ok v w:=by
 have:(isAgg t).run P w= .ok false w:=by cases b<;>simp_all [isAgg,dI c,aggB]
 simp[part,this,hv]
def aS4{cs:Array Value}{xs:List V}(b:cs.size=xs.length)(e:∀(i:Nat) c x,cs[i]? =some c->xs[i]? =some x->Rv w G c x){i:Nat}{u:Value}(h:nth xs i=some (.lit u)):cs[i]? =some u:=by
 rw[uN]at h;have hi:i<cs.size:=by rw[b];exact(Pg.1 h).1
 have:=e i cs[i] _ (by simp[hi]) h;rw[<-this.bH];simp[hi]
def bY8(dp:Nat)(xs ys:Array Value)(f:Field):Sem (ForInStep (Option Bool×Unit)):=
 if f.name= "_" then pure (ForInStep.yield (none,()))
 else do
  let u<-part f.type xs f.offset;let v<-part f.type ys f.offset;let b<-Op.equalIn dp f.type u v
  if b=false then pure (ForInStep.done (some false,()))else pure (ForInStep.yield (none,()))
def cN3(b:bP T P){t:TypeId}(c:t<T.n t)(e:(T.row t).agg=true)(cs:Array Value)(off:Nat):(part t cs off).run P w= .ok (.agg (cs.extract off (off+(T.row t).size))) w:=by
 simp[part,yG b c,e,iV b c]
def dC5{cs:Array Value}{xs:List V}(b:cs.size=xs.length)(e:∀(i:Nat) c x,cs[i]? =some c->xs[i]? =some x->Rv w G c x)(off z:Nat):
 (cs.extract off (off+z)).size=(rO (jX xs off) z).length/\∀(i:Nat) c x,(cs.extract off (off+z))[i]? =some c->(rO (jX xs off) z)[i]? =some x->Rv w G c x:=by
 rw[aD3,lQ];grind
def aX8(L:bP T P){e:TypeId->List V->List V->Option Bool}{D:Nat}(E:∀(t:TypeId) (cs ds:Array Value) (xs ys:List V) (b:Bool),t<T.n t->cs.size=xs.length->(∀(i:Nat) c x,cs[i]? =some c->xs[i]? =some x->Rv w G c x)->ds.size=ys.length->(∀(i:Nat) c x,ds[i]? =some c->ys[i]? =some x->Rv w G c x)->e t xs ys=some b->(Op.equalIn (D+1) t (.agg cs) (.agg ds)).run P w= .ok b w)
 {cs ds:Array Value}{xs ys:List V}(H:cs.size=xs.length)(I:∀(i:Nat) c x,cs[i]? =some c->xs[i]? =some x->Rv w G c x)(l:ds.size=ys.length)(q:∀(i:Nat) c x,ds[i]? =some c->ys[i]? =some x->Rv w G c x)
 {off z:Nat}{t:TypeId}(W:t<T.n t->z=(T.row t).size){r:List (Nat×Nat×Kd×TypeId)}{b:Bool}(h:kX T e ((off,z,kdOf (P.underlying t),t)::r) xs ys=some b):
 ∃u v f g,(part t cs off).run P w= .ok u w/\(part t ds off).run P w= .ok v w/\(Op.equalIn (D+1) t u v).run P w= .ok f w/\kX T e r xs ys=some g/\b=(f&&g):=by
 have j:∀(u v:Value) (f:Bool),(part t cs off).run P w= .ok u w->(part t ds off).run P w= .ok v w->(Op.equalIn (D+1) t u v).run P w= .ok f w->(kX T e r xs ys).map (andB f)=some b->
  ∃u v f g,(part t cs off).run P w= .ok u w/\(part t ds off).run P w= .ok v w/\(Op.equalIn (D+1) t u v).run P w= .ok f w/\kX T e r xs ys=some g/\b=(f&&g):=by
  intro u v f O Q R F;cases C:kX T e r xs ys with
  |none=>rw[C]at F;cases F
  |some g=>
   rw[C]at F;exact⟨u,v,f,g,O,Q,R,rfl,by simpa [andB]using F.symm⟩
 have nested:(T.row t).agg=true->(match Nat.blt t (T.n t),e t (rO (jX xs off) z) (rO (jX ys off) z)with
  |true,some f=>(kX T e r xs ys).map (andB f)
  |_,_=>none)=some b->∃u v f g,(part t cs off).run P w= .ok u w/\(part t ds off).run P w= .ok v w/\(Op.equalIn (D+1) t u v).run P w= .ok f w/\kX T e r xs ys=some g/\b=(f&&g):=by
  intro ha M;split at M
  ·rename_i f S U
   have ht:=blt S;have N:=W ht;subst N;obtain⟨X,Y⟩:=dC5 H I off (T.row t).size;obtain⟨Z,q4⟩:=dC5 l q off (T.row t).size;exact j _ _ f (cN3 L ht ha cs off) (cN3 L ht ha ds off) (E t _ _ _ _ f ht X Y Z q4 U) M
  ·cases M
 have h':(match kdOf (P.underlying t)with
  | .struct=>match Nat.blt t (T.n t),e t (rO (jX xs off) z) (rO (jX ys off) z)with
    |true,some f=>(kX T e r xs ys).map (andB f)
    |_,_=>none
  | .array=>match Nat.blt t (T.n t),e t (rO (jX xs off) z) (rO (jX ys off) z)with
    |true,some f=>(kX T e r xs ys).map (andB f)
    |_,_=>none
  |kd=>match nth xs off,nth ys off,kd with
   |some (.lit (.int k a)),some (.lit (.int J b)), .int _=>cond (decide (k=J)) ((kX T e r xs ys).map (andB (eqB a b))) none
   |some (.lit (.string a)),some (.lit (.string b)), .str=>(kX T e r xs ys).map (andB (eqSB a b))
   |some (.lit (.bool a)),some (.lit (.bool b)), .bool=>(kX T e r xs ys).map (andB (eqBB a b))
   |_,_,_=>none)=some b:=h
 have aggOf:∀dd,P.underlying t=some dd->aggB (some dd)=true->t<T.n t->(T.row t).agg=true:=by
  intro dd hu ha ht;obtain⟨d2,s,_,y,_⟩:=(L t ht).und;rw[hu]at s;cases s;rw[y];exact ha
 split at h'
 ·exact Iw
 ·exact Iw
 ·split at h'
  ·rename_i k m J n kk s B y
   cases A:decide (k=J)with
   |false=>rw[A]at h';cases h'
   |true=>
    have:k=J:=by simpa using A
    subst this;rw[A]at h';have hu:=eF4 y;exact j _ _ (eqB m n) (qF hu rfl cs _ (aS4 H I s)) (qF hu rfl ds _ (aS4 l q B)) (by simp[Op.equalIn,dI hu,eqB];exact Qv.2 (by simp)) h'
  ·rename_i m n s B y
   have hu:=dX0 y;exact j _ _ (eqSB m n) (qF hu rfl cs _ (aS4 H I s)) (qF hu rfl ds _ (aS4 l q B)) (by simp[Op.equalIn,dI hu,eqSB]) h'
  ·rename_i m n s B y
   have hu:=dS0 y;exact j _ _ (eqBB m n) (qF hu rfl cs _ (aS4 H I s)) (qF hu rfl ds _ (aS4 l q B)) (by simp[Op.equalIn,dI hu,eqBB]) h'
  ·cases h'
def bN5(B:bP T P){j:TypeId->List V->List V->Option Bool}{D:Nat}(g:∀(t:TypeId) (cs ds:Array Value) (xs ys:List V) (b:Bool),t<T.n t->cs.size=xs.length->(∀(i:Nat) c x,cs[i]? =some c->xs[i]? =some x->Rv w G c x)->ds.size=ys.length->(∀(i:Nat) c x,ds[i]? =some c->ys[i]? =some x->Rv w G c x)->j t xs ys=some b->(Op.equalIn (D+1) t (.agg cs) (.agg ds)).run P w= .ok b w)
 {cs ds:Array Value}{xs ys:List V}(C:cs.size=xs.length)(E:∀(i:Nat) c x,cs[i]? =some c->xs[i]? =some x->Rv w G c x)(m:ds.size=ys.length)(q:∀(i:Nat) c x,ds[i]? =some c->ys[i]? =some x->Rv w G c x):
 ∀(l:List Field) (b:Bool),(∀f∈l,f.name≠ "_")->(∀f∈l,f.type<T.n f.type->vI P f.type=(T.row f.type).size)->kX T j (l.map (λf=>(f.offset,vI P f.type,kdOf (P.underlying f.type),f.type))) xs ys=some b->
  (forIn l ((none,()):Option Bool×Unit) λf _=>bY8 (D+1) cs ds f).run P w= .ok (if b then(none,())else(some false,())) w:=by
 intro l;induction l with
 |nil=>
  intro b _ _ h;exact Ob
 |cons f r F=>
  intro b s y h;have e:=s f Af;obtain⟨u,v,z,A,H,I,J,L,rfl⟩:=aX8 B g C E m q (y f Af) h;have ih':=F A (λf k=>s f (by simp[k])) (λf k=>y f (by simp[k])) L;simp only[List.forIn_cons,bY8,e,Rx,Qd,H,I,P9,J];cases z with
  |false=>simp
  |true=>exact KG
def cT9(dp:Nat)(e:TypeId)(n:Nat)(xs ys:Array Value)(i:Nat):Sem (ForInStep (Option Bool×Unit)):=do
 let u<-part e xs (i*n);let v<-part e ys (i*n);let b<-Op.equalIn dp e u v
 if b=false then pure (ForInStep.done (some false,()))else pure (ForInStep.yield (none,()))
theorem dA7(z:Nat)(b:Kd)(e:TypeId)(n:Nat):aZ5 z b e n=(List.range n).map λi=>(i*z,z,b,e):=by
 induction n with
 |zero=>rfl
 |succ n c=>
  show appR (aZ5 z b e n) [(n*z,z,b,e)] =_;rw[bT,c,List.range_succ,Qa];rfl
def bX8(y:bP T P){j:TypeId->List V->List V->Option Bool}{D:Nat}(g:∀(t:TypeId) (cs ds:Array Value) (xs ys:List V) (b:Bool),t<T.n t->cs.size=xs.length->(∀(i:Nat) c x,cs[i]? =some c->xs[i]? =some x->Rv w G c x)->ds.size=ys.length->(∀(i:Nat) c x,ds[i]? =some c->ys[i]? =some x->Rv w G c x)->j t xs ys=some b->(Op.equalIn (D+1) t (.agg cs) (.agg ds)).run P w= .ok b w)
 {cs ds:Array Value}{xs ys:List V}(z:cs.size=xs.length)(A:∀(i:Nat) c x,cs[i]? =some c->xs[i]? =some x->Rv w G c x)(k:ds.size=ys.length)(m:∀(i:Nat) c x,ds[i]? =some c->ys[i]? =some x->Rv w G c x){e:TypeId}(_:e<T.n e):
 ∀(l:List Nat) (b:Bool),kX T j (l.map (λi=>(i*(T.row e).size,(T.row e).size,kdOf (P.underlying e),e))) xs ys=some b->
  (forIn l ((none,()):Option Bool×Unit) λi _=>cT9 (D+1) e (T.row e).size cs ds i).run P w= .ok (if b then(none,())else(some false,())) w:=by
 intro l;induction l with
 |nil=>
  intro b h;exact Ob
 |cons f r B=>
  intro b h;obtain⟨u,v,q,s,C,E,F,H,rfl⟩:=aX8 y g z A k m (λ_=>rfl) h;have ih':=B s H;simp only[List.forIn_cons,cT9,Qd,C,E,P9,F];cases q with
  |false=>simp
  |true=>exact KG
def eM4(g:bP T P):∀(n D:Nat) (t:TypeId) (cs ds:Array Value) (xs ys:List V) (b:Bool),t<T.n t->cs.size=xs.length->(∀(i:Nat) c x,cs[i]? =some c->xs[i]? =some x->Rv w G c x)->ds.size=ys.length->(∀(i:Nat) c x,ds[i]? =some c->ys[i]? =some x->Rv w G c x)->
 eqT T n t xs ys=some b->(Op.equalIn (D+1+n) t (.agg cs) (.agg ds)).run P w= .ok b w:=by
 intro n;induction n with
 |zero=>intro D t cs ds xs ys b _ _ _ _ _ h;cases(h:none=some b)
 |succ n ih=>
  intro D t cs ds xs ys b F L M u v h
  have e:cond (T.row t).eq (match(T.row t).kd with
   | .struct=>kX T (eqT T n) (T.row t).flds xs ys
   | .array=>cond (Nat.blt (T.row t).elem (T.n (T.row t).elem)) (kX T (eqT T n) (aZ5 (T.row (T.row t).elem).size (T.row (T.row t).elem).kd (T.row t).elem (T.row t).alen) xs ys) none
   |_=>none) none=some b:=h
  cases q:(T.row t).eq with
  |false=>rw[q]at e;cases e
  |true=>
   rw[q,Qo]at e;obtain⟨S,q2,U⟩:=(g t F).eqs q
   have k:∀(t:TypeId) (cs ds:Array Value) (xs ys:List V) (b:Bool),t<T.n t->cs.size=xs.length->(∀(i:Nat) c x,cs[i]? =some c->xs[i]? =some x->Rv w G c x)->ds.size=ys.length->(∀(i:Nat) c x,ds[i]? =some c->ys[i]? =some x->Rv w G c x)->eqT T n t xs ys=some b->(Op.equalIn (D+n+1) t (.agg cs) (.agg ds)).run P w= .ok b w:=λt cs ds xs ys b h1 h2 h3 h4 h5 h6=>by
    grind
   rw[show D+1+(n+1)=(D+n+1)+1 from Aa];split at e;rename_i r;obtain⟨J,z,H,W⟩:=yJ (g t F) r;rw[H]at e
   have:=bN5 g k L M u v J.toList b (λf C=>U J z f (by simpa using C)) (λf C E=>by
    obtain⟨i,O,Q⟩:=W f (by simpa using C)
    obtain⟨j,N,R,_⟩:=(g _ E).info;rw[O]at N;cases N;rw[<-Q,R]) e
   generalize D+n+1=m at*;simp only[Op.equalIn,Qd,dI z,P9];simp only[bY8]at this;rw[Array.forIn_toList]at this;simp[S];rw[this];cases b<;>simp
   rename_i r;cases l:Nat.blt (T.row t).elem (T.n (T.row t).elem)with
   |false=>rw[l]at e;cases e
   |true=>
    rw[l,Qo,dA7]at e;have B:=blt l
    obtain⟨m,z,H⟩:∃m,P.underlying t=some (.array m (T.row t).elem)/\(T.row t).alen=m:=by
     obtain⟨A,I,y,Y,Z,X,f3,f4⟩:=(g t F).und;rw[r]at y;cases A<;>simp[kdOf]at y;grind
    have s:(T.row (T.row t).elem).kd=kdOf (P.underlying (T.row t).elem):=by
     obtain⟨A,I,y,_⟩:=(g _ B).und;rw[I];exact y
    rw[s,H]at e;have:=bX8 g k L M u v B (List.range m) b e;generalize D+n+1=A at*;simp only[Op.equalIn,Qd,dI z,P9,iV g B];simp only[cT9]at this;rw[Std.Legacy.Range.forIn_eq_forIn_range'];simp[List.range_eq_range']at this⊢;rw[this];cases b<;>simp
   cases e
def dN7(l:bP T P)(inv:Inv T Φ σ a w G)(x y:Operand)(g:BinOp)(t i:TypeId)(p:o.op= .binOp g t x y i)(q:t<T.n t)(xs ys:List V)(B:σ.ev x= .agg xs)(C:σ.ev y= .agg ys)(h:aL1 T g t xs ys K):Out T Φ σ a K ((execOp a.eval o).run P w):=by
 have r:=(inv.ev x).1;have s:=(inv.ev y).1;rw[B]at r;rw[C]at s;obtain⟨cs,j,u,E,v⟩:=r.zV;obtain⟨ds,k,z,F,A⟩:=s.zV
 have m:(T.row t).eq=true->(eqGuard g t x y (.agg cs) (.agg ds)).run P w= .ok () w:=by
  intro c;obtain⟨_,D,_⟩:=(l t q).eqs c;cases g<;>simp[eqGuard,D]
 have f:∀b,eqT T 4 t xs ys=some b->(Op.equal t (.agg cs) (.agg ds)).run P w= .ok b w:=λb e=>eM4 l 4 9995 t cs ds xs ys b q u v z A e;unfold aL1 at h;split at h;obtain⟨c,h⟩:=dX h;split at h;rename_i b e;exact .plain inv (yY x y _ t i p _ _ (.bool b) j k (m c) (by simp[binOp,f b e])) h (B_ok _ _ _) dL;exact h.elim;obtain⟨c,h⟩:=dX h;split at h;rename_i b e;exact .plain inv (yY x y _ t i p _ _ (.bool !b) j k (m c) (by simp[binOp,f b e])) h (B_ok _ _ _) dL;exact h.elim;exact h.elim
def kd_ptr{t:TypeId}{r:Row}(h:aH9 P t r)(f:r.kd= .ptr):∃e,P.underlying t=some (.pointer e):=by
 obtain⟨d,c,b,_⟩:=h.und;rw[f]at b;cases d<;>first|exact⟨_,c⟩|(simp[kdOf]at b)
def equal_ptr{t e:TypeId}(f:P.underlying t=some (.pointer e))(b:Addr):(Op.equal t (.pointer (some b)) (.pointer none)).run P w= .ok false w:=by
 have h:∀c,(Op.equalIn (c+1) t (.pointer (some b)) (.pointer none)).run P w= .ok false w:=λc=>by simp[Op.equalIn,dI f]
 exact h 9999
def dQ5(A:bP T P)(inv:Inv T Φ σ a w G)(x y:Operand)(b:BinOp)(t q:TypeId)(s:o.op= .binOp b t x y q)(h:bD7 T b t (σ.ev x) (σ.ev y) K):Out T Φ σ a K ((execOp a.eval o).run P w):=by
 have c:=(inv.ev x).1;have j:=(inv.ev y).1;unfold bD7 at h;split at h;rename_i k m D n f g;rw[f]at c;rw[g]at j;by_cases l:k=D;subst l;simp only[decide_true,Qo]at h;exact dM7 inv x y b t q s k m n c.bH j.bH h;simp only[l,decide_false,Qu]at h;exact sh_sound inv x y b t q s k D m n c.bH j.bH h;rename_i m n f g;rw[f]at c;rw[g]at j;exact dM9 inv x y b t q s m n c.bH j.bH h;rename_i m n f g;rw[f]at c;rw[g]at j;obtain⟨v,h⟩:=aT h;exact cV0 A inv x y b t q s m n c.bH j.bH (blt v) h;rename_i xs ys f g;obtain⟨v,h⟩:=aT h;exact dN7 A inv x y b t q s (blt v) xs ys f g h;rename_i i off f g;rw[f]at c;rw[g]at j;obtain⟨v,z⟩:=aT h;clear h;have C:a.eval x= .pointer (some ⟨G.β i,off,none⟩):=by generalize a.eval x=u at c;cases c;rfl
 have E:=j.bH;have H:(eqGuard b t x y (a.eval x) (a.eval y)).run P w= .ok () w:=by rw[C];exact qZ _ _ _ _ _ _ (by simp) (by simp)
 have p:∀r:Value,r.oneCell'=true->(binOp b t (a.eval x) (a.eval y)).run P w= .ok r w->K (.lit r) []->Out T Φ σ a K ((execOp a.eval o).run P w):=λr F I l=>
  .plain inv (yY x y b t q s _ _ r rfl rfl H I) l (.lit r F) dL
 rw[C,E]at p;unfold ptrVC at z;split at z;rename_i l;obtain⟨e,B⟩:=kd_ptr (A t (blt v)) l;exact p (.bool false) rfl (by simp[binOp,equal_ptr B]) z;rename_i l;obtain⟨e,B⟩:=kd_ptr (A t (blt v)) l;exact p (.bool true) rfl (by simp[binOp,equal_ptr B]) z;exact z.elim;exact h.elim
def xQ(f:bP T P)(inv:Inv T Φ σ a w G)(o:Oper)(h:opVC T σ d o.op K):Out T Φ σ a K ((execOp a.eval o).run P w):=by
 generalize e:o.op=q at h;unfold opVC at h;split at h;exact cZ8 inv _ e h;exact cB9 inv _ e h;exact dA3 inv _ _ _ e h;exact dZ4 inv _ _ _ e h;exact dQ5 f inv _ _ _ _ _ e h;exact dM8 inv _ _ e h;obtain⟨b,h⟩:=aT h;exact cJ8 f inv _ e (blt b) h;obtain⟨b,h⟩:=aT h;exact aY3 f inv _ _ _ e (blt b) h;obtain⟨b,h⟩:=aT h;exact cL3 f inv _ _ _ e (blt b) h;obtain⟨b,h⟩:=aT h;exact cZ0 f inv _ _ e (blt b) h;obtain⟨b,h⟩:=aT h;exact cJ7 f inv _ _ _ e (blt b) h;obtain⟨b,h⟩:=aT h;exact aY7 f inv _ _ _ e (blt b) h;obtain⟨b,h⟩:=aT h;exact cK7 f inv _ _ _ e (blt b) h;exact bN4 inv _ _ e h;exact .plain inv (by simp[execOp,e,Instr.makeFunc]) h (.fn _ #[] [] rfl (λi c x hc=>He)) DL;rename_i g x xs;rw[bC,dU]at h;refine .plain inv (v':= .func (.func g) ((x::xs).map a.eval).toArray #[]) (by simp[execOp,e,Instr.makeFunc]) h (.fb _ _ _ Af λi c y hc l=>?_) ?_;have hi:i< (x::xs).length:=by have:=(Pg.1 l).1;simpa using this
 rw[PK,Pj hi]at l;simp only[Qg,Ql]at l;have j:((x::xs).map a.eval)[i]? =some c:=CQ;rw[PK,Pj hi]at j;simp only[Qg,Ql]at j;subst l;subst j;exact(inv.ev _).1;simp only[V.ok];show V.okL _ _ (.own 0 [] ::(x::xs).map σ.ev);simp only[V.okL,V.ok];refine⟨trivial,aH.2 λy l=>?_⟩;obtain⟨z,_,rfl⟩:=PI.1 l;exact(inv.ev z).2;obtain⟨b,h⟩:=aT h;exact cM3 f inv _ _ e (blt b) h;obtain⟨b,h⟩:=aT h;exact aQ7 f inv _ _ _ e (blt b) h;obtain⟨b,h⟩:=aT h;exact aY6 f inv _ _ _ e (blt b) h;obtain⟨b,h⟩:=aT h;exact cH8 f inv _ _ _ _ _ e (blt b) h;exact cD9 f inv _ _ _ e h;obtain⟨b,h⟩:=aT h;split at h;rename_i k;exact dM3 f inv _ _ e (blt b) k h;rename_i k;exact cR9 f inv _ _ e (blt b) k h;exact h.elim;obtain⟨b,n⟩:=aT h;simp only[Px]at b;obtain⟨b,m⟩:=b;exact cB7 f inv _ _ _ _ e (blt b) (blt m) n;grind [aK6];grind [aK6];obtain⟨b,h⟩:=aT h;exact bM3 f inv _ e (blt b) h;obtain⟨b,h⟩:=aT h;exact bZ4 f inv _ _ _ e (blt b) h;obtain⟨b,h⟩:=aT h;exact aA0 f inv _ _ _ _ (.inl e) (blt b) h;obtain⟨b,h⟩:=aT h;exact aA0 f inv _ _ _ _ (.inr e) (blt b) h;exact bL7 inv _ e h;exact h.elim
end
end Go.Ab
