/-
  append, slice expressions.
-/
import Derived.Test.YtdjgbagnajikeaaGreatDoorA4
set_option linter.unusedVariables false
set_option linter.unusedSimpArgs false
noncomputable section
namespace Go.Ab
section
variable{T:Tab}{P:Program}{Φ:Fr}{σ:St}{a:Act}{w:World}{G:Gh}{K:VK}{o:Oper}{d:Nat}
def Src(w:World)(G:Gh)(v:Value)(xs:List V):Prop:=
 (v= .slice none 0 0/\xs=[])\/∃ad c sz,v= .slice (some ad) xs.length c/\xs.length<=c/\c<=maxLen/\(∀x∈xs,x.cells.length=sz)/\Here w G ad (xs.flatMap V.cells)
theorem Rv.src{v:Value}{l:List V}(h:Rv w G v (.sl l)):Src w G v l:=by
 exact Nc
theorem aV9(inv:Inv T Φ σ a w G)(x:Operand){K:List V->Prop}(h:lF σ (σ.ev x) K):∃xs,K xs/\bM xs/\Src w G (a.eval x) xs:=by
 obtain⟨h1,h2⟩:=inv.ev x;unfold lF at h;split at h
 ·rename_i l hx
  rw[hx]at h1 h2;simp only[V.ok]at h2;exact⟨l,h,h2,h1.src⟩
 ·rename_i l hx
  rw[hx]at h1 h2;simp only[V.ok]at h2;exact⟨l,h,h2,h1.wK.src⟩
 ·rename_i hx
  rw[hx]at h1;exact⟨[],h,BD, .inl ⟨h1.bH,rfl⟩⟩
 ·rename_i k g hx
  rw[hx]at h1;split at h
  ·rename_i en hen
   obtain⟨⟨hg,hd⟩,h3⟩:=dX h;subst hg;refine⟨en.l,h3,inv.wfA k en hen,?_⟩;have:=(inv.arr k en hen).reads hd;rw[h1.oQ];exact this
  ·exact h.elim
 ·exact h.elim
theorem Src.news{v:Value}{xs:List V}{z:Nat}(h:Src w G v xs)(hz:∀x∈xs,x.cells.length=z):∃news:List Value,news.length=xs.length*z/\RvL w G news (xs.flatMap V.cells)/\
 ((v= .slice none 0 0/\xs=[])\/∃ad c,v= .slice (some ad) xs.length c/\∀j u,news[j]? =some u->w.cell? (ad.add j)=some u):=by
 rcases h with⟨h1,h2⟩|⟨ad,c,sz,h1,h2,h3,h4,h5⟩
 ·subst h2
  exact⟨[],Ae,⟨rfl,(fun _ h=>Ag),(fun _ _ _ h=>Gg)⟩, .inl ⟨h1,rfl⟩⟩
 ·obtain⟨cc,q1,q2⟩:=h5.out
  have hl:=sH hz;refine⟨(List.range (xs.flatMap V.cells).length).map cc,by rw[List.length_map,List.length_range,hl],⟨Ae,?_,?_⟩, .inr ⟨ad,c,h1,?_⟩⟩
  ·intro u hu
   obtain⟨j,hj,rfl⟩:=List.mem_map.1 hu;rw[List.mem_range]at hj;exact(q1 j _ (List.getElem?_eq_getElem hj)).2
  ·intro i u y hu hy
   have hi:=(List.getElem?_eq_some_iff.1 hy).1;rw[List.getElem?_map,List.getElem?_range hi]at hu;simp at hu;subst hu;exact q2 i y hy
  ·intro j u hu
   rw[List.getElem?_map]at hu;by_cases hj:j< (xs.flatMap V.cells).length
   ·rw[List.getElem?_range hj]at hu
    simp at hu;subst hu;exact(q1 j _ (List.getElem?_eq_getElem hj)).1
   ·exact KC
structure AppSrc(P:Program)(w:World)(t':TypeId)(v:Value)(n sz:Nat)(news:List Value):Prop where
 ty:P.underlying t'=some .string\/∃e',P.underlying t'=some (.slice e')
 len:∀w':World,(Builtin.lenOf v).run P w'= .ok n w'
 fst:∀w':World,w'.heap=w.heap->(Builtin.firstCells sz n v).run P w'= .ok news.toArray w'
theorem app_none{t t' ty e:TypeId}{i:TypeInfo}(ht:P.underlying t=some (.slice e))(hi:P.info? e=some i)(b:Option Addr){n c:Nat}(hn:n<=c){v:Value}(h:AppSrc P w t' v 0 i.size []):
 (Builtin.append_ #[t,t'] ty #[.slice b n c,v]).run P w= .ok (.slice b n c) w:=by
 have hf:=h.fst w rfl;have hl:=h.len w
 rcases h.ty with hu|⟨e',hu⟩<;>cases b<;>simp[Builtin.append_,run_underlying ht,run_underlying hu,sizeOf,typeInfo,hi,hl,hf,hn,storeCells]
theorem app_nil{t t' ty e:TypeId}{i:TypeInfo}{z:Value}(ht:P.underlying t=some (.slice e))(hi:P.info? e=some i)(hz:i.zero=some z){n:Nat}{v:Value}{news:List Value}(h:AppSrc P w t' v n i.size news)
 (h0:0<n)(h63:(n:Int)<=9223372036854775807)(h48:n*i.bytes<=281474976710656):
 (Builtin.append_ #[t,t'] ty #[.slice none 0 0,v]).run P w=
  .ok (.slice (some ⟨w.heap.size,0,none⟩) n (grownCap w n 0 e)) (w.drew.alloc (.cells (news.toArray++Builtin.zeroCells z.cells (grownCap w n 0 e-n)) e)):=by
 have hn:n≠0:=Aa;have h63':¬(9223372036854775807< (n:Int)):=Aa
 have h48':¬(281474976710656<Builtin.nextslicecap n 0*i.bytes):=by rw[nextslicecap_zero h0];omega
 have hf:=h.fst w.drew rfl;have hl:=h.len w
 rcases h.ty with hu|⟨e',hu⟩<;>simp[Builtin.append_,run_underlying ht,run_underlying hu,sizeOf,typeInfo,zeroValue,hi,hz,hl,hn,h63',h48',Question.forced,run_firstCells_none,hf,newRow,grownCap]
theorem app_grow{t t' ty e:TypeId}{i:TypeInfo}{z:Value}(ht:P.underlying t=some (.slice e))(hi:P.info? e=some i)(hz:i.zero=some z)
 (b:Addr)(sLen sCap:Nat)(olds:List Value)(hlo:olds.length=sLen*i.size)(holds:∀j v,olds[j]? =some v->w.cell? (b.add j)=some v)
 {n:Nat}{v:Value}{news:List Value}(h:AppSrc P w t' v n i.size news)
 (hg:sCap<sLen+n)(h63:((sLen+n:Nat):Int)<=9223372036854775807)(hfit:Builtin.nextslicecap (sLen+n) sCap*i.bytes<=281474976710656):
 (Builtin.append_ #[t,t'] ty #[.slice (some b) sLen sCap,v]).run P w=
  .ok (.slice (some ⟨w.heap.size,0,none⟩) (sLen+n) (grownCap w (sLen+n) sCap e))
   (w.drew.alloc (.cells (olds.toArray++news.toArray++Builtin.zeroCells z.cells (grownCap w (sLen+n) sCap e- (sLen+n))) e)):=by
 have hn:¬(sLen+n<=sCap):=Aa;have h63':¬(9223372036854775807< ((sLen:Int)+(n:Int))):=Aa
 have h48':¬(281474976710656<Builtin.nextslicecap (sLen+n) sCap*i.bytes):=Aa;have hf:=h.fst w.drew rfl
 have hl:=h.len w;have hfo:=run_firstCells_some (P:=P) w.drew i.size sLen b sLen sCap olds hlo (by simpa using holds)
 rcases h.ty with hu|⟨e',hu⟩
 all_goals
  simp[Builtin.append_,run_underlying ht,run_underlying hu,sizeOf,typeInfo,zeroValue,hi,hz,hl,hn,h63',h48',Question.forced,hf,hfo,newRow,grownCap];congr 2;apply Array.ext';simp[List.append_assoc]
theorem app_room{t t' ty e:TypeId}{i:TypeInfo}(ht:P.underlying t=some (.slice e))(hi:P.info? e=some i)
 (g sLen sCap:Nat)(cur:Array Value)(hg:w.heap[g]? =some (.cells cur e (0,0)))
 {m:Nat}{v:Value}{news:List Value}(h:AppSrc P w t' v m i.size news)(h1:∀u∈news,u.oneCell'=true)
 (hroom:sLen+m<=sCap)(hfit:sLen*i.size+news.length<=cur.size):
 (Builtin.append_ #[t,t'] ty #[.slice (some ⟨g,0,none⟩) sLen sCap,v]).run P w=
  .ok (.slice (some ⟨g,0,none⟩) (sLen+m) sCap) (w.setRow g (cur.toList.take (sLen*i.size)++news++cur.toList.drop (sLen*i.size+news.length)).toArray):=by
 have hf:=h.fst w rfl;have hl:=h.len w
 have hst:=run_storeCells_at P g (sLen*i.size) e news 0 cur w hg (by simpa using hfit) h1
 simp only[Nat.add_zero]at hst;rcases h.ty with hu|⟨e',hu⟩<;>simp[Builtin.append_,run_underlying ht,run_underlying hu,sizeOf,typeInfo,hi,hl,hroom,hf,Addr.add_lit,hst]
def ASrc(P:Program)(w:World)(G:Gh)(t':TypeId)(v:Value)(sz:Nat)(xs:List V):Prop:=
 ∃news:List Value,news.length=xs.length*sz/\RvL w G news (xs.flatMap V.cells)/\AppSrc P w t' v xs.length sz news
theorem Src.app{t' e':TypeId}(hu:P.underlying t'=some (.slice e')){v:Value}{xs:List V}{z:Nat}(h:Src w G v xs)(hz:∀x∈xs,x.cells.length=z):ASrc P w G t' v z xs:=by
 obtain⟨news,n1,n2,n3⟩:=h.news hz;refine⟨news,n1,n2, .inr ⟨e',hu⟩,fun w'=>?_,fun w' hw=>?_⟩
 ·rcases n3 with⟨rfl,rfl⟩|⟨ad,c,rfl,_⟩<;>simp[Builtin.lenOf]
 ·rcases n3 with⟨rfl,rfl⟩|⟨ad,c,rfl,h3⟩
  ·have:news=[] :=List.length_eq_zero_iff.1 (by simpa using n1)
   subst this;simp[Builtin.firstCells]
  ·have hc:∀a:Addr,w'.cell? a=w.cell? a:=fun a=>by unfold World.cell?;rw[hw]
   exact run_firstCells_some (P:=P) w' z xs.length ad xs.length c news n1 (fun j u hj=>by rw[hc];exact h3 j u hj)
theorem str_app{t':TypeId}(hu:P.underlying t'=some .string)(s:ByteArray){z:Nat}(hz:∀x∈strV s,x.cells.length=z):ASrc P w G t' (.string s) z (strV s):=by
 have hc:(strV s).flatMap V.cells=(s.data.toList.map fun b=>Value.int .u8 b.toNat).map .lit:=by
  unfold strV;rw[List.map_map]
  induction s.data.toList with
  |nil=>rfl
  |cons b l ih=>rw[List.map_cons,List.flatMap_cons,ih];rfl
 have hl:(strV s).length=s.size:=Dq;refine⟨s.data.toList.map fun b=>Value.int .u8 b.toNat,?_,?_, .inl hu,fun w'=>?_,fun w' _=>?_⟩
 ·unfold strV at hz⊢
  cases hs:s.data.toList with
  |nil=>simp
  |cons b l=>
   have:=hz (.lit (.int .u8 b.toNat)) (by rw[hs];simp)
   simp only[V.cells,List.length_singleton]at this;simp[<-this]
 ·rw[hc]
  exact aM4 (fun v hv=>by obtain⟨b,_,rfl⟩:=List.mem_map.1 hv;rfl)
 ·rw[hl];simp[Builtin.lenOf]
 ·rw[hl]
  simp[Builtin.firstCells];apply Array.ext';simp
theorem cV9(hT:bP T P)(inv:Inv T Φ σ a w G){t t':TypeId}(ht:t<T.n t)(hkd:(T.row t).kd= .slice)(he:(T.row t).elem<T.n (T.row t).elem)(ty:TypeId){k gen:Nat}(hno:∀g,σ.hasA k g->g<gen){kd:AK}{u v:Value}{l xs:List V}
 (hpl:bM l)(hpx:bM xs)(hsrc:ASrc P w G t' v (T.row (T.row t).elem).size xs)(hzl:∀x∈l,x.cells.length=(T.row (T.row t).elem).size)(hz:∀x∈xs,x.cells.length=(T.row (T.row t).elem).size)(hb:(l.length+xs.length)*(T.row (T.row t).elem).bytes<=140737488355328)(hb2:l.length+xs.length<=140737488355328)
 (hu:(gJ T w G k u (T.row t).elem l/\(kd= .own\/kd= .ap))\/(Rv w G u (.cap l)/\kd= .ap)):
 ∃u' w' G',(Builtin.append_ #[t,t'] ty #[u,v]).run P w= .ok u' w'/\Inv T Φ (σ.apps [.a k ⟨gen,kd,(T.row t).elem,l++xs⟩]) a w' G'/\G'.av k gen=u'/\u'.oneCell'=true:=by
 have hkk:kd= .own\/kd= .ap:=by rcases hu with⟨_,h⟩|⟨_,h⟩<;>first|exact h|exact .inr h
 have hpa:bM (l++xs):=aH.2 fun x hx=>by
  rcases List.mem_append.1 hx with hx|hx
  ·exact aH.1 hpl x hx
  ·exact aH.1 hpx x hx
 have hza:∀x∈l++xs,x.cells.length=(T.row (T.row t).elem).size:=fun x hx=>by
  rcases List.mem_append.1 hx with hx|hx
  ·exact hzl x hx
  ·exact hz x hx
 obtain⟨news,n1,n2,n3⟩:=hsrc;obtain⟨i,i1,i2,i3,z,i4,i5,i6,i7,i8,i9⟩:=(hT _ he).info;have hund:=jW (hT t ht) hkd
 have hzs:z.cells.size=i.size:=by
  have:z.cells.toList.length=i.size:=by rw[i5,i7,i2]
  simpa using this
 have same:xs=[]->(Builtin.append_ #[t,t'] ty #[u,v]).run P w= .ok u w->u.oneCell'=true->gW T w G k ⟨gen,kd,(T.row t).elem,l⟩\/True->∃u' w' G',(Builtin.append_ #[t,t'] ty #[u,v]).run P w= .ok u' w'/\Inv T Φ (σ.apps [.a k ⟨gen,kd,(T.row t).elem,l++xs⟩]) a w' G'/\G'.av k gen=u'/\u'.oneCell'=true:=by
  intro hxs hrun h1 _;subst hxs;refine⟨u,w,{G with av:=fun k' g=>if k'=k/\g=gen then u else G.av k' g,O:=G.O},hrun,?_,Ae,h1⟩
  have hkp:Keep w w G {G with av:=fun k' g=>if k'=k/\g=gen then u else G.av k' g,O:=G.O}:=⟨fun _ h=>h,fun _ _=>rfl⟩
  refine inv.zU (w':=w) (k:=k) (en:=⟨gen,kd,(T.row t).elem,l++[]⟩) (fun g hg=>Nat.le_of_lt (hno g hg)) (fun k' g hg=>?_) (by rw[List.append_nil];exact hpl) ?_ (fun _ _ _=>rfl) (fun _=> .inl rfl) (fun _ _ _=>rfl) (Nat.le_refl _) rfl rfl rfl
  ·have:¬(k'=k/\g=gen):=by rintro⟨rfl,rfl⟩;exact absurd (hno g hg) Aa
   simp[this]
  ·rw[List.append_nil]
   have hau:(fun k' g=>if k'=k/\g=gen then u else G.av k' g) k gen=u:=Ae
   unfold gW;rcases hu with⟨h,rfl|rfl⟩|⟨h,rfl⟩
   ·show _/\gJ _ _ _ _ ((fun k' g=>if k'=k/\g=gen then u else G.av k' g) k gen) _ _;rw[hau];exact⟨he,h.keep hkp hpl (fun b hb=>⟨hb,rfl⟩)⟩
   ·show _/\(gJ _ _ _ _ ((fun k' g=>if k'=k/\g=gen then u else G.av k' g) k gen) _ _\/_);rw[hau];exact⟨he, .inl (h.keep hkp hpl (fun b hb=>⟨hb,rfl⟩))⟩
   ·refine⟨he, .inr ⟨?_,hzl⟩⟩;show Rv _ _ ((fun k' g=>if k'=k/\g=gen then u else G.av k' g) k gen) _;rw[hau];exact h.aW hkp (by simp only[V.pure,V.ok];exact hpl)
 have anew:∀(olds:List Value) (cap':Nat),RvL w G olds (l.flatMap V.cells)->l.length+xs.length<=cap'->cap'<=maxLen->
  (Builtin.append_ #[t,t'] ty #[u,v]).run P w= .ok (.slice (some ⟨w.heap.size,0,none⟩) (l.length+xs.length) cap') (w.drew.alloc (.cells (olds.toArray++news.toArray++Builtin.zeroCells z.cells (cap'- (l.length+xs.length))) (T.row t).elem))->
  ∃u' w' G',(Builtin.append_ #[t,t'] ty #[u,v]).run P w= .ok u' w'/\Inv T Φ (σ.apps [.a k ⟨gen,kd,(T.row t).elem,l++xs⟩]) a w' G'/\G'.av k gen=u'/\u'.oneCell'=true:=by
  intro olds cap' ho hc1 hc2 hrun;have hol:olds.length=l.length*(T.row (T.row t).elem).size:=by rw[ho.len,sH hzl]
  have hboth:(olds++news).length=(l++xs).length*(T.row (T.row t).elem).size:=by rw[List.length_append,hol,n1,List.length_append,Nat.add_mul]
  obtain⟨G',inv',hav⟩:=inv.dC7 (n0:=w.drawn+1) hno hkk he (cur:=olds.toArray++news.toArray++Builtin.zeroCells z.cells (cap'- (l.length+xs.length))) (l:=l++xs) (cap:=cap') (by simpa using hc1) hc2
   (by simp only[Array.size_append,List.size_toArray,size_zeroCells,hzs,hol,n1,i2,<-Nat.add_mul];congr 1;omega) hza hpa
   (by
    rw[<-hboth,List.flatMap_append];have:(olds.toArray++news.toArray++Builtin.zeroCells z.cells (cap'- (l.length+xs.length))).toList=(olds++news)++(Builtin.zeroCells z.cells (cap'- (l.length+xs.length))).toList:=Ae;rw[this,List.take_left];exact ho.append n2)
  exact⟨_,_,G',hrun,inv',by rw[hav];simp,rfl⟩
 have h63:((l.length+xs.length:Nat):Int)<=9223372036854775807:=Aa;have hfit:∀old,old<l.length+xs.length->Builtin.nextslicecap (l.length+xs.length) old*i.bytes<=281474976710656:=fun old h=>growslice_fits h (by rw[i3];exact hb)
 have hgc:∀old,grownCap w (l.length+xs.length) old (T.row t).elem<=maxLen:=fun old=>grownCap_le_maxLen w _ _ _ BI;rw[<-i2]at n3
 have empty:xs=[]->∀(b:Option Addr) (n c:Nat),n<=c->(Builtin.append_ #[t,t'] ty #[.slice b n c,v]).run P w= .ok (.slice b n c) w:=by
  rintro rfl b n c hnc;have hnw:news=[] :=List.length_eq_zero_iff.1 (by simpa using n1)
  subst hnw;exact app_none hund i1 b hnc n3
 by_cases hx0:xs=[]
 ·
  rcases hu with⟨hown,hk1⟩|⟨hcap,hk1⟩
  ·rcases hown with⟨rfl|⟨a0,rfl⟩,rfl⟩|⟨b,cap,cur,rfl,h2,h3,h4,h5,h6,h7,h8⟩
   ·exact KF
   ·exact same hx0 (empty hx0 (some a0) 0 0 (Nat.le_refl _)) rfl (.inr trivial)
   ·exact same hx0 (empty hx0 _ _ _ h4) rfl (.inr trivial)
  ·rcases hcap.vP with⟨rfl,_⟩|⟨ad,sz,cc,rfl,_⟩
   ·exact KF
   ·exact same hx0 (empty hx0 _ _ _ (Nat.le_refl _)) rfl (.inr trivial)
 ·have hxl:0<xs.length:=List.length_pos_iff.2 hx0
  have nilcase:u= .slice none 0 0->l=[]->∃u' w' G',(Builtin.append_ #[t,t'] ty #[u,v]).run P w= .ok u' w'/\Inv T Φ (σ.apps [.a k ⟨gen,kd,(T.row t).elem,l++xs⟩]) a w' G'/\G'.av k gen=u'/\u'.oneCell'=true:=by
   rintro rfl rfl;have hr:=app_nil (ty:=ty) hund i1 i4 n3 hxl Aa (by rw[i3];simp at hb;omega)
   refine anew [] (grownCap w xs.length 0 (T.row t).elem) ⟨rfl,(fun _ h=>Ag),(fun _ _ _ h=>Gg)⟩ (by simpa using grownCap_ge w xs.length 0 _) (by simpa using hgc 0) ?_
   rw[hr];simp
  have growcase:∀(b:Addr) (cap:Nat) (olds:List Value),u= .slice (some b) l.length cap->RvL w G olds (l.flatMap V.cells)->(∀j v,olds[j]? =some v->w.cell? (b.add j)=some v)->cap<l.length+xs.length->
   ∃u' w' G',(Builtin.append_ #[t,t'] ty #[u,v]).run P w= .ok u' w'/\Inv T Φ (σ.apps [.a k ⟨gen,kd,(T.row t).elem,l++xs⟩]) a w' G'/\G'.av k gen=u'/\u'.oneCell'=true:=by
   rintro b cap olds rfl ho hcell hlt;have hr:=app_grow (ty:=ty) hund i1 i4 b l.length cap olds (by rw[ho.len,sH hzl,i2]) hcell n3 hlt h63 (hfit cap hlt)
   exact anew olds _ ho (grownCap_ge w _ _ _) (hgc cap) hr
  rcases hu with⟨hown,hk1⟩|⟨hcap,hk1⟩
  ·rcases hown with⟨h1|⟨a0,h1⟩,h2⟩|⟨b,cap,cur,h1,h2,h3,h4,h5,h6,h7,h8⟩
   ·exact nilcase h1 h2
   ·exact growcase a0 0 [] (by rw[h1,h2];rfl) (by rw[h2];exact⟨rfl,(fun _ h=>by cases h),(fun _ _ _ h=>by simp at h)⟩) (fun j v h=>Gg) (by rw[h2];simpa using hxl)
   ·have hcells:∀j v,(cur.toList.take (l.length*(T.row (T.row t).elem).size))[j]? =some v->w.cell? ((⟨b,0,none⟩:Addr).add j)=some v:=by
     intro j v hv;rw[rY,Nat.zero_add,cell_of_row w b j cur _ _ h3];rw[List.getElem?_take]at hv;split at hv
     ·simpa using hv
     ·cases hv
    by_cases hroom:l.length+xs.length<=cap
    ·
     subst h1;have hfitc:l.length*i.size+news.length<=cur.size:=by rw[n1,h6,i2,<-Nat.add_mul];exact Nat.mul_le_mul_right _ hroom
     have hr:=app_room (ty:=ty) hund i1 b l.length cap cur h3 n3 n2.one hroom hfitc;rw[i2]at hr hfitc
     let cur':=(cur.toList.take (l.length*(T.row (T.row t).elem).size)++news++cur.toList.drop (l.length*(T.row (T.row t).elem).size+news.length)).toArray
     let w':=w.setRow b cur'
     let av':Nat->Nat->Value:=fun k' g=>if k'=k/\g=gen then .slice (some ⟨b,0,none⟩) (l.length+xs.length) cap else G.av k' g
     have hav:av' k gen= .slice (some ⟨b,0,none⟩) (l.length+xs.length) cap:=GH;have hkp:Keep w w' G {G with av:=av',O:=G.O}:=⟨fun _ h=>h,fun b' hb'=>setRow_other w b b' _ (fun e=>by subst e;rw[h2]at hb';cases hb')⟩
     have hlt8:(cur.toList.take (l.length*(T.row (T.row t).elem).size)).length=l.length*(T.row (T.row t).elem).size:=by rw[h8.len,sH hzl]
     have hown':gJ T w' {G with av:=av',O:=G.O} k (av' k gen) (T.row t).elem (l++xs):=by
      refine .inr ⟨b,cap,cur',by rw[hav];simp,h2,setRow_heap w b cur cur' _ _ h3,by simpa using hroom,h5,?_,hza,?_⟩
      ·show(cur.toList.take _++news++cur.toList.drop _).toArray.size=_
       simp only[List.size_toArray,List.length_append,List.length_drop,Array.length_toList,hlt8];rw[<-h6];omega
      ·have e1:cur'.toList.take ((l++xs).length*(T.row (T.row t).elem).size)=cur.toList.take (l.length*(T.row (T.row t).elem).size)++news:=by
        show(cur.toList.take _++news++cur.toList.drop _).take _=_;have:((l++xs).length*(T.row (T.row t).elem).size)=(cur.toList.take (l.length*(T.row (T.row t).elem).size)++news).length:=by rw[List.length_append,List.length_append,hlt8,n1,Nat.add_mul]
        rw[this,List.take_left]
       rw[e1,List.flatMap_append];refine(h8.append n2).keep hkp (p:=fun _=>False) (q:=fun _ _=>False) ?_ (fun _ h=>h.elim) (fun _ _ h=>h.elim);rw[<-List.flatMap_append];refine aH.2 fun y hy=>?_;obtain⟨j,hj⟩:=List.getElem?_of_mem hy;exact dF hpa hj
     refine⟨_,w',{G with av:=av',O:=G.O},hr,?_,hav,rfl⟩
     refine inv.zU (w':=w') (k:=k) (en:=⟨gen,kd,(T.row t).elem,l++xs⟩) (av':=av') (O':=G.O) (fun g hg=>Nat.le_of_lt (hno g hg)) (fun k' g hg=>?_) hpa ?_ (fun _ _ _=>rfl) (fun _=> .inl rfl)
      (fun b' _ hb'=>setRow_other w b b' _ (fun e=>by subst e;exact hb' h2)) F8 rfl rfl rfl
     ·exact IW
     ·unfold gW
      rcases hk1 with rfl|rfl
      ·exact⟨he,hown'⟩
      ·exact⟨he, .inl hown'⟩
    ·exact growcase ⟨b,0,none⟩ cap _ h1 h8 hcells Aa
  ·rcases hcap.vP with⟨h1,h2⟩|⟨ad',sz,cc,h1,h2,h3,h4,h5,h6⟩
   ·exact nilcase h1 h2
   ·refine growcase ad' l.length ((List.range (l.flatMap V.cells).length).map cc) h1 ⟨Ae,?_,?_⟩ ?_ Aa
    ·intro u hu
     obtain⟨j,hj,rfl⟩:=List.mem_map.1 hu;rw[List.mem_range]at hj;exact(h5 j _ (List.getElem?_eq_getElem hj)).2
    ·intro i u y hu hy
     have hi:=(List.getElem?_eq_some_iff.1 hy).1;rw[List.getElem?_map,List.getElem?_range hi]at hu;simp at hu;subst hu;exact h6 i y hy
    ·intro j u hu
     rw[List.getElem?_map]at hu;by_cases hj:j< (l.flatMap V.cells).length
     ·rw[List.getElem?_range hj]at hu
      simp at hu;subst hu;exact(h5 j _ (List.getElem?_eq_getElem hj)).1
     ·exact KC
theorem contsK_sound(hT:bP T P)(inv:Inv T Φ σ a w G){t':TypeId}(ht':t'<T.n t')(x:Operand){K:List V->Prop}(h:contsK (T.row t').kd σ (σ.ev x) K):∃xs,K xs/\bM xs/\∀z,(∀x∈xs,x.cells.length=z)->ASrc P w G t' (a.eval x) z xs:=by
 unfold contsK at h;split at h
 ·rename_i hkd
  obtain⟨xs,h1,h2,h3⟩:=aV9 inv x h;exact⟨xs,h1,h2,fun z hz=>h3.app (jW (hT t' ht') hkd) hz⟩
 ·rename_i s hkd hx
  have h1:=(inv.ev x).1;rw[hx]at h1;refine⟨_,h,?_,fun z hz=>?_⟩
  ·refine aH.2 fun y hy=>?_
   unfold strV at hy;obtain⟨b,_,rfl⟩:=List.mem_map.1 hy;exact dL
  ·rw[h1.bH]
   exact str_app (aF2 (hT t' ht') hkd) s hz
 ·exact h.elim
theorem dV0{k:Kd}(h:dG6 k=true):k= .slice:=by cases k<;>first|rfl|cases h
theorem cB7(hT:bP T P)(inv:Inv T Φ σ a w G)(t t':TypeId)(s x:Operand)(ho:o.op= .call ⟨.builtin .append,⟨[s,x]⟩,⟨[t,t']⟩⟩)(ht:t<T.n t)(ht':t'<T.n t')(h:kT T (T.row t) (T.row t').kd σ d (σ.ev s) (σ.ev x) K):Out T Φ σ a K ((execOp a.eval o).run P w):=by
 obtain⟨s1,s2⟩:=inv.ev s
 have run:(T.row t).kd= .slice->∀(u':Value) (w':World),(Builtin.append_ #[t,t'] o.type #[a.eval s,a.eval x]).run P w= .ok u' w'->(execOp a.eval o).run P w= .ok (.value u') w':=by
  intro hkd u' w' hr;simp only[execOp,ho,resolve,invoke,builtin,Sem.run_bind,Sem.run_pure,Result.andThen_ok,List.map_toArray,List.map_cons,List.map_nil,hr]
 have fin:∀(k gen:Nat) (kd:AK) (l xs:List V),(∀g,σ.hasA k g->g<gen)->bM l->bM xs->(T.row t).kd= .slice->(T.row t).elem<T.n (T.row t).elem->ASrc P w G t' (a.eval x) (T.row (T.row t).elem).size xs->(∀x∈l,x.cells.length=(T.row (T.row t).elem).size)->(∀x∈xs,x.cells.length=(T.row (T.row t).elem).size)->
  (l.length+xs.length)*(T.row (T.row t).elem).bytes<=140737488355328->l.length+xs.length<=140737488355328->((gJ T w G k (a.eval s) (T.row t).elem l/\(kd= .own\/kd= .ap))\/(Rv w G (a.eval s) (.cap l)/\kd= .ap))->
  K (.arr k gen) [.a k ⟨gen,kd,(T.row t).elem,l++xs⟩]->Out T Φ σ a K ((execOp a.eval o).run P w):=by
  intro k gen kd l xs hno hpl hpx hkd he hsrc hzl hz hb hb2 hu hk;obtain⟨u',w',G',hr,inv',hav,h1⟩:=cV9 hT inv ht hkd he o.type hno hpl hpx hsrc hzl hz hb hb2 hu;refine⟨u',w',_,_,G', .inl (run hkd u' w' hr),hk,inv',?_,?_⟩
  ·subst hav;exact .arr k gen h1
  ·exact I8
 unfold kT at h;split at h
 ·rename_i hkd
  obtain⟨hc,h2⟩:=aT h;simp only[Bool.and_eq_true]at hc;have he:=blt hc.1;obtain⟨xs,h3,hpx,hsrc0⟩:=contsK_sound hT inv ht' x h2;split at h3
  ·rename_i hs
   rw[hs]at s1;split at h3
   ·rename_i hd
    obtain⟨⟨b1,b2,b3⟩,h4⟩:=dX h3;exact fin d 0 .own [] xs (zK hd 0) BD hpx hkd he (hsrc0 _ b3) (fun x hx=>by cases hx) b3 (by simpa using b1) (by simpa using b2) (.inl ⟨.inl ⟨.inl s1.bH,rfl⟩, .inl rfl⟩) (by simpa using h4)
   ·exact h3.elim
  ·rename_i l hs
   rw[hs]at s1 s2;split at h3
   ·rename_i hd
    obtain⟨⟨b1,b2,b3⟩,h4⟩:=dX h3;simp only[V.ok]at s2
    cases l with
    |nil=>
     have hn:Nil0 (a.eval s):=by
      rcases s1.vP with⟨h,_⟩|⟨ad,sz,cc,h,_⟩
      ·exact .inl h
      ·exact .inr ⟨ad,h⟩
     exact fin d 0 .own [] xs (zK hd 0) BD hpx hkd he (hsrc0 _ fun x hx=>b3 x CW) (fun x hx=>by cases hx) (fun x hx=>b3 x CW) b1 b2 (.inl ⟨.inl ⟨hn,rfl⟩, .inl rfl⟩) h4
    |cons y l=>
    exact fin d 0 .ap (y::l) xs (zK hd 0) s2 hpx hkd he (hsrc0 _ fun x hx=>b3 x (List.mem_append.2 (.inr hx))) (fun x hx=>b3 x (List.mem_append.2 (.inl hx))) (fun x hx=>b3 x (List.mem_append.2 (.inr hx))) b1 b2 (.inr ⟨s1,rfl⟩) h4
   ·exact h3.elim
  ·rename_i k g hs
   rw[hs]at s1;split at h3
   ·rename_i en hen
    obtain⟨⟨hg,hk1,hty,b1,b2,b3⟩,h4⟩:=dX h3;subst hg;have hok:=inv.arr k en hen;have hno:∀g,σ.hasA k g->g<en.gen+1:=fun g ⟨en',q1,q2⟩=>by rw[hen]at q1;cases q1;omega
    have hsv:=s1.oQ;unfold gW at hok;rw[hty]at hok
    have sizes:∀ {u:Value},gJ T w G k u (T.row t).elem en.l->∀x∈en.l,x.cells.length=(T.row (T.row t).elem).size:=by
     intro u hown x hx;rcases hown with⟨_,h⟩|⟨b,cap,cur,_,_,_,_,_,_,h7,_⟩
     ·rw[h]at hx;cases hx
     ·exact h7 x hx
    rcases hk1 with hk1|hk1
    ·rw[hk1]at hok
     exact fin k (en.gen+1) en.kind en.l xs hno (inv.wfA k en hen) hpx hkd he (hsrc0 _ b3) (sizes hok.2) b3 b1 b2 (.inl ⟨by rw[hsv];exact hok.2, .inl hk1⟩) h4
    ·rw[hk1]at hok
     rcases hok.2 with hok|hok
     ·exact fin k (en.gen+1) en.kind en.l xs hno (inv.wfA k en hen) hpx hkd he (hsrc0 _ b3) (sizes hok) b3 b1 b2 (.inl ⟨by rw[hsv];exact hok, .inr hk1⟩) h4
     ·exact fin k (en.gen+1) en.kind en.l xs hno (inv.wfA k en hen) hpx hkd he (hsrc0 _ b3) hok.2 b3 b1 b2 (.inr ⟨by rw[hsv];exact hok.1,hk1⟩) h4
   ·exact h3.elim
  ·exact h3.elim
 ·exact h.elim
end
section
variable{T:Tab}{P:Program}{Φ:Fr}{σ:St}{a:Act}{w:World}{G:Gh}{K:VK}{o:Oper}{d:Nat}
theorem cL9{xs:List V}{sz:Nat}(hz:∀x∈xs,x.cells.length=sz){l h:Nat}(j:Nat){y:V}(hy:(((xs.take h).drop l).flatMap V.cells)[j]? =some y):(xs.flatMap V.cells)[l*sz+j]? =some y:=by
 have e1:xs.take h=(xs.take h).take l++(xs.take h).drop l:=(List.take_append_drop l _).symm;have e2:xs=xs.take h++xs.drop h:=(List.take_append_drop h xs).symm
 by_cases hl:l<=(xs.take h).length
 ·have hlen:(((xs.take h).take l).flatMap V.cells).length=l*sz:=by
   rw[sH (sz:=sz) (fun x hx=>hz x (List.mem_of_mem_take (List.mem_of_mem_take hx))),List.length_take];congr 1;omega
  rw[e2,List.flatMap_append,e1,List.flatMap_append,List.append_assoc,List.getElem?_append_right Aa,hlen,Nat.add_sub_cancel_left];rw[List.getElem?_append_left (List.getElem?_eq_some_iff.1 hy).1];exact hy
 ·rw[List.drop_of_length_le Aa]at hy
  simp at hy
theorem qC(inv:Inv T Φ σ a w G)(x:Option Operand)(dflt:Int){K:Int->Prop}(h:bound (x.map σ.ev) dflt K):(x=none/\K dflt)\/∃y k n,x=some y/\a.eval y= .int k n/\K n:=by
 unfold bound at h;split at h
 ·rename_i hx
  cases x with
  |none=>exact .inl ⟨rfl,h⟩
  |some y=>simp at hx
 ·rename_i k n hx
  cases x with
  |none=>simp at hx
  |some y=>
   simp at hx;have:=(inv.ev y).1;rw[hx]at this;exact .inr ⟨y,k,n,rfl,this.bH,h⟩
 ·exact h.elim
theorem fV(k:IntKind)(n:Int)(y:Nat)(c:BoundsCode)(h0:0<=n)(h1:n<=y):(Instr.sliceBound (.int k n) y c).run P w= .ok n.toNat w:=by
 simp[Instr.sliceBound,asIntOf,h0,h1]
theorem aW3(isS:Bool)(len cap:Nat)(lo hi:Option Value)(l hh:Int)(hl:(lo=none/\l=0)\/∃k,lo=some (.int k l))(hh2:(hi=none/\hh=len)\/∃k,hi=some (.int k hh))(h0:0<=l)(h1:l<=hh)(h2:hh<=cap):
 (Instr.sliceBounds isS len cap lo hi none).run P w= .ok (l.toNat,hh.toNat,cap) w:=by
 rcases hl with⟨rfl,rfl⟩|⟨k,rfl⟩
 ·rcases hh2 with⟨rfl,rfl⟩|⟨k',rfl⟩
  ·simp[Instr.sliceBounds]
  ·simp[Instr.sliceBounds,fV k' hh cap _ Aa h2]
 ·rcases hh2 with⟨rfl,rfl⟩|⟨k',rfl⟩
  ·simp[Instr.sliceBounds,fV k l len _ h0 Aa]
  ·simp[Instr.sliceBounds,fV k' hh cap _ Aa h2,fV k l hh.toNat _ h0 Aa]
theorem cP5(isS:Bool)(len cap:Nat)(lo:Option Value)(l hh:Int)(k1 k2:IntKind)(hl:(lo=none/\l=0)\/∃k,lo=some (.int k l))(h0:0<=l)(h1:l<=hh)(h2:hh<=cap):
 (Instr.sliceBounds isS len cap lo (some (.int k1 hh)) (some (.int k2 hh))).run P w= .ok (l.toNat,hh.toNat,hh.toNat) w:=by
 rcases hl with⟨rfl,rfl⟩|⟨k,rfl⟩
 ·simp[Instr.sliceBounds,fV k2 hh cap _ Aa h2,fV k1 hh hh.toNat _ Aa Aa]
 ·simp[Instr.sliceBounds,fV k2 hh cap _ Aa h2,fV k1 hh hh.toNat _ Aa Aa,fV k l hh.toNat _ h0 Aa]
theorem cH8(hT:bP T P)(inv:Inv T Φ σ a w G)(t:TypeId)(x:Operand)(lo hi mx:Option Operand)(ho:o.op= .slice t x lo hi mx)(ht:t<T.n t)
 (h:sZ T (T.row t) σ (σ.ev x) (lo.map σ.ev) (hi.map σ.ev) (mx.map σ.ev) K):Out T Φ σ a K ((execOp a.eval o).run P w):=by
 obtain⟨x1,x2⟩:=inv.ev x
 have opt:∀(z:Option Operand) (n dflt:Int),((z=none/\n=dflt)\/∃y k,z=some y/\a.eval y= .int k n)->((z.map a.eval=none/\n=dflt)\/∃k,z.map a.eval=some (.int k n)):=by
  rintro z n dflt (⟨rfl,rfl⟩|⟨y,k,rfl,hy⟩)
  ·exact .inl ⟨rfl,rfl⟩
  ·exact .inr ⟨k,FY⟩
 unfold sZ at h;split at h
 ·rename_i s hkd hx
  rw[hx]at x1;have hu:=aF2 (hT t ht) hkd;split at h
  ·rename_i hm
   have hmx:mx=none:=by cases mx<;>simp_all
   subst hmx
   have fin:∀(l hh:Int),((lo=none/\l=0)\/∃y k,lo=some y/\a.eval y= .int k l)->((hi=none/\hh=s.size)\/∃y k,hi=some y/\a.eval y= .int k hh)->need (0<=l/\l<=hh/\hh<=s.size) (K (.lit (.string (s.extract l.toNat hh.toNat))) [])->Out T Φ σ a K ((execOp a.eval o).run P w):=by
    intro l hh hl hh2 hn;obtain⟨⟨q1,q2,q3⟩,hk⟩:=dX hn;have hb:=aW3 (P:=P) (w:=w) false s.size s.size _ _ l hh (opt lo l 0 hl) (opt hi hh s.size hh2) q1 q2 q3;refine .plain inv (v':= .string (s.extract l.toNat hh.toNat)) ?_ hk (.lit _ rfl) dL;simp only[execOp,ho,x1.bH,Instr.sliceAt,Sem.run_bind,dI hu,Result.andThen_ok,Instr.slice,Option.map_none,Option.isSome_none,Bool.false_eq_true,if_false,Sem.run_pure,hb]
   rcases qC inv lo 0 h with⟨e1,h⟩|⟨y,k,n,e1,e2,h⟩
   ·rcases qC inv hi _ h with⟨f1,h⟩|⟨y',k',n',f1,f2,h⟩
    ·exact fin 0 s.size (.inl ⟨e1,rfl⟩) (.inl ⟨f1,rfl⟩) h
    ·exact fin 0 n' (.inl ⟨e1,rfl⟩) (.inr ⟨y',k',f1,f2⟩) h
   ·rcases qC inv hi _ h with⟨f1,h⟩|⟨y',k',n',f1,f2,h⟩
    ·exact fin n s.size (.inr ⟨y,k,e1,e2⟩) (.inl ⟨f1,rfl⟩) h
    ·exact fin n n' (.inr ⟨y,k,e1,e2⟩) (.inr ⟨y',k',f1,f2⟩) h
  ·exact h.elim
 ·rename_i hkd
  have hu:=jW (hT t ht) hkd;obtain⟨hc,h⟩:=aT h;have he:=blt hc
  obtain⟨xs,h,hpx,hfz⟩:∃xs,(bound (lo.map σ.ev) 0 fun l=>bound (hi.map σ.ev) xs.length fun h=>match mx.map σ.ev with
   |none=>need (0<=l/\l<=h/\h<=xs.length/\(l=0\/∀x∈xs,x.cells.length=(T.row (T.row t).elem).size)) (K (.sl ((xs.take h.toNat).drop l.toNat)) [])
   |some m=>match hi.map σ.ev with
    |none=>False
    |some _=>bound (some m) 0 fun m=>need (0<=l/\l<=h/\h<=xs.length/\m=h/\(l=0\/∀x∈xs,x.cells.length=(T.row (T.row t).elem).size)) (K (.cap ((xs.take h.toNat).drop l.toNat)) []))/\bM xs/\Rv w G (a.eval x) (.sl xs):=by
   unfold lV at h;split at h
   ·rename_i l hx
    rw[hx]at x1 x2;simp only[V.ok]at x2;exact⟨l,h,x2,x1⟩
   ·rename_i l hx
    rw[hx]at x1 x2;simp only[V.ok]at x2;exact⟨l,h,x2,x1.wK⟩
   ·rename_i hx
    rw[hx]at x1;exact⟨[],h,BD,by rw[x1.bH];exact .slN⟩
   ·rename_i k g hx
    split at h
    ·rename_i en hen
     obtain⟨⟨hg,hk⟩,h⟩:=dX h;rw[hx]at x1;have hok:=inv.arr k en hen;unfold gW at hok;rw[hk]at hok;exact⟨en.l,h,inv.wfA k en hen,by rw[x1.oQ,<-hg];exact hok⟩
    ·exact h.elim
   ·exact h.elim
  have hsub:∀l hh:Nat,bM ((xs.take hh).drop l):=fun l hh=>aH.2 fun y hy=>aH.1 hpx y (List.mem_of_mem_take (List.mem_of_mem_drop hy))
  obtain⟨b,len,cap,hv,hlen,hbase⟩:∃b len cap,a.eval x= .slice b len cap/\len=xs.length/\((b=none/\len=0/\cap=0)\/∃ad sz cc,b=some ad/\len<=cap/\cap<=maxLen/\(0<len->G.O ad.block= .fz)/\(∀x∈xs,x.cells.length=sz)/\At w ad cc (xs.flatMap V.cells)/\∀(j:Nat) y,(xs.flatMap V.cells)[j]? =some y->Rv w G (cc j) y):=by
   rcases hfz.bK8 with⟨e1,e2⟩|⟨ad,c,sz,cc,e1,e2,e3,e4,e5,e6,e7⟩
   ·exact⟨none,0,0,e1,by rw[e2];rfl, .inl ⟨rfl,rfl,rfl⟩⟩
   ·exact⟨some ad,_,c,e1,rfl, .inr ⟨ad,sz,cc,rfl,e2,e3,e4,e5,e6,e7⟩⟩
  have hlc:len<=cap:=by rcases hbase with⟨_,h1,h2⟩|⟨_,_,_,_,h,_⟩<;>omega
  have newv:∀(l hh m:Nat),l<=hh->hh<=len->hh<=m->m<=cap->(l=0\/∀x∈xs,x.cells.length=(T.row (T.row t).elem).size)->
   Rv w G (.slice (if m=l then b else b.map (·.add (l*(T.row (T.row t).elem).size))) (hh-l) (m-l)) (.sl ((xs.take hh).drop l))/\
   (m=hh->Rv w G (.slice (if m=l then b else b.map (·.add (l*(T.row (T.row t).elem).size))) (hh-l) (m-l)) (.cap ((xs.take hh).drop l))):=by
   intro l hh m q1 q2 q3 q4 q5;have hll:((xs.take hh).drop l).length=hh-l:=by rw[List.length_drop,List.length_take];omega
   rcases hbase with⟨rfl,e2,e3⟩|⟨ad,sz,cc,rfl,e2,e3,e4,e5,e6,e7⟩
   ·have hm0:m=l:=by omega
    have h0:hh-l=0:=Aa;have h1:m-l=0:=Aa
    have hnil:(xs.take hh).drop l=[] :=List.eq_nil_of_length_eq_zero Aa;rw[if_pos hm0,h0,h1,hnil];exact⟨.slN,fun _=> .capN⟩
   ·
    obtain⟨ad',hb',hblk,hat⟩:∃ad',(if m=l then some ad else(some ad).map (·.add (l*(T.row (T.row t).elem).size)))=some ad'/\ad'.block=ad.block/\(l<hh->ad'=ad.add (l*sz)):=by
     by_cases hml:m=l
     ·rw[if_pos hml];exact⟨ad,rfl,rfl,fun h=>Aa⟩
     ·rw[if_neg hml]
      refine⟨_,rfl,add_block _ _,fun hlt=>?_⟩;rcases q5 with rfl|q5
      ·simp
      ·have hx0:xs≠ [] :=by rintro rfl;simp at hlen;omega
       obtain⟨y,ys,rfl⟩:=List.exists_cons_of_ne_nil hx0;rw[<-q5 y Ae,e5 y Ae]
    rw[hb']
    have hcell:At w ad' (fun j=>cc (l*sz+j)) (((xs.take hh).drop l).flatMap V.cells):=by
     intro j y hy
     have hlt:l<hh:=by
      rcases Nat.lt_or_ge l hh with h|h
      ·exact h
      ·rw[List.eq_nil_of_length_eq_zero (by omega:((xs.take hh).drop l).length=0)]at hy;simp at hy
     rw[hat hlt,add_add'];exact e6 _ y (cL9 e5 j hy)
    have hrel:∀(j:Nat) y,(((xs.take hh).drop l).flatMap V.cells)[j]? =some y->Rv w G (cc (l*sz+j)) y:=fun j y hy=>e7 _ y (cL9 e5 j hy);have hfz':0< ((xs.take hh).drop l).length->G.O ad'.block= .fz:=fun h=>by rw[hblk];exact e4 (by omega)
    have hz':∀x∈(xs.take hh).drop l,x.cells.length=sz:=fun x hx=>e5 x (List.mem_of_mem_take (List.mem_of_mem_drop hx));constructor
    ·have:=Rv.slS (w:=w) (G:=G) ad' (m-l) ((xs.take hh).drop l) sz _ Aa Aa hfz' hz' hcell hrel
     rwa [hll]at this
    ·intro hmh
     have:=Rv.capS (w:=w) (G:=G) ad' ((xs.take hh).drop l) sz _ Aa hfz' hz' hcell hrel;rw[hll]at this;rw[hmh];exact this
  have run:∀(l hh m:Nat),(Instr.sliceBounds true len cap (lo.map a.eval) (hi.map a.eval) (mx.map a.eval)).run P w= .ok (l,hh,m) w->
   (execOp a.eval o).run P w= .ok (.value (.slice (if m=l then b else b.map (·.add (l*(T.row (T.row t).elem).size))) (hh-l) (m-l))) w:=by
   intro l hh m hb;simp only[execOp,ho,hv,Instr.sliceAt,Sem.run_bind,dI hu,Result.andThen_ok,Instr.slice,hb,iV hT he,Sem.run_pure]
  have fin:∀(l hh:Int),((lo=none/\l=0)\/∃y k,lo=some y/\a.eval y= .int k l)->((hi=none/\hh=xs.length)\/∃y k,hi=some y/\a.eval y= .int k hh)->
   (match mx.map σ.ev with
   |none=>need (0<=l/\l<=hh/\hh<=xs.length/\(l=0\/∀x∈xs,x.cells.length=(T.row (T.row t).elem).size)) (K (.sl ((xs.take hh.toNat).drop l.toNat)) [])
   |some m=>match hi.map σ.ev with
    |none=>False
    |some _=>bound (some m) 0 fun m=>need (0<=l/\l<=hh/\hh<=xs.length/\m=hh/\(l=0\/∀x∈xs,x.cells.length=(T.row (T.row t).elem).size)) (K (.cap ((xs.take hh.toNat).drop l.toNat)) []))->Out T Φ σ a K ((execOp a.eval o).run P w):=by
   intro l hh hl hh2 hn
   cases mx with
   |none=>
    simp only[Option.map_none]at hn;obtain⟨⟨q1,q2,q3,q4⟩,hk⟩:=dX hn;have hb:=aW3 (P:=P) (w:=w) true len cap _ _ l hh (opt lo l 0 hl) (opt hi hh len (by rw[hlen];exact hh2)) q1 q2 Aa
    have hnv:=(newv l.toNat hh.toNat cap Aa Aa Aa (Nat.le_refl _) (q4.imp (fun h=>by rw[h];rfl) id)).1
    exact NV
   |some my=>
    rcases hh2 with⟨rfl,_⟩|⟨yh,kh,rfl,hyh⟩
    ·exact hn.elim
    simp only[Option.map_some]at hn;rcases qC inv (some my) 0 FV with⟨e1,_⟩|⟨y',k',m,e1,e2,hn⟩
    ·cases e1
    ·cases e1
     obtain⟨⟨q1,q2,q3,q5,q4⟩,hk⟩:=dX hn;subst q5;have hb:=cP5 (P:=P) (w:=w) true len cap (lo.map a.eval) l m kh k' (opt lo l 0 hl) q1 q2 Aa;rw[<-hyh,<-e2]at hb;have hnv:=(newv l.toNat m.toNat m.toNat Aa Aa (Nat.le_refl _) Aa (q4.imp (fun h=>by rw[h];rfl) id)).2 rfl
     exact NV
  rcases qC inv lo 0 h with⟨e1,h⟩|⟨y,k,n,e1,e2,h⟩
  ·rcases qC inv hi _ h with⟨f1,h⟩|⟨y',k',n',f1,f2,h⟩
   ·exact fin 0 xs.length (.inl ⟨e1,rfl⟩) (.inl ⟨f1,rfl⟩) h
   ·exact fin 0 n' (.inl ⟨e1,rfl⟩) (.inr ⟨y',k',f1,f2⟩) h
  ·rcases qC inv hi _ h with⟨f1,h⟩|⟨y',k',n',f1,f2,h⟩
   ·exact fin n xs.length (.inr ⟨y,k,e1,e2⟩) (.inl ⟨f1,rfl⟩) h
   ·exact fin n n' (.inr ⟨y,k,e1,e2⟩) (.inr ⟨y',k',f1,f2⟩) h
 ·exact h.elim
end
section
variable{T:Tab}{P:Program}{Φ:Fr}{σ:St}{a:Act}{w:World}{G:Gh}{K:VK}{o:Oper}{d:Nat}
theorem dT4{d:TypeDesc}{k s:Value}{e:MapEntry}(he:e.key=k)(hk:MapKept.IsKey d k)(hs:MapKept.IsKey d s):∀(l:List MapEntry) (i:Nat),(∀e∈l,MapKept.IsKey d e.key)->Instr.findNow d k l i=some none->
 Instr.findNow d s (l++[e]) i= @ite _ (k=s) (Classical.propDecidable _) (some (some (i+l.length,e.val))) (Instr.findNow d s l i):=by
 intro l
 induction l with
 |nil=>
  intro i _ _;obtain⟨r,h1,h2⟩:=MapKept.sameNow_of_keys hs hk;simp only[List.nil_append,Instr.findNow,he,h1]
  cases r with
  |true=>rw[if_pos (h2.1 rfl).symm];rfl
  |false=>rw[if_neg (fun e=>by have:=h2.2 e.symm;cases this)]
 |cons x r ih=>
  intro i hx hf;have hxk:=hx x Ae;have hr:=ih (i+1) (fun e he=>hx e (by simp[he]))
  obtain⟨b,b1,b2⟩:=MapKept.sameNow_of_keys hk hxk;obtain⟨c,c1,c2⟩:=MapKept.sameNow_of_keys hs hxk;simp only[List.cons_append,Instr.findNow,b1,c1]at hf⊢
  cases b with
  |true=>simp at hf
  |false=>
   simp only at hf;rw[hr hf]
   cases c with
   |true=>exact JJ
   |false=>
    simp only;by_cases h:k=s
    ·rw[if_pos h,if_pos h,List.length_cons];congr 3;omega
    ·rw[if_neg h,if_neg h]
theorem cN7{d:TypeDesc}{k s:Value}{v:Value}(hk:MapKept.IsKey d k)(hs:MapKept.IsKey d s):∀(l:List MapEntry) (i j:Nat) (u:Value),(∀e∈l,MapKept.IsKey d e.key)->Instr.findNow d k l i=some (some (j,u))->
 ∃q,j=i+q/\(∃e,l[q]? =some e/\e.key=k)/\Instr.findNow d s (l.modify q fun e=> {e with key:=k,val:=v}) i= @ite _ (k=s) (Classical.propDecidable _) (some (some (j,v))) (Instr.findNow d s l i):=by
 intro l
 induction l with
 |nil=>intro i j u _ h;simp[Instr.findNow]at h
 |cons x r ih=>
  intro i j u hx hf;have hxk:=hx x Ae;obtain⟨b,b1,b2⟩:=MapKept.sameNow_of_keys hk hxk;obtain⟨c,c1,c2⟩:=MapKept.sameNow_of_keys hs hxk;obtain⟨c',d1,d2⟩:=MapKept.sameNow_of_keys hs hk;simp only[Instr.findNow,b1]at hf
  cases b with
  |true=>
   simp only[Option.some.injEq,Prod.mk.injEq]at hf;obtain⟨rfl,rfl⟩:=hf;have hkx:=b2.1 rfl;refine⟨0,rfl,⟨x,rfl,hkx.symm⟩,?_⟩;simp only[List.modify_zero_cons,Instr.findNow,c1,d1]
   have hcc:c=c':=by
    cases c<;>cases c'<;>first|rfl|(exfalso;simp_all)
   subst hcc
   cases c with
   |true=>rw[if_pos (d2.1 rfl).symm]
   |false=>rw[if_neg (fun e=>by have:=d2.2 e.symm;cases this)]
  |false=>
   simp only at hf;obtain⟨q',rfl,⟨e,he1,he2⟩,h3⟩:=ih (i+1) j u (fun e he=>hx e (by simp[he])) hf
   refine⟨q'+1,Aa,⟨e,by simpa using he1,he2⟩,?_⟩
   simp only[List.modify_succ_cons,Instr.findNow,c1];rw[h3]
   cases c with
   |true=>exact JJ
   |false=>rfl
theorem eO1{kd:Kd}{dd:TypeDesc}(h:kd=kdOf (some dd))(hk:dY9 kd=true):keyD kd=dd:=by
 subst h;cases dd<;>simp_all [kdOf,dY9,keyD]
theorem dF2{kd:Kd}{s:Value}(h:cD3 kd s=true):MapKept.IsKey (keyD kd) s:=by
 unfold cD3 at h;split at h
 ·split at h
  ·exact trivial
  ·cases h
 ·split at h
  ·have:=of_decide_eq_true h
   subst this;exact rfl
  ·cases h
 ·cases h
theorem lit_key{kd:Kd}{s:Value}(h:cD3 kd s=true):litD s=keyD kd:=by
 unfold cD3 at h;split at h
 ·split at h
  ·rfl
  ·cases h
 ·split at h
  ·have:=of_decide_eq_true h
   subst this;rfl
  ·cases h
 ·cases h
theorem aW5(hT:bP T P){t:TypeId}(ht:t<T.n t)(h:bD5 T (T.row t)=true):∃kt et,P.underlying t=some (.map kt et)/\P.underlying kt=some (keyD (T.row (T.row t).alen).kd)/\et=(T.row t).elem/\et<T.n et/\(T.row et).agg=false:=by
 unfold bD5 at h;simp only[Bool.and_eq_true,Bool.not_eq_true']at h;obtain⟨⟨⟨⟨h1,h2⟩,h3⟩,h4⟩,h5⟩:=h
 have hk:(T.row t).kd= .map:=by
  revert h1;cases(T.row t).kd<;>simp
 obtain⟨dd,e1,e2,_⟩:=(hT _ (blt h3)).und;refine⟨_,_,eT8 (hT t ht) hk,?_,rfl,blt h4,h5⟩;rw[eO1 e2 h2];exact e1
theorem bM3(hT:bP T P)(inv:Inv T Φ σ a w G)(t:TypeId)(ho:o.op= .makeMap t none)(ht:t<T.n t)(h:oN T t σ d K):Out T Φ σ a K ((execOp a.eval o).run P w):=by
 unfold oN at h;split at h
 ·rename_i hd
  obtain⟨_,h2⟩:=aT h
  let av':Nat->Nat->Value:=fun k' g=>if k'=d/\g=0 then .map (some w.heap.size)else G.av k' g
  have hav:av' d 0= .map (some w.heap.size):=GH;have hold:∀b,b<w.heap.size->(w.alloc (.map #[] 0)).heap[b]? =w.heap[b]? :=fun b hb=>heap_alloc_old w _ hb
  have inv':Inv T Φ (σ.apps [.a d ⟨0, .dead,t,[.bot]⟩]) a (w.alloc (.map #[] 0)) {G with av:=av',O:=upd G.O w.heap.size (.ar d)}:=by
   refine inv.zU (w':=w.alloc (.map #[] 0)) (k:=d) (en:=⟨0, .dead,t,[.bot]⟩) (av':=av') (O':=upd G.O w.heap.size (.ar d)) (fun g hg=>Nat.le_of_lt (zK hd 0 g hg)) (fun k' g hg=>?_) ?_ ?_ ?_ ?_ (fun b hb _=>hold b hb) Ae rfl rfl rfl
   ·have:¬(k'=d/\g=0):=by rintro⟨rfl,rfl⟩;exact absurd (zK hd 0 0 hg) Aa
    simp[av',this]
   ·simp only[bM,V.okL,V.ok,and_self]
   ·exact⟨w.heap.size, #[],0,hav,upd_same _ _ _,heap_alloc_new w _,Ae,fun s _=>rfl⟩
   ·intro b hb _;exact upd_ne _ _ (by have:=inv.tag b hb;omega)
   ·intro b
    by_cases e1:b=w.heap.size
    ·subst e1;exact .inr (.inr (.inl ⟨upd_same _ _ _,aN0 inv,Ae⟩))
    ·exact .inl (upd_ne _ _ e1)
  refine⟨.map (some w.heap.size),w.alloc (.map #[] 0),_,_,_, .inl ?_,h2,inv',aQ0 (by rw[<-hav]) rfl,?_⟩
  ·simp[execOp,ho,Instr.makeMap,Result.andThen]
  ·exact I8
 ·exact h.elim
theorem eF3(hT:bP T P){t:TypeId}(ht:t<T.n t)(ha:(T.row t).agg=false){z:Value}(hz:(zeroValue t).run P w= .ok z w):(T.row t).zero=[z] :=by
 obtain⟨i,i1,i2,i3,z',i4,i5,i6,i7,i8,i9⟩:=(hT _ ht).info
 have:(zeroValue t).run P w= .ok z' w:=by
  simp[zeroValue,cO9 i1,i4,Result.andThen]
 rw[this]at hz;cases hz;exact i9 ha
theorem bZ4(hT:bP T P)(inv:Inv T Φ σ a w G)(t:TypeId)(x y:Operand)(ho:o.op= .lookup t x y false)(ht:t<T.n t)(h:rG T t σ (σ.ev x) (σ.ev y) K):Out T Φ σ a K ((execOp a.eval o).run P w):=by
 obtain⟨x1,x2⟩:=inv.ev x;obtain⟨y1,y2⟩:=inv.ev y;unfold rG at h;split at h
 ·rename_i k g s hx hy
  rw[hx]at x1;rw[hy]at y1;split at h
  ·rename_i en hen
   split at h
   ·rename_i es hkd hl
    obtain⟨hg,h2⟩:=dX h;obtain⟨hr,h3⟩:=aT h2;simp only[Bool.and_eq_true]at hr;obtain⟨kt,et,u1,u2,rfl,u4,u5⟩:=aW5 hT ht hr.1.1;have hks:=dF2 hr.1.2;have hty:en.ty=t:=Nat.eq_of_beq_eq_true hr.2
    have hok:=inv.arr k en hen;unfold gW at hok;rw[hkd,hl]at hok;obtain⟨b,ents,clock,q1,q2,q3,q4,q5⟩:=(hok:bL6 _ w G k _ es);rw[hty]at q4 q5;have ex:a.eval x= .map (some b):=by rw[x1.oQ,<-hg,q1]
    have ey:a.eval y=s:=y1.bH;obtain⟨z,hz,hzc,hz1,_⟩:=aC3 (w:=w) hT u4;have hzl:(T.row (T.row t).elem).zero=[z] :=eF3 hT u4 u5 hz
    rw[hzl]at h3;have h4:=h3.out;have hc:∀e,(Instr.checkKey e 10000 kt s).run P w= .ok () w:=fun e=>MapKept.run_checkKey u2 hks e 9999
    have q5':=q5 s hks
    cases ha:jG s es with
    |none=>
     rw[ha]at q5' h4;refine .plain inv (v':=z) ?_ h4 (.lit z (hz1 z (by rw[hzl];simp))) (by simp only[Option.getD,V.ok])
     simp[execOp,ho,ex,ey,Instr.lookup,dI u1,MapKept.run_getObj_map q3,hc,MapKept.run_findKey u2 q5',hz,Result.andThen]
    |some vv=>
     rw[ha]at q5' h4;obtain⟨i,v,r1,r2,r3,r4⟩:=q5';refine .plain inv (v':=v) ?_ h4 r3 (r4.ok _ _);exact Nu
   ·exact h.elim
  ·exact h.elim
 ·rename_i g cs s hx hy
  rw[hx]at x1 x2;rw[hy]at y1;split at h
  ·rename_i kz es
   obtain⟨hr,h3⟩:=aT h;simp only[Bool.and_eq_true]at hr;obtain⟨kt,et,u1,u2,rfl,u4,u5⟩:=aW5 hT ht hr.1.1;have hks:=dF2 hr.1.2;have hkz:litD kz=keyD (T.row (T.row t).alen).kd:=lit_key hr.2
   obtain⟨b,ents,clock,val,ex,q3,q4,q5,q6⟩:=x1.mp_inv;rw[hkz]at q4 q5 q6;have ey:a.eval y=s:=y1.bH;obtain⟨z,hz,hzc,hz1,_⟩:=aC3 (w:=w) hT u4;have hzl:(T.row (T.row t).elem).zero=[z] :=eF3 hT u4 u5 hz
   rw[hzl]at h3;have h4:=h3.out;have hc:∀e,(Instr.checkKey e 10000 kt s).run P w= .ok () w:=fun e=>MapKept.run_checkKey u2 hks e 9999
   cases ha:jG s es with
   |none=>
    rw[ha]at h4;refine .plain inv (v':=z) ?_ h4 (.lit z (hz1 z (by rw[hzl];simp))) (by simp only[Option.getD,V.ok])
    simp[execOp,ho,ex,ey,Instr.lookup,dI u1,MapKept.run_getObj_map q3,hc,MapKept.run_findKey u2 (q4 s hks ha),hz,Result.andThen]
   |some vv=>
    rw[ha]at h4;obtain⟨⟨i,r1⟩,r2⟩:=q5 s vv hks ha;have hp:bM es:=by simp only[V.ok,V.okL]at x2;exact x2.2.2.1
    refine .plain inv (v':=val s) ?_ h4 (q6 s vv hks ha) ((assoc_pure hp ha).ok _ _);exact Nu
  ·exact h.elim
 ·exact h.elim
theorem cQ6{x:V}{p:Nat->Prop}{q:Nat->Nat->Prop}(h:x.atom=true)(hok:x.ok p q):x.pure:=I7
theorem Rv.dV8{w:World}{G:Gh}{v:Value}{x:V}(h:Rv w G v x)(ha:x.atom=true):v.oneCell'=true:=by
 cases h with
 |lit u hu=>exact hu
 |slN=>rfl
 |slS=>rfl
 |capN=>rfl
 |capS=>rfl
 |fn=>rfl
 |fb=>rfl
 |mp=>rfl
 |_=>simp[V.atom]at ha
theorem aA0(hT:bP T P)(inv:Inv T Φ σ a w G)(t:TypeId)(x y z:Operand)(ho:o.op= .mapUpdate t x y z\/o.op= .insert t x y z)(ht:t<T.n t)(h:iE T t σ (σ.ev x) (σ.ev y) (σ.ev z) K):Out T Φ σ a K ((execOp a.eval o).run P w):=by
 obtain⟨x1,x2⟩:=inv.ev x;obtain⟨y1,y2⟩:=inv.ev y;obtain⟨z1,z2⟩:=inv.ev z;unfold iE at h;split at h
 ·rename_i k g s hx hy
  rw[hx]at x1;rw[hy]at y1;split at h
  ·rename_i en hen
   split at h
   ·rename_i es hkd hl
    obtain⟨hg,h2⟩:=dX h;obtain⟨hr,h3⟩:=aT h2;simp only[Bool.and_eq_true]at hr;obtain⟨kt,et,u1,u2,rfl,u4,u5⟩:=aW5 hT ht hr.1.1.1;have hks:=dF2 hr.1.1.2;have hty:en.ty=t:=Nat.eq_of_beq_eq_true hr.1.2
    have hok:=inv.arr k en hen;unfold gW at hok;rw[hkd,hl]at hok;obtain⟨b,ents,clock,q1,q2,q3,q4,q5⟩:=(hok:bL6 _ w G k _ es);rw[hty]at q4 q5;generalize hdd:keyD (T.row (T.row t).alen).kd=dd at*;have ex:a.eval x= .map (some b):=by rw[x1.oQ,<-hg,q1]
    have ey:a.eval y=s:=y1.bH;have hc:∀e,(Instr.checkKey e 10000 kt s).run P w= .ok () w:=fun e=>MapKept.run_checkKey u2 hks e 9999
    have zp:(σ.ev z).pure:=cQ6 hr.2 z2;have zo:(a.eval z).oneCell'=true:=z1.dV8 hr.2
    have key:∃ents' clock',(Instr.mapUpdate t (.map (some b)) s (a.eval z)).run P w= .ok () {w with heap:=w.heap.setIfInBounds b (.map ents' clock')}/\(∀e∈ents'.toList,MapKept.IsKey dd e.key)/\
     ∀s',MapKept.IsKey dd s'->∃j,Instr.findNow dd s' ents'.toList 0= @ite _ (s=s') (Classical.propDecidable _) (some (some (j,a.eval z))) (Instr.findNow dd s' ents.toList 0):=by
     have hq:=q5 s hks
     cases ha:jG s es with
     |none=>
      rw[ha]at hq;refine⟨ents.push {key:=s,val:=a.eval z,born:=clock},clock+1,?_,?_,fun s' hs'=>?_⟩
      ·simp[Instr.mapUpdate,dI u1,MapKept.run_getObj_map q3,hc,MapKept.run_findKey u2 hq,MapKept.run_setObj_map _ q3,Result.andThen]
      ·intro e he
       simp only[Array.toList_push,List.mem_append,List.mem_singleton]at he;rcases he with he|rfl
       ·exact q4 e he
       ·exact hks
      ·refine⟨0+ents.toList.length,?_⟩
       rw[Array.toList_push];exact dT4 rfl hks hs' _ 0 q4 hq
     |some vv=>
      rw[ha]at hq;obtain⟨i,v,r1,_,_,_⟩:=hq;have hm:=fun s' hs'=>cN7 (d:=dd) (k:=s) (s:=s') (v:=a.eval z) hks hs' ents.toList 0 i v q4 r1;obtain⟨q,hi,⟨e,he1,he2⟩,_⟩:=hm s hks;have hi':i=q:=Aa
      subst hi';have hj:ents[i]? =some e:=by simpa using he1
      refine⟨ents.modify i fun e=> {e with key:=s,val:=a.eval z},clock,?_,?_,fun s' hs'=>?_⟩
      ·simp[Instr.mapUpdate,dI u1,MapKept.run_getObj_map q3,hc,MapKept.run_findKey u2 r1,hj,he2,MapKept.run_keyThatStays hks,MapKept.run_setObj_map _ q3,Result.andThen]
      ·intro e' he'
       rw[Array.toList_modify]at he';obtain⟨j,hj'⟩:=List.getElem?_of_mem he';rw[List.getElem?_modify]at hj'
       cases hl':ents.toList[j]? with
       |none=>rw[hl']at hj';simp at hj'
       |some e0=>
        rw[hl']at hj';have hj2:(if i=j then {key:=s,val:=a.eval z,born:=e0.born} else e0)=e':=Option.some.inj hj'
        by_cases hij:i=j
        ·rw[if_pos hij]at hj2
         rw[<-hj2];exact hks
        ·rw[if_neg hij]at hj2
         rw[<-hj2];exact q4 e0 (List.mem_of_getElem? hl')
      ·obtain⟨q',h1,_,h5⟩:=hm s' hs'
       have:q'=i:=Aa;subst this;exact⟨_,by rw[Array.toList_modify];exact h5⟩
    obtain⟨ents',clock',k1,k2,k3⟩:=key;have hblt:b<w.heap.size:=inv.tag b (by rw[q2];simp)
    have hset:∀b',b'≠b->({w with heap:=w.heap.setIfInBounds b (.map ents' clock')}:World).heap[b']? =w.heap[b']? :=fun b' hb'=>(MapKept.heap_set q3).2 b' hb'
    have hkp:Keep w {w with heap:=w.heap.setIfInBounds b (.map ents' clock')} G {G with av:=G.av,O:=G.O}:=⟨fun _ h=>h,fun b' hb'=>hset b' (by rintro rfl;rw[q2]at hb';cases hb')⟩
    have inv':Inv T Φ (σ.apps [.a k ⟨en.gen, .dead,en.ty, .bot:: .tup [.lit s,σ.ev z] ::es⟩]) a {w with heap:=w.heap.setIfInBounds b (.map ents' clock')} {G with av:=G.av,O:=G.O}:=by
     refine inv.zU (w':={w with heap:=w.heap.setIfInBounds b (.map ents' clock')}) (k:=k) (en:=⟨en.gen, .dead,en.ty, .bot:: .tup [.lit s,σ.ev z] ::es⟩) (av':=G.av) (O':=G.O) ?_ (fun _ _ _=>rfl) ?_ ?_ (fun _ _ _=>rfl) (fun _=> .inl rfl) (fun b' hb' hn=>hset b' (by rintro rfl;exact hn q2)) Ae rfl rfl rfl
     ·rintro g' ⟨en',e1,e2⟩
      rw[hen]at e1;cases e1;exact e2
     ·have:=inv.wfA k en hen
      rw[hl]at this;simp only[bM,V.okL,V.ok,true_and,and_true]at this⊢;exact⟨zp,this⟩
     ·refine⟨b,ents',clock',q1,q2,(MapKept.heap_set q3).1,by rw[hty,hdd];exact k2,fun s' hs'=>?_⟩
      rw[hty,hdd]at hs'⊢;obtain⟨j,hj⟩:=k3 s' hs';by_cases hs:s=s'
      ·subst hs
       rw[if_pos rfl]at hj;simp only[jG,if_true];exact⟨j,_,hj,zo,z1.aW hkp zp,zp⟩
      ·rw[if_neg hs]at hj
       simp only[jG,hs,if_false];have:=q5 s' hs'
       cases ha:jG s' es with
       |none=>rw[ha]at this;rw[hj];exact this
       |some vv=>
        rw[ha]at this;obtain⟨i,v,r1,r2,r3,r4⟩:=this;exact⟨i,v,hj.trans r1,r2,r3.aW hkp r4,r4⟩
    refine⟨undef,_,_,_,_, .inr ⟨?_,rfl⟩,h3,inv', .bot _,Bl⟩;rcases ho with ho|ho<;>simp[execOp,ho,ex,ey,k1,Result.andThen]
   ·exact h.elim
  ·exact h.elim
 ·exact h.elim
end
end Go.Ab
