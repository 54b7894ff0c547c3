/-
  Element addresses, lengths, parts of composite values, composite values, conversions.
-/
import Derived.Test.YtdjgbagnajikeaaGreatDoorA3
set_option linter.unusedVariables false
set_option linter.unusedSimpArgs false
noncomputable section
namespace Go.Ab
section
variable{T:Tab}{P:Program}{Φ:Fr}{σ:St}{a:Act}{w:World}{G:Gh}{K:VK}{o:Oper}{d:Nat}
theorem vU(hT:bP T P){t:TypeId}(ht:t<T.n t)(hk:(T.row t).kd= .slice)(he:(T.row t).elem<T.n (T.row t).elem)(ad:Addr)(len cap:Nat)(k:IntKind)(n:Int)(h0:0<=n)(h1:n<len):
 (Instr.indexAt t (.slice (some ad) len cap) (.int k n)).run P w= .ok (.pointer (some (ad.add (n.toNat*(T.row (T.row t).elem).size)))) w:=by
 simp[Instr.indexAt,asIntOf,dI (jW (hT t ht) hk),h0,h1,iV hT he]
theorem vZ(hT:bP T P){t:TypeId}(ht:t<T.n t)(hk:(T.row t).kd= .array)(he:(T.row t).elem<T.n (T.row t).elem)(ad:Addr)(k:IntKind)(n:Nat)(h1:n< (T.row t).alen):
 (Instr.indexAt t (.pointer (some ad)) (.int k n)).run P w= .ok (.pointer (some (ad.add (n*(T.row (T.row t).elem).size)))) w:=by
 simp[Instr.indexAt,asIntOf,dI (aR9 (hT t ht) hk),h1,iV hT he,Instr.sureAddr]
theorem aY7(hT:bP T P)(inv:Inv T Φ σ a w G)(t:TypeId)(x y:Operand)(ho:o.op= .indexAddr t x y)(ht:t<T.n t)(h:gI T (T.row t) σ (σ.ev x) (σ.ev y) K):Out T Φ σ a K ((execOp a.eval o).run P w):=by
 obtain⟨h1,h2⟩:=inv.ev x;obtain⟨y1,y2⟩:=inv.ev y
 have frozen:∀(l:List V) (ki:IntKind) (n:Int),(T.row t).kd= .slice->a.eval y= .int ki n->Rv w G (a.eval x) (.sl l)->bM l->
  need (0<=n/\n<l.length) (idx l n.toNat fun x=>bJ x.cells fun cs=>cond (Nat.beq (lenR cs) (T.row (T.row t).elem).size&&Nat.blt (T.row t).elem (T.n (T.row t).elem)) (K (.fp cs) []) False)->Out T Φ σ a K ((execOp a.eval o).run P w):=by
  intro l ki n hkd hyv hx hpl hh;obtain⟨⟨n0,n1⟩,h3⟩:=dX hh;obtain⟨z,hz,h4⟩:=cO3 h3;rw[bC]at h4;obtain⟨hc,h5⟩:=aT h4;simp only[Bool.and_eq_true,iL]at hc;have hc1:z.cells.length=(T.row (T.row t).elem).size:=by simpa [Nat.beq_eq]using hc.1
  have he:=blt hc.2;rcases hx.bK8 with⟨e1,e2⟩|⟨ad,c,sz,cc,e1,e2,e3,e4,e5,e6,e7⟩
  ·rw[e2]at hz;simp at hz
  ·have hsz:sz=(T.row (T.row t).elem).size:=by rw[<-e5 z (List.mem_of_getElem? hz)];exact hc1
   have hlen:0<l.length:=by have:=(List.getElem?_eq_some_iff.1 hz).1;omega
   refine .plain inv (v':= .pointer (some (ad.add (n.toNat*(T.row (T.row t).elem).size)))) (by simp[execOp,ho,hyv,e1,vU hT ht hkd he ad l.length c ki n n0 n1]) h5 ?_ ?_
   ·have hH:=Here.elem e5 (w:=w) (G:=G) ⟨cc,e6,e7⟩ hz 0
    obtain⟨cc',q1,q2⟩:=hH.out;rw[List.drop_zero,Nat.add_zero,hsz]at q1;rw[List.drop_zero]at q2;exact .fp _ _ cc' (fun _=>by rw[add_block];exact e4 hlen) q1 q2
   ·simp only[V.ok]
    exact sF (aH.1 hpl z (List.mem_of_getElem? hz))
 unfold gI at h;split at h
 ·rename_i ki n hkd hy
  rw[hy]at y1;have hyv:=y1.bH;split at h
  ·rename_i l hx
   rw[hx]at h1 h2;simp only[V.ok]at h2;exact frozen l ki n hkd hyv h1 h2 h
  ·rename_i l hx
   rw[hx]at h1 h2;simp only[V.ok]at h2;exact frozen l ki n hkd hyv h1.wK h2 h
  ·rename_i k g hx
   rw[hx]at h1 h2;split at h
   ·rename_i en hen
    obtain⟨⟨hg,hd,n0,n1⟩,h3⟩:=dX h;obtain⟨hc,h4⟩:=aT h3;simp only[Bool.and_eq_true]at hc;have he:=blt hc.2;subst hg;rcases(inv.arr k en hen).reads hd with⟨e1,e2⟩|⟨ad,c,sz,e1,e2,e3,e4,e5⟩
    ·rw[e2]at n1;simp at n1;omega
    ·have hxv:a.eval x= .slice (some ad) en.l.length c:=h1.oQ.trans e1
     refine .plain inv (v':= .pointer (some (ad.add (n.toNat*(T.row (T.row t).elem).size)))) (by simp[execOp,ho,hyv,hxv,vU hT ht hkd he ad en.l.length c ki n n0 n1]) h4 ?_ Ec
     have:=Rv.ae (w:=w) (G:=G) k en.gen (T.row (T.row t).elem).size n.toNat 0 ad en.l.length c e1;simpa using this
   ·exact h.elim
  ·exact h.elim
 ·rename_i ki n hkd hy
  rw[hy]at y1;have hyv:a.eval y= .int ki ((n:Nat):Int):=y1.bH;split at h
  ·rename_i i off hx
   rw[hx]at h1 h2;obtain⟨hc,h3⟩:=aT h;simp only[Bool.and_eq_true]at hc;refine .plain inv (v':= .pointer (some ((⟨G.β i,off,none⟩:Addr).add (n*(T.row (T.row t).elem).size)))) (by simp[execOp,ho,hyv,h1.bI6,vZ hT ht hkd (blt hc.2) _ ki n (blt hc.1)]) h3 ?_ Ec
   rw[rY];exact .box _ _
  ·rename_i cs hx
   rw[hx]at h1 h2;obtain⟨hc,h3⟩:=aT h;simp only[Bool.and_eq_true]at hc;obtain⟨ad,cc,he,hf1,hcc,hr⟩:=h1.cW5;rw[bC,lQ]at h3;refine .plain inv (v':= .pointer (some (ad.add (n*(T.row (T.row t).elem).size)))) (by simp[execOp,ho,hyv,he,vZ hT ht hkd (blt hc.2) _ ki n (blt hc.1)]) h3 ?_ ?_
   ·refine .fp _ _ (fun j=>cc (n*(T.row (T.row t).elem).size+j)) (fun hne=>?_) (fun j y hy=>?_) (fun j y hy=>?_)
    ·rw[add_block];exact hf1 (by rintro rfl;simp at hne)
    ·rw[List.getElem?_drop]at hy
     rw[add_add'];exact hcc _ y hy
    ·rw[List.getElem?_drop]at hy
     exact hr _ y hy
   ·exact JP
  ·exact h.elim
 ·exact h.elim
theorem dM3(hT:bP T P)(inv:Inv T Φ σ a w G)(x:Operand)(t:TypeId)(ho:o.op= .call ⟨.builtin .len,⟨[x]⟩,⟨[t]⟩⟩)(ht:t<T.n t)
 (hkd:(T.row t).kd= .slice)(h:aE9 σ (σ.ev x) K):Out T Φ σ a K ((execOp a.eval o).run P w):=by
 obtain⟨h1,h2⟩:=inv.ev x
 have run:∀(u:Value) (m:Nat),a.eval x=u->(Builtin.len_ #[t] o.type #[u]).run P w= .ok (goInt m) w->(execOp a.eval o).run P w= .ok (.value (.int .i64 m)) w:=by
  intro u m hu hr;simp only[execOp,ho,resolve,invoke,builtin,Sem.run_bind,Sem.run_pure,Result.andThen_ok,List.map_toArray,List.map_cons,List.map_nil,hu,hr];rfl
 have sl:∀(b:Option Addr) (m c:Nat),(T.row t).kd= .slice->a.eval x= .slice b m c->(execOp a.eval o).run P w= .ok (.value (.int .i64 m)) w:=fun b m c hkd hu=>
  run _ m hu (by simp[Builtin.len_,dI (jW (hT t ht) hkd)])
 unfold aE9 at h;split at h
 ·rename_i hx
  rw[hx]at h1;exact .plain inv (sl none 0 0 hkd h1.bH) h (I_ok _ _ _ _) dL
 ·rename_i l hx
  rw[hx]at h1;rcases h1.bK8 with⟨e1,e2⟩|⟨ad,c,sz,cc,e1,_⟩
  ·subst e2;exact .plain inv (sl none 0 0 hkd e1) h (I_ok _ _ _ _) dL
  ·exact .plain inv (sl _ _ c hkd e1) h (I_ok _ _ _ _) dL
 ·rename_i l hx
  rw[hx]at h1;rcases h1.vP with⟨e1,e2⟩|⟨ad,sz,cc,e1,_⟩
  ·subst e2;exact .plain inv (sl none 0 0 hkd e1) h (I_ok _ _ _ _) dL
  ·exact .plain inv (sl _ _ _ hkd e1) h (I_ok _ _ _ _) dL
 ·rename_i k g hx
  rw[hx]at h1;split at h
  ·rename_i en hen
   obtain⟨⟨hg,hd⟩,h3⟩:=dX h;subst hg;rcases(inv.arr k en hen).reads hd with⟨e1,e2⟩|⟨ad,c,sz,e1,_⟩
   ·rw[e2]at h3;exact .plain inv (sl none 0 0 hkd (h1.oQ.trans e1)) h3 (I_ok _ _ _ _) dL
   ·exact .plain inv (sl _ _ c hkd (h1.oQ.trans e1)) h3 (I_ok _ _ _ _) dL
  ·exact h.elim
 ·exact h.elim
theorem cR9(hT:bP T P)(inv:Inv T Φ σ a w G)(x:Operand)(t:TypeId)(ho:o.op= .call ⟨.builtin .len,⟨[x]⟩,⟨[t]⟩⟩)(ht:t<T.n t)(hkd:(T.row t).kd= .str)(h:aI4 (σ.ev x) K):Out T Φ σ a K ((execOp a.eval o).run P w):=by
 obtain⟨h1,h2⟩:=inv.ev x;unfold aI4 at h;split at h
 ·rename_i s hx
  rw[hx]at h1;have hr:(Builtin.len_ #[t] o.type #[.string s]).run P w= .ok (goInt s.size) w:=by simp[Builtin.len_,dI (aF2 (hT t ht) hkd)]
  refine .plain inv (v':= .int .i64 s.size) ?_ h (I_ok _ _ _ _) dL;simp only[execOp,ho,resolve,invoke,builtin,Sem.run_bind,Sem.run_pure,Result.andThen_ok,List.map_toArray,List.map_cons,List.map_nil,h1.bH,hr];rfl
 ·exact h.elim
theorem cE0(hT:bP T P){t:TypeId}(ht:t<T.n t){cs:Array Value}{xs:List V}(hl:cs.size=xs.length)(h1:∀c∈cs,c.oneCell'=true)(hr:∀(i:Nat) c x,cs[i]? =some c->xs[i]? =some x->Rv w G c x)(hok:V.okL σ.hasB σ.hasA xs){off:Nat}
 (h:wB (T.row t) (jX xs off) K):∃v' v,(part t cs off).run P w= .ok v' w/\K v []/\Rv w G v' v/\v.ok σ.hasB σ.hasA:=by
 rw[lQ]at h;unfold wB at h;split at h
 ·rename_i hagg
  rw[bC,aD3,iL]at h;obtain⟨hc,h3⟩:=aT h;have hlen:((xs.drop off).take (T.row t).size).length=(T.row t).size:=by simpa [Nat.beq_eq]using hc
  have hle:off+(T.row t).size<=xs.length\/(T.row t).size=0:=by rw[List.length_take,List.length_drop]at hlen;omega
  refine⟨.agg (cs.extract off (off+(T.row t).size)),_,by simp[part,yG hT ht,hagg,iV hT ht],h3, .agg _ _ ?_ ?_ ?_,?_⟩
  ·rw[hlen,Array.size_extract];omega
  ·intro c hcm
   rw[Array.mem_iff_getElem?]at hcm;obtain⟨i,hi⟩:=hcm;rw[Array.getElem?_extract]at hi;split at hi
   ·exact h1 c (Array.mem_of_getElem? hi)
   ·cases hi
  ·intro i c x hci hx
   rw[Array.getElem?_extract]at hci;rw[List.getElem?_take,List.getElem?_drop]at hx;split at hci
   ·split at hx
    ·exact hr _ c x hci hx
    ·cases hx
   ·cases hci
  ·simp only[V.ok]
   rw[aH]at hok⊢;exact fun y hy=>hok y (List.mem_of_mem_drop (List.mem_of_mem_take hy))
 ·rename_i hagg
  split at h
  ·rename_i x r hxr
   rw[force_eq]at h
   have hx:xs[off]? =some x:=by
    have:(xs.drop off)[0]? =some x:=by rw[hxr];rfl
    rwa [List.getElem?_drop,Nat.add_zero]at this
   have hlt:off<cs.size:=by rw[hl];exact(List.getElem?_eq_some_iff.1 hx).1
   refine⟨cs[off],x,by simp[part,yG hT ht,hagg,hlt],h,hr off _ x GI hx,aH.1 hok x (List.mem_of_getElem? hx)⟩
  ·exact h.elim
theorem cL3(hT:bP T P)(inv:Inv T Φ σ a w G)(s:TypeId)(x:Operand)(f:Nat)(ho:o.op= .field s x f)(hs:s<T.n s)(h:aM2 T (T.row s) (σ.ev x) f K):Out T Φ σ a K ((execOp a.eval o).run P w):=by
 obtain⟨h1,h2⟩:=inv.ev x;unfold aM2 at h;split at h
 ·rename_i off z kd ty cs hkd hf hx
  rw[uN]at hf;rw[hx]at h1 h2;obtain⟨hc,h3⟩:=aT h;obtain⟨vs,e1,e2,e3,e4⟩:=h1.zV;obtain⟨fs,u1,u2,u3⟩:=yJ (hT s hs) hkd;rw[u2,List.getElem?_map]at hf
  cases hfs:fs.toList[f]? with
  |none=>rw[hfs]at hf;cases hf
  |some fd=>
   rw[hfs]at hf;simp only[Option.map_some,Option.some.injEq,Prod.mk.injEq]at hf;have hfa:fs[f]? =some fd:=by simpa using hfs
   simp only[V.ok]at h2;obtain⟨v',v,hr,hk,hv,hvo⟩:=cE0 hT (blt hc) e2 e3 e4 h2 (P:=P) h3;refine .plain inv (v':=v') ?_ hk hv hvo;simp[execOp,ho,e1,Instr.field,dI u1,hfa,asAgg,hf.1,hf.2.2.2,hr]
 ·exact h.elim
theorem cK7(hT:bP T P)(inv:Inv T Φ σ a w G)(t:TypeId)(x y:Operand)(ho:o.op= .index t x y)(ht:t<T.n t)(h:aM6 T (T.row t) (σ.ev x) (σ.ev y) K):Out T Φ σ a K ((execOp a.eval o).run P w):=by
 obtain⟨h1,h2⟩:=inv.ev x;obtain⟨y1,y2⟩:=inv.ev y;unfold aM6 at h;split at h
 ·rename_i s ki n hkd hx hy
  rw[hx]at h1;rw[hy]at y1;obtain⟨⟨n0,n1⟩,h3⟩:=dX h;have hlt:n.toNat<s.size:=Aa;refine .plain inv ?_ h3 (I_ok _ _ _ _) dL;simp[execOp,ho,h1.bH,y1.bH,Instr.index,asIntOf,dI (aF2 (hT t ht) hkd),n0,hlt,byteAt]
 ·rename_i cs ki n hkd hx hy
  rw[hx]at h1 h2;rw[hy]at y1;obtain⟨hc,h3⟩:=aT h;simp only[Bool.and_eq_true]at hc;obtain⟨vs,e1,e2,e3,e4⟩:=h1.zV;simp only[V.ok]at h2;obtain⟨v',v,hr,hk,hv,hvo⟩:=cE0 hT (blt hc.2) e2 e3 e4 h2 (P:=P) h3;have hyv:a.eval y= .int ki ((n:Nat):Int):=y1.bH;refine .plain inv (v':=v') ?_ hk hv hvo;simp[execOp,ho,e1,hyv,Instr.index,asIntOf,dI (aR9 (hT t ht) hkd),blt hc.1,iV hT (blt hc.2),hr]
 ·exact h.elim
theorem bO9(off:Nat):∀(l:List Value) (k:Nat) (cells:Array Value),off+k+l.length<=cells.size->
 ((l.zipIdx k).foldl (fun cs p=>cs.setIfInBounds (off+p.2) p.1) cells).toList=cells.toList.take (off+k)++l++cells.toList.drop (off+k+l.length)
 | [],k,cells,h=>Ae
 |v::r,k,cells,h=>by
  simp only[List.zipIdx_cons,List.foldl_cons];rw[bO9 off r (k+1) _ (by simp at h⊢;omega)]
  simp only[Array.toList_setIfInBounds,List.length_cons]at h⊢;apply List.ext_getElem?;intro i;simp only[List.getElem?_append,List.getElem?_take,List.getElem?_drop,List.length_take,List.length_append,List.getElem?_set,List.length_set,Array.length_toList,List.length_cons];by_cases h1:i<off+k
  ·have h0:¬off+k=i:=by omega
   simp only[show i<min (off+k) cells.size from Aa,show i<min (off+(k+1)) cells.size from Aa,show i<min (off+k) cells.size+(r.length+1) from Aa,show i<min (off+(k+1)) cells.size+r.length from Aa,h1,show i<off+(k+1) from Aa,if_true,h0,if_false]
  ·by_cases h2:i=off+k
   ·subst h2
    simp only[show off+k<min (off+(k+1)) cells.size from Aa,show off+k<min (off+(k+1)) cells.size+r.length from Aa,show off+k<off+(k+1) from Aa,if_true,show off+k<cells.size from Aa,show off+k<min (off+k) cells.size+(r.length+1) from Aa,show¬off+k<min (off+k) cells.size from Aa,if_false,show off+k-min (off+k) cells.size=0 from Aa,List.getElem?_cons_zero]
   ·by_cases h3:i<off+k+(r.length+1)
    ·simp only[show¬i<min (off+(k+1)) cells.size from Aa,show i<min (off+(k+1)) cells.size+r.length from Aa,show i<min (off+k) cells.size+(r.length+1) from Aa,show¬i<min (off+k) cells.size from Aa,if_true,if_false,show i-min (off+k) cells.size=(i-min (off+(k+1)) cells.size)+1 from Aa,List.getElem?_cons_succ]
    ·simp only[show¬i<min (off+(k+1)) cells.size from Aa,show¬i<min (off+(k+1)) cells.size+r.length from Aa,show¬i<min (off+k) cells.size+(r.length+1) from Aa,if_false,show off+(k+1)+r.length+(i- (min (off+(k+1)) cells.size+r.length))=i from Aa,show off+k+(r.length+1)+(i- (min (off+k) cells.size+(r.length+1)))=i from Aa,show¬off+k=i from Aa]
theorem cV2(off:Nat)(vs cells:Array Value)(h:off+vs.size<=cells.size):(vs.zipIdx.foldl (fun cs (c,j)=>cs.setIfInBounds (off+j) c) cells).toList=cells.toList.take off++vs.toList++cells.toList.drop (off+vs.toList.length):=by
 have:=bO9 off vs.toList 0 cells D8;simp only[Nat.add_zero]at this;rw[<-this,<-Array.foldl_toList,Array.toList_zipIdx]
theorem bL4(inv:Inv T Φ σ a w G){place place':Nat->Option (Nat×Nat)}(ps:List (Nat×Operand)):∀(cells:Array Value) (xs:List V) {K:List V->Prop},(∀i,i∈ps.map (·.1)->∀q,place i=some q->place' i=some q)->RvL w G cells.toList xs->V.okL σ.hasB σ.hasA xs->oI place σ ps xs K->
 ∃cells' xs',Instr.fill place' cells (ps.map fun p=>(p.1,a.eval p.2))=some cells'/\RvL w G cells'.toList xs'/\V.okL σ.hasB σ.hasA xs'/\xs'.length=xs.length/\K xs':=by
 induction ps with
 |nil=>
  intro cells xs K _ hr hok h;have h':bJ xs K:=h;rw[bC]at h';exact⟨cells,xs,rfl,hr,hok,rfl,h'⟩
 |cons p r ih=>
  intro cells xs K hpl hr hok h
  have h':(match place p.1 with
   |some (o,z)=>cond (Nat.beq (lenR (σ.ev p.2).cells) z&&Nat.ble (o+z) (lenR xs)&&allR V.one (σ.ev p.2).cells) (oI place σ r (splice xs o (σ.ev p.2).cells) K) False
   |none=>False):=h
  split at h'
  ·rename_i off z hp
   obtain⟨hc,h3⟩:=aT h';simp only[Bool.and_eq_true,iL]at hc;obtain⟨⟨c1,c2⟩,c3⟩:=hc;have c1':(σ.ev p.2).cells.length=z:=EZ;have c2':off+z<=xs.length:=by simpa using c2
   obtain⟨e1,e2⟩:=inv.ev p.2;have hv:=e1.cells (dY.1 c3);have hvl:(a.eval p.2).cells.size=z:=by have:=hv.len;simp at this;omega
   have hcl:cells.size=xs.length:=by have:=hr.len;simpa using this
   have hfold:=cV2 off (a.eval p.2).cells cells Aa
   have hr':RvL w G ((a.eval p.2).cells.zipIdx.foldl (fun cs (c,j)=>cs.setIfInBounds (off+j) c) cells).toList (splice xs off (σ.ev p.2).cells):=by
    rw[hfold];exact hr.splice hv off
   obtain⟨cells',xs',q1,q2,q3,q4,q5⟩:=ih _ _ (fun i hi=>hpl i G6) hr' (yV hok (sF e2) off) h3;refine⟨cells',xs',?_,q2,q3,?_,q5⟩
   ·have hpp:=hpl p.1 Ae _ hp
    simp only[List.map_cons,Instr.fill,hpp];rw[if_neg (by simp[hvl];omega)]
    exact q1
   ·rw[q4,mO];simp;omega
  ·exact h'.elim
theorem cM3(hT:bP T P)(inv:Inv T Φ σ a w G)(t:TypeId)(ps:Array (Nat×Operand))(ho:o.op= .build t ps)(ht:t<T.n t)(h:vO T (T.row t) σ ps.toList K):Out T Φ σ a K ((execOp a.eval o).run P w):=by
 obtain⟨z,hz,hzc,hz1,hz2⟩:=aC3 (w:=w) hT ht;have hmap:(ps.map fun(p:Nat×Operand)=>(p.1,a.eval p.2)).toList=ps.toList.map fun p=>(p.1,a.eval p.2):=Ae;have h0:RvL w G z.cells.toList (mapR V.lit (T.row t).zero):=by rw[dU,<-hzc];exact aM4 (by rw[hzc];exact hz1)
 have h0':V.okL σ.hasB σ.hasA (mapR V.lit (T.row t).zero):=by rw[dU];exact bC6
 have fin:∀(cells':Array Value) (xs':List V),RvL w G cells'.toList xs'->Rv w G (.agg cells') (.agg xs'):=fun cells' xs' hr=>
  .agg _ _ (by have:=hr.len;simpa using this) (by have:=hr.one;simpa using this) (fun i c x hc hx=>hr.rel i c x BZ hx)
 unfold vO at h;split at h
 ·rename_i hkd
  obtain⟨fs,u1,u2,u3⟩:=yJ (hT t ht) hkd
  have hplaces:∀(l:List Field),(∀f∈l,∃i,P.info? f.type=some i/\i.size=vI P f.type)->(l.mapM (fun f=>(do pure (f.offset,<-sizeOf f.type):Sem (Nat×Nat)))).run P w= .ok (l.map fun f=>(f.offset,vI P f.type)) w:=by
   intro l
   induction l with
   |nil=>intro _;simp
   |cons f r ihr=>
    intro hl;obtain⟨i,hi,hsz⟩:=hl f Ae;have:=ihr (fun f hf=>hl f (by simp[hf]))
    simp only[List.mapM_cons,Sem.run_bind,bG2 hi,Result.andThen_ok,Sem.run_pure,this,List.map_cons,hsz]
  have hpl2:(fs.mapM (fun f=>(do pure (f.offset,<-sizeOf f.type):Sem (Nat×Nat)))).run P w= .ok (fs.map fun f=>(f.offset,vI P f.type)) w:=by
   have:=hplaces fs.toList (by simpa using u3)
   rw[Array.mapM_eq_mapM_toList];simp only[Sem.run_map,this,Result.andThen_ok];rw[<-Array.toList_map,Array.toArray_toList]
  obtain⟨cells',xs',q1,q2,q3,q4,q5⟩:=bL4 inv (place':=fun i=>(fs.map fun f=>(f.offset,vI P f.type))[i]?) ps.toList z.cells _ (by
   intro i _ q hq;rw[uN,u2,List.getElem?_map]at hq;simp only[Array.getElem?_map]
   cases hf:fs.toList[i]? with
   |none=>rw[hf]at hq;cases hq
   |some f=>
    rw[hf]at hq;have:fs[i]? =some f:=F9;rw[this];simpa using hq) h0 h0' h
  refine .plain inv (v':= .agg cells') ?_ q5 (fin _ _ q2) (by simpa only[V.ok]using q3)
  simp only[execOp,ho,Instr.build,Sem.run_bind,hz,Result.andThen_ok,dI u1,hpl2,hmap];rw[q1];simp
 ·rename_i hkd
  obtain⟨hc,h3⟩:=aT h;have he:=blt hc;obtain⟨cells',xs',q1,q2,q3,q4,q5⟩:=bL4 inv (place':=fun i=>some (i*(T.row (T.row t).elem).size,(T.row (T.row t).elem).size)) ps.toList z.cells _ (fun _ _ _ h=>h) h0 h0' h3;refine .plain inv (v':= .agg cells') ?_ q5 (fin _ _ q2) (by simpa only[V.ok]using q3)
  simp only[execOp,ho,Instr.build,Sem.run_bind,hz,Result.andThen_ok,dI (aR9 (hT t ht) hkd),iV hT he,hmap];rw[q1];simp
 ·exact h.elim
theorem cY0(hT:bP T P)(inv:Inv T Φ σ a w G)(s t:TypeId)(x:Operand)(ho:o.op= .convert s t x)(h:bE4 T s t (σ.ev x) K):Out T Φ σ a K ((execOp a.eval o).run P w):=by
 obtain⟨h1,h2⟩:=inv.ev x;unfold bE4 at h;split at h
 ·rename_i k0 k k1 n hb hs ht hx
  simp only[Bool.and_eq_true]at hb;rw[hx]at h1;have u1:=bY7 (hT s (blt hb.1)) hs;have u2:=bY7 (hT t (blt hb.2)) ht
  exact .plain inv (by simp[execOp,ho,h1.bH,convert,dI u1,dI u2,Conv.intToInt]) (wI h) (I_ok _ _ _ _) dL
 ·rename_i b hb hs ht hx
  simp only[Bool.and_eq_true]at hb;rw[hx]at h1;have u1:=aF2 (hT s (blt hb.1)) hs;have u2:=aF2 (hT t (blt hb.2)) ht
  exact .plain inv (by simp[execOp,ho,h1.bH,convert,dI u1,dI u2]) h (.lit _ rfl) dL
 ·exact h.elim
end
section
variable{T:Tab}{P:Program}{Φ:Fr}{σ:St}{a:Act}{w:World}{G:Gh}{K:VK}{o:Oper}{d:Nat}
theorem cH6{α:Type}(n:Nat)(l:List α):(repR n l).length=n*l.length:=by
 induction n with
 |zero=>show([] :List α).length=_;simp
 |succ n ih=>
  have:repR (n+1) l=appR l (repR n l):=rfl;rw[this,bT,List.length_append,ih,Nat.succ_mul];omega
theorem eI7{α:Type}(n:Nat)(l:List α):∀j,j<n*l.length->(repR n l)[j]? =l[j% l.length]? :=by
 induction n with
 |zero=>intro j hj;simp at hj
 |succ n ih=>
  intro j hj;have:repR (n+1) l=appR l (repR n l):=rfl;rw[this,bT,List.getElem?_append];split
  ·rename_i h;rw[Nat.mod_eq_of_lt h]
  ·rename_i h
   rw[ih _ (by rw[Nat.succ_mul]at hj;omega),<-Nat.mod_eq_sub_mod Aa]
theorem cH9{α β:Type}(f:α->β)(n:Nat)(l:List α):repR n (l.map f)=(repR n l).map f:=by
 induction n with
 |zero=>rfl
 |succ n ih=>
  have h1:repR (n+1) l=appR l (repR n l):=rfl;have h2:repR (n+1) (l.map f)=appR (l.map f) (repR n (l.map f)):=rfl
  rw[h1,h2,ih,bT,bT,List.map_append]
theorem bA5{α:Type}(n:Nat)(l:List α){x:α}(h:x∈repR n l):x∈l:=by
 induction n with
 |zero=>cases h
 |succ n ih=>
  have:repR (n+1) l=appR l (repR n l):=rfl;rw[this,bT,List.mem_append]at h;exact h.elim id ih
theorem cG7(zero:Array Value)(n:Nat)(hz:0<zero.size):((Array.range (n*zero.size)).map (zero[·% zero.size]!)).toList=repR n zero.toList:=by
 apply List.ext_getElem?;intro j;by_cases hj:j<n*zero.size
 ·have hm:j% zero.size<zero.size:=Nat.mod_lt _ hz
  rw[eI7 n zero.toList j FX];simp[hj,hm]
 ·rw[List.getElem?_eq_none A8,List.getElem?_eq_none (by rw[cH6];simp;omega)]
theorem Inv.dC7(inv:Inv T Φ σ a w G){k gen:Nat}(hno:∀g,σ.hasA k g->g<gen){kd:AK}(hkd:kd= .own\/kd= .ap){cur:Array Value}{e:TypeId}(he:e<T.n e){l:List V}{cap n0:Nat}(hcap:l.length<=cap)(hm:cap<=maxLen)(hcs:cur.size=cap*(T.row e).size)
 (hz:∀x∈l,x.cells.length=(T.row e).size)(hp:bM l)(hr:RvL w G (cur.toList.take (l.length*(T.row e).size)) (l.flatMap V.cells)):
 ∃G',Inv T Φ (σ.apps [.a k ⟨gen,kd,e,l⟩]) a ({w with drawn:=n0}.alloc (.cells cur e)) G'/\G'.av k gen= .slice (some ⟨w.heap.size,0,none⟩) l.length cap:=by
 let av':Nat->Nat->Value:=fun k' g=>if k'=k/\g=gen then .slice (some ⟨w.heap.size,0,none⟩) l.length cap else G.av k' g
 let G':Gh:={G with av:=av',O:=upd G.O w.heap.size (.ar k)}
 let w':World:={w with drawn:=n0}.alloc (.cells cur e)
 have hold:∀b,b<w.heap.size->w'.heap[b]? =w.heap[b]? :=fun b hb=>heap_alloc_old {w with drawn:=n0} _ hb
 have hkp:Keep w w' G G':=⟨fun b hb=>by
  have hl:=inv.tag b Au;show upd G.O _ _ b=_;rw[upd_ne _ _ Aa];exact hb,fun b hb=>hold b (inv.tag b Au)⟩
 have hav:av' k gen= .slice (some ⟨w.heap.size,0,none⟩) l.length cap:=GH
 have hown:gJ T w' G' k (G'.av k gen) e l:=by
  refine .inr ⟨w.heap.size,cap,cur,hav,upd_same _ _ _,heap_alloc_new {w with drawn:=n0} _,hcap,hm,hcs,hz,hr.keep hkp (p:=fun _=>False) (q:=fun _ _=>False) ?_ (fun _ h=>h.elim) (fun _ _ h=>h.elim)⟩
  rw[aH];intro u hu;obtain⟨j,hj⟩:=List.getElem?_of_mem hu;exact dF hp hj
 refine⟨G',?_,hav⟩;refine inv.zU (w':=w') (k:=k) (en:=⟨gen,kd,e,l⟩) (av':=av') (O':=upd G.O w.heap.size (.ar k)) (fun g hg=>Nat.le_of_lt (hno g hg)) (fun k' g hg=>?_) hp ?_ ?_ ?_ (fun b hb _=>hold b hb) (by simp[w']) rfl rfl rfl
 ·exact IW
 ·unfold gW
  rcases hkd with rfl|rfl
  ·exact⟨he,hown⟩
  ·exact⟨he, .inl hown⟩
 ·intro b hb _;exact upd_ne _ _ (by have:=inv.tag b hb;omega)
 ·intro b
  by_cases e1:b=w.heap.size
  ·subst e1;exact .inr (.inr (.inl ⟨upd_same _ _ _,aN0 inv,by simp[w']⟩))
  ·exact .inl (upd_ne _ _ e1)
theorem zK{k:Nat}(hk:σ.ar k=none)(gen:Nat):∀g,σ.hasA k g->g<gen:=fun g ⟨en,h,_⟩=>by rw[hk]at h;cases h
theorem Inv.eK2(inv:Inv T Φ σ a w G){k:Nat}(hk:σ.ar k=none){kd:AK}(hkd:kd= .own\/kd= .ap){cur:Array Value}{e:TypeId}(he:e<T.n e){l:List V}{cap n0:Nat}(hcap:l.length<=cap)(hm:cap<=maxLen)(hcs:cur.size=cap*(T.row e).size)
 (hz:∀x∈l,x.cells.length=(T.row e).size)(hp:bM l)(hr:RvL w G (cur.toList.take (l.length*(T.row e).size)) (l.flatMap V.cells)):
 ∃G',Inv T Φ (σ.apps [.a k ⟨0,kd,e,l⟩]) a ({w with drawn:=n0}.alloc (.cells cur e)) G'/\G'.av k 0= .slice (some ⟨w.heap.size,0,none⟩) l.length cap:=
 inv.dC7 (zK hk 0) hkd he hcap hm hcs hz hp hr
theorem chunk_ok(agg:Bool)(z:Nat):∀(n:Nat) (cs:List V),cs.length=n*z->(∀x∈cs,x.atom=true)->(agg=false->z=1)->
 (chunk agg z n cs).flatMap V.cells=cs/\(chunk agg z n cs).length=n/\(∀x∈chunk agg z n cs,x.cells.length=z)/\(∀(p:Nat->Prop) (q:Nat->Nat->Prop),V.okL p q cs->bM (chunk agg z n cs)):=by
 intro n
 induction n with
 |zero=>
  intro cs h _ _;have:cs=[] :=List.eq_nil_of_length_eq_zero D8;subst this;exact⟨rfl,rfl,fun x hx=>(by cases hx),fun _ _ _=>(by show V.okL _ _ [];simp only[V.okL])⟩
 |succ n ih=>
  intro cs h hat hag;rw[Nat.succ_mul]at h;have hd:(cs.drop z).length=n*z:=by rw[List.length_drop];omega
  obtain⟨i1,i2,i3,i4⟩:=ih (cs.drop z) hd (fun x hx=>hat x (List.mem_of_mem_drop hx)) hag;have heq:chunk agg z (n+1) cs=cD6 agg z cs::chunk agg z n (jX cs z):=rfl
  rw[heq,lQ]
  cases agg with
  |true=>
   have hc1:cD6 true z cs= .agg (cs.take z):=by rw[<-aD3];rfl
   rw[hc1];refine⟨?_,by simp[i2],?_,?_⟩
   ·rw[List.flatMap_cons,i1];exact List.take_append_drop z cs
   ·intro x hx
    rcases List.mem_cons.1 hx with rfl|hx
    ·simp[V.cells];omega
    ·exact i3 x hx
   ·intro p q hok
    refine aH.2 fun x hx=>?_;rcases List.mem_cons.1 hx with rfl|hx
    ·simp only[V.ok]
     refine aH.2 fun y hy=>aF8 (hat y (List.mem_of_mem_take hy)) (aH.1 hok y (List.mem_of_mem_take hy))
    ·exact aH.1 (i4 p q (aH.2 fun y hy=>aH.1 hok y (List.mem_of_mem_drop hy))) x hx
  |false=>
   have hz1:=hag rfl;subst hz1
   match cs,h with
   |x::r,h=>
    simp only[List.drop_succ_cons,List.drop_zero]at i1 i2 i3 i4⊢;have hc1:cD6 false 1 (x::r)=x:=rfl;rw[hc1];have hx1:=bE1 (hat x Ae)
    refine⟨?_,by simp[i2],?_,?_⟩
    ·rw[List.flatMap_cons,i1,hx1];rfl
    ·intro y hy
     rcases List.mem_cons.1 hy with rfl|hy
     ·rw[hx1];rfl
     ·exact i3 y hy
    ·intro p q hok
     refine aH.2 fun y hy=>?_;rcases List.mem_cons.1 hy with rfl|hy
     ·exact aF8 (hat y Ae) (aH.1 hok y Ae)
     ·exact aH.1 (i4 p q (aH.2 fun y hy=>aH.1 hok y FY)) y hy
theorem dO5(hT:bP T P){t:TypeId}(ht:t<T.n t)(h:(T.row t).agg=false):(T.row t).size=1:=by
 obtain⟨i,h1,h2,h3,z,h4,h5,h6,h7,h8,h9⟩:=(hT t ht).info;rw[<-h7,h9 h];rfl
theorem aQ0{k:Nat}{u:Value}(hav:G.av k 0=u)(h1:u.oneCell'=true):Rv w G u (.arr k 0):=by
 subst hav;exact .arr k 0 h1
theorem bG7(hT:bP T P){t:TypeId}(ht:t<T.n t)(hkd:(T.row t).kd= .slice)(he:(T.row t).elem<T.n (T.row t).elem){n:Nat}(hgt:¬(n*(T.row (T.row t).elem).size>2^24)){z:Value}(hz:(zeroValue (T.row t).elem).run P w= .ok z w)(parts:Array (Nat×Value)){cells':Array Value}
 (q1:Instr.fill (fun i=>some (i*(T.row (T.row t).elem).size,(T.row (T.row t).elem).size)) ((Array.range (n*(T.row (T.row t).elem).size)).map (z.cells[·% z.cells.size]!)) parts.toList=some cells'):
 (Instr.buildSlice t n parts).run P w= .ok (.slice (some ⟨w.heap.size,0,none⟩) n n) (w.alloc (.cells cells' (T.row t).elem)):=by
 have hu:=jW (hT t ht) hkd;unfold Instr.buildSlice;simp only[Sem.run_bind,dI hu,Result.andThen_ok,iV hT he];rw[if_neg hgt];by_cases hn1:n*(T.row (T.row t).elem).size=0
 ·have e0:∀f:Nat->Value,(Array.range (n*(T.row (T.row t).elem).size)).map f= #[] :=by rw[hn1];intro f;exact Array.size_eq_zero_iff.1 Ae
  rw[e0]at q1;have e1:∀f:Nat->Value,(Array.range 0).map f= #[] :=fun f=>Array.size_eq_zero_iff.1 Ae;simp only[hn1,if_true,Sem.run_bind,Sem.run_pure,Result.andThen_ok,e1,q1];simp[newRow,newObj,Sem.run]
 ·simp only[hn1,if_false,Sem.run_bind,hz,Sem.run_pure,Result.andThen_ok]
  rw[q1];simp[newRow,newObj,Sem.run]
theorem aQ7(hT:bP T P)(inv:Inv T Φ σ a w G)(t:TypeId)(n:Nat)(ps:Array (Nat×Operand))(ho:o.op= .buildSlice t n ps)(ht:t<T.n t)(h:iZ T (T.row t) σ d n ps.toList K):Out T Φ σ a K ((execOp a.eval o).run P w):=by
 have hmap:(ps.map fun(p:Nat×Operand)=>(p.1,a.eval p.2)).toList=ps.toList.map fun p=>(p.1,a.eval p.2):=Ae;unfold iZ at h;split at h
 ·rename_i hkd hd
  have hu:=jW (hT t ht) hkd;obtain⟨hc,h2⟩:=aT h;simp only[Bool.and_eq_true]at hc;obtain⟨⟨c2,c3⟩,c4⟩:=hc;have he':=blt c2
  have hsz0:=blt c4;have hn:n*(T.row (T.row t).elem).size<=1000:=by simpa using c3
  obtain⟨z,hz,hzc,hz1,hz2⟩:=aC3 (w:=w) hT he';have hzs:z.cells.size=(T.row (T.row t).elem).size:=JO
  have hokz:V.okL σ.hasB σ.hasA (repR n (mapR V.lit (T.row (T.row t).elem).zero)):=by
   refine aH.2 fun x hx=>?_;have:=bA5 _ _ hx
   rw[dU,List.mem_map]at this;obtain⟨u,_,rfl⟩:=this;exact dL
  have hr0:RvL w G ((Array.range (n*(T.row (T.row t).elem).size)).map (z.cells[·% z.cells.size]!)).toList (repR n (mapR V.lit (T.row (T.row t).elem).zero)):=by
   rw[<-hzs,cG7 z.cells n Aa,hzc,dU,cH9];exact aM4 fun v hv=>hz1 v (bA5 _ _ hv)
  obtain⟨cells',xs',q1,q2,q3,q4,q5⟩:=bL4 inv (place':=fun i=>some (i*(T.row (T.row t).elem).size,(T.row (T.row t).elem).size)) ps.toList _ _ (fun _ _ _ h=>h) hr0 hokz h2;obtain⟨c1,h3⟩:=aT q5;have hlen:xs'.length=n*(T.row (T.row t).elem).size:=by rw[q4,cH6,dU,List.length_map,hz2]
  obtain⟨k1,k2,k3,k4⟩:=chunk_ok (T.row (T.row t).elem).agg (T.row (T.row t).elem).size n xs' hlen (dY.1 c1) (fun hf=>dO5 hT he' hf);have hcl:cells'.size=n*(T.row (T.row t).elem).size:=by have:=q2.len;simp at this;omega
  have hnle:n<=1000:=Nat.le_trans (Nat.le_mul_of_pos_right n hsz0) hn
  obtain⟨G',inv',hav⟩:=inv.eK2 hd (.inl rfl) he' (cur:=cells') (l:=chunk (T.row (T.row t).elem).agg (T.row (T.row t).elem).size n xs') (cap:=n) (n0:=w.drawn) Aa BI hcl k3 (k4 _ _ q3)
   (by rw[k1,k2,<-hcl,List.take_of_length_le (by simp)];exact q2)
  refine⟨.slice (some ⟨w.heap.size,0,none⟩) n n,w.alloc (.cells cells' (T.row t).elem),_,_,G', .inl ?_,h3,inv',aQ0 (by rw[hav,k2]) rfl,?_⟩
  ·have hgt:¬(n*(T.row (T.row t).elem).size>2^24):=by omega
   rw[<-hmap]at q1;simp only[execOp,ho,Sem.run_bind,bG7 hT ht hkd he' hgt hz _ q1,Result.andThen_ok,Sem.run_pure]
  ·exact I8
 ·exact h.elim
theorem bL2(n:Nat)(x:V):(List.replicate n x).flatMap V.cells=repR n x.cells:=by
 induction n with
 |zero=>rfl
 |succ n ih=>
  have:repR (n+1) x.cells=appR x.cells (repR n x.cells):=rfl;rw[this,bT,List.replicate_succ,List.flatMap_cons,ih]
theorem cX4(hT:bP T P){e:TypeId}(he:e<T.n e):(rU (T.row e) (mapR V.lit (T.row e).zero)).cells=(T.row e).zero.map V.lit/\(rU (T.row e) (mapR V.lit (T.row e).zero)).pure:=by
 obtain⟨i,h1,h2,h3,z,h4,h5,h6,h7,h8,h9⟩:=(hT e he).info;rw[dU];unfold rU;split
 ·exact⟨rfl,by simp only[V.pure,V.ok];exact bC6⟩
 ·rename_i hf
  rw[h9 hf];exact⟨rfl,by simp only[List.map_cons,List.map_nil,V.pure,V.ok]⟩
theorem bM9(hT:bP T P){t:TypeId}(ht:t<T.n t)(hkd:(T.row t).kd= .slice)(he:(T.row t).elem<T.n (T.row t).elem){n:Nat}(hn:n*(T.row (T.row t).elem).bytes<=140737488355328)(hn2:n<=140737488355328){z:Value}(hz:(zeroValue (T.row t).elem).run P w= .ok z w):
 ∃cells':Array Value,cells'=((Array.range (n*(T.row (T.row t).elem).size)).map (z.cells[·% z.cells.size]!))/\
 (Instr.makeSlice t (.int .i64 n) (.int .i64 n)).run P w= .ok (.slice (some ⟨w.heap.size,0,none⟩) n n) (w.alloc (.cells cells' (T.row t).elem)):=by
 have hu:=jW (hT t ht) hkd;obtain⟨i,h1,h2,h3,_⟩:=(hT _ he).info;refine⟨_,rfl,?_⟩;have hwrap:IntKind.i64.wrap (n:Int)=n:=IntWalk.i64_in _ Aa
 have hb:((i.bytes:Int)*(n:Int))<=140737488355328:=by rw[h3,Int.mul_comm];omega
 unfold Instr.makeSlice;simp only[Sem.run_bind,dI hu,Result.andThen_ok,asInt,asIntOf,Sem.run_pure,cO9 h1,hwrap]
 have c1:(decide ((n:Int)<0)||decide ((i.bytes:Int)*(n:Int)>2^48)||decide ((n:Int)<0)||decide ((n:Int)>(n:Int)))=false:=by
  simp only[Bool.or_eq_false_iff,decide_eq_false_iff_not];refine⟨⟨⟨Aa,Aa⟩,Aa⟩,Aa⟩
 rw[if_neg (by rw[c1];simp)]
 have c2:¬(n*i.bytes>roomBytes):=by rw[h3];simp only[roomBytes];omega
 simp only[Int.toNat_natCast,askRoom,if_neg c2,Sem.run_pure,Result.andThen_ok,iV hT he,Sem.run_bind];by_cases hn1:n*(T.row (T.row t).elem).size=0
 ·have e1:∀f:Nat->Value,(Array.range 0).map f= #[] :=fun f=>Array.size_eq_zero_iff.1 Ae
  simp only[hn1,if_true,e1];simp[newRow,newObj,Sem.run]
 ·simp only[hn1,if_false,Sem.run_bind,hz,Sem.run_pure,Result.andThen_ok]
  simp[newRow,newObj,Sem.run]
theorem aY6(hT:bP T P)(inv:Inv T Φ σ a w G)(t:TypeId)(x y:Operand)(ho:o.op= .makeSlice t x y)(ht:t<T.n t)(h:jY T (T.row t) σ d (σ.ev x) (σ.ev y) K):Out T Φ σ a K ((execOp a.eval o).run P w):=by
 obtain⟨x1,x2⟩:=inv.ev x;obtain⟨y1,y2⟩:=inv.ev y;unfold jY at h;split at h
 ·rename_i n c hkd hd hx hy
  rw[hx]at x1;rw[hy]at y1;obtain⟨⟨n0,n1,n2,n3⟩,h2⟩:=dX h;obtain⟨hc,h3⟩:=aT h2;simp only[Bool.and_eq_true]at hc;have he:=blt hc.1;have hs0:=blt hc.2
  subst n1;obtain⟨m,rfl⟩:=Int.eq_ofNat_of_zero_le n0;rw[Int.toNat_natCast]at h3;obtain⟨z,hz,hzc,hz1,hz2⟩:=aC3 (w:=w) hT he;have hzs:z.cells.size=(T.row (T.row t).elem).size:=JO;obtain⟨cells',hc',hrun⟩:=bM9 (w:=w) hT ht hkd he (n:=m) Aa Aa hz;obtain⟨q1,q2⟩:=cX4 hT he;have hcl:cells'.size=m*(T.row (T.row t).elem).size:=by rw[hc'];simp
  have hr0:RvL w G cells'.toList (repR m ((T.row (T.row t).elem).zero.map V.lit)):=by
   rw[hc',<-hzs,cG7 z.cells m Aa,hzc,cH9];exact aM4 fun v hv=>hz1 v (bA5 _ _ hv)
  obtain⟨G',inv',hav⟩:=inv.eK2 hd (.inl rfl) he (cur:=cells') (l:=List.replicate m (rU (T.row (T.row t).elem) (mapR V.lit (T.row (T.row t).elem).zero))) (cap:=m) (n0:=w.drawn) Ae BI hcl
   (by intro u hu;obtain⟨_,rfl⟩:=List.mem_replicate.1 hu;rw[q1];simpa using hz2)
   (aH.2 fun u hu=>by obtain⟨_,rfl⟩:=List.mem_replicate.1 hu;exact q2)
   (by rw[bL2,q1,List.length_replicate,<-hcl,List.take_of_length_le (by simp)];exact hr0)
  refine⟨.slice (some ⟨w.heap.size,0,none⟩) m m,w.alloc (.cells cells' (T.row t).elem),_,_,G', .inl ?_,h3,inv',aQ0 (by rw[hav,List.length_replicate]) rfl,?_⟩
  ·simp only[execOp,ho,x1.bH,y1.bH,Sem.run_bind,hrun,Result.andThen_ok,Sem.run_pure]
  ·exact I8
 ·exact h.elim
end
end Go.Ab
