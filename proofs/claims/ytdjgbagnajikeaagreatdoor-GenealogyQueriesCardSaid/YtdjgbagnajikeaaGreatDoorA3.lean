/-
  The operations that look at no memory.
-/
import Derived.Test.YtdjgbagnajikeaaGreatDoorA2
set_option linter.unusedVariables false
set_option linter.unusedSimpArgs false
noncomputable section
namespace Go.Ab
section
variable{T:Tab}{P:Program}{Φ:Fr}{σ:St}{a:Act}{w:World}{G:Gh}{K:VK}{o:Oper}{d:Nat}
theorem B_ok(b:Bool)(w:World)(G:Gh):Rv w G (.bool b) (B b):= .lit _ rfl
theorem I_ok(k:IntKind)(n:Int)(w:World)(G:Gh):Rv w G (.int k n) (lC k n):= .lit _ rfl
theorem dL{u:Value}{p:Nat->Prop}{q:Nat->Nat->Prop}:(V.lit u).ok p q:=Bl
theorem cZ8(inv:Inv T Φ σ a w G)(x:Operand)(ho:o.op= .move x)(h:force (σ.ev x) fun v=>K v []):Out T Φ σ a K ((execOp a.eval o).run P w):=JK
theorem bL7(inv:Inv T Φ σ a w G)(x:Operand)(ho:o.op= .nilCheck x)(h:cond (dE6 (σ.ev x)) (force (σ.ev x) fun v=>K v []) False):Out T Φ σ a K ((execOp a.eval o).run P w):=by
 obtain⟨hp,h⟩:=aT h;rw[force_eq]at h;obtain⟨h1,h2⟩:=inv.ev x
 have hA:∃A,a.eval x= .pointer (some A):=by
  generalize σ.ev x=y at h1 hp;generalize a.eval x=v at h1;cases h1<;>first|exact⟨_,rfl⟩|exact absurd hp Ah|(simp[dE6]at hp)
 obtain⟨A,hA⟩:=hA;have hr:(execOp a.eval o).run P w= .ok (.value (a.eval x)) w:=by simp[execOp,ho,hA]
 exact .plain inv hr h h1 h2
theorem cB9(inv:Inv T Φ σ a w G)(x:Operand)(ho:o.op= .assign x)(h:force (σ.ev x) fun v=>K v []):Out T Φ σ a K ((execOp a.eval o).run P w):=JK
theorem dA3(inv:Inv T Φ σ a w G)(c x y:Operand)(ho:o.op= .pick c x y)(h:bA8 (σ.ev c) (σ.ev x) (σ.ev y) K):Out T Φ σ a K ((execOp a.eval o).run P w):=by
 obtain⟨c1,_⟩:=inv.ev c;obtain⟨x1,x2⟩:=inv.ev x;obtain⟨y1,y2⟩:=inv.ev y;unfold bA8 at h;split at h
 ·rename_i t hc
  rw[hc]at c1;have hcv:=c1.bH;cases t
  ·simp only[branch,force_eq]at h
   exact .plain inv (by simp[execOp,ho,hcv,asBool]) h y1 y2
  ·simp only[branch,force_eq]at h
   exact .plain inv (by simp[execOp,ho,hcv,asBool]) h x1 x2
 ·exact h.elim
theorem dZ4(inv:Inv T Φ σ a w G)(u:UnOp)(t:TypeId)(x:Operand)(ho:o.op= .unOp u t x)(h:unVC u (σ.ev x) K):Out T Φ σ a K ((execOp a.eval o).run P w):=by
 obtain⟨x1,_⟩:=inv.ev x;unfold unVC at h;split at h
 ·rename_i b hx
  rw[hx]at x1;have hv:=x1.bH;exact .plain inv (by simp[execOp,ho,hv,Op.unary]) h (B_ok _ _ _) dL
 ·rename_i k n hx
  rw[hx]at x1;have hv:=x1.bH;exact .plain inv (by simp[execOp,ho,hv,Op.unary,Op.intArith]) (wI h) (I_ok _ _ _ _) dL
 ·exact h.elim
theorem yY(x y:Operand)(op:BinOp)(t t':TypeId)(ho:o.op= .binOp op t x y t')(u v r:Value)(hx:a.eval x=u)(hy:a.eval y=v)
 (hg:(eqGuard op t x y u v).run P w= .ok () w)(hr:(binOp op t u v).run P w= .ok r w):(execOp a.eval o).run P w= .ok (.value r) w:=by
 simp only[execOp,ho,hx,hy,Sem.run_bind,hg,hr,Result.andThen_ok,Sem.run_pure]
theorem qZ(op:BinOp)(t:TypeId)(x y:Operand)(u v:Value)(h:∀cs,u≠ .agg cs)(h':u≠ .nilIface):(eqGuard op t x y u v).run P w= .ok () w:=by
 cases u with
 |agg cs=>exact absurd rfl (h cs)
 |nilIface=>exact absurd rfl h'
 |_=>cases op<;>simp[eqGuard]
theorem dM7(inv:Inv T Φ σ a w G)(x y:Operand)(op:BinOp)(t t':TypeId)(ho:o.op= .binOp op t x y t')(k:IntKind)(m n:Int)(hx:a.eval x= .int k m)(hy:a.eval y= .int k n)
 (h:cM6 op k m n K):Out T Φ σ a K ((execOp a.eval o).run P w):=by
 have hg:(eqGuard op t x y (.int k m) (.int k n)).run P w= .ok () w:=qZ _ _ _ _ _ _ Ae Ae
 have fin:∀r:Value,r.oneCell'=true->(binOp op t (.int k m) (.int k n)).run P w= .ok r w->K (.lit r) []->Out T Φ σ a K ((execOp a.eval o).run P w):=fun r h1 hr hk=>
  .plain inv (yY x y op t t' ho _ _ r hx hy hg hr) hk (.lit r h1) dL
 unfold cM6 at h;split at h
 ·exact fin _ rfl FI (wI h)
 ·exact fin _ rfl FI (wI h)
 ·exact fin _ rfl FI (wI h)
 ·obtain⟨h0,h⟩:=dX h
  exact fin _ rfl (by simp[binOp,Op.intDiv,h0]) (wI h)
 ·obtain⟨h0,h⟩:=dX h
  exact fin _ rfl (by simp[binOp,Op.intDiv,h0]) h
 ·obtain⟨h0,h⟩:=dX h
  exact fin _ rfl EO h
 ·obtain⟨h0,h⟩:=dX h
  exact fin _ rfl EP (wI h)
 ·exact fin _ rfl (by simp[binOp,Op.intBits,orI]) h
 ·exact fin _ rfl (by simp[binOp,Op.intCmp,ltB]) h
 ·exact fin _ rfl (by simp[binOp,Op.intCmp,ltB]) h
 ·exact fin _ rfl (by simp[binOp,Op.intCmp,leB]) h
 ·exact fin _ rfl (by simp[binOp,Op.intCmp,leB]) h
 ·exact fin (.bool (eqB m n)) rfl (by simp[binOp,Op.intCmp,eqB];exact Bool.eq_iff_iff.2 (by simp)) h
 ·exact fin (.bool (!eqB m n)) rfl (by simp[binOp,Op.intCmp,eqB,bne];exact Bool.eq_iff_iff.2 (by simp)) h
 ·exact h.elim
theorem sh_sound(inv:Inv T Φ σ a w G)(x y:Operand)(op:BinOp)(t t':TypeId)(ho:o.op= .binOp op t x y t')(k k':IntKind)(m n:Int)(hx:a.eval x= .int k m)(hy:a.eval y= .int k' n)
 (h:shVC op k m n K):Out T Φ σ a K ((execOp a.eval o).run P w):=by
 have hg:(eqGuard op t x y (.int k m) (.int k' n)).run P w= .ok () w:=qZ _ _ _ _ _ _ Ae Ae
 have fin:∀r:Value,r.oneCell'=true->(binOp op t (.int k m) (.int k' n)).run P w= .ok r w->K (.lit r) []->Out T Φ σ a K ((execOp a.eval o).run P w):=fun r h1 hr hk=>
  .plain inv (yY x y op t t' ho _ _ r hx hy hg hr) hk (.lit r h1) dL
 unfold shVC at h;split at h
 ·obtain⟨h0,h⟩:=dX h
  exact fin _ rfl EO h
 ·obtain⟨h0,h⟩:=dX h
  exact fin _ rfl EP (wI h)
 ·exact h.elim
theorem dM9(inv:Inv T Φ σ a w G)(x y:Operand)(op:BinOp)(t t':TypeId)(ho:o.op= .binOp op t x y t')(m n:ByteArray)(hx:a.eval x= .string m)(hy:a.eval y= .string n)
 (h:cH0 op m n K):Out T Φ σ a K ((execOp a.eval o).run P w):=by
 have hg:(eqGuard op t x y (.string m) (.string n)).run P w= .ok () w:=qZ _ _ _ _ _ _ Ae Ae
 have fin:∀r:Value,r.oneCell'=true->(binOp op t (.string m) (.string n)).run P w= .ok r w->K (.lit r) []->Out T Φ σ a K ((execOp a.eval o).run P w):=fun r h1 hr hk=>
  .plain inv (yY x y op t t' ho _ _ r hx hy hg hr) hk (.lit r h1) dL
 unfold cH0 at h;split at h
 ·obtain⟨h0,h⟩:=dX h
  refine fin _ rfl ?_ h;have:¬(IntKind.i64.max< ((m.size+n.size:Nat):Int)):=by simp[IntKind.max,IntKind.signed,IntKind.bits];omega
  simp only[binOp,Op.stringOp];rw[if_neg (by simpa using this)]
  simp
 ·exact fin _ rfl (by simp[binOp,Op.stringOp,eqS]) h
 ·exact fin _ rfl (by simp[binOp,Op.stringOp,eqS]) h
 ·exact fin _ rfl (by simp[binOp,Op.stringOp,ltS]) h
 ·exact fin (.bool (!(ltS m n||eqS m n))) rfl (by simp[binOp,Op.stringOp,ltS,eqS]) h
 ·exact fin _ rfl (by simp[binOp,Op.stringOp,ltS,eqS]) h
 ·exact fin _ rfl (by simp[binOp,Op.stringOp,ltS]) h
 ·exact h.elim
theorem dI{t:TypeId}{dd:TypeDesc}(h:P.underlying t=some dd)(w:World):(underlying t).run P w= .ok dd w:=run_underlying h w
theorem cO9{t:TypeId}{i:TypeInfo}(h:P.info? t=some i)(w:World):(typeInfo t).run P w= .ok i w:=by simp[typeInfo,h]
theorem bG2{t:TypeId}{i:TypeInfo}(h:P.info? t=some i)(w:World):(sizeOf t).run P w= .ok i.size w:=by simp[sizeOf,typeInfo,h]
theorem dI4{t:TypeId}{r:Row}(h:aH9 P t r)(hk:r.kd= .bool):P.underlying t=some .bool:=Kr
theorem bG8{t:TypeId}(hu:P.underlying t=some .bool)(m n:Bool):(Op.equal t (.bool m) (.bool n)).run P w= .ok (m==n) w:=by
 have h:∀dp,(Op.equalIn (dp+1) t (.bool m) (.bool n)).run P w= .ok (m==n) w:=fun dp=>by simp[Op.equalIn,dI hu]
 exact h 9999
theorem cV0(hT:bP T P)(inv:Inv T Φ σ a w G)(x y:Operand)(op:BinOp)(t t':TypeId)(ho:o.op= .binOp op t x y t')(m n:Bool)(hx:a.eval x= .bool m)(hy:a.eval y= .bool n)
 (ht:t<T.n t)(h:bG1 op (T.row t).kd m n K):Out T Φ σ a K ((execOp a.eval o).run P w):=by
 have hg:(eqGuard op t x y (.bool m) (.bool n)).run P w= .ok () w:=qZ _ _ _ _ _ _ Ae Ae
 have fin:∀r:Value,r.oneCell'=true->(binOp op t (.bool m) (.bool n)).run P w= .ok r w->K (.lit r) []->Out T Φ σ a K ((execOp a.eval o).run P w):=fun r h1 hr hk=>
  .plain inv (yY x y op t t' ho _ _ r hx hy hg hr) hk (.lit r h1) dL
 unfold bG1 at h;split at h
 ·rename_i hk
  have hu:=dI4 (hT t ht) hk;exact fin _ rfl (by simp[binOp,bG8 hu,eqBB]) h
 ·rename_i hk
  have hu:=dI4 (hT t ht) hk;exact fin (.bool (!eqBB m n)) rfl (by simp[binOp,bG8 hu,eqBB]) h
 ·exact h.elim
theorem bN4(inv:Inv T Φ σ a w G)(x:Operand)(i:Nat)(ho:o.op= .extract x i)(h:wZ (σ.ev x) i K):Out T Φ σ a K ((execOp a.eval o).run P w):=by
 obtain⟨x1,x2⟩:=inv.ev x;unfold wZ at h;split at h
 ·rename_i cs hx
  rw[hx]at x1 x2;split at h
  ·rename_i v hv
   rw[force_eq]at h;generalize hev:a.eval x=xv at x1
   cases x1 with
   |tup vs xs hl hh=>
    have hi:i<vs.size:=by rw[hl];exact(List.getElem?_eq_some_iff.1 hv).1
    refine .plain inv (v':=vs[i]) (by simp[execOp,ho,hev,Instr.extract,hi]) h (hh i _ _ G6 hv) ?_
    simp only[V.ok]at x2;exact aH.1 x2 v (List.mem_of_getElem? hv)
  ·exact h.elim
 ·exact h.elim
theorem dG0(a b:Int):maxI a b=if b>a then b else a:=by unfold maxI;by_cases h:b>a<;>simp[h]
theorem dJ1(a b:Int):minI a b=if b<a then b else a:=by unfold minI;by_cases h:b<a<;>simp[h]
theorem aK6(inv:Inv T Φ σ a w G)(b:Builtin)(f:Int->Int->Int)(hb:(b= .max/\f=maxI)\/(b= .min/\f=minI))(as:List Operand)(ts:Array TypeId)
 (ho:o.op= .call ⟨.builtin b,⟨as⟩,ts⟩)(h:rP f (mapR σ.ev as) K):Out T Φ σ a K ((execOp a.eval o).run P w):=by
 rw[dU]at h;unfold rP at h;split at h
 ·rename_i k m k' n hx
  rcases as with _|⟨x,_|⟨y,_|⟨z,as⟩⟩⟩<;>try(simp at hx;done)
  ·simp only[List.map_cons,List.map_nil,List.cons.injEq,and_true]at hx
   obtain⟨x1,_⟩:=inv.ev x;obtain⟨y1,_⟩:=inv.ev y;rw[hx.1]at x1;rw[hx.2]at y1;have hxv:=x1.bH;have hyv:=y1.bH
   rcases hb with⟨rfl,rfl⟩|⟨rfl,rfl⟩
   ·exact .plain inv (by simp[execOp,ho,resolve,invoke,builtin,hxv,hyv,Builtin.max_,Builtin.max2,dG0]) h (I_ok _ _ _ _) dL
   ·exact .plain inv (by simp[execOp,ho,resolve,invoke,builtin,hxv,hyv,Builtin.min_,Builtin.min2,dJ1]) h (I_ok _ _ _ _) dL
 ·rename_i k m k' n k'' q hx
  rcases as with _|⟨x,_|⟨y,_|⟨z,_|⟨z',as⟩⟩⟩⟩<;>try(simp at hx;done)
  ·simp only[List.map_cons,List.map_nil,List.cons.injEq,and_true]at hx
   obtain⟨x1,_⟩:=inv.ev x;obtain⟨y1,_⟩:=inv.ev y;obtain⟨z1,_⟩:=inv.ev z;rw[hx.1]at x1;rw[hx.2.1]at y1;rw[hx.2.2]at z1;have hxv:=x1.bH;have hyv:=y1.bH
   have hzv:=z1.bH;rcases hb with⟨rfl,rfl⟩|⟨rfl,rfl⟩
   ·exact .plain inv (by simp[execOp,ho,resolve,invoke,builtin,hxv,hyv,hzv,Builtin.max_,Builtin.max2,dG0]) h (I_ok _ _ _ _) dL
   ·exact .plain inv (by simp[execOp,ho,resolve,invoke,builtin,hxv,hyv,hzv,Builtin.min_,Builtin.min2,dJ1]) h (I_ok _ _ _ _) dL
 ·exact h.elim
end
section
variable{T:Tab}{P:Program}{Φ:Fr}{σ σ':St}{a:Act}{w w':World}{G G':Gh}
theorem gJ.keep{k:Nat}{u:Value}{ty:TypeId}{l:List V}(hk:Keep w w' G G')(hp:bM l)(hO:∀b,G.O b= .ar k->G'.O b= .ar k/\w'.heap[b]? =w.heap[b]?)(h:gJ T w G k u ty l):gJ T w' G' k u ty l:=by
 rcases h with h|⟨b,cap,cur,h1,h2,h3,h4,h5,h6,h7,h8⟩
 ·exact .inl h
 ·refine .inr ⟨b,cap,cur,h1,(hO b h2).1,(hO b h2).2.trans h3,h4,h5,h6,h7,h8.keep hk (p:=fun _=>False) (q:=fun _ _=>False) ?_ (fun _ h=>h.elim) (fun _ _ h=>h.elim)⟩
  rw[aH];intro y hy;exact O5
theorem Rv.aW{v:Value}{x:V}(hk:Keep w w' G G')(hp:x.pure)(h:Rv w G v x):Rv w' G' v x:=h.keep hk hp (fun _ h=>h.elim) (fun _ _ h=>h.elim)
theorem bL6.keep{d:TypeDesc}{k:Nat}{u:Value}{es:List V}(hk:Keep w w' G G')(hO:∀b,G.O b= .ar k->G'.O b= .ar k/\w'.heap[b]? =w.heap[b]?)(h:bL6 d w G k u es):bL6 d w' G' k u es:=by
 obtain⟨b,ents,clock,h1,h2,h3,h4,h5⟩:=h;refine⟨b,ents,clock,h1,(hO b h2).1,(hO b h2).2.trans h3,h4,fun s hs=>?_⟩;have:=h5 s hs
 cases ha:jG s es with
 |none=>rw[ha]at this;exact this
 |some x=>
  rw[ha]at this;obtain⟨i,v,q1,q2,q3,q4⟩:=this;exact⟨i,v,q1,q2,q3.aW hk q4,q4⟩
theorem gW.keep{k:Nat}{en:AE}(hk:Keep w w' G G')(hp:bM en.l)(hav:G'.av k en.gen=G.av k en.gen)(hO:∀b,G.O b= .ar k->G'.O b= .ar k/\w'.heap[b]? =w.heap[b]?)(h:gW T w G k en):gW T w' G' k en:=by
 unfold gW at*;rw[hav];have hs:(V.sl en.l).pure:=Ar;have hc:(V.cap en.l).pure:=Ar
 split
 ·rename_i hkd
  rw[hkd]at h;simp only at h⊢;split
  ·trivial
  ·rename_i hl;rw[hl]at h;exact bL6.keep hk hO h
 ·rename_i hkd;rw[hkd]at h;exact h.aW hk hs
 ·rename_i hkd;rw[hkd]at h;exact⟨h.1,h.2.keep hk hp hO⟩
 ·rename_i hkd;rw[hkd]at h;exact⟨h.1,h.2.imp (·.keep hk hp hO) (fun h=>⟨h.1.aW hk hc,h.2⟩)⟩
theorem Inv.change(inv:Inv T Φ σ a w G)(henv:σ'.env=σ.env)(hk:Keep w w' G G')
 (hβ:∀i,σ.hasB i->G'.β i=G.β i)(hav:∀k g,σ.hasA k g->G'.av k g=G.av k g)
 (hB:∀i,σ.hasB i->σ'.hasB i)(hA:∀k g,σ.hasA k g->σ'.hasA k g)
 (hbox:∀i cs,σ'.bx i=some cs->(σ.bx i=some cs/\G'.O (G.β i)= .bx i/\w'.heap[G.β i]? =w.heap[G.β i]?)\/
  ((∃c t,w'.heap[G'.β i]? =some (.cells c t (0,0))/\RvL w' G' c.toList cs/\G'.O (G'.β i)= .bx i)/\V.okL σ'.hasB σ'.hasA cs))
 (harr:∀k en,σ'.ar k=some en->(σ.ar k=some en/\∀b,G.O b= .ar k->G'.O b= .ar k/\w'.heap[b]? =w.heap[b]?)\/(gW T w' G' k en/\bM en.l))
 (htag:∀b,G'.O b≠ .ext->b<w'.heap.size)(hO:∀b,G'.O b=G.O b\/G'.O b= .ext\/Φ.mine b)
 (hframe:∀b,w'.heap[b]? =w.heap[b]? \/Φ.mine b)(hsize:w.heap.size<=w'.heap.size)(hos:w'.os=w.os)(htape:w'.tape=w.tape)(hout:w'.output=w.output):Inv T Φ σ' a w' G' where
 nd:=inv.nd
 kp:=inv.kp
 sz:=inv.sz
 env s:=by rw[henv];exact(inv.env s).keep hk (inv.wfE s) hβ hav
 wfE s:=by rw[henv];exact V.ok.imp hB hA _ (inv.wfE s)
 box i cs hi:=by
  rcases hbox i cs hi with⟨h1,h2,h3⟩|⟨h1,_⟩
  ·obtain⟨c,t,g1,g2,g3⟩:=inv.box i cs h1
   refine⟨c,t,?_,g2.keep hk (inv.wfB i cs h1) hβ hav,?_⟩
   ·rw[hβ i ⟨cs,h1⟩,h3];exact g1
   ·rw[hβ i ⟨cs,h1⟩];exact h2
  ·exact h1
 wfB i cs hi:=by
  rcases hbox i cs hi with⟨h1,_,_⟩|⟨_,h2⟩
  ·exact V.okL.imp hB hA _ (inv.wfB i cs h1)
  ·exact h2
 arr k en hk':=by
  rcases harr k en hk' with⟨h1,h2⟩|⟨h1,_⟩
  ·exact(inv.arr k en h1).keep hk (inv.wfA k en h1) (hav k en.gen ⟨en,h1,Nat.le_refl _⟩) h2
  ·exact h1
 wfA k en hk':=by
  rcases harr k en hk' with⟨h1,_⟩|⟨_,h2⟩
  ·exact inv.wfA k en h1
  ·exact h2
 tag:=htag
 mineB b i h:=by
  rcases hO b with h1|h1|h1
  ·exact inv.mineB b i (h1▸h)
  ·rw[h1]at h;cases h
  ·exact h1
 mineA b k h:=by
  rcases hO b with h1|h1|h1
  ·exact inv.mineA b k (h1▸h)
  ·rw[h1]at h;cases h
  ·exact h1
 fzm b h:=by
  rcases hO b with h1|h1|h1
  ·exact inv.fzm b (h1▸h)
  ·rw[h1]at h;cases h
  ·exact .inr h1
 F0 b h:=hk.fz b (inv.F0 b h)
 frame b hb hg:=by
  rcases hframe b with h1|h1
  ·rw[h1];exact inv.frame b hb hg
  ·rcases h1 with h1|h1
   ·omega
   ·exact absurd h1 hg
 size:=Nat.le_trans inv.size hsize
 os:=hos.trans inv.os
 tape:=htape.trans inv.tape
 output:=hout.trans inv.output
 args j v h:=by
  obtain⟨h1,h2,en,h3⟩:=inv.args j v h;have hh:σ.hasA j 0:=⟨en,h3,Nat.zero_le _⟩;obtain⟨en',h4,_⟩:=hA j 0 hh;exact⟨(hav j 0 hh).trans h1,h2,en',h4⟩
 lay:=inv.lay
 argb i b h:=by
  obtain⟨h1,h2,cs,h3⟩:=inv.argb i b h;obtain⟨cs',h4⟩:=hB i ⟨cs,h3⟩;exact⟨(hβ i ⟨cs,h3⟩).trans h1,h2,cs',h4⟩
theorem upd_same{α:Type}(f:Nat->α)(s:Nat)(x:α):upd f s x s=x:=by simp[upd]
theorem upd_ne{α:Type}(f:Nat->α){s t:Nat}(x:α)(h:t≠s):upd f s x t=f t:=by
 have:Nat.beq t s=false:=EN;simp[upd,this]
theorem Inv.ext_size(inv:Inv T Φ σ a w G){b:Nat}(h:w.heap.size<=b):G.O b= .ext:=by
 cases h':G.O b with
 |ext=>rfl
 |_=>have:=inv.tag b (by rw[h'];simp);omega
theorem aN0(inv:Inv T Φ σ a w G):Φ.mine w.heap.size:= .inl inv.size
theorem Inv.lM(inv:Inv T Φ σ a w G){d:Nat}(hd:σ.bx d=none){c:Array Value}{t:TypeId}{cs:List V}(hc:RvL w G c.toList cs)(hok:V.okL σ.hasB σ.hasA cs):
 Inv T Φ (σ.apps [.b d cs]) a (w.alloc (.cells c t)) {G with β:=upd G.β d w.heap.size,O:=upd G.O w.heap.size (.bx d)}:=by
 have hold:∀b,b<w.heap.size->(w.alloc (.cells c t)).heap[b]? =w.heap[b]? :=fun b hb=>heap_alloc_old w _ hb;have hne:∀b,G.O b≠ .ext->b≠w.heap.size:=fun b hb e=>by have:=inv.tag b hb;omega
 have hkp:Keep w (w.alloc (.cells c t)) G {G with β:=upd G.β d w.heap.size,O:=upd G.O w.heap.size (.bx d)}:=
  ⟨fun b hb=>Cb,fun b hb=>hold b (inv.tag b Au)⟩
 have hβ:∀i,σ.hasB i->upd G.β d w.heap.size i=G.β i:=fun i ⟨x,hx⟩=>upd_ne _ _ (fun e=>Dl)
 have hB:∀i,σ.hasB i->(σ.apps [.b d cs]).hasB i:=fun i ⟨x,hx⟩=>⟨x,by
  show upd σ.bx d _ i=_;rw[upd_ne _ _ (fun e=>Dl)];exact hx⟩
 refine inv.change rfl hkp hβ (fun _ _ _=>rfl) hB (fun _ _ h=>h) ?_ ?_ ?_ ?_ ?_ Ae rfl rfl rfl
 ·intro i xs hi
  by_cases e:i=d
  ·subst e
   refine .inr ⟨⟨c,t,?_,?_,?_⟩,?_⟩
   ·show(w.alloc _).heap[upd G.β i w.heap.size i]? =_
    rw[upd_same];exact heap_alloc_new w _
   ·have:xs=cs:=by
     exact MS
    subst this;exact hc.keep hkp hok hβ (fun _ _ _=>rfl)
   ·show upd G.O _ _ (upd G.β i w.heap.size i)=_
    rw[upd_same,upd_same]
   ·have:xs=cs:=by
     exact MS
    subst this;exact V.okL.imp hB (fun _ _ h=>h) _ hok
  ·have h2:σ.bx i=some xs:=by
    exact Oi
   obtain⟨c',t',g1,g2,g3⟩:=inv.box i xs h2;have hlt:=inv.tag (G.β i) (by rw[g3];simp)
   exact .inl ⟨h2,by show upd G.O _ _ _=_;rw[upd_ne _ _ (by omega)];exact g3,hold _ hlt⟩
 ·intro k en hk
  refine .inl ⟨hk,fun b hb=>?_⟩;have hlt:=inv.tag b Au
  exact⟨by show upd G.O _ _ _=_;rw[upd_ne _ _ (by omega)];exact hb,hold b hlt⟩
 ·intro b hb
  by_cases e:b=w.heap.size
  ·subst e;simp
  ·have h2:upd G.O w.heap.size (.bx d) b≠ .ext:=hb
   rw[upd_ne _ _ e]at h2;have:=inv.tag b h2;simp;omega
 ·intro b
  by_cases e:b=w.heap.size
  ·subst e;exact .inr (.inr (aN0 inv))
  ·exact .inl (upd_ne _ _ e)
 ·intro b
  rcases Nat.lt_trichotomy b w.heap.size with h|h|h
  ·exact .inl (hold b h)
  ·subst h;exact .inr (aN0 inv)
  ·refine .inl ?_
   rw[Array.getElem?_eq_none A8,Array.getElem?_eq_none Aa]
theorem Inv.takeBox(inv:Inv T Φ σ a w G){d:Nat}(hd:σ.bx d=none){b0:Nat}(hext:G.O b0= .ext)(hm:Φ.mine b0)(hlt0:b0<w.heap.size){c:Array Value}{t:TypeId}{cs:List V}(hh:w.heap[b0]? =some (.cells c t (0,0)))(hc:RvL w G c.toList cs)(hok:V.okL σ.hasB σ.hasA cs):
 Inv T Φ (σ.apps [.b d cs]) a w {G with β:=upd G.β d b0,O:=upd G.O b0 (.bx d)}:=by
 have hne:∀b,G.O b≠ .ext->b≠b0:=fun b hb e=>hb (by rw[e];exact hext)
 have hkp:Keep w w G {G with β:=upd G.β d b0,O:=upd G.O b0 (.bx d)}:=
  ⟨fun b hb=>Cb,fun b hb=>rfl⟩
 have hβ:∀i,σ.hasB i->upd G.β d b0 i=G.β i:=fun i ⟨x,hx⟩=>upd_ne _ _ (fun e=>Dl)
 have hB:∀i,σ.hasB i->(σ.apps [.b d cs]).hasB i:=fun i ⟨x,hx⟩=>⟨x,by
  show upd σ.bx d _ i=_;rw[upd_ne _ _ (fun e=>Dl)];exact hx⟩
 refine inv.change rfl hkp hβ (fun _ _ _=>rfl) hB (fun _ _ h=>h) ?_ ?_ ?_ ?_ ?_ (Nat.le_refl _) rfl rfl rfl
 ·intro i xs hi
  by_cases e:i=d
  ·subst e
   have hx:xs=cs:=by
    exact MS
   subst hx;refine .inr ⟨⟨c,t,?_,hc.keep hkp hok hβ (fun _ _ _=>rfl),?_⟩,V.okL.imp hB (fun _ _ h=>h) _ hok⟩
   ·show w.heap[upd G.β i b0 i]? =_
    rw[upd_same];exact hh
   ·show upd G.O _ _ (upd G.β i b0 i)=_
    rw[upd_same,upd_same]
  ·have h2:σ.bx i=some xs:=by
    exact Oi
   obtain⟨c',t',g1,g2,g3⟩:=inv.box i xs h2;have hn:=hne (G.β i) (by rw[g3];simp)
   exact .inl ⟨h2,by show upd G.O _ _ _=_;rw[upd_ne _ _ hn];exact g3,rfl⟩
 ·intro k en hk
  refine .inl ⟨hk,fun b hb=>?_⟩;have hn:=hne b Au
  exact⟨by show upd G.O _ _ _=_;rw[upd_ne _ _ hn];exact hb,rfl⟩
 ·intro b hb
  by_cases e:b=b0
  ·subst e;exact hlt0
  ·have h2:upd G.O b0 (.bx d) b≠ .ext:=hb
   rw[upd_ne _ _ e]at h2;exact inv.tag b h2
 ·intro b
  by_cases e:b=b0
  ·subst e;exact .inr (.inr hm)
  ·exact .inl (upd_ne _ _ e)
 ·intro b
  exact .inl rfl
theorem Inv.eJ4(inv:Inv T Φ σ a w G){i:Nat}{old cs:List V}(hi:σ.bx i=some old){c:Array Value}{t:TypeId}(hc:RvL w G c.toList cs)(hok:V.okL σ.hasB σ.hasA cs)
 (hw:w'.heap[G.β i]? =some (.cells c t (0,0)))(ho:∀b,b≠G.β i->w'.heap[b]? =w.heap[b]?)(hs:w'.heap.size=w.heap.size)(hos:w'.os=w.os)(htape:w'.tape=w.tape)(hout:w'.output=w.output):
 Inv T Φ (σ.apps [.b i cs]) a w' G:=by
 obtain⟨c0,t0,g1,g2,g3⟩:=inv.box i old hi;have hkp:Keep w w' G G:=⟨fun _ h=>h,fun b hb=>ho b (fun e=>by subst e;rw[g3]at hb;cases hb)⟩
 have hB:∀j,σ.hasB j->(σ.apps [.b i cs]).hasB j:=fun j ⟨x,hx⟩=>by
  by_cases e:j=i
  ·subst e;exact⟨cs,upd_same _ _ _⟩
  ·exact⟨x,by show upd σ.bx i _ j=_;rw[upd_ne _ _ e];exact hx⟩
 refine inv.change rfl hkp (fun _ _=>rfl) (fun _ _ _=>rfl) hB (fun _ _ h=>h) ?_ ?_ ?_ (fun _=> .inl rfl) ?_ Aa hos htape hout
 ·intro j xs hj
  by_cases e:j=i
  ·subst e
   have:xs=cs:=by
    have h2:upd σ.bx j (some cs) j=some xs:=hj;rw[upd_same]at h2;cases h2;rfl
   subst this;exact .inr ⟨⟨c,t,hw,hc.keep hkp hok (fun _ _=>rfl) (fun _ _ _=>rfl),g3⟩,V.okL.imp hB (fun _ _ h=>h) _ hok⟩
  ·have h2:σ.bx j=some xs:=by
    have h2:upd σ.bx i (some cs) j=some xs:=hj;rwa [upd_ne _ _ e]at h2
   obtain⟨c',t',q1,q2,q3⟩:=inv.box j xs h2;exact .inl ⟨h2,q3,ho _ (fun e2=>by rw[e2,g3]at q3;cases q3;exact e rfl)⟩
 ·intro k en hk
  exact .inl ⟨hk,fun b hb=>⟨hb,ho b (fun e=>by subst e;rw[g3]at hb;cases hb)⟩⟩
 ·intro b hb;rw[hs];exact inv.tag b hb
 ·intro b
  by_cases e:b=G.β i
  ·subst e;exact .inr (inv.mineB _ i g3)
  ·exact .inl (ho b e)
theorem Inv.zU(inv:Inv T Φ σ a w G){k:Nat}{en:AE}{av':Nat->Nat->Value}{O':Nat->Tag}
 (hA:∀g,σ.hasA k g->g<=en.gen)(hav:∀k' g,σ.hasA k' g->av' k' g=G.av k' g)(hp:bM en.l)
 (hok:gW T w' {G with av:=av',O:=O'} k en)
 (hO:∀b,G.O b≠ .ext->G.O b≠ .ar k->O' b=G.O b)(hO':∀b,O' b=G.O b\/O' b= .ext\/(O' b= .ar k/\Φ.mine b/\b<w'.heap.size)\/(O' b= .fz/\G.O b= .ar k))
 (ho:∀b,b<w.heap.size->G.O b≠ .ar k->w'.heap[b]? =w.heap[b]?)(hs:w.heap.size<=w'.heap.size)(hos:w'.os=w.os)(htape:w'.tape=w.tape)(hout:w'.output=w.output):
 Inv T Φ (σ.apps [.a k en]) a w' {G with av:=av',O:=O'}:=by
 have hlt:∀b,G.O b≠ .ext->b<w.heap.size:=inv.tag;have hkp:Keep w w' G {G with av:=av',O:=O'}:=⟨fun b hb=>(hO b Au Au).trans hb,fun b hb=>ho b (hlt b Au) Au⟩
 have hA':∀j g,σ.hasA j g->(σ.apps [.a k en]).hasA j g:=fun j g hh=>by
  by_cases e:j=k
  ·subst e;exact⟨en,upd_same _ _ _,hA g hh⟩
  ·obtain⟨x,hx,hg⟩:=hh
   exact⟨x,by show upd σ.ar k _ j=_;rw[upd_ne _ _ e];exact hx,hg⟩
 refine inv.change rfl hkp (fun _ _=>rfl) hav (fun _ h=>h) hA' ?_ ?_ ?_ ?_ ?_ hs hos htape hout
 ·intro i cs hi
  obtain⟨c,t,q1,q2,q3⟩:=inv.box i cs hi;have hl:=hlt (G.β i) FP;exact .inl ⟨hi,(hO _ FP FP).trans q3,ho _ hl FP⟩
 ·intro j x hj
  by_cases e:j=k
  ·subst e
   have:x=en:=by
    have h2:upd σ.ar j (some en) j=some x:=hj;rw[upd_same]at h2;cases h2;rfl
   subst this;exact .inr ⟨hok,hp⟩
  ·have h2:σ.ar j=some x:=by
    have h2:upd σ.ar k (some en) j=some x:=hj;rwa [upd_ne _ _ e]at h2
   refine .inl ⟨h2,fun b hb=>?_⟩;have hl:=hlt b Au
   have hn:G.O b≠ .ar k:=by rw[hb];intro e2;cases e2;exact e rfl
   exact⟨(hO b Au hn).trans hb,ho b hl hn⟩
 ·intro b hb
  rcases hO' b with h|h|h|h
  ·have:G.O b≠ .ext:=by rw[<-h];exact hb
   have:=hlt b this;omega
  ·exact absurd h hb
  ·exact h.2.2
  ·have:=hlt b (by rw[h.2];simp);omega
 ·intro b
  rcases hO' b with h|h|h|h
  ·exact .inl h
  ·exact .inr (.inl h)
  ·exact .inr (.inr h.2.1)
  ·exact .inr (.inr (inv.mineA b k h.2))
 ·intro b
  rcases Nat.lt_or_ge b w.heap.size with h|h
  ·by_cases e:G.O b= .ar k
   ·exact .inr (inv.mineA b k e)
   ·exact .inl (ho b h e)
  ·exact .inr (.inl (Nat.le_trans inv.size h))
theorem Inv.bA3(inv:Inv T Φ σ a w G){d:Nat}(hd:Φ.wr d){v':Value}{v:V}(hv:Rv w G v' v)(hok:v.ok σ.hasB σ.hasA):Inv T Φ (σ.set d v) (a.put (some d) v') w G where
 nd:=inv.nd
 kp s u h:=by
  have hs:s≠d:=fun e=>by rw[e,hd.2]at h;cases h
  show(a.tmps.setIfInBounds d v').getD s undef=u;rw[show(a.tmps.setIfInBounds d v').getD s undef=a.tmps.getD s undef by simp[Array.getElem?_setIfInBounds_ne (Ne.symm hs)]]
  exact inv.kp s u h
 sz:=by show(a.tmps.setIfInBounds d v').size=_;simp[inv.sz]
 env s:=by
  show Rv w G ((a.tmps.setIfInBounds d v').getD s undef) (upd σ.env d v s);by_cases e:s=d
  ·subst e
   rw[upd_same];have:(a.tmps.setIfInBounds s v').getD s undef=v':=by simp[inv.sz,hd.1]
   rw[this];exact hv
  ·rw[upd_ne _ _ e]
   have:(a.tmps.setIfInBounds d v').getD s undef=a.tmps.getD s undef:=by
    simp[Array.getElem?_setIfInBounds_ne (Ne.symm e)]
   rw[this];exact inv.env s
 wfE s:=by
  show(upd σ.env d v s).ok _ _;by_cases e:s=d
  ·subst e;rw[upd_same];exact hok
  ·rw[upd_ne _ _ e];exact inv.wfE s
 box:=inv.box
 wfB:=inv.wfB
 arr:=inv.arr
 wfA:=inv.wfA
 tag:=inv.tag
 mineB:=inv.mineB
 mineA:=inv.mineA
 fzm:=inv.fzm
 F0:=inv.F0
 frame:=inv.frame
 size:=inv.size
 os:=inv.os
 tape:=inv.tape
 output:=inv.output
 args:=inv.args
 lay:=inv.lay
 argb:=inv.argb
theorem Inv.drew(inv:Inv T Φ σ a w G)(n:Nat):Inv T Φ σ a {w with drawn:=n} G:=
 inv.change rfl ⟨fun _ h=>h,fun _ _=>rfl⟩ (fun _ _=>rfl) (fun _ _ _=>rfl) (fun _ h=>h) (fun _ _ h=>h)
  (fun i cs hi=> .inl ⟨hi,(inv.box i cs hi).choose_spec.choose_spec.2.2,rfl⟩) (fun _ _ hk=> .inl ⟨hk,fun _ hb=>⟨hb,rfl⟩⟩) inv.tag (fun _=> .inl rfl) (fun _=> .inl rfl) (Nat.le_refl _) rfl rfl rfl
end
section
variable{T:Tab}{P:Program}{Φ:Fr}{σ:St}{a:Act}{w:World}{G:Gh}{K:VK}{o:Oper}{d:Nat}
theorem RvL.append{vs us:List Value}{xs ys:List V}(h:RvL w G vs xs)(h':RvL w G us ys):RvL w G (vs++us) (xs++ys):=by
 refine⟨by simp[h.len,h'.len],?_,?_⟩
 ·intro v hv
  rcases List.mem_append.1 hv with hv|hv
  ·exact h.one v hv
  ·exact h'.one v hv
 ·intro i v x hv hx
  have hl:=h.len;rw[List.getElem?_append]at hv hx;by_cases hi:i<vs.length
  ·rw[if_pos hi]at hv
   rw[if_pos Aa]at hx;exact h.rel i v x hv hx
  ·rw[if_neg hi]at hv
   rw[if_neg Aa,<-hl]at hx;exact h'.rel _ v x hv hx
theorem RvL.take{vs:List Value}{xs:List V}(h:RvL w G vs xs)(n:Nat):RvL w G (vs.take n) (xs.take n):=by
 refine⟨by simp[h.len],fun v hv=>h.one v (List.mem_of_mem_take hv),fun i v x hv hx=>?_⟩
 rw[List.getElem?_take]at hv hx;split at hv
 ·rename_i hi;rw[if_pos hi]at hx;exact h.rel i v x hv hx
 ·cases hv
theorem RvL.drop{vs:List Value}{xs:List V}(h:RvL w G vs xs)(n:Nat):RvL w G (vs.drop n) (xs.drop n):=by
 refine⟨by simp[h.len],fun v hv=>h.one v (List.mem_of_mem_drop hv),fun i v x hv hx=>?_⟩
 rw[List.getElem?_drop]at hv hx;exact h.rel _ v x hv hx
theorem RvL.splice{vs us:List Value}{xs ys:List V}(h:RvL w G vs xs)(h':RvL w G us ys)(off:Nat):RvL w G (vs.take off++us++vs.drop (off+us.length)) (Ab.splice xs off ys):=by
 rw[mO,List.append_assoc,h'.len];exact(h.take off).append (h'.append (h.drop _))
theorem yV{p:Nat->Prop}{q:Nat->Nat->Prop}{xs ys:List V}(h:V.okL p q xs)(h':V.okL p q ys)(off:Nat):V.okL p q (splice xs off ys):=by
 rw[mO,aH];intro x hx;rcases List.mem_append.1 hx with hx|hx
 ·exact aH.1 h x (List.mem_of_mem_take hx)
 ·rcases List.mem_append.1 hx with hx|hx
  ·exact aH.1 h' x hx
  ·exact aH.1 h x (List.mem_of_mem_drop hx)
theorem aM4{vs:List Value}(h:∀v∈vs,v.oneCell'=true):RvL w G vs (vs.map .lit):=by
 refine⟨Ae,h,fun i v x hv hx=>?_⟩;rw[List.getElem?_map,hv]at hx;simp at hx;subst hx;exact .lit v (h v (List.mem_of_getElem? hv))
theorem bC6{p:Nat->Prop}{q:Nat->Nat->Prop}{vs:List Value}:V.okL p q (vs.map .lit):=by
 rw[aH];intro x hx;obtain⟨v,_,rfl⟩:=List.mem_map.1 hx;exact dL
theorem aK8(inv:Inv T Φ σ a w G){c:Array Value}{t:TypeId}{cs:List V}(hc:(∀y∈cs,y.one=true)->RvL w G c.toList cs)(hok:V.okL σ.hasB σ.hasA cs)(h:lM σ d cs K){res:Result Next}
 (hr:res= .ok (.value (.pointer (some ⟨w.heap.size,0,none⟩))) (w.alloc (.cells c t))):Out T Φ σ a K res:=by
 unfold lM at h;split at h
 ·rename_i hd
  rw[bC]at h;obtain⟨h1,h⟩:=aT h;have hc:=hc (dY.1 h1);refine⟨_,_,_,_,_, .inl hr,h,inv.lM hd (t:=t) hc hok,?_,?_⟩
  ·have:=Rv.box (w:=w.alloc (.cells c t)) (G:={G with β:=upd G.β d w.heap.size,O:=upd G.O w.heap.size (.bx d)}) d 0
   simp only[upd_same]at this;exact this
  ·simp only[V.ok]
   exact⟨cs,upd_same _ _ _⟩
 ·exact h.elim
theorem dM8(inv:Inv T Φ σ a w G)(t:TypeId)(x:Operand)(ho:o.op= .box t x)(h:lM σ d (σ.ev x).cells K):Out T Φ σ a K ((execOp a.eval o).run P w):=by
 obtain⟨h1,h2⟩:=inv.ev x;exact aK8 inv (t:=t) (c:=(a.eval x).cells) (fun hh=>h1.cells hh) (sF h2) h (by simp[execOp,ho,Instr.box,newVar,newRow,newObj,Sem.run])
theorem aC3(hT:bP T P){t:TypeId}(ht:t<T.n t):∃z,(zeroValue t).run P w= .ok z w/\z.cells.toList=(T.row t).zero/\(∀c∈(T.row t).zero,c.oneCell'=true)/\(T.row t).zero.length=(T.row t).size:=by
 obtain⟨i,h1,h2,h3,z,h4,h5,h6,h7,_⟩:=(hT t ht).info;exact⟨z,by simp[zeroValue,typeInfo,h1,h4],h5,h6,h7⟩
theorem cJ8(hT:bP T P)(inv:Inv T Φ σ a w G)(t:TypeId)(ho:o.op= .alloc t)(ht:t<T.n t)(h:lM σ d (mapR .lit (T.row t).zero) K):Out T Φ σ a K ((execOp a.eval o).run P w):=by
 obtain⟨z,hz,hc,h1,_⟩:=aC3 (w:=w) hT ht;rw[dU,<-hc]at h;exact aK8 inv (t:=t) (c:=z.cells) (fun _=>aM4 (by rw[hc];exact h1)) bC6 h (by simp[execOp,ho,Instr.alloc,hz,newVar,newRow,newObj,Sem.run])
theorem yJ{t:TypeId}{r:Row}(h:aH9 P t r)(hk:r.kd= .struct):∃fs,P.underlying t=some (.struct fs)/\r.flds=fs.toList.map (fun f=>(f.offset,vI P f.type,kdOf (P.underlying f.type),f.type))/\(∀f∈fs,∃i,P.info? f.type=some i/\i.size=vI P f.type):=by
 obtain⟨dd,h1,h2,_,_,_,_,h6⟩:=h.und;rw[hk]at h2;cases dd<;>simp[kdOf]at h2;exact⟨_,h1,(h6 _ rfl).1,(h6 _ rfl).2⟩
theorem jW{t:TypeId}{r:Row}(h:aH9 P t r)(hk:r.kd= .slice):P.underlying t=some (.slice r.elem):=by
 obtain⟨dd,h1,h2,_,h4,_,_⟩:=h.und;rw[hk]at h2;cases dd<;>simp[kdOf]at h2;rw[h4 _ rfl];exact h1
theorem aR9{t:TypeId}{r:Row}(h:aH9 P t r)(hk:r.kd= .array):P.underlying t=some (.array r.alen r.elem):=by
 obtain⟨dd,h1,h2,_,_,h5,_⟩:=h.und;exact NJ
theorem eT8{t:TypeId}{r:Row}(h:aH9 P t r)(hk:r.kd= .map):P.underlying t=some (.map r.alen r.elem):=by
 obtain⟨dd,h1,h2,_,_,_,h5,_⟩:=h.und;exact NJ
theorem aF2{t:TypeId}{r:Row}(h:aH9 P t r)(hk:r.kd= .str):P.underlying t=some .string:=Kr
theorem bY7{t:TypeId}{r:Row}(h:aH9 P t r){k:IntKind}(hk:r.kd= .int k):P.underlying t=some (.int k):=by
 obtain⟨dd,h1,h2,_⟩:=h.und;rw[hk]at h2;cases dd<;>simp[kdOf]at h2;subst h2;exact h1
theorem iV(hT:bP T P){t:TypeId}(ht:t<T.n t)(w:World):(sizeOf t).run P w= .ok (T.row t).size w:=by
 obtain⟨i,h1,h2,_⟩:=(hT t ht).info;rw[bG2 h1,h2]
theorem yG(hT:bP T P){t:TypeId}(ht:t<T.n t)(w:World):(isAgg t).run P w= .ok (T.row t).agg w:=by
 obtain⟨dd,h1,_,h3,_⟩:=(hT t ht).und;rw[h3];cases dd<;>simp[isAgg,dI h1,aggB]
theorem bN6(hT:bP T P){s:TypeId}(hs:s<T.n s){f:Nat}{off z:Nat}{kd:Kd×TypeId}(hf:(T.row s).flds[f]? =some (off,z,kd))(hz:z≠0)(hkd:(T.row s).kd= .struct)(ad:Addr):
 (Instr.fieldAt s (.pointer (some ad)) f).run P w= .ok (.pointer (some (ad.add off))) w:=by
 obtain⟨fs,h1,h2,h3⟩:=yJ (hT s hs) hkd;rw[h2,List.getElem?_map]at hf
 cases hfs:fs.toList[f]? with
 |none=>rw[hfs]at hf;cases hf
 |some fd=>
  rw[hfs]at hf;simp only[Option.map_some,Option.some.injEq,Prod.mk.injEq]at hf;obtain⟨e1,e2,_⟩:=hf;have hfa:fs[f]? =some fd:=by simpa using hfs
  obtain⟨i,hi,hsz⟩:=h3 fd (by have:=List.mem_of_getElem? hfs;simpa using this)
  have hne:i.size≠0:=by rw[hsz,e2];exact hz
  simp[Instr.fieldAt,dI h1,hfa,Instr.sureAddr,fieldPlace,bG2 hi,hne,e1]
theorem aY3(hT:bP T P)(inv:Inv T Φ σ a w G)(s:TypeId)(x:Operand)(f:Nat)(ho:o.op= .fieldAddr s x f)(hs:s<T.n s)(h:jB (T.row s) (σ.ev x) f K):Out T Φ σ a K ((execOp a.eval o).run P w):=by
 obtain⟨h1,h2⟩:=inv.ev x;unfold jB at h;split at h
 ·rename_i off z kd hkd hf
  rw[uN]at hf
  cases hz:Nat.beq z 0 with
  |true=>rw[hz]at h;exact h.elim
  |false=>
   rw[hz]at h;have hz':z≠0:=by rintro rfl;simp at hz
   have hrun:∀ad,a.eval x= .pointer (some ad)->(execOp a.eval o).run P w= .ok (.value (.pointer (some (ad.add off)))) w:=fun ad he=>by
    simp[execOp,ho,he,bN6 hT hs hf hz' hkd ad]
   simp only[cond_false]at h;split at h
   ·rename_i i of hx
    rw[hx]at h1 h2;refine .plain inv (hrun _ h1.bI6) h ?_ Ec;rw[rY];exact .box i (of+off)
   ·rename_i cs hx
    rw[hx]at h1 h2;obtain⟨ad,cc,he,hf1,hc,hr⟩:=h1.cW5;rw[bC,lQ]at h;refine .plain inv (hrun ad he) h ?_ ?_
    ·refine .fp _ _ (fun j=>cc (off+j)) (fun hne=>?_) (fun j y hy=>?_) (fun j y hy=>?_)
     ·rw[add_block];exact hf1 (by rintro rfl;simp at hne)
     ·rw[List.getElem?_drop]at hy
      rw[add_add'];exact hc _ y hy
     ·rw[List.getElem?_drop]at hy
      exact hr _ y hy
    ·exact JP
   ·rename_i k g sz i of hx
    rw[hx]at h1 h2;obtain⟨ad,n,c,he,hav⟩:=h1.dA8;refine .plain inv (hrun _ he) h ?_ Ec;rw[add_add',Nat.add_assoc];exact .ae k g sz i (of+off) ad n c hav
   ·exact h.elim
 ·exact h.elim
structure Here(w:World)(G:Gh)(ad:Addr)(xs:List V):Prop where
 out:∃cc:Nat->Value,At w ad cc xs/\∀(j:Nat) y,xs[j]? =some y->Rv w G (cc j) y
theorem dU3(hT:bP T P){t:TypeId}(ht:t<T.n t){ad:Addr}{xs:List V}(hh:Here w G ad xs)(hok:V.okL σ.hasB σ.hasA xs)(h:wB (T.row t) xs K):
 ∃v' v,(loadVar t ad).run P w= .ok v' w/\K v []/\Rv w G v' v/\v.ok σ.hasB σ.hasA:=by
 obtain⟨cc,hc,hr⟩:=hh.out;unfold wB at h;split at h
 ·rename_i hagg
  rw[bC,aD3,iL]at h;obtain⟨h1,h⟩:=aT h;have hlen:(xs.take (T.row t).size).length=(T.row t).size:=by simpa [Nat.beq_eq]using h1
  have hle:(T.row t).size<=xs.length:=by rw[List.length_take]at hlen;omega
  have hload:=run_loadCells (P:=P) w ad (T.row t).size cc (fun j hj=>(hc j _ (List.getElem?_eq_getElem Aa)).1);refine⟨.agg ((List.range (T.row t).size).map cc).toArray,_,?_,h, .agg _ _ ?_ ?_ ?_,?_⟩
  ·simp[loadVar,yG hT ht,hagg,iV hT ht,hload]
  ·simp[hle]
  ·intro c hcm
   simp only[List.mem_toArray,List.mem_map,List.mem_range]at hcm;obtain⟨j,hj,rfl⟩:=hcm;exact(hc j _ (List.getElem?_eq_getElem Aa)).2
  ·intro i c x hci hx
   rw[List.getElem?_take]at hx;split at hx
   ·rename_i hi
    simp[hi]at hci;subst hci;exact hr i x hx
   ·cases hx
  ·simp only[V.ok]
   rw[aH]at hok⊢;exact fun y hy=>hok y (List.mem_of_mem_take hy)
 ·rename_i hagg
  split at h
  ·rename_i x r
   rw[force_eq]at h;have h0:=hc 0 x Ae;rw[add_zero']at h0;exact⟨cc 0,x,by simp[loadVar,yG hT ht,hagg,run_load,h0.1],h,hr 0 x Ae,aH.1 hok x Ae⟩
  ·exact h.elim
theorem flat_get{l:List V}{sz:Nat}(hz:∀x∈l,x.cells.length=sz){i:Nat}{x:V}(hi:l[i]? =some x)(j:Nat)(hj:j<sz):(l.flatMap V.cells)[i*sz+j]? =x.cells[j]? :=by
 induction l generalizing i with
 |nil=>simp at hi
 |cons y r ih=>
  have hy:y.cells.length=sz:=hz y Ae
  cases i with
  |zero=>
   simp at hi;subst hi;simp only[List.flatMap_cons,Nat.zero_mul,Nat.zero_add];rw[List.getElem?_append_left Aa]
  |succ i=>
   simp only[List.getElem?_cons_succ]at hi;simp only[List.flatMap_cons];rw[List.getElem?_append_right (by rw[hy,Nat.succ_mul];omega),hy,show(i+1)*sz+j-sz=i*sz+j by rw[Nat.succ_mul];omega]
   exact ih (fun x hx=>hz x CW) hi
theorem sH{l:List V}{sz:Nat}(hz:∀x∈l,x.cells.length=sz):(l.flatMap V.cells).length=l.length*sz:=by
 induction l with
 |nil=>simp
 |cons y r ih=>
  simp only[List.flatMap_cons,List.length_append,List.length_cons,Nat.succ_mul];rw[ih (fun x hx=>hz x CW),hz y Ae];omega
theorem Here.elem{l:List V}{sz:Nat}(hz:∀x∈l,x.cells.length=sz){ad:Addr}(hh:Here w G ad (l.flatMap V.cells)){i:Nat}{x:V}(hi:l[i]? =some x)(off:Nat):Here w G (ad.add (i*sz+off)) (x.cells.drop off):=by
 obtain⟨cc,hc,hr⟩:=hh.out
 have key:∀(j:Nat) (y:V),(x.cells.drop off)[j]? =some y->(l.flatMap V.cells)[i*sz+off+j]? =some y:=by
  intro j y hy;rw[List.getElem?_drop]at hy
  have hlt:off+j<sz:=by
   have:=(List.getElem?_eq_some_iff.1 hy).1;rw[hz x (List.mem_of_getElem? hi)]at this;exact this
  rw[Nat.add_assoc,flat_get hz hi _ hlt];exact hy
 refine⟨fun j=>cc (i*sz+off+j),fun j y hy=>?_,fun j y hy=>hr _ y (key j y hy)⟩;rw[add_add'];exact hc _ y (key j y hy)
theorem RvL.here{g:Nat}{cur:Array Value}{t:TypeId}{fr:Nat×Nat}(hw:w.heap[g]? =some (.cells cur t fr)){n:Nat}{xs:List V}(h:RvL w G (cur.toList.take n) xs):Here w G ⟨g,0,none⟩ xs:=by
 refine⟨fun j=>cur.toList.getD j undef,fun j y hy=>?_,fun j y hy=>?_⟩
 ·have hj:j< (cur.toList.take n).length:=by rw[h.len];exact(List.getElem?_eq_some_iff.1 hy).1
  have hj':j<cur.toList.length:=by rw[List.length_take]at hj;omega
  have hm:(cur.toList.take n)[j] =cur.toList[j] :=List.getElem_take;rw[rY,Nat.zero_add,cell_of_row w g j cur t fr hw];have hd:cur.toList.getD j undef=cur.toList[j] :=E5
  show cur[j]? =some (cur.toList.getD j undef)/\(cur.toList.getD j undef).oneCell'=true;rw[hd];refine⟨Ae,?_⟩;rw[<-hm];exact h.one _ (List.getElem_mem hj)
 ·have hj:j< (cur.toList.take n).length:=by rw[h.len];exact(List.getElem?_eq_some_iff.1 hy).1
  have hj':j<cur.toList.length:=by rw[List.length_take]at hj;omega
  have hm:(cur.toList.take n)[j] =cur.toList[j] :=List.getElem_take;have hd:cur.toList.getD j undef=cur.toList[j] :=E5
  show Rv w G (cur.toList.getD j undef) y;rw[hd,<-hm];exact h.rel j _ y (List.getElem?_eq_getElem hj) hy
theorem gW.reads{k:Nat}{en:AE}(h:gW T w G k en)(hd:en.kind≠ .dead):(G.av k en.gen= .slice none 0 0/\en.l=[])\/
 ∃ad c sz,G.av k en.gen= .slice (some ad) en.l.length c/\en.l.length<=c/\c<=maxLen/\(∀x∈en.l,x.cells.length=sz)/\Here w G ad (en.l.flatMap V.cells):=by
 have own:∀ {u ty l},gJ T w G k u ty l->(u= .slice none 0 0/\l=[])\/∃ad c sz,u= .slice (some ad) l.length c/\l.length<=c/\c<=maxLen/\(∀x∈l,x.cells.length=sz)/\Here w G ad (l.flatMap V.cells):=by
  intro u ty l h;rcases h with⟨h|⟨a,h⟩,h'⟩|⟨b,cap,cur,h1,h2,h3,h4,h5,h6,h7,h8⟩
  ·exact .inl ⟨h,h'⟩
  ·subst h'
   exact .inr ⟨a,0,0,h,Nat.le_refl _,Nat.zero_le _,(fun x hx=>by cases hx),⟨fun _=>undef,(fun j y hy=>by simp at hy),(fun j y hy=>by simp at hy)⟩⟩
  ·exact .inr ⟨⟨b,0,none⟩,cap,_,h1,h4,h5,h7,h8.here h3⟩
 have sl:∀ {u l},Rv w G u (.sl l)->(u= .slice none 0 0/\l=[])\/∃ad c sz,u= .slice (some ad) l.length c/\l.length<=c/\c<=maxLen/\(∀x∈l,x.cells.length=sz)/\Here w G ad (l.flatMap V.cells):=by
  intro u l h;exact Nc
 unfold gW at h;split at h
 ·rename_i hk;exact absurd hk hd
 ·exact sl h
 ·exact own h.2
 ·rcases h.2 with h|h
  ·exact own h
  ·exact sl h.1.wK
theorem cG1(hT:bP T P)(inv:Inv T Φ σ a w G)(t:TypeId)(x:Operand)(ht:t<T.n t)(h:pW (T.row t) σ (σ.ev x) K):∃ad v' v,a.eval x= .pointer (some ad)/\(loadVar t ad).run P w= .ok v' w/\K v []/\Rv w G v' v/\v.ok σ.hasB σ.hasA:=by
 obtain⟨h1,h2⟩:=inv.ev x
 have fin:∀(ad:Addr) (xs:List V),a.eval x= .pointer (some ad)->Here w G ad xs->V.okL σ.hasB σ.hasA xs->wB (T.row t) xs K->∃ad v' v,a.eval x= .pointer (some ad)/\(loadVar t ad).run P w= .ok v' w/\K v []/\Rv w G v' v/\v.ok σ.hasB σ.hasA:=by
  intro ad xs he hh hok hp;obtain⟨v',v,hrun,hk,hv,hvo⟩:=dU3 hT ht hh hok hp;exact⟨ad,v',v,he,hrun,hk,hv,hvo⟩
 unfold pW at h;split at h
 ·rename_i i off hx
  rw[hx]at h1;split at h
  ·rename_i cs hcs
   obtain⟨c,tt,g1,g2,g3⟩:=inv.box i cs hcs;rw[lQ]at h;have hh:Here w G ⟨G.β i,0,none⟩ cs:=RvL.here g1 (n:=c.toList.length) (by rw[List.take_length];exact g2)
   refine fin _ _ h1.bI6 ?_ ?_ h
   ·obtain⟨cc,q1,q2⟩:=hh.out
    refine⟨fun j=>cc (off+j),fun j y hy=>?_,fun j y hy=>?_⟩
    ·rw[List.getElem?_drop]at hy
     have:=q1 _ y hy;rw[rY,Nat.zero_add]at this;rw[rY];exact this
    ·rw[List.getElem?_drop]at hy
     exact q2 _ y hy
   ·have:=inv.wfB i cs hcs
    rw[aH]at this⊢;exact fun y hy=>this y (List.mem_of_mem_drop hy)
  ·exact h.elim
 ·rename_i cs hx
  rw[hx]at h1 h2;obtain⟨ad,cc,he,_,hc,hr⟩:=h1.cW5;refine fin ad cs he ⟨cc,hc,hr⟩ ?_ h;simp only[V.ok]at h2;exact V.okL.imp (fun _ h=>h.elim) (fun _ _ h=>h.elim) _ h2
 ·rename_i k g sz i off hx
  rw[hx]at h1;split at h
  ·rename_i en hen
   obtain⟨⟨hg,hd⟩,h3⟩:=dX h;obtain⟨y,hy,h4⟩:=cO3 h3;obtain⟨hs,h5⟩:=aT h4;clear h h3 h4;rw[iL]at hs;have hs':y.cells.length=sz:=by simpa [Nat.beq_eq]using hs
   obtain⟨ad,n,c,he,hav⟩:=h1.dA8;subst hg;rcases(inv.arr k en hen).reads hd with⟨e1,e2⟩|⟨ad',c',sz',e1,e2,e3,e4,e5⟩
   ·rw[e2]at hy;simp at hy
   ·rw[hav]at e1
    cases e1;have:sz'=sz:=by rw[<-e4 y (List.mem_of_getElem? hy)];exact hs'
    subst this;rw[lQ]at h5;refine fin _ _ he (e5.elem e4 hy off) ?_ h5;have hp:=aH.1 (inv.wfA k en hen) y (List.mem_of_getElem? hy);have:=sF hp
    rw[aH]at this⊢;exact fun z hz=>V.pure.ok (this z (List.mem_of_mem_drop hz)) _ _
  ·exact h.elim
 ·exact h.elim
theorem cZ0(hT:bP T P)(inv:Inv T Φ σ a w G)(t:TypeId)(x:Operand)(ho:o.op= .load t x)(ht:t<T.n t)(h:pW (T.row t) σ (σ.ev x) K):Out T Φ σ a K ((execOp a.eval o).run P w):=by
 obtain⟨ad,v',v,he,hrun,hk,hv,hvo⟩:=cG1 hT inv t x ht h;exact .plain inv (by simp[execOp,ho,he,Instr.loadAt,Instr.sureAddr,hrun]) hk hv hvo
end
section
variable{T:Tab}{P:Program}{Φ:Fr}{σ:St}{a:Act}{w:World}{G:Gh}{K:VK}{o:Oper}{d:Nat}
theorem size_setRow(g:Nat)(cs:Array Value):(w.setRow g cs).heap.size=w.heap.size:=by simp[World.setRow]
theorem aN1(hT:bP T P){t:TypeId}(ht:t<T.n t){g off:Nat}{cur:Array Value}{tt:TypeId}(hw:w.heap[g]? =some (.cells cur tt (0,0))){v:Value}(hs:v.cells.size=(T.row t).size)(hl:off+v.cells.size<=cur.size)(h1:∀c∈v.cells.toList,c.oneCell'=true):
 (storeVar t ⟨g,off,none⟩ v).run P w= .ok () (w.setRow g (cur.toList.take off++v.cells.toList++cur.toList.drop (off+v.cells.toList.length)).toArray):=by
 have:=run_storeCells_at (P:=P) g off tt v.cells.toList 0 cur w hw AQ h1;simp only[Nat.add_zero]at this;simp[storeVar,iV hT ht,hs,this]
theorem aF8{p:Nat->Prop}{q:Nat->Nat->Prop}{y:V}(h:y.atom=true)(hok:y.ok p q):y.pure:=by
 cases y with
 |lit u=>simp only[V.pure,V.ok]
 |sl l=>simp only[V.pure,V.ok]at hok⊢;exact hok
 |cap l=>simp only[V.pure,V.ok]at hok⊢;exact hok
 |fn g l=>exact fn_atom_pure h hok
 |_=>simp[V.atom]at h
theorem eC3{y:V}(h:y.atom=true):y.one=true:=by cases y<;>simp_all [V.atom,V.one]
theorem bE1{y:V}(h:y.atom=true):y.cells=[y] :=by cases y<;>simp_all [V.atom,V.cells]
theorem eA3{l:List V}{sz:Nat}(hz:∀x∈l,x.cells.length=sz){i:Nat}{x x':V}(hi:l[i]? =some x){off:Nat}{ys:List V}(hx':x'.cells=splice x.cells off ys)(hle:off+ys.length<=sz):
 (l.set i x').flatMap V.cells=splice (l.flatMap V.cells) (i*sz+off) ys:=by
 induction l generalizing i with
 |nil=>simp at hi
 |cons y r ih=>
  have hy:y.cells.length=sz:=hz y Ae;rw[mO]at hx'⊢
  cases i with
  |zero=>
   simp at hi;subst hi;simp only[List.set_cons_zero,List.flatMap_cons,Nat.zero_mul,Nat.zero_add,hx'];rw[List.take_append_of_le_length Aa,List.drop_append_of_le_length Aa];simp
  |succ i=>
   simp only[List.getElem?_cons_succ]at hi;have:=ih (fun x hx=>hz x CW) hi;rw[mO]at this;have e:(i+1)*sz+off=y.cells.length+(i*sz+off):=by rw[hy,Nat.succ_mul];omega
   simp only[List.set_cons_succ,List.flatMap_cons,this,e,List.take_append,List.drop_append];have t1:List.take (y.cells.length+(i*sz+off)) y.cells=y.cells:=List.take_of_length_le Aa;have t2:List.drop (y.cells.length+(i*sz+off)+ys.length) y.cells=[] :=List.drop_of_length_le Aa
   have t3:y.cells.length+(i*sz+off)+ys.length-y.cells.length=i*sz+off+ys.length:=Aa;rw[t1,t2,Nat.add_sub_cancel_left,t3];simp
theorem cJ7(hT:bP T P)(inv:Inv T Φ σ a w G)(t:TypeId)(x y:Operand)(ho:o.op= .store t x y)(ht:t<T.n t)(h:qU (T.row t) σ (σ.ev x) (σ.ev y) K):Out T Φ σ a K ((execOp a.eval o).run P w):=by
 obtain⟨h1,h2⟩:=inv.ev x;obtain⟨y1,y2⟩:=inv.ev y;unfold qU at h;split at h
 ·rename_i i off hx
  rw[hx]at h1;split at h
  ·rename_i cs hcs
   obtain⟨hc,h3⟩:=aT h;clear h;simp only[Bool.and_eq_true,iL]at hc;obtain⟨⟨c1,c2⟩,c3⟩:=hc;have c1':(σ.ev y).cells.length=(T.row t).size:=EZ;have c2':off+(T.row t).size<=cs.length:=by simpa using c2
   rw[bC]at h3;have hy:=y1.cells (dY.1 c3);obtain⟨c,tt,g1,g2,g3⟩:=inv.box i cs hcs;have hlen:(a.eval y).cells.size=(T.row t).size:=by have:=hy.len;simp at this;omega
   have hcl:c.size=cs.length:=by have:=g2.len;simpa using this
   have hrun:=aN1 (P:=P) hT ht g1 (v:=a.eval y) (off:=off) hlen Aa hy.one;refine⟨undef,w.setRow (G.β i) (c.toList.take off++(a.eval y).cells.toList++c.toList.drop (off+(a.eval y).cells.toList.length)).toArray,_,_,G, .inr ⟨by simp[execOp,ho,h1.bI6,Instr.storeAt,Instr.sureAddr,hrun],rfl⟩,h3,?_, .bot _,Bl⟩
   refine inv.eJ4 hcs (c:=(c.toList.take off++(a.eval y).cells.toList++c.toList.drop (off+(a.eval y).cells.toList.length)).toArray) (t:=tt) ?_ (yV (inv.wfB i cs hcs) (sF y2) off) (setRow_heap w _ c _ tt _ g1) (fun b hb=>setRow_other w _ b _ hb) (size_setRow _ _) rfl rfl rfl;simpa using g2.splice hy off
  ·exact h.elim
 ·rename_i k g sz i off hx
  rw[hx]at h1;split at h
  ·rename_i en hen
   obtain⟨⟨hg,hkd⟩,h3⟩:=dX h;obtain⟨z,hz,h4⟩:=cO3 h3;obtain⟨hc,h5⟩:=aT h4;clear h h3 h4;simp only[Bool.and_eq_true,iL]at hc;obtain⟨⟨⟨c1,c2⟩,c4⟩,c3⟩:=hc;have c1':(σ.ev y).cells.length=(T.row t).size:=EZ;have c2':off+(T.row t).size<=z.cells.length:=by simpa using c2
   have c4':z.cells.length=sz:=by simpa [Nat.beq_eq]using c4
   rw[bC]at h5;have c3':=dY.1 c3;have hy:=y1.cells (fun u hu=>eC3 (c3' u hu))
   obtain⟨ad,n,c,he,hav⟩:=h1.dA8;subst hg;have hok:=inv.arr k en hen;have hok':=hok
   unfold gW at hok;rw[hkd]at hok;obtain⟨hty,hown⟩:=hok;rcases hown with⟨e1,e2⟩|⟨b,cap,cur,e1,e2,e3,e4,e5,e6,e7,e8⟩
   ·rw[e2]at hz;simp at hz
   ·rw[hav]at e1
    cases e1;have hszT:sz=(T.row en.ty).size:=by rw[<-c4'];exact e7 z (List.mem_of_getElem? hz)
    have hlen:(a.eval y).cells.size=(T.row t).size:=by have:=hy.len;simp at this;omega
    have hi:i<en.l.length:=(List.getElem?_eq_some_iff.1 hz).1;have hmul:i*sz+sz<=en.l.length*sz:=by rw[<-Nat.succ_mul];exact Nat.mul_le_mul_right _ hi
    have hmul2:en.l.length*sz<=c*sz:=Nat.mul_le_mul_right _ e4;have hcs:cur.size=c*sz:=by rw[hszT];exact e6
    have hrun:=aN1 (P:=P) hT ht e3 (v:=a.eval y) (off:=i*sz+off) hlen Aa hy.one
    have hcells:(aC4 z (splice z.cells off (σ.ev y).cells)).cells=splice z.cells off (σ.ev y).cells:=by
     have hlenS:(splice z.cells off (σ.ev y).cells).length=z.cells.length:=by
      rw[mO];simp;omega
     unfold aC4;split
     ·rfl
     ·rename_i hnot
      have h1c:z.cells=[z] :=by cases z<;>simp_all [V.cells]
      rw[h1c]at hlenS
      match hsp:splice z.cells off (σ.ev y).cells with
      | [] =>rw[h1c]at hsp;rw[hsp]at hlenS;simp at hlenS
      |u::r=>
       have hr:r=[] :=by
        rw[h1c]at hsp;rw[hsp]at hlenS;simp at hlenS;exact hlenS
       subst hr;rw[h1c]at c2';simp only[List.length_singleton]at c2';by_cases h0:(T.row t).size=0
       ·have hn:(σ.ev y).cells=[] :=List.eq_nil_of_length_eq_zero Aa
        rw[hn,h1c,mO]at hsp;have hoff:off=0\/off=1:=Aa;have hu:u=z:=by rcases hoff with rfl|rfl<;>(simp at hsp;exact hsp.symm)
        subst hu;exact h1c
       ·have hoff:off=0:=by omega
        subst hoff;have h1l:(σ.ev y).cells.length=1:=Aa
        match hyc:(σ.ev y).cells,h1l with
        | [q],_=>
          rw[hyc,h1c,mO]at hsp;simp at hsp;subst hsp;exact bE1 (c3' q (by rw[hyc];simp))
    have hflat:=eA3 e7 hz (x':=aC4 z (splice z.cells off (σ.ev y).cells)) (off:=off) (ys:=(σ.ev y).cells) hcells Aa
    have hpure:bM (en.l.set i (aC4 z (splice z.cells off (σ.ev y).cells))):=by
     have hpl:=aH.1 (inv.wfA k en hen);refine aH.2 ?_;intro u hu;rcases List.mem_or_eq_of_mem_set hu with hu|hu
     ·exact hpl u hu
     ·subst hu
      have hzc:=sF (hpl z (List.mem_of_getElem? hz))
      have hyc:bM (σ.ev y).cells:=by
       refine aH.2 ?_;exact fun q hq=>aF8 (c3' q hq) (aH.1 (sF y2) q hq)
      have hs:=yV hzc hyc off;unfold aC4;split
      ·simp only[V.ok];exact hs
      ·split
       ·rename_i q r hq
        rw[hq]at hs;exact hs.1
       ·simp only[V.ok]
    refine⟨undef,w.setRow b (cur.toList.take (i*sz+off)++(a.eval y).cells.toList++cur.toList.drop (i*sz+off+(a.eval y).cells.toList.length)).toArray,_,_,G, .inr ⟨?_,rfl⟩,h5,?_, .bot _,Bl⟩
    ·rw[rY,Nat.zero_add]at he
     simp[execOp,ho,he,Instr.storeAt,Instr.sureAddr,hrun]
    ·have hkeep:Keep w (w.setRow b (cur.toList.take (i*sz+off)++(a.eval y).cells.toList++cur.toList.drop (i*sz+off+(a.eval y).cells.toList.length)).toArray) G G:=
      ⟨fun _ h=>h,fun b' hb'=>setRow_other w _ b' _ (fun e=>by subst e;rw[e2]at hb';cases hb')⟩
     refine inv.zU (k:=k) (en:={en with l:=en.l.set i (aC4 z (splice z.cells off (σ.ev y).cells))}) (av':=G.av) (O':=G.O) (fun g ⟨en',q1,q2⟩=>by rw[hen]at q1;cases q1;exact q2) (fun _ _ _=>rfl) hpure ?_ (fun _ _ _=>rfl) (fun _=> .inl rfl)
      (fun b' _ hb'=>setRow_other w _ b' _ (fun e=>by subst e;exact hb' e2)) F8 rfl rfl rfl
     unfold gW;simp only[hkd];refine⟨hty, .inr ⟨b,c,_,?_,e2,setRow_heap w b cur _ _ _ e3,by simpa using e4,e5,?_,?_,?_⟩⟩
     ·simpa using hav
     ·have:=hy.len
      simp only[List.size_toArray,List.length_append,List.length_take,List.length_drop,Array.length_toList]at this⊢;rw[<-hszT];simp only[Array.length_toList]at*;omega
     ·intro u hu
      rcases List.mem_or_eq_of_mem_set hu with hu|hu
      ·exact e7 u hu
      ·subst hu
       rw[hcells,mO,<-hszT];simp;omega
     ·rw[hflat]
      have hsp:=(e8.splice hy (i*sz+off)).keep hkeep (p:=fun _=>False) (q:=fun _ _=>False) ?_ (fun _ h=>h.elim) (fun _ _ h=>h.elim)
      ·have hyl:(a.eval y).cells.toList.length=(T.row t).size:=by simpa using hlen
       have e9:List.take ((en.l.set i (aC4 z (splice z.cells off (σ.ev y).cells))).length*(T.row en.ty).size) (cur.toList.take (i*sz+off)++(a.eval y).cells.toList++cur.toList.drop (i*sz+off+(a.eval y).cells.toList.length))=
        List.take (i*sz+off) (List.take (en.l.length*(T.row en.ty).size) cur.toList)++(a.eval y).cells.toList++List.drop (i*sz+off+(a.eval y).cells.toList.length) (List.take (en.l.length*(T.row en.ty).size) cur.toList):=by
        rw[List.length_set,<-hszT];rw[List.take_append,List.take_append,List.take_take,List.take_take,List.drop_take];have q1:min (en.l.length*sz) (i*sz+off)=i*sz+off:=Aa;have q2:min (i*sz+off) (en.l.length*sz)=i*sz+off:=Aa
        rw[q1,q2];have q3:(List.take (i*sz+off) cur.toList).length=i*sz+off:=by rw[List.length_take];simp;omega
        rw[List.length_append,q3,List.take_of_length_le (l:=(a.eval y).cells.toList) Aa]
       simp only at hsp⊢;rw[e9,<-hszT];rw[<-hszT]at hsp;exact hsp
      ·refine yV ?_ ?_ _
       ·rw[aH]
        intro u hu;obtain⟨j,hj⟩:=List.getElem?_of_mem hu;exact dF (inv.wfA k en hen) hj
       ·rw[aH]
        exact fun q hq=>aF8 (c3' q hq) (aH.1 (sF y2) q hq)
  ·exact h.elim
 ·exact h.elim
end
end Go.Ab
