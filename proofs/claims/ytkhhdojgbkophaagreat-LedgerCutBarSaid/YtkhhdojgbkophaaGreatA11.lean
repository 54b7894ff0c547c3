/-
  What an operation looks at: all operations.
-/
import Derived.Test.YtkhhdojgbkophaaGreatA10
set_option linter.unusedVariables false
set_option linter.unusedSimpArgs false
namespace Go.Ab
section
variable{T:Tab}{P:Program}{σ σ':St}{d:Nat}{v:V}{ms:List Mod}
theorem yL{α β:Type}{f g:α->β}{l:List α}(h:∀x∈l,f x=g x):mapR f l=mapR g l:=by
 rw[dU,dU];exact List.map_congr_left h
theorem cL5{t:TypeId}(hm:∀m∈ms,m.same σ σ')(h:oN T t σ d (Is v ms)):oN T t σ' d (Is v ms):=by
 unfold oN at*
 split at h
 ·rename_i hd
  obtain⟨h1,_,h4⟩:=aT h
  have:=hm _ (by rw[<-h4];exact List.mem_singleton.2 rfl)
  simp only[show σ'.ar d=none from this.trans hd]
  exact h
 ·exact h.elim
theorem cX0{t:TypeId}{x y:V}(hx:x.agr σ σ')(h:rG T t σ x y (Is v ms)):rG T t σ' x y (Is v ms):=by
 unfold rG at*
 split at h
 ·rename_i k g s
  simp only[V.agr,V.ok]at hx
  rw[hx]
  exact h
 ·exact h.elim
theorem aH2{t:TypeId}{x y z:V}(hx:x.agr σ σ')(h:iE T t σ x y z (Is v ms)):iE T t σ' x y z (Is v ms):=by
 unfold iE at*
 split at h
 ·rename_i k g s
  simp only[V.agr,V.ok]at hx
  rw[hx]
  exact h
 ·exact h.elim
theorem cW0{op:Op}(he:∀x∈op.operands,σ'.ev x=σ.ev x)(ha:1<cls op->∀x∈op.operands,(σ.ev x).agr σ σ')(hm:∀m∈ms,m.same σ σ')(h:opVC T σ d op (Is v ms)):opVC T σ' d op (Is v ms):=by
 unfold opVC at h
 split at h<;>unfold opVC<;>simp only
 ·rw[he _ (by simp[Op.operands])];exact h
 ·rw[he _ (by simp[Op.operands])];exact h
 ·rename_i c a b
  rw[he c (by simp[Op.operands]),he a (by simp[Op.operands]),he b (by simp[Op.operands])];exact h
 ·rw[he _ (by simp[Op.operands])];exact h
 ·rename_i x y _
  rw[he x (by simp[Op.operands]),he y (by simp[Op.operands])];exact h
 ·rw[he _ (by simp[Op.operands])];exact bJ6 hm h
 ·obtain⟨h1,h2⟩:=aT h
  rw[h1];exact bJ6 hm h2
 ·rw[he _ (by simp[Op.operands])];exact h
 ·rw[he _ (by simp[Op.operands])];exact h
 ·rename_i x
  obtain⟨h1,h2⟩:=aT h
  rw[h1,he x (by simp[Op.operands])]
  exact dW7 (ha (by simp only[cls];decide) x (by simp[Op.operands])) h2
 ·rename_i x y
  obtain⟨h1,h2⟩:=aT h
  rw[h1,he x (by simp[Op.operands]),he y (by simp[Op.operands])]
  exact dJ9 (ha (by simp only[cls];decide) x (by simp[Op.operands])) h2
 ·rename_i x y
  obtain⟨h1,h2⟩:=aT h
  rw[h1,he x (by simp[Op.operands]),he y (by simp[Op.operands])]
  exact bO4 (ha (by simp only[cls];decide) x (by simp[Op.operands])) h2
 ·rename_i x y
  rw[he x (by simp[Op.operands]),he y (by simp[Op.operands])];exact h
 ·rw[he _ (by simp[Op.operands])];exact h
 ·exact h
 ·rename_i ps
  obtain⟨h1,h2⟩:=aT h
  rw[h1]
  refine dM6 (fun p hp=>he p.2 ?_) h2
  have hp:=(Array.mem_toList_iff.1 hp)
  simp[Op.operands]
  exact⟨p.1,hp⟩
 ·rename_i ps
  obtain⟨h1,h2⟩:=aT h
  rw[h1]
  refine bB6 (fun p hp=>he p.2 ?_) hm h2
  have hp:=(Array.mem_toList_iff.1 hp)
  simp[Op.operands]
  exact⟨p.1,hp⟩
 ·rename_i x y
  obtain⟨h1,h2⟩:=aT h
  rw[h1,he x (by simp[Op.operands]),he y (by simp[Op.operands])]
  exact bN2 hm h2
 ·rename_i x lo hi mx
  obtain⟨h1,h2⟩:=aT h
  have hl:lo.map σ'.ev=lo.map σ.ev:=by
   cases lo with
   |none=>rfl
   |some y=>simp[he y (by simp[Op.operands])]
  have hh:hi.map σ'.ev=hi.map σ.ev:=by
   cases hi with
   |none=>rfl
   |some y=>simp[he y (by simp[Op.operands])]
  have hx:mx.map σ'.ev=mx.map σ.ev:=by
   cases mx with
   |none=>rfl
   |some y=>simp[he y (by simp[Op.operands])]
  rw[h1,he x (by simp[Op.operands]),hl,hh,hx]
  exact dK8 (ha (by simp only[cls];decide) x (by simp[Op.operands])) h2
 ·rename_i x
  rw[he x (by simp[Op.operands])]
  unfold aF1 at h⊢
  split at h
  ·obtain⟨h1,h2⟩:=aT h
   rw[h1]
   exact bS6 (ha (by simp only[cls];decide) x (by simp[Op.operands])) h2
  ·exact h
 ·rename_i x t
  obtain⟨h1,h2⟩:=aT h
  rw[h1,he x (by simp[Op.operands,Call.operands])]
  split at h2
  ·exact eN2 (ha (by simp only[cls];decide) x (by simp[Op.operands,Call.operands])) h2
  ·exact h2
  ·exact h2.elim
 ·rename_i s x t t'
  obtain⟨h1,h2⟩:=aT h
  rw[h1,he x (by simp[Op.operands,Call.operands]),he s (by simp[Op.operands,Call.operands])]
  exact cY6 (ha (by simp only[cls];decide) s (by simp[Op.operands,Call.operands])) (ha (by simp only[cls];decide) x (by simp[Op.operands,Call.operands])) hm h2
 ·rw[yL (g:=σ.ev) fun x hx=>he x (by simp[Op.operands,Call.operands,hx])];exact h
 ·rw[yL (g:=σ.ev) fun x hx=>he x (by simp[Op.operands,Call.operands,hx])];exact h
 ·obtain⟨h1,h2⟩:=aT h
  rw[h1]
  exact cL5 hm h2
 ·rename_i t x y
  obtain⟨h1,h2⟩:=aT h
  rw[h1,he x (by simp[Op.operands]),he y (by simp[Op.operands])]
  exact cX0 (ha (by simp only[cls];decide) x (by simp[Op.operands])) h2
 ·rename_i t x y z
  obtain⟨h1,h2⟩:=aT h
  rw[h1,he x (by simp[Op.operands]),he y (by simp[Op.operands]),he z (by simp[Op.operands])]
  exact aH2 (ha (by simp only[cls];decide) x (by simp[Op.operands])) h2
 ·rename_i t x y z
  obtain⟨h1,h2⟩:=aT h
  rw[h1,he x (by simp[Op.operands]),he y (by simp[Op.operands]),he z (by simp[Op.operands])]
  exact aH2 (ha (by simp only[cls];decide) x (by simp[Op.operands])) h2
 ·rw[he _ (by simp[Op.operands])];exact h
 ·exact h.elim
def Mo(R:List Mod->Prop)(Φ:VK->Prop):Prop:=∀K,Φ K->∃v ms,K v ms/\R ms
variable{R:List Mod->Prop}
theorem Mo.ret(v:V){ms:List Mod}(h:R ms):Mo R (fun K=>K v ms):=fun _ hk=>⟨v,ms,hk,h⟩
theorem Mo.false:Mo R (fun _=>False):=fun _ h=>h.elim
theorem Mo.need{p:Prop}{Φ:VK->Prop}(h:p->Mo R Φ):Mo R (fun K=>need p (Φ K)):=fun K hk=>h (dX hk).1 K (dX hk).2
theorem Mo.arith{k:IntKind}{n:Int}{Φ:Int->VK->Prop}(h:∀m,Mo R (Φ m)):Mo R (fun K=>arith k n fun m=>Φ m K):=fun K hk=>h _ K (wI hk)
theorem Mo.idx{l:List V}{i:Nat}{Φ:V->VK->Prop}(h:∀x,Mo R (Φ x)):Mo R (fun K=>idx l i fun x=>Φ x K):=fun K hk=>by
 obtain⟨x,hx,hk⟩:=cO3 hk
 exact h x K hk
theorem Mo.bytes{xs:List V}{Φ:List Int->VK->Prop}(h:∀ns,Mo R (Φ ns)):Mo R (fun K=>aZ0 xs fun ns=>Φ ns K):=fun K hk=>by
 obtain⟨ns,hx,hk⟩:=cC4 hk
 exact h ns K hk
theorem Mo.force{x:V}{Φ:V->VK->Prop}(h:∀x,Mo R (Φ x)):Mo R (fun K=>force x fun y=>Φ y K):=fun K hk=>by
 have hk':Ab.force x (fun y=>Φ y K):=hk
 rw[force_eq]at hk'
 exact h x K hk'
theorem Mo.bJ{l:List V}{Φ:List V->VK->Prop}(h:∀l,Mo R (Φ l)):Mo R (fun K=>bJ l fun y=>Φ y K):=fun K hk=>by
 have hk':Ab.bJ l (fun y=>Φ y K):=hk
 rw[bC]at hk'
 exact h l K hk'
theorem Mo.cond{b:Bool}{Φ Ψ:VK->Prop}(h:Mo R Φ)(h':Mo R Ψ):Mo R (fun K=>cond b (Φ K) (Ψ K)):=by
 cases b
 ·exact h'
 ·exact h
theorem Mo.branch{b:Bool}{Φ Ψ:VK->Prop}(h:Mo R Φ)(h':Mo R Ψ):Mo R (fun K=>branch b (Φ K) (Ψ K)):=by
 cases b
 ·exact h'
 ·exact h
theorem Mo.lF{x:V}{Φ:List V->VK->Prop}(h:∀l,Mo R (Φ l)):Mo R (fun K=>lF σ x fun l=>Φ l K):=fun K hk=>by
 obtain⟨l,hl⟩:=eQ1 (K:=fun l=>Φ l K) hk
 exact h l K hl
theorem Mo.lV{x:V}{Φ:List V->VK->Prop}(h:∀l,Mo R (Φ l)):Mo R (fun K=>lV σ x fun l=>Φ l K):=fun K hk=>by
 obtain⟨l,hl⟩:=eK7 (K:=fun l=>Φ l K) hk
 exact h l K hl
theorem Mo.bound{o:Option V}{dflt:Int}{Φ:Int->VK->Prop}(h:∀n,Mo R (Φ n)):Mo R (fun K=>bound o dflt fun n=>Φ n K):=fun K hk=>by
 unfold Ab.bound at hk
 split at hk
 ·exact h _ K hk
 ·exact h _ K hk
 ·exact hk.elim
theorem rM(hn:R [])(r:Row)(cs:List V):Mo R (wB r cs):=by
 unfold wB
 cases r.agg with
 |true=>exact Mo.bJ fun l=>Mo.cond (Mo.ret _ hn) Mo.false
 |false=>
  cases cs with
  |nil=>exact Mo.false
  |cons x r=>exact Mo.force fun v=>Mo.ret _ hn
theorem Mo.oI{place:Nat->Option (Nat×Nat)}{ps:List (Nat×Operand)}{cs:List V}{Φ:List V->VK->Prop}(h:∀l,Mo R (Φ l)):Mo R (fun K=>oI place σ ps cs fun l=>Φ l K):=fun K hk=>by
 obtain⟨l,hl⟩:=aU7 (K:=fun l=>Φ l K) hk
 exact h l K hl
theorem bS7(hf:∀cs,σ.bx d=none->R [.b d cs])(cs:List V):Mo R (lM σ d cs):=by
 unfold lM
 split
 ·rename_i hb
  exact Mo.bJ fun l=>Mo.cond (Mo.ret _ (hf l hb)) Mo.false
 ·exact Mo.false
def Fr1(σ:St)(op:Op)(m:Mod):Prop:=m.fresh σ\/(4<=cls op/\∀p q,(∀x∈op.operands,(σ.ev x).ok p q)->m.key p q)
theorem bY1(T:Tab)(σ:St)(d:Nat)(o:Op):Mo (fun ms=>∀m∈ms,Fr1 σ o m) (opVC T σ d o):=by
 have hn:∀m∈([] :List Mod),Fr1 σ o m:=fun m hm=>by cases hm
 have h1:∀m0:Mod,Fr1 σ o m0->∀m∈[m0],Fr1 σ o m:=fun m0 hm m h=>by cases List.mem_singleton.1 h;exact hm
 unfold opVC
 split
 ·exact Mo.force fun v=>Mo.ret _ hn
 ·exact Mo.force fun v=>Mo.ret _ hn
 ·unfold bA8
  split
  ·exact Mo.branch (Mo.force fun v=>Mo.ret _ hn) (Mo.force fun v=>Mo.ret _ hn)
  ·exact Mo.false
 ·unfold unVC
  split
  ·exact Mo.ret _ hn
  ·exact Mo.arith fun m=>Mo.ret _ hn
  ·exact Mo.false
 ·unfold bD7
  split
  ·refine Mo.cond ?_ Mo.false
   unfold cM6
   split<;>first|exact Mo.arith fun m=>Mo.ret _ hn|exact Mo.need (fun hp=>Mo.arith fun m=>Mo.ret _ hn)|exact Mo.need (fun hp=>Mo.ret _ hn)|exact Mo.ret _ hn|exact Mo.false
  ·unfold cH0
   split<;>first|exact Mo.need (fun hp=>Mo.ret _ hn)|exact Mo.ret _ hn|exact Mo.false
  ·refine Mo.cond ?_ Mo.false
   unfold bG1
   split<;>first|exact Mo.ret _ hn|exact Mo.false
  ·refine Mo.cond ?_ Mo.false
   unfold aL1
   split
   ·refine Mo.need fun _=>?_
    split<;>first|exact Mo.ret _ hn|exact Mo.false
   ·refine Mo.need fun _=>?_
    split<;>first|exact Mo.ret _ hn|exact Mo.false
   ·exact Mo.false
  ·exact Mo.false
 ·exact bS7 (σ:=σ) (d:=d) (fun cs hb=>h1 (.b d cs) (.inl hb)) _
 ·exact Mo.cond (bS7 (σ:=σ) (d:=d) (fun cs hb=>h1 (.b d cs) (.inl hb)) _) Mo.false
 ·refine Mo.cond ?_ Mo.false
  unfold jB
  split
  ·refine Mo.cond Mo.false ?_
   split
   ·exact Mo.ret _ hn
   ·exact Mo.bJ fun l=>Mo.ret _ hn
   ·exact Mo.ret _ hn
   ·exact Mo.false
  ·exact Mo.false
 ·refine Mo.cond ?_ Mo.false
  unfold aM2
  split
  ·exact Mo.cond (rM hn _ _) Mo.false
  ·exact Mo.false
 ·refine Mo.cond ?_ Mo.false
  unfold pW
  split
  ·split
   ·exact rM hn _ _
   ·exact Mo.false
  ·exact rM hn _ _
  ·split
   ·exact Mo.need (fun hp=>Mo.idx fun x=>Mo.cond (rM hn _ _) Mo.false)
   ·exact Mo.false
  ·exact Mo.false
 ·refine Mo.cond ?_ Mo.false
  unfold qU
  rename_i x0 y0
  split
  ·rename_i i off hx
   split
   ·refine Mo.cond (Mo.bJ fun l=>Mo.ret _ (h1 (.b i l) (.inr ⟨by simp only[cls];decide,fun p q hok=>?_⟩))) Mo.false
    have:=hok x0 (by simp[Op.operands])
    rw[hx]at this
    simp only[V.ok]at this
    exact this
   ·exact Mo.false
  ·rename_i k g sz i off hx
   split
   ·refine Mo.need (fun hp=>Mo.idx fun x=>Mo.cond (Mo.bJ fun l=>Mo.ret _ (h1 (.a k _) (.inr ⟨by simp only[cls];decide,fun p q hok=>?_⟩))) Mo.false)
    have:=hok x0 (by simp[Op.operands])
    rw[hx]at this
    simp only[V.ok]at this
    exact⟨g,this⟩
   ·exact Mo.false
  ·exact Mo.false
 ·refine Mo.cond ?_ Mo.false
  unfold gI
  split
  ·split
   ·exact Mo.need (fun hp=>Mo.idx fun x=>Mo.bJ fun l=>Mo.cond (Mo.ret _ hn) Mo.false)
   ·exact Mo.need (fun hp=>Mo.idx fun x=>Mo.bJ fun l=>Mo.cond (Mo.ret _ hn) Mo.false)
   ·split
    ·exact Mo.need (fun hp=>Mo.cond (Mo.ret _ hn) Mo.false)
    ·exact Mo.false
   ·exact Mo.false
  ·split
   ·exact Mo.cond (Mo.ret _ hn) Mo.false
   ·exact Mo.cond (Mo.bJ fun l=>Mo.ret _ hn) Mo.false
   ·exact Mo.false
  ·exact Mo.false
 ·refine Mo.cond ?_ Mo.false
  unfold aM6
  split
  ·exact Mo.need (fun hp=>Mo.ret _ hn)
  ·exact Mo.cond (rM hn _ _) Mo.false
  ·exact Mo.false
 ·unfold wZ
  split
  ·split
   ·exact Mo.force fun v=>Mo.ret _ hn
   ·exact Mo.false
  ·exact Mo.false
 ·exact Mo.ret _ hn
 ·refine Mo.cond ?_ Mo.false
  unfold vO
  split
  ·exact Mo.oI (Φ:=fun cs K=>K (.agg cs) []) fun l=>Mo.ret _ hn
  ·exact Mo.cond (Mo.oI (Φ:=fun cs K=>K (.agg cs) []) fun l=>Mo.ret _ hn) Mo.false
  ·exact Mo.false
 ·refine Mo.cond ?_ Mo.false
  unfold iZ
  split
  ·rename_i hd
   refine Mo.cond ?_ Mo.false
   exact Mo.oI (Φ:=fun cs K=>cond (allR V.atom cs) (K _ _) False) fun l=>Mo.cond (Mo.ret _ (h1 (.a d _) (.inl hd))) Mo.false
  ·exact Mo.false
 ·refine Mo.cond ?_ Mo.false
  unfold jY
  split
  ·rename_i hd _ _
   exact Mo.need (fun hp=>Mo.cond (Mo.ret _ (h1 (.a d _) (.inl hd))) Mo.false)
  ·exact Mo.false
 ·refine Mo.cond ?_ Mo.false
  unfold sZ
  split
  ·split
   ·exact Mo.bound (Φ:=fun l K=>bound _ _ fun h=>need _ (K _ _)) fun l=>Mo.bound (Φ:=fun h K=>need _ (K _ _)) fun h=>Mo.need (fun hp=>Mo.ret _ hn)
   ·exact Mo.false
  ·refine Mo.cond ?_ Mo.false
   refine Mo.lV fun xs=>Mo.bound fun l=>Mo.bound fun h=>?_
   split
   ·exact Mo.need (fun hp=>Mo.ret _ hn)
   ·split
    ·exact Mo.false
    ·exact Mo.bound fun m=>Mo.need (fun hp=>Mo.ret _ hn)
  ·exact Mo.false
 ·unfold aF1
  split
  ·exact Mo.cond (Mo.lF fun xs=>Mo.bytes fun ns=>Mo.ret _ hn) Mo.false
  unfold bE4
  split
  ·exact Mo.arith fun m=>Mo.ret _ hn
  ·exact Mo.ret _ hn
  ·exact Mo.false
 ·refine Mo.cond ?_ Mo.false
  split
  ·unfold aE9
   split<;>first|exact Mo.ret _ hn|exact Mo.false|(split<;>first|exact Mo.need (fun hp=>Mo.ret _ hn)|exact Mo.false)
  ·unfold aI4
   split<;>first|exact Mo.ret _ hn|exact Mo.false
  ·exact Mo.false
 ·refine Mo.cond ?_ Mo.false
  unfold kT
  rename_i s0 x0 t0 t1
  split
  ·refine Mo.cond ?_ Mo.false
   refine Mo.lF fun xs=>?_
   split
   ·split
    ·rename_i hd
     exact Mo.need fun hp=>Mo.ret _ (h1 (.a d _) (.inl hd))
    ·exact Mo.false
   ·split
    ·rename_i hd
     exact Mo.need fun hp=>Mo.ret _ (h1 (.a d _) (.inl hd))
    ·exact Mo.false
   ·rename_i k g hx
    split
    ·refine Mo.need fun hp=>Mo.ret _ (h1 (.a k _) (.inr ⟨by simp only[cls];decide,fun p q hok=>?_⟩))
     have:=hok s0 (by simp[Op.operands,Call.operands])
     rw[hx]at this
     simp only[V.ok]at this
     exact⟨g,this⟩
    ·exact Mo.false
   ·exact Mo.false
  ·exact Mo.false
 ·unfold rP
  split<;>first|exact Mo.ret _ hn|exact Mo.false
 ·unfold rP
  split<;>first|exact Mo.ret _ hn|exact Mo.false
 ·refine Mo.cond ?_ Mo.false
  unfold oN
  split
  ·rename_i hd
   exact Mo.cond (Mo.ret _ (h1 (.a d _) (.inl hd))) Mo.false
  ·exact Mo.false
 ·refine Mo.cond ?_ Mo.false
  unfold rG
  split
  ·split
   ·split
    ·refine Mo.need fun hp=>Mo.cond ?_ Mo.false
     split
     ·exact fun K hk=>⟨_,_,hk.out,hn⟩
     ·exact Mo.false
    ·exact Mo.false
   ·exact Mo.false
  ·exact Mo.false
 ·refine Mo.cond ?_ Mo.false
  unfold iE
  rename_i t0 x0 y0 z0
  split
  ·rename_i k g s hx _
   split
   ·split
    ·refine Mo.need fun hp=>Mo.cond (Mo.ret _ (h1 (.a k _) (.inr ⟨by simp only[cls];decide,fun p q hok=>?_⟩))) Mo.false
     have:=hok x0 (by simp[Op.operands])
     rw[hx]at this
     simp only[V.ok]at this
     exact⟨g,this⟩
    ·exact Mo.false
   ·exact Mo.false
  ·exact Mo.false
 ·refine Mo.cond ?_ Mo.false
  unfold iE
  rename_i t0 x0 y0 z0
  split
  ·rename_i k g s hx _
   split
   ·split
    ·refine Mo.need fun hp=>Mo.cond (Mo.ret _ (h1 (.a k _) (.inr ⟨by simp only[cls];decide,fun p q hok=>?_⟩))) Mo.false
     have:=hok x0 (by simp[Op.operands])
     rw[hx]at this
     simp only[V.ok]at this
     exact⟨g,this⟩
    ·exact Mo.false
   ·exact Mo.false
  ·exact Mo.false
 ·exact Mo.cond (Mo.force fun v=>Mo.ret _ hn) Mo.false
 ·exact Mo.false
theorem bQ1{rs:List V}:∀ {j:Nat} {K:List V->List Mod->Prop},uF σ d rs j none K->∃vs ms,K vs ms/\(∀m∈ms,m.fresh σ)/\∀σ':St,(∀m∈ms,m.same σ σ')->∀K':List V->List Mod->Prop,K' vs ms->uF σ' d rs j none K':=by
 induction rs with
 |nil=>intro j K h;exact⟨[],[],h,by simp,fun σ' _ K' h=>h⟩
 |cons y r ih=>
  intro j K h
  rw[qL]at h
  split at h
  ·simp only at h
   split at h
   ·rename_i hd
    obtain⟨vs,ms,h1,h2,h3⟩:=ih h
    refine⟨_,_,h1,?_,fun σ' hs K' hk=>?_⟩
    ·intro m hm
     rcases List.mem_cons.1 hm with rfl|hm
     ·exact hd
     ·exact h2 m hm
    ·rw[qL]
     simp only
     have h0:σ'.ar (d+1000*j)=σ.ar (d+1000*j):=hs _ (List.mem_cons_self ..)
     rw[h0,hd]
     exact h3 σ' (fun m hm=>hs m (List.mem_cons_of_mem _ hm)) _ hk
   ·exact h.elim
  ·simp only at h
   split at h
   ·rename_i hd
    obtain⟨vs,ms,h1,h2,h3⟩:=ih h
    refine⟨_,_,h1,?_,fun σ' hs K' hk=>?_⟩
    ·intro m hm
     rcases List.mem_cons.1 hm with rfl|hm
     ·exact hd
     ·exact h2 m hm
    ·rw[qL]
     simp only
     have h0:σ'.ar (d+1000*j)=σ.ar (d+1000*j):=hs _ (List.mem_cons_self ..)
     rw[h0,hd]
     exact h3 σ' (fun m hm=>hs m (List.mem_cons_of_mem _ hm)) _ hk
   ·exact h.elim
  ·rename_i hn1 hn2
   rw[force_eq]at h
   obtain⟨vs,ms,h1,h2,h3⟩:=ih h
   refine⟨_,_,h1,h2,fun σ' hs K' hk=>?_⟩
   rw[qL]
   split
   ·exact(hn1 _ _ rfl).elim
   ·exact(hn2 _ _ rfl).elim
   ·rw[force_eq];exact h3 σ' hs _ hk
theorem bO7{r:V}{K:VK}(h:zZ σ d none r K):∃v ms,K v ms/\(∀m∈ms,m.fresh σ)/\∀σ':St,(∀m∈ms,m.same σ σ')->∀K':VK,K' v ms->zZ σ' d none r K':=by
 unfold zZ at h
 split at h
 ·obtain⟨vs,ms,h1,h2,h3⟩:=bQ1 h
  refine⟨_,ms,h1,h2,fun σ' hs K' hk=>?_⟩
  unfold zZ
  exact h3 σ' hs _ hk
 ·rename_i hnt
  obtain⟨vs,ms,h1,h2,h3⟩:=bQ1 h
  cases vs with
  |nil=>exact h1.elim
  |cons v vr=>
   refine⟨v,ms,h1,h2,fun σ' hs K' hk=>?_⟩
   unfold zZ
   split
   ·exact(hnt _ rfl).elim
   ·exact h3 σ' hs _ hk
theorem cI2{x y:V}(hx:x.agr σ σ')(h:yH σ.ar x y):yH σ'.ar x y:=by
 unfold yH at*
 cases y<;>simp only at h⊢
 case sl l=>
  split at h
  all_goals first|exact h|exact h.elim|skip
  simp only[V.agr,V.ok]at hx
  simp only[hx];exact h
 all_goals exact h
theorem dS6{ys:List V}:∀ {xs:List V},V.okL (fun i=>σ'.bx i=σ.bx i) (fun k _=>σ'.ar k=σ.ar k) xs->cN9 σ.ar ys xs->cN9 σ'.ar ys xs:=by
 induction ys with
 |nil=>intro xs _ h;exact h
 |cons y r ih=>
  intro xs hx h
  cases xs with
  |nil=>exact h
  |cons x xr=>
   simp only[V.okL]at hx
   exact⟨cI2 hx.1 h.1,ih hx.2 h.2⟩
theorem eH3{x y:V}(hx:x.agr σ σ')(h:wU T σ.ar x y):wU T σ'.ar x y:=by
 unfold wU at*
 cases y<;>simp only at h⊢
 case own e l=>
  split at h
  all_goals first|exact h|exact h.elim|skip
  simp only[V.agr,V.ok]at hx
  simp only[hx];exact h
 case ap e l=>
  split at h
  all_goals first|exact h|exact h.elim|skip
  simp only[V.agr,V.ok]at hx
  simp only[hx];exact h
 case agg ys=>
  cases x<;>simp only at h⊢
  case agg xs=>
   simp only[V.agr,V.ok]at hx
   exact dS6 hx h
 all_goals exact cI2 hx h
theorem dL6{ys:List V}:∀ {xs:List V},(∀x∈xs,x.agr σ σ')->iQ T σ.ar ys xs->iQ T σ'.ar ys xs:=by
 induction ys with
 |nil=>intro xs _ h;exact h
 |cons y r ih=>
  intro xs hx h
  cases xs with
  |nil=>exact h
  |cons x xr=>exact⟨eH3 (hx x (by simp)) h.1,ih (fun z hz=>hx z (by simp[hz])) h.2⟩
theorem yX{hv:List (Nat×List Nat)}(hd:hvOf hv d=none){f:FuncId}{xs:List V}{K:VK}(h:kY T P (.drawn hv) σ d f xs K):∃v ms,K v ms/\(∀m∈ms,m.fresh σ)/\∀σ':St,(∀x∈xs,x.agr σ σ')->(∀m∈ms,m.same σ σ')->∀K':VK,K' v ms->kY T P (.drawn hv) σ' d f xs K':=by
 rcases h.out with⟨ys,r,lend,h1,h2,h3,h4⟩|⟨h0,_⟩|⟨_,_,_,_,_,h0,_⟩
 case inr.inl=>cases h0
 case inr.inr=>
  unfold Md.may at h0
  simp only[hd]at h0
  cases h0
 have hc:=h2
 simp only[sO,Md.light,Bool.and_eq_true,cond_true,Bool.or_eq_true]at hc
 have ho:bD ys xs=[] :=by
  have:=hc.2.1
  rw[Nat.beq_eq,iL]at this
  exact List.length_eq_zero_iff.1 this
 have hf:∀σ:St,cond lend [] (aV σ (bK ys xs))=[] :=fun σ=>by
  rcases hc.2.2 with h|h
  ·rw[h];rfl
  ·rw[Nat.beq_eq,iL]at h
   rw[List.length_eq_zero_iff.1 h]
   cases lend<;>rfl
 have hk:∀(σ:St) (ms:List Mod),appR (cond lend [] (aV σ (bK ys xs))) (appR (aX σ (bD ys xs)) ms)=ms:=fun σ ms=>by
  rw[hf,ho];rfl
 have hre:∀σ:St,reuse σ (bD ys xs)=none:=fun σ=>by rw[ho];rfl
 simp only[hk,hre]at h4
 obtain⟨v,ms,q1,q2,q3⟩:=bO7 h4
 refine⟨v,ms,q1,q2,fun σ' hx hm K' hk'=>?_⟩
 refine⟨.inl ?_⟩
 refine⟨ys,r,lend,dL6 hx h1,h2,h3,?_⟩
 simp only[hk,hre]
 exact q3 σ' hm _ hk'
theorem cJ1{m:Md}{f:FuncId}{xs:List V}{K:VK}(hb:σ'.bx=σ.bx)(ha:σ'.ar=σ.ar)(h:kY T P m σ d f xs K):kY T P m σ' d f xs K:=by
 obtain⟨env,bx,ar⟩:=σ
 obtain⟨env',bx',ar'⟩:=σ'
 simp only at hb ha
 subst hb ha
 exact⟨h.out⟩
noncomputable def hvy(hv:List (Nat×List Nat))(d:Nat)(op:Op):Bool:=aG7 op&&isS (hvOf hv d)
theorem aN7{hv:List (Nat×List Nat)}{op:Op}(h:hvy hv d op=false)(hc:aG7 op=true):hvOf hv d=none:=by
 unfold hvy at h
 rw[hc,Bool.true_and]at h
 unfold isS at h
 cases hh:hvOf hv d with
 |none=>rfl
 |some x=>rw[hh]at h;cases h
theorem aO9{hv:List (Nat×List Nat)}{op:Op}(hh:hvy hv d op=true->σ'.bx=σ.bx/\σ'.ar=σ.ar)(he:∀x∈op.operands,σ'.ev x=σ.ev x)(ha:1<cls op->∀x∈op.operands,(σ.ev x).agr σ σ')(hm:∀m∈ms,m.same σ σ')(h:bW T P (.drawn hv) σ d op (Is v ms)):bW T P (.drawn hv) σ' d op (Is v ms):=by
 unfold bW at h
 split at h<;>unfold bW
 ·rename_i f as ts
  have hmap:mapR σ'.ev as=mapR σ.ev as:=yL fun x hx=>he x (by simp[Op.operands,Call.operands,hx])
  rw[bC]at h
  simp only
  rw[bC,hmap]
  cases hy0:hvy hv d (.call ⟨.value (.func f),⟨as⟩,ts⟩)with
  |true=>exact cJ1 (hh hy0).1 (hh hy0).2 h
  |false=>
  obtain⟨v',ms',⟨rfl,rfl⟩,q2,q3⟩:=yX (aN7 hy0 rfl) h
  refine q3 σ' ?_ hm _ ⟨rfl,rfl⟩
  intro x hx
  rw[dU]at hx
  obtain⟨y,hy,rfl⟩:=List.mem_map.1 hx
  exact ha (by simp only[cls];decide) y (by simp[Op.operands,Call.operands,hy])
 ·rename_i t as ts
  have hmap:mapR σ'.ev as=mapR σ.ev as:=yL fun x hx=>he x (by simp[Op.operands,Call.operands,hx])
  have het:σ'.env t=σ.env t:=he (.tmp t) (by simp[Op.operands,Call.operands])
  simp only
  rw[het]
  split at h
  ·rename_i g caps hfn
   rw[bC]at h
   rw[bC,hmap]
   cases hy0:hvy hv d (.call ⟨.value (.tmp t),⟨as⟩,ts⟩)with
   |true=>exact cJ1 (hh hy0).1 (hh hy0).2 h
   |false=>
   obtain⟨v',ms',⟨rfl,rfl⟩,q2,q3⟩:=yX (aN7 hy0 rfl) h
   refine q3 σ' ?_ hm _ ⟨rfl,rfl⟩
   intro x hx
   rw[bT,dU]at hx
   rcases List.mem_append.1 hx with hx|hx
   ·obtain⟨y,hy,rfl⟩:=List.mem_map.1 hx
    exact ha (by simp only[cls];decide) y (by simp[Op.operands,Call.operands,hy])
   ·have hag:=ha (by simp only[cls];decide) (.tmp t) (by simp[Op.operands,Call.operands])
    have hag':(σ.env t).agr σ σ':=hag
    rw[hfn]at hag'
    simp only[V.agr,V.ok]at hag'
    exact aH.1 hag' x hx
  ·exact h.elim
 ·rename_i t x lo hi mx
  have h1:opVC T σ d (.slice t (.tmp x) lo hi mx) (Is v ms):=by
   split at h
   ·rename_i h0 _;cases h0
   ·exact h
  have h2:=cW0 he ha hm h1
  simp only
  exact h2
 ·rename_i bop t x c t'
  have h1:opVC T σ d (.binOp bop t (.tmp x) (.const c) t') (Is v ms):=by
   split at h
   ·rename_i h0 _;cases h0
   ·exact h
  have h2:=cW0 he ha hm h1
  simp only
  exact h2
 ·rename_i hnc hnc2 hnc3 hnc4
  split
  ·exact(hnc _ _ _ rfl).elim
  ·exact(hnc2 _ _ _ rfl).elim
  ·exact(hnc3 _ _ _ _ _ rfl).elim
  ·exact(hnc4 _ _ _ _ _ rfl).elim
  ·exact cW0 he ha hm h
theorem bQ4{hv:List (Nat×List Nat)}{op:Op}(hh:hvy hv d op=false)(h:bW T P (.drawn hv) σ d op (Is v ms)):∀m∈ms,Fr1 σ op m:=by
 unfold bW at h
 split at h
 ·rw[bC]at h
  obtain⟨v',ms',⟨rfl,rfl⟩,q2,q3⟩:=yX (aN7 hh rfl) h
  exact fun m hm=> .inl (q2 m hm)
 ·split at h
  ·rw[bC]at h
   obtain⟨v',ms',⟨rfl,rfl⟩,q2,q3⟩:=yX (aN7 hh rfl) h
   exact fun m hm=> .inl (q2 m hm)
  ·exact h.elim
 ·rename_i t x lo hi mx
  have h1:opVC T σ d (.slice t (.tmp x) lo hi mx) (Is v ms):=by
   split at h
   ·rename_i h0 _;cases h0
   ·exact h
  obtain⟨v',ms',⟨rfl,rfl⟩,q⟩:=bY1 T σ d _ _ h1
  exact q
 ·rename_i bop t x c t'
  have h1:opVC T σ d (.binOp bop t (.tmp x) (.const c) t') (Is v ms):=by
   split at h
   ·rename_i h0 _;cases h0
   ·exact h
  obtain⟨v',ms',⟨rfl,rfl⟩,q⟩:=bY1 T σ d _ _ h1
  exact q
 ·obtain⟨v',ms',⟨rfl,rfl⟩,q⟩:=bY1 T σ d _ _ h
  exact q
end
def Eff(T:Tab)(P:Program)(hv:List (Nat×List Nat))(n:Nat)(ops:List Oper)(o:Oper)(σ:St)(v:V)(ms:List Mod):Prop:=
 (∀d,o.dst=some d->d<n)/\match o.guard with
 |none=>bW T P (.drawn hv) σ (o.dst.getD n) o.op (Is v ms)
 |some (j,want)=>∃s,tV ops j=some s/\
  ((σ.env s= .lit (.bool want)/\bW T P (.drawn hv) σ (o.dst.getD n) o.op (Is v ms))\/((σ.env s= .lit (.bool !want)\/∃cs,σ.env s= .tup cs)/\v= .tup []/\ms=[]))
section
variable{T:Tab}{P:Program}{σ σ':St}{n d:Nat}{v:V}{ms:List Mod}{ops:List Oper}{o p:Oper}{K:St->Prop}{hv:List (Nat×List Nat)}
theorem eI5(h:Step T P (.drawn hv) n ops o σ K):∃v ms,Eff T P hv n ops o σ v ms/\K (σ.put o.dst v ms):=by
 unfold Step at h
 unfold Eff
 split at h
 ·rename_i hg
  simp only[hg]
  rcases h with⟨h1,h2⟩|⟨h0,_⟩|⟨h0,_⟩
  case inr.inl=>cases h0
  case inr.inr=>cases h0
  obtain⟨v,ms,q1,q2⟩:=cH1 _ _ _ _ _ _ _ h2
  exact⟨v,ms,⟨h1,q2 _ ⟨rfl,rfl⟩⟩,q1⟩
 ·rename_i j want hg
  simp only[hg]
  obtain⟨s,h1,h2,h3⟩:=h
  rcases h3 with⟨b,hb,h4⟩|⟨cs,hb,h4⟩
  ·split at h4
   ·rename_i hbw
    subst hbw
    obtain⟨v,ms,q1,q2⟩:=cH1 _ _ _ _ _ _ _ h4
    exact⟨v,ms,⟨h2,s,h1, .inl ⟨hb,q2 _ ⟨rfl,rfl⟩⟩⟩,q1⟩
   ·rename_i hbw
    refine⟨_,_,⟨h2,s,h1, .inr ⟨.inl ?_,rfl,rfl⟩⟩,h4⟩
    rw[hb]
    cases b<;>cases want<;>simp_all
  ·exact⟨_,_,⟨h2,s,h1, .inr ⟨.inr ⟨cs,hb⟩,rfl,rfl⟩⟩,h4⟩
theorem eE8(h:Eff T P hv n ops o σ v ms)(hk:K (σ.put o.dst v ms)):Step T P (.drawn hv) n ops o σ K:=by
 unfold Eff at h
 unfold Step
 obtain⟨h1,h2⟩:=h
 split at h2
 ·rename_i hg
  simp only[hg]
  exact .inl ⟨h1,aR8 (fun v' ms' ⟨e1,e2⟩=>by rw[e1,e2];exact hk) h2⟩
 ·rename_i j want hg
  simp only[hg]
  obtain⟨s,q1,q2⟩:=h2
  refine⟨s,q1,h1,?_⟩
  rcases q2 with⟨q2,q3⟩|⟨q2,rfl,rfl⟩
  ·refine .inl ⟨want,q2,?_⟩
   rw[if_pos rfl]
   exact aR8 (fun v' ms' ⟨e1,e2⟩=>by rw[e1,e2];exact hk) q3
  ·rcases q2 with q2|q2
   ·refine .inl ⟨!want,q2,?_⟩
    rw[if_neg (by cases want<;>simp)]
    exact hk
   ·exact .inr ⟨q2.choose,q2.choose_spec,hk⟩
theorem aP3(h:hvO hv o=false):hvy hv (o.dst.getD n) o.op=false:=by
 unfold hvO at h
 unfold hvy
 cases hc:aG7 o.op with
 |false=>rfl
 |true=>
  rw[hc,Bool.true_and]at h
  cases hd:o.dst with
  |some d=>rw[hd]at h;simpa using h
  |none=>
   rw[hd]at h
   cases hv with
   |nil=>rfl
   |cons p r=>simp at h
theorem cO7(hh:hvO hv o=false)(h:Eff T P hv n ops o σ v ms):∀m∈ms,Fr1 σ o.op m:=by
 unfold Eff at h
 obtain⟨h1,h2⟩:=h
 split at h2
 ·exact bQ4 (aP3 hh) h2
 ·obtain⟨s,q1,q2⟩:=h2
  rcases q2 with⟨q2,q3⟩|⟨q2,rfl,rfl⟩
  ·exact bQ4 (aP3 hh) q3
  ·intro m hm;cases hm
theorem mW(hh:hvO hv o=true->σ'.bx=σ.bx/\σ'.ar=σ.ar)(he:∀t∈o.looksAt ops.toArray,σ'.env t=σ.env t)(ha:1<cls o.op->∀x∈o.op.operands,(σ.ev x).agr σ σ')(hm:∀m∈ms,m.same σ σ')(h:Eff T P hv n ops o σ v ms):Eff T P hv n ops o σ' v ms:=by
 have hev:∀x∈o.op.operands,σ'.ev x=σ.ev x:=by
  intro x hx
  cases x with
  |tmp t=>
   refine he t ?_
   unfold Oper.looksAt
   rw[List.mem_append]
   left
   rw[List.mem_filterMap]
   exact⟨.tmp t,Array.mem_toList_iff.2 hx,rfl⟩
  |const v=>rfl
  |global g=>rfl
  |func f=>rfl
 have hh':hvy hv (o.dst.getD n) o.op=true->σ'.bx=σ.bx/\σ'.ar=σ.ar:=fun hy=>hh (by
  cases hq:hvO hv o with
  |true=>rfl
  |false=>rw[aP3 (n:=n) hq]at hy;cases hy)
 unfold Eff at*
 obtain⟨h1,h2⟩:=h
 refine⟨h1,?_⟩
 split at h2
 ·rename_i hg
  exact aO9 hh' hev ha hm h2
 ·rename_i j want hg
  obtain⟨s,q1,q2⟩:=h2
  have hs:σ'.env s=σ.env s:=by
   refine he s ?_
   unfold Oper.looksAt
   rw[List.mem_append]
   right
   unfold tV at q1
   rw[uN]at q1
   simp[hg,q1]
  refine⟨s,q1,?_⟩
  rw[hs]
  rcases q2 with⟨q2,q3⟩|q2
  ·exact .inl ⟨q2,aO9 hh' hev ha hm q3⟩
  ·exact .inr q2
theorem lT(σ:St)(d:Option Nat)(v:V)(ms:List Mod):(σ.put d v ms).bx=(σ.apps ms).bx:=by cases d<;>rfl
theorem nX(σ:St)(d:Option Nat)(v:V)(ms:List Mod):(σ.put d v ms).ar=(σ.apps ms).ar:=by cases d<;>rfl
theorem bU(σ:St)(d:Option Nat)(v:V)(ms:List Mod){t:Nat}(h:d≠some t):(σ.put d v ms).env t=σ.env t:=by
 cases d with
 |none=>show(σ.apps ms).env t=_;rw[vM]
 |some d=>show upd (σ.apps ms).env d v t=_;rw[upd_ne _ _ (fun e=>h (by rw[e])),vM]
theorem pI(σ:St)(d:Nat)(v:V)(ms:List Mod):(σ.put (some d) v ms).env d=v:=upd_same _ _ _
theorem put_comm{d d':Option Nat}{v v':V}{ms ms':List Mod}(hd:∀t,d=some t->d'≠some t)(hB:∀i,(∃m∈ms,m.isB i)->∀m∈ms',¬m.isB i)(hA:∀i,(∃m∈ms,m.isA i)->∀m∈ms',¬m.isA i):
 (σ.put d v ms).put d' v' ms'=(σ.put d' v' ms').put d v ms:=by
 have h1:((σ.put d v ms).put d' v' ms').env=((σ.put d' v' ms').put d v ms).env:=by
  funext t
  by_cases e:d=some t
  ·subst e
   rw[bU _ _ _ _ (hd t rfl),pI,pI]
  ·rw[bU _ d _ _ e]
   by_cases e':d'=some t
   ·subst e';rw[pI,pI]
   ·rw[bU _ _ _ _ e',bU _ _ _ _ e,bU _ _ _ _ e']
 have h2:((σ.put d v ms).put d' v' ms').bx=((σ.put d' v' ms').put d v ms).bx:=by
  funext i
  rw[lT,lT]
  by_cases e:∃m∈ms,m.isB i
  ·rw[jJ ms' i _ (hB i e),lT]
   exact aI2 ms i _ _ (.inl e)
  ·have e':∀m∈ms,¬m.isB i:=fun m hm hb=>e ⟨m,hm,hb⟩
   rw[jJ ms i _ e',lT]
   exact aI2 ms' i _ _ (.inr (by rw[lT,jJ ms i _ e']))
 have h3:((σ.put d v ms).put d' v' ms').ar=((σ.put d' v' ms').put d v ms).ar:=by
  funext i
  rw[nX,nX]
  by_cases e:∃m∈ms,m.isA i
  ·rw[lW ms' i _ (hA i e),nX]
   exact aI9 ms i _ _ (.inl e)
  ·have e':∀m∈ms,¬m.isA i:=fun m hm hb=>e ⟨m,hm,hb⟩
   rw[lW ms i _ e',nX]
   exact aI9 ms' i _ _ (.inr (by rw[nX,lW ms i _ e']))
 generalize (σ.put d v ms).put d' v' ms'=s1 at*
 generalize (σ.put d' v' ms').put d v ms=s2 at*
 cases s1;cases s2
 simp only at h1 h2 h3
 subst h1 h2 h3
 rfl
end
section
variable{T:Tab}{P:Program}{σ σ':St}{n d:Nat}{v v':V}{ms ms':List Mod}{ops:List Oper}{o p:Oper}{K:St->Prop}{hv:List (Nat×List Nat)}
theorem bA1{a b:Nat}(h:clash a b=false)(ha:4<=a)(hb:1<b):False:=by
 unfold clash at h
 simp only[Bool.or_eq_false_iff,Bool.and_eq_false_iff]at h
 rcases h.1.1.1 with h|h
 ·rw[Nat.ble_eq_true_of_le ha]at h;cases h
 ·rw[Nat.ble_eq_true_of_le hb]at h;cases h
theorem dE0{a b:Nat}(h:clash a b=false)(ha:4<=b)(hb:1<a):False:=by
 unfold clash at h
 simp only[Bool.or_eq_false_iff,Bool.and_eq_false_iff]at h
 rcases h.1.1.2 with h|h
 ·rw[Nat.ble_eq_true_of_le ha]at h;cases h
 ·rw[Nat.ble_eq_true_of_le hb]at h;cases h
theorem swap(wf:∀x:Operand,(σ.ev x).ok σ.hasB σ.hasA)(hpo:Oper.apart ops.toArray p o=true)(hcl:clash (clsH hv p) (clsH hv o)=false)
 (h1:Eff T P hv n ops p σ v ms)(h2:Eff T P hv n ops o (σ.put p.dst v ms) v' ms'):
 Eff T P hv n ops o σ v' ms'/\Eff T P hv n ops p (σ.put o.dst v' ms') v ms/\(σ.put p.dst v ms).put o.dst v' ms'=(σ.put o.dst v' ms').put p.dst v ms:=by
 obtain⟨hp1,hp2,hp3⟩:=Oper.apart_spec hpo
 have hnp:hvO hv p=false:=by
  cases hq:hvO hv p with
  |false=>rfl
  |true=>
   unfold clsH at hcl
   rw[hq]at hcl
   simp[clash]at hcl
 have hno:hvO hv o=false:=by
  cases hq:hvO hv o with
  |false=>rfl
  |true=>
   unfold clsH at hcl
   rw[hq]at hcl
   simp[clash]at hcl
 replace hcl:clash (cls p.op) (cls o.op)=false:=by
  unfold clsH at hcl
  rw[hnp,hno]at hcl
  exact hcl
 have hm1:=cO7 hnp h1
 have hm2:=cO7 hno h2
 generalize hσ1:σ.put p.dst v ms=σ1 at*
 have ev1:∀x∈o.op.operands,σ1.ev x=σ.ev x:=by
  intro x hx
  cases x with
  |tmp t=>
   show σ1.env t=σ.env t
   rw[<-hσ1]
   refine bU _ _ _ _ (fun e=>hp1 t e ?_)
   unfold Oper.looksAt
   rw[List.mem_append]
   left
   rw[List.mem_filterMap]
   exact⟨.tmp t,Array.mem_toList_iff.2 hx,rfl⟩
  |const v=>rfl
  |global g=>rfl
  |func f=>rfl
 have hpm:∀m∈ms,m.fresh σ\/(4<=cls p.op/\m.key σ.hasB σ.hasA):=fun m hm=>by
  rcases hm1 m hm with h|⟨h,h'⟩
  ·exact .inl h
  ·exact .inr ⟨h,h' _ _ fun x _=>wf x⟩
 have hom:∀m∈ms',m.fresh σ1\/(4<=cls o.op/\m.key σ.hasB σ.hasA):=fun m hm=>by
  rcases hm2 m hm with h|⟨h,h'⟩
  ·exact .inl h
  ·exact .inr ⟨h,h' _ _ fun x hx=>by rw[ev1 x hx];exact wf x⟩
 have b1:σ1.bx=(σ.apps ms).bx:=by rw[<-hσ1,lT]
 have a1:σ1.ar=(σ.apps ms).ar:=by rw[<-hσ1,nX]
 have hasB1:∀i,σ.hasB i->σ1.bx i≠none:=fun i ⟨cs,hi⟩=>by rw[b1];exact aN6 _ _ _ (.inr (by rw[hi];simp))
 have hasA1:∀k g,σ.hasA k g->σ1.ar k≠none:=fun i g ⟨cs,hi,_⟩=>by rw[a1];exact aO2 _ _ _ (.inr (by rw[hi];simp))
 have disB:∀i,(∃m∈ms,m.isB i)->∀m∈ms',¬m.isB i:=by
  rintro i ⟨m,hm,hb⟩ m' hm' hb'
  cases m with
  |a=>exact hb
  |b j cs=>
  cases m' with
  |a=>exact hb'
  |b j' cs'=>
  cases hb;cases hb'
  rcases hom _ hm' with h|⟨h,hk⟩
  ·exact absurd h (by show σ1.bx i≠none;rw[b1];exact aN6 _ _ _ (.inl ⟨_,hm,rfl⟩))
  ·rcases hpm _ hm with h'|⟨h',_⟩
   ·obtain⟨x,hx⟩:=hk
    have h'':σ.bx i=none:=h'
    rw[h'']at hx;cases hx
   ·exact bA1 hcl h' (by omega)
 have disA:∀i,(∃m∈ms,m.isA i)->∀m∈ms',¬m.isA i:=by
  rintro i ⟨m,hm,hb⟩ m' hm' hb'
  cases m with
  |b=>exact hb
  |a j cs=>
  cases m' with
  |b=>exact hb'
  |a j' cs'=>
  cases hb;cases hb'
  rcases hom _ hm' with h|⟨h,hk⟩
  ·exact absurd h (by show σ1.ar i≠none;rw[a1];exact aO2 _ _ _ (.inl ⟨_,hm,rfl⟩))
  ·rcases hpm _ hm with h'|⟨h',_⟩
   ·obtain⟨g,x,hx,_⟩:=hk
    have h'':σ.ar i=none:=h'
    rw[h'']at hx;cases hx
   ·exact bA1 hcl h' (by omega)
 refine⟨?_,?_,?_⟩
 ·refine mW (σ:=σ1) (fun hq=>by rw[hno]at hq;cases hq) ?_ ?_ ?_ h2
  ·intro t ht
   rw[<-hσ1]
   exact(bU _ _ _ _ (fun e=>hp1 t e ht)).symm
  ·intro hc x hx
   rw[ev1 x hx]
   refine V.ok.imp ?_ ?_ _ (wf x)
   ·intro i hi
    rw[b1]
    refine(jJ _ _ _ ?_).symm
    intro m hm hb
    cases m with
    |a=>exact hb
    |b j cs=>
    cases hb
    rcases hpm _ hm with h'|⟨h',_⟩
    ·obtain⟨y,hy⟩:=hi
     have h'':σ.bx i=none:=h'
     rw[h'']at hy;cases hy
    ·exact bA1 hcl h' hc
   ·intro i g hi
    rw[a1]
    refine(lW _ _ _ ?_).symm
    intro m hm hb
    cases m with
    |b=>exact hb
    |a j cs=>
    cases hb
    rcases hpm _ hm with h'|⟨h',_⟩
    ·obtain⟨y,hy,_⟩:=hi
     have h'':σ.ar i=none:=h'
     rw[h'']at hy;cases hy
    ·exact bA1 hcl h' hc
  ·intro m hm
   cases m with
   |b i cs=>
    show σ.bx i=σ1.bx i
    rw[b1]
    exact(jJ _ _ _ (fun m' hm' hb=>disB i ⟨m',hm',hb⟩ _ hm rfl)).symm
   |a i cs=>
    show σ.ar i=σ1.ar i
    rw[a1]
    exact(lW _ _ _ (fun m' hm' hb=>disA i ⟨m',hm',hb⟩ _ hm rfl)).symm
 ·refine mW (σ:=σ) (fun hq=>by rw[hnp]at hq;cases hq) ?_ ?_ ?_ h1
  ·intro t ht
   exact bU _ _ _ _ (fun e=>hp3 t e ht)
  ·intro hc x hx
   refine V.ok.imp ?_ ?_ _ (wf x)
   ·intro i hi
    rw[lT]
    refine jJ _ _ _ ?_
    intro m hm hb
    cases m with
    |a=>exact hb
    |b j cs=>
    cases hb
    rcases hom _ hm with h'|⟨h',_⟩
    ·exact hasB1 i hi h'
    ·exact dE0 hcl h' hc
   ·intro i g hi
    rw[nX]
    refine lW _ _ _ ?_
    intro m hm hb
    cases m with
    |b=>exact hb
    |a j cs=>
    cases hb
    rcases hom _ hm with h'|⟨h',_⟩
    ·exact hasA1 i g hi h'
    ·exact dE0 hcl h' hc
  ·intro m hm
   cases m with
   |b i cs=>
    show(σ.put o.dst v' ms').bx i=σ.bx i
    rw[lT]
    exact jJ _ _ _ (disB i ⟨_,hm,rfl⟩)
   |a i cs=>
    show(σ.put o.dst v' ms').ar i=σ.ar i
    rw[nX]
    exact lW _ _ _ (disA i ⟨_,hm,rfl⟩)
 ·rw[<-hσ1]
  exact put_comm (fun t e=>hp2 t e) disB disA
end
end Go.Ab
