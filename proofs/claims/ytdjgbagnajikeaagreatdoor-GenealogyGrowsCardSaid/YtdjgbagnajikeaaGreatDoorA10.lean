/-
  Rounds of a range over a function: the frame of a call, taken up anew at a later world.
-/
import Derived.Test.YtdjgbagnajikeaaGreatDoorA9
import Derived.RangeFuncIn
set_option linter.unusedVariables false
set_option linter.unusedSimpArgs false
noncomputable section
namespace Go.Ab
section
variable{T:Tab}{P:Program}{Φ Φ' Φ2:Fr}{σ σ0:St}{a a0:Act}{w w' w0:World}{G G' G0:Gh}
theorem dP9{l:List Oper}{o:Oper}{d:Nat}(h:o∈l)(b:o.dst=some d):d∈dG4 l:=by
 induction l with
 |nil=>cases h
 |cons x r c=>
  show d∈(match x.dst with|some d=>d::dG4 r|none=>dG4 r)
  grind
def Fr.at(Φ:Fr)(w:World)(G:Gh):Fr:={Φ with w0:=w,given:=λb=>G.O b≠ .fz/\G.O b≠ .ext,F0:=λb=>G.O b= .fz}
structure Later(Φ Φ':Fr):Prop where
 size:Φ.w0.heap.size<=Φ'.w0.heap.size
 os:Φ'.w0.os=Φ.w0.os
 tape:Φ'.w0.tape=Φ.w0.tape
 output:Φ'.w0.output=Φ.w0.output
 given:∀b,Φ'.given b->Φ.mine b
 F0:∀b,Φ.F0 b->Φ'.F0 b
 fz:∀b,Φ'.F0 b->Φ.F0 b\/Φ.mine b
 frame:∀b,b<Φ.w0.heap.size->¬Φ.given b->Φ'.w0.heap[b]? =Φ.w0.heap[b]?
 n:Φ'.n=Φ.n
 arg:Φ'.arg=Φ.arg
 argb:Φ'.argb=Φ.argb
theorem Later.mine(h:Later Φ Φ'){b:Nat}(c:Φ'.mine b):Φ.mine b:=by
 rcases c with c|c
 ·exact .inl (QV h.size c)
 ·exact h.given b c
theorem Later.trans(h:Later Φ Φ')(h2:Later Φ' Φ2):Later Φ Φ2 where
 size:=QV h.size h2.size
 os:=h2.os.trans h.os
 tape:=h2.tape.trans h.tape
 output:=h2.output.trans h.output
 given b hb:=h.mine (h2.given b hb)
 F0 b hb:=h2.F0 b (h.F0 b hb)
 fz b hb:=by
  rcases h2.fz b hb with q|q
  ·exact h.fz b q
  ·exact .inr (h.mine q)
 frame b hb hg:=by
  have hg':¬Φ'.given b:=λq=>by
   rcases h.given b q with q|q
   ·omega
   ·exact hg q
  exact(h2.frame b (RX hb h.size) hg').trans (h.frame b hb hg)
 n:=h2.n.trans h.n
 arg:=h2.arg.trans h.arg
 argb:=h2.argb.trans h.argb
theorem Later.of(h1:Φ'.w0=Φ.w0)(h2:Φ'.given=Φ.given)(h3:Φ'.F0=Φ.F0)(h4:Φ'.n=Φ.n)(h5:Φ'.arg=Φ.arg)(h6:Φ'.argb=Φ.argb):Later Φ Φ' where
 size:=by rw[h1];exact QH _
 os:=by rw[h1]
 tape:=by rw[h1]
 output:=by rw[h1]
 given b hb:= .inr (by rw[<-h2];exact hb)
 F0 b hb:=by rw[h3];exact hb
 fz b hb:= .inl (by rw[<-h3];exact hb)
 frame b _ _:=by rw[h1]
 n:=h4
 arg:=h5
 argb:=h6
structure Quiet(Φ:Fr)(w w':World)(G:Gh):Prop where
 size:w.heap.size<=w'.heap.size
 same:∀b,G.O b≠ .ext->w'.heap[b]? =w.heap[b]?
 old:∀b,b<Φ.w0.heap.size->w'.heap[b]? =w.heap[b]?
 os:w'.os=w.os
 tape:w'.tape=w.tape
 output:w'.output=w.output
theorem Inv.quiet(inv:Inv T Φ σ a w G)(q:Quiet Φ w w' G):Inv T Φ σ a w' G:=
 inv.change rfl ⟨λ_ h=>h,λb h=>q.same b GN⟩ (λ_ _=>rfl) (λ_ _ _=>rfl) (λ_ h=>h) (λ_ _ h=>h)
  (λi cs hi=> .inl ⟨hi,(inv.box i cs hi).choose_spec.choose_spec.2.2,q.same _ (by rw[(inv.box i cs hi).choose_spec.choose_spec.2.2];simp)⟩)
  (λk en c=> .inl ⟨c,λb hb=>⟨hb,q.same b AP⟩⟩)
  (λb hb=>RX (inv.tag b hb) q.size) (λ_=> .inl rfl)
  (λb=>by
   rcases Ry b Φ.w0.heap.size with h|h
   ·exact .inl (q.old b h)
   ·exact .inr (.inl h))
  q.size q.os q.tape q.output
theorem Inv.mine(inv:Inv T Φ σ a w G){b:Nat}(h:G.O b≠ .fz)(d:G.O b≠ .ext):Φ.mine b:=by
 cases c:G.O b with
 |ext=>exact absurd c d
 |fz=>exact absurd c h
 |bx i=>exact inv.mineB b i c
 |ar k=>exact inv.mineA b k c
theorem Inv.up(inv:Inv T Φ σ a w G):Inv T (Φ.at w G) σ a w G where
 nd:=inv.nd
 kp:=inv.kp
 sz:=inv.sz
 env:=inv.env
 wfE:=inv.wfE
 box:=inv.box
 wfB:=inv.wfB
 arr:=inv.arr
 wfA:=inv.wfA
 tag:=inv.tag
 mineB b i h:= .inr ⟨GN,GN⟩
 mineA b k h:= .inr ⟨GN,GN⟩
 fzm b h:= .inl h
 F0 b h:=h
 frame b _ _:=rfl
 size:=QH _
 os:=rfl
 tape:=rfl
 output:=rfl
 args:=inv.args
 lay:=by
  refine⟨T.lay_mono (λb hb=>⟨inv.F0 b hb,inv.frame b (inv.lay.2 b hb).1 (inv.lay.2 b hb).2⟩) inv.lay.1,λb hb=>⟨inv.tag b (by rw[show G.O b= .fz from hb];simp),λh=>h.1 hb⟩⟩
 argb:=inv.argb
theorem Inv.aF0(inv:Inv T Φ σ a w G):Later Φ (Φ.at w G)where
 size:=inv.size
 os:=inv.os
 tape:=inv.tape
 output:=inv.output
 given b hb:=inv.mine hb.1 hb.2
 F0 b hb:=inv.F0 b hb
 fz b hb:=inv.fzm b hb
 frame b hb hg:=inv.frame b hb hg
 n:=rfl
 arg:=rfl
 argb:=rfl
theorem Inv.down(inv0:Inv T Φ σ0 a0 w0 G0)(hl:Later Φ Φ')(inv:Inv T Φ' σ a w G)(h1:Φ2.w0=Φ.w0)(h2:Φ2.given=Φ.given)(h3:Φ2.F0=Φ.F0)(h4:Φ2.n=Φ.n)(h5:Φ2.arg=Φ.arg)(h6:Φ2.argb=Φ.argb)(h7:Φ2.ds=Φ'.ds)(h8:Φ2.keep=Φ'.keep):Inv T Φ2 σ a w G where
 nd:=by rw[h7];exact inv.nd
 kp:=by rw[h8];exact inv.kp
 sz:=by rw[h4,<-hl.n];exact inv.sz
 env:=inv.env
 wfE:=inv.wfE
 box:=inv.box
 wfB:=inv.wfB
 arr:=inv.arr
 wfA:=inv.wfA
 tag:=inv.tag
 mineB b i h:=by
  have:=hl.mine (inv.mineB b i h);unfold Fr.mine at*;rw[h1,h2];exact this
 mineA b k h:=by
  have:=hl.mine (inv.mineA b k h);unfold Fr.mine at*;rw[h1,h2];exact this
 fzm b h:=by
  have:Φ.F0 b\/Φ.mine b:=by
   rcases inv.fzm b h with q|q
   ·exact hl.fz b q
   ·exact .inr (hl.mine q)
  unfold Fr.mine at*;rw[h1,h2,h3];exact this
 F0 b h:=inv.F0 b (hl.F0 b (by rw[<-h3];exact h))
 frame b hb hg:=by
  rw[h1]at hb⊢;rw[h2]at hg
  have hg':¬Φ'.given b:=λq=>by
   rcases hl.given b q with q|q
   ·omega
   ·exact hg q
  exact(inv.frame b (RX hb hl.size) hg').trans (hl.frame b hb hg)
 size:=by rw[h1];exact QV hl.size inv.size
 os:=by rw[h1];exact inv.os.trans hl.os
 tape:=by rw[h1];exact inv.tape.trans hl.tape
 output:=by rw[h1];exact inv.output.trans hl.output
 args:=by rw[h5,<-hl.arg];exact inv.args
 lay:=by rw[h1,h2,h3];exact inv0.lay
 argb:=by rw[h6,<-hl.argb];exact inv.argb
theorem Inv.nobody(inv:Inv T Φ σ a w G){b:Nat}(g:b<Φ.w0.heap.size)(e:¬Φ.given b)(f:¬Φ.F0 b):w.heap[b]? =Φ.w0.heap[b]? /\G.O b= .ext:=by
 have c:¬Φ.mine b:=λh=>by
  rcases h with h|h
  ·omega
  ·exact e h
 refine⟨inv.frame b g e,?_⟩
 cases d:G.O b with
 |ext=>rfl
 |fz=>
  rcases inv.fzm b d with h|h
  ·exact absurd h f
  ·exact absurd h c
 |bx i=>exact absurd (inv.mineB b i d) c
 |ar k=>exact absurd (inv.mineA b k d) c
theorem Inv.mP{Φ:Fr}(inv:Inv T Φ σ a w G)(d:Φ.w0=w0)(g:Φ.given=λb=>G0.O b≠ .fz/\G0.O b≠ .ext)(f:Φ.F0=λb=>G0.O b= .fz){b:Nat}(e:b<w0.heap.size)(c:G0.O b= .ext):w.heap[b]? =w0.heap[b]? /\G.O b= .ext:=by
 have:=inv.nobody (b:=b) (by rw[d];exact e) (by rw[g];exact λh=>h.2 c) (by rw[f];exact λh=>by rw[show G0.O b= .fz from h]at c;cases c)
 rw[d]at this;exact this
def mark(D:Nat):Deferred:={target:= .collected D,args:= #[]}
def Marks(w0 w:World)(G:Gh)(ms:List Deferred):Prop:=
 ∃Ds:List Nat,ms=Ds.map mark/\Ds.Nodup/\∀D∈Ds,w0.heap.size<=D/\w.heap[D]? =some (.deferred (some []))/\G.O D= .ext
theorem Marks.nil(w0 w:World)(G:Gh):Marks w0 w G [] :=⟨[],rfl,List.nodup_nil,λD h=>Ah⟩
def Lift(T:Tab)(Φ:Fr)(Q:Exit->St->Prop)(e:Exit)(a:Act)(w:World):Prop:=∃ms σ G,Q e σ/\Inv T {Φ with ds:=ms++Φ.ds} σ a w G/\Marks Φ.w0 w G ms
theorem Lift.of{Q:Exit->St->Prop}{e:Exit}(h:Q e σ)(inv:Inv T Φ σ a w G):Lift T Φ Q e a w:=⟨[],σ,G,h,inv,Marks.nil _ _ _⟩
theorem Lift.back{Q:Exit->St->Prop}{e:Exit}{d:List Deferred}(b:Inv T {Φ with ds:=d++Φ.ds} σ0 a0 w0 G0)(mk:Marks Φ.w0 w0 G0 d)
 (h:Lift T (Fr.at {Φ with ds:=d++Φ.ds} w0 G0) Q e a w):Lift T Φ Q e a w:=by
 obtain⟨f,σ,G,s,inv,Ds2,A,k,o⟩:=h;obtain⟨p,z,l,n⟩:=mk;have t:Later {Φ with ds:=d++Φ.ds} {(Fr.at {Φ with ds:=d++Φ.ds} w0 G0)with ds:=f++(d++Φ.ds)}:=b.aF0.trans (Later.of rfl rfl rfl rfl rfl rfl);have m:∀D∈p,D<w0.heap.size:=λD c=>(QT.1 (n D c).2.1).1
 refine⟨f++d,σ,G,s,b.down t inv rfl rfl rfl rfl rfl rfl (Si _ _ _) rfl,Ds2++p,by rw[z,A,Rl],?_,λD c=>?_⟩
 ·refine List.nodup_append.2 ⟨k,l,λx u y q=>?_⟩
  have i:w0.heap.size<=x:=(o x u).1;have g:=m y q
  omega
 ·rcases QJ.1 c with c|c
  ·obtain⟨i,g,j⟩:=o D c
   exact⟨QV b.size i,g,j⟩
  ·obtain⟨i,g,j⟩:=n D c
   obtain⟨v,r⟩:=inv.mP (w0:=w0) (G0:=G0) rfl rfl rfl (m D c) j;exact⟨i,v.trans g,r⟩
theorem dJ8:∀(c:List Nat) (b:List V) (vs:List Value) (σ:St) (a:Act),c.length=b.length->vs.length=b.length->(∀p∈c,p<Φ.n/\Φ.keep p=none)->
 (∀(j:Nat) v y,vs[j]? =some v->b[j]? =some y->y.pure/\Rv w G v y)->Inv T Φ σ a w G->Inv T Φ ⟨cM2 c b σ.env,σ.bx,σ.ar⟩ {a with tmps:=(c.zip vs).foldl (λt (p,v)=>t.setIfInBounds p v) a.tmps} w G:=by
 intro c
 induction c with
 |nil=>intro b vs σ a _ _ _ _ inv;exact inv
 |cons p c q=>
  intro b vs σ a l k g i inv
  cases b with
  |nil=>simp at l
  |cons y b=>
   cases vs with
   |nil=>simp at k
   |cons v vs=>
    obtain⟨o,m⟩:=i 0 v y rfl rfl;have f:=g p Ae;have e:=inv.bA3 (d:=p) ⟨f.1,f.2⟩ m (V.pure.ok o _ _)
    exact q b vs (σ.set p y) (a.put (some p) v) (by simpa using l) (by simpa using k) (λp f=>g p (by simp[f])) (λj v y hv hy=>i (j+1) v y Bl Dk) e
theorem Inv.outer{wr:List Nat}(inv0:Inv T Φ σ0 a0 w0 G0)(h1:Φ2.w0=Φ.w0)(h2:Φ2.given=Φ.given)(h3:Φ2.F0=Φ.F0)(h4:Φ2.n=Φ.n)(h5:Φ2.arg=Φ.arg)(h6:Φ2.argb=Φ.argb)
 (hk:∀s,s∉wr->Φ2.keep s=some (a0.tmps.getD s undef))(inv:Inv T Φ2 σ a w G):Inv T Φ (sJ wr σ) a0 w G where
 nd:=inv0.nd
 kp:=inv0.kp
 sz:=inv0.sz
 env s:=by
  show Rv w G (a0.tmps.getD s undef) (cond (memR s wr) .bot (σ.env s))
  cases hm:memR s wr with
  |true=>exact .bot _
  |false=>
   have:s∉wr:=λh=>by rw[pM.2 h]at hm;cases hm
   have e:=inv.kp s _ (hk s this);rw[<-e];exact inv.env s
 wfE s:=by
  show(cond (memR s wr) V.bot (σ.env s)).ok _ _
  cases memR s wr with
  |true=>simp only[SG,V.ok]
  |false=>exact inv.wfE s
 box:=inv.box
 wfB:=inv.wfB
 arr:=inv.arr
 wfA:=inv.wfA
 tag:=inv.tag
 mineB b i h:=by have:=inv.mineB b i h;unfold Fr.mine at*;rw[h1,h2]at this;exact this
 mineA b k h:=by have:=inv.mineA b k h;unfold Fr.mine at*;rw[h1,h2]at this;exact this
 fzm b h:=by have:=inv.fzm b h;unfold Fr.mine at*;rw[h1,h2,h3]at this;exact this
 F0 b h:=inv.F0 b (by rw[h3];exact h)
 frame b hb hg:=by have:=inv.frame b (by rw[h1];exact hb) (by rw[h2];exact hg);rw[h1]at this;exact this
 size:=by have:=inv.size;rw[h1]at this;exact this
 os:=by have:=inv.os;rw[h1]at this;exact this
 tape:=by have:=inv.tape;rw[h1]at this;exact this
 output:=by have:=inv.output;rw[h1]at this;exact this
 args:=by have:=inv.args;rw[h5]at this;exact this
 lay:=inv0.lay
 argb:=by have:=inv.argb;rw[h6]at this;exact this
theorem Inv.aQ1(inv:Inv T Φ σ a w G)(ds:List Deferred)(h1:Φ2.w0=Φ.w0)(h2:Φ2.given=Φ.given)(h3:Φ2.F0=Φ.F0)(h4:Φ2.n=Φ.n)(h5:Φ2.arg=Φ.arg)(h6:Φ2.argb=Φ.argb)(h7:Φ2.ds=ds)(h8:∀s v,Φ2.keep s=some v->a.tmps.getD s undef=v):Inv T Φ2 σ {a with defers:=ds} w G where
 nd:=h7.symm
 kp:=h8
 sz:=by rw[h4];exact inv.sz
 env:=inv.env
 wfE:=inv.wfE
 box:=inv.box
 wfB:=inv.wfB
 arr:=inv.arr
 wfA:=inv.wfA
 tag:=inv.tag
 mineB b i h:=by have:=inv.mineB b i h;unfold Fr.mine at*;rw[h1,h2];exact this
 mineA b k h:=by have:=inv.mineA b k h;unfold Fr.mine at*;rw[h1,h2];exact this
 fzm b h:=by have:=inv.fzm b h;unfold Fr.mine at*;rw[h1,h2,h3];exact this
 F0 b h:=inv.F0 b (by rw[<-h3];exact h)
 frame b hb hg:=by rw[h1]at hb⊢;rw[h2]at hg;exact inv.frame b hb hg
 size:=by rw[h1];exact inv.size
 os:=by rw[h1];exact inv.os
 tape:=by rw[h1];exact inv.tape
 output:=by rw[h1];exact inv.output
 args:=by rw[h5];exact inv.args
 lay:=by rw[h1,h2,h3];exact inv.lay
 argb:=by rw[h6];exact inv.argb
theorem aF9{l:Nat}{o:Obj}(hl:G.O l= .ext)(h0:Φ.w0.heap.size<=l):Quiet Φ w (w.putObj l o) G where
 size:=by simp[World.putObj]
 same b hb:=World.putObj_heap_other (by rintro rfl;exact hb hl)
 old b hb:=World.putObj_heap_other Aa
 os:=rfl
 tape:=rfl
 output:=rfl
theorem Le.out(h:Le T σ σ0)(inv:Inv T Φ σ a w G):∃G',Inv T Φ σ0 a w G':=by unfold Le at h;exact h Φ a w G inv
theorem dV2{b:Array Nat}{vs:Array Value}{t:Array Value}:(b.zip vs).foldl (λt (p,v)=>t.setIfInBounds p v) t=(b.toList.zip vs.toList).foldl (λt (p,v)=>t.setIfInBounds p v) t:=by
 rw[<-Array.foldl_toList,Array.toList_zip]
theorem aV3(o:Obj)(inv:Inv T Φ σ a w G):Quiet Φ w (w.alloc o) G where
 size:=Ae
 same b hb:=Ua w _ (inv.tag b hb)
 old b hb:=Ua w _ (RX hb inv.size)
 os:=rfl
 tape:=rfl
 output:=rfl
theorem cI6{n:Nat}{x y:Code}{f:Operand}{g:FuncId}{R:List V}{H:Array Nat}{Q:Exit->St->Prop}(hn:Φ.n=n)
 (br:∀(Φ:Fr) (ro:Option Nat) (σ:St) (a:Act) (w:World) (G:Gh) (Q:Exit->St->Prop),Φ.n=n->(∀d∈dstsOf x,Φ.keep d=none)->Inv T Φ σ a w G->nH T P n x σ Q->x.wpIn (FW ro) 0 P (Lift T Φ Q) a w)
 (cc:∀(Φ:Fr) (ro:Option Nat) (σ:St) (a:Act) (w:World) (G:Gh) (Q:Exit->St->Prop),Φ.n=n->(∀d∈dstsOf y,Φ.keep d=none)->Inv T Φ σ a w G->nH T P n y σ Q->y.wpIn (FW ro) 0 P (Lift T Φ Q) a w)
 (ca:∀p∈H.toList,p<n)(hk:∀d∈H.toList++(dstsOf x++dstsOf y),Φ.keep d=none)(ay:allR V.still R=true)
 (inv:Inv T Φ σ a w G)(h:aO0 T P f g R H.toList (H.toList++(dstsOf x++dstsOf y)) (nH T P n x) (nH T P n y) σ Q):(Code.rangeFunc f H x y).wpIn (FW none) 0 P (Lift T Φ Q) a w:=by
 obtain⟨b9,ai,bf,A,st,I,⟨p0,b6,h0,hf⟩,am,bh⟩:=h.out;generalize hwr:H.toList++(dstsOf x++dstsOf y)=wr at*;have b4:∀p∈H.toList,p∈wr:=λp hp=>Ib;have b7:∀p∈dstsOf x,p∈wr:=λp hp=>Ib
 have b1:∀p∈dstsOf y,p∈wr:=λp hp=>Ib;obtain⟨G0,inv0⟩:=b6.out inv;have av:=inv0.ev f
 rw[hf]at av
 obtain⟨lb,e1,e2,e3⟩:=av.1.fn_cap (by
  cases R with
  |nil=>rfl
  |cons x r=>cases x with
   |ap e l=>have:=dY.1 ay (.ap e l) (SK ..);cases this
   |_=>rfl) (λcs he=>by subst he;have:=dY.1 ay (.own 0 []) (SK ..);cases this)
 have bd:∀(j:Nat) y,R[j]? =some y->y.pure:=λj y hy=>by
  have h2:=av.2;simp only[V.ok]at h2;exact bL0 (dY.1 ay y (QF hy)) (aH.1 h2 y (QF hy))
 refine wpIn_rangeFunc ?_;intro fn aw;obtain⟨E,K⟩:∃E:LoopState->Option Code->Loop,E=λst pe=> {state:=st,pending:=pe,fn,tmps:=a.tmps,params:=H,assign:=x,body:=y,defers:=w.heap.size}:=⟨_,rfl⟩;obtain⟨Y,U⟩:∃Y,(w.alloc (.deferred (some []))).alloc (.loop (E .ready none))=Y:=⟨_,rfl⟩;obtain⟨l,hl⟩:∃l,l=w.heap.size+1:=⟨_,rfl⟩;obtain⟨D,hD⟩:∃D,D=w.heap.size:=⟨_,rfl⟩;have aq:D≠l:=Aa
 have ch:Y.heap.size=w.heap.size+2:=by rw[<-U];simp
 have bz:Y.heap[l]? =some (.loop (E .ready none)):=by
  rw[<-U,hl];have:=World.alloc_heap_new (w.alloc (.deferred (some []))) (.loop (E .ready none));rwa [World.size_alloc]at this
 have bv:Y.heap[D]? =some (.deferred (some [])):=by
  rw[<-U,hD];exact(Ua _ _ Ae).trans (World.alloc_heap_new w _)
 have ax:Φ.w0.heap.size<=l:=by have:=inv.size;omega
 have bq:Φ.w0.heap.size<=D:=by have:=inv.size;omega
 have ad:=inv0.quiet (aV3 (.deferred (some [])) inv0);have an:Inv T Φ (st p0) a Y G0:=by rw[<-U];exact ad.quiet (aV3 _ ad)
 have bi:Keep w Y G0 G0:=⟨λ_ h=>h,λb hb=>by
  have ce:b<w.heap.size:=inv0.tag b AP;rw[<-U];exact(Ua _ _ AU).trans (Ua w _ ce)⟩
 have bm:G0.O l= .ext:=inv0.ext_size Aa;have b3:G0.O D= .ext:=inv0.ext_size Aa
 have C:callable P g=true:=ai.1
 have eg:∀args w,(callFunc g args).run P w= .ok (.enter g args) w:=by
  intro args w;unfold callable at C;split at C
  ·rename_i fn aw
   simp only[QN,bne_iff_ne]at C;have hb:fn.body≠none:=by intro h;rw[h]at C;simp at C
   simp[callFunc,aw,hb,C.2]
  ·cases C
 refine⟨l,[mark D],Y,{target:= .fn (.func g) lb,args:= #[.func (.yield l) #[] #[]]},Y,g, #[.func (.yield l) #[] #[]] ++lb,Y,?_,?_,?_,?_,λhh=>EP,?_⟩
 ·rw[<-U,K,hl,hD];exact run_enterLoop_outer _ _ _ _ _
 ·simp only[resolve,e1]
  simp[go_sem]
 ·intro f' _;trivial
 ·simp[invoke,go_sem,eg]
 refine(ai.2 Y G0 lb l e2 (λb hb=>by have:=inv0.tag b hb;omega) (λj v y hv hy=>⟨bd j y hy,(e3 j v y hv hy).aW bi (bd j y hy)⟩) an.up.lay.1
  (λk W G'=>∃p,I k p/\Inv T Φ (st p) a W G'/\W.heap[l]? =some (.loop (E .ready none))/\W.heap[D]? =some (.deferred (some []))/\G'.O l= .ext/\G'.O D= .ext)
  (λW G'=>∃c e J,((c= .ret/\e= .ret)\/∃i,c= .exit i/\e= .exit i)/\Q e J/\Inv T Φ J a W G'/\W.heap[l]? =some (.loop (E .done (some c)))/\W.heap[D]? =some (.deferred (some []))/\G'.O l= .ext/\G'.O D= .ext)
  ?_ ?_ ?_ ?_ ⟨p0,h0,an,bz,bv,bm,b3⟩).mono ?_
 ·rintro k W W' G' ⟨p,q1,q2,q3,q4,q5,q6⟩ S hb ho ht hu
  have af:l<W.heap.size:=(QT.1 q3).1;refine⟨p,q1,q2.quiet ⟨S,λb h=>hb b (q2.tag b h) (.inl h),λb h=>hb b (RX h q2.size) (.inr (by have:=inv.size;omega)),ho,ht,hu⟩,?_,?_,q5,q6⟩
  ·rw[hb l af (.inr Aa)];exact q3
  ·rw[hb D Aa (.inr Aa)];exact q4
 ·rintro W W' G' ⟨c,e,J,q0,q1,q2,q3,q4,q5,q6⟩ S hb ho ht hu
  have af:l<W.heap.size:=(QT.1 q3).1;refine⟨c,e,J,q0,q1,q2.quiet ⟨S,λb h=>hb b (q2.tag b h) (.inl h),λb h=>hb b (RX h q2.size) (.inr (by have:=inv.size;omega)),ho,ht,hu⟩,?_,?_,q5,q6⟩
  ·rw[hb l af (.inr Aa)];exact q3
  ·rw[hb D Aa (.inr Aa)];exact q4
 ·rintro k W G' G'' ⟨p,q1,q2,q3,q4,q5,q6⟩ bt b2 hO
  have bg:∀b,b<Y.heap.size->G''.O b=G'.O b:=λb hb=>by
   rcases hO b with h|h
   ·exact h
   ·omega
  refine⟨p,q1,?_,q3,q4,by rw[bg l (by omega)];exact q5,by rw[bg D (by omega)];exact q6⟩
  have keepO:∀b,G'.O b≠ .ext->G''.O b=G'.O b:=λb hb=>by
   rcases hO b with h|h
   ·exact h
   ·exact absurd h.2.2.1 hb
  refine q2.change rfl ⟨λb hb=>G6,λ_ _=>rfl⟩ (λi _=>by rw[bt]) (λi g _=>by rw[b2]) (λ_ h=>h) (λ_ _ h=>h)
   (λi cs hi=> .inl ⟨hi,?_,rfl⟩) (λk en hk=> .inl ⟨hk,λb hb=>⟨G6,rfl⟩⟩) (λb hb=>?_) (λb=>?_) (λb=> .inl rfl) (QH _) rfl rfl rfl
  ·have:=(q2.box i cs hi).choose_spec.choose_spec.2.2
   rw[keepO _ (by rw[this];simp)];exact this
  ·rcases hO b with h|h
   ·rw[h]at hb;exact q2.tag b hb
   ·exact h.2.1
  ·rcases hO b with h|h
   ·exact .inl h
   ·exact .inr (.inr (.inl (by have:=inv.size;omega)))
 ·
  rintro k W G' vs it ⟨p,hI,z,hL,hK,ol,oD⟩ bb ba bn;have af:l<W.heap.size:=(QT.1 hL).1;have a8:it.length=H.toList.length:=bf it (QF bb)
  have hy:=run_yield (P:=P) (args:=vs) hL (by rw[K];show vs.size=H.size;rw[ba,a8];simp)
  rw[K]at hy;refine⟨fn,_,x,y,hy,roundIn_of_wpIn aw ?_⟩;show x.wpIn (FW (some l)) 0 P _ _ _;obtain⟨o,hΦr⟩:∃o:Fr,o={(Φ.at W G')with ds:=[],keep:=λs=> @ite _ (s∈wr) (Classical.propDecidable _) none (some (a.tmps.getD s undef))}:=⟨_,rfl⟩
  have aj:∀d∈wr,o.keep d=none:=λd hd=>by rw[hΦr];exact Q9 hd
  have ae:∀d,d∉wr->o.keep d=some (a.tmps.getD d undef):=λd hd=>by rw[hΦr];exact Q5 hd
  have az:o.n=n:=by rw[hΦr];exact hn
  have a4:Inv T o ⟨cM2 H.toList it (st p).env,(st p).bx,(st p).ar⟩ {tmps:=(H.zip vs).foldl (λt (p,v)=>t.setIfInBounds p v) a.tmps,defers:=[]} W G':=by
   rw[dV2]
   have:=z.up.aQ1 (Φ2:=o) [] Fg Fg Fg Fg Fg Fg Fg (λs v S=>by
    by_cases hm:s∈wr
    ·rw[aj s hm]at S;cases S
    ·rw[ae s hm]at S;exact UC S)
   exact dJ8 H.toList it vs.toList (st p) {a with defers:=[]} a8.symm (by simpa using ba) (λp hp=>⟨by rw[az];exact ca p hp,aj p (b4 p hp)⟩) (λj v y hv hy=>bn j v y Bl hy) this
  refine TG (br o (some l) _ _ W G' _ az (λd hd=>aj d (b7 d hd)) a4 (am k p it hI bb)) ?_;rintro e a1 Z ⟨N,ak,G1,aa,B,cg⟩
  cases e with
  |normal=>
   obtain⟨rl,gl⟩:=B.mP (w0:=W) (G0:=G') EI EI EI af ol;obtain⟨rD,gD⟩:=B.mP (w0:=W) (G0:=G') EI EI EI Aa oD;rw[hL]at rl;rw[hK]at rD;obtain⟨F,M⟩:∃F,F=Z.putObj l (.loop {E .ready none with state:= .busy}):=⟨_,rfl⟩;have be:l<Z.heap.size:=(QT.1 rl).1;refine⟨F,by rw[M];exact run_beginRound rl (by rw[K]),?_⟩
   show y.wpIn (FW (some l)) 0 P _ _ _;have bk:Later Φ {o with ds:=N++o.ds}:=z.aF0.trans (Later.of Fg Fg Fg Fg Fg Fg);have a6:Inv T {Φ with ds:=N++o.ds,keep:=o.keep} ak a1 Z G1:=z.down bk B rfl rfl rfl rfl rfl rfl rfl rfl
   have ag:Inv T {Φ with ds:=N++o.ds,keep:=o.keep} ak a1 F G1:=by rw[M];exact a6.quiet (aF9 gl ax)
   have ac:Inv T Φ (sJ wr ak) a F G1:=z.outer (Φ2:={Φ with ds:=N++o.ds,keep:=o.keep}) rfl rfl rfl rfl rfl rfl (λs S=>ae s S) ag
   have a7:F.heap[l]? =some (.loop {E .ready none with state:= .busy}):=by rw[M];exact World.putObj_heap_same be
   have bj:l<F.heap.size:=(QT.1 a7).1;have bu:F.heap[D]? =some (.deferred (some [])):=by rw[M];exact(World.putObj_heap_other aq).trans rD
   have ao:∀b,b≠l->F.heap[b]? =Z.heap[b]? :=λb hb=>by rw[M];exact World.putObj_heap_other hb
   refine TG (cc (Fr.at {Φ with ds:=N++o.ds,keep:=o.keep} F G1) (some l) ak a1 F G1 _ hn (λd hd=>aj d (b1 d hd)) ag.up aa) ?_
   rintro e a2 w3 ⟨b5,J,G2,X,invC,cf⟩;have ah:Inv T (Φ.at F G1) (sJ wr J) a w3 G2:=ac.up.outer (Φ2:={(Fr.at {Φ with ds:=N++o.ds,keep:=o.keep} F G1)with ds:=b5++(N++o.ds)}) rfl rfl rfl rfl rfl rfl (λs S=>ae s S) invC
   have au:∀(m:Option Code) (al:St) (G3:Gh),Inv T (Φ.at F G1) al a w3 G3->∃L,(Instr.endRound l m).run P w3= .ok (.bool m.isNone) L/\Inv T Φ al a L G3/\L.heap[l]? =some (.loop (E (if m.isNone then .ready else .done) m))/\L.heap[D]? =some (.deferred (some []))/\G3.O l= .ext/\G3.O D= .ext/\xN Y W L G' G3:=by
    intro m al G3 u;obtain⟨sl,tl⟩:=u.mP (w0:=F) (G0:=G1) rfl rfl rfl bj gl;obtain⟨sD,tD⟩:=u.mP (w0:=F) (G0:=G1) rfl rfl rfl Aa gD;rw[a7]at sl;rw[bu]at sD;have bl:l<w3.heap.size:=(QT.1 sl).1;have hr:=run_endRound (P:=P) m sl
    have b0:({({E .ready none with state:= .busy}:Loop)with state:=if m.isNone then .ready else .done,pending:=m}:Loop)=E (if m.isNone then .ready else .done) m:=by rw[K]
    have bp:(Instr.endRound l m).run P w3= .ok (.bool m.isNone) (w3.putObj l (.loop (E (if m.isNone then .ready else .done) m))):=by rw[<-b0];exact hr
    have bc:Inv T Φ al a w3 G3:=ac.down ac.aF0 u rfl rfl rfl rfl rfl rfl rfl rfl;have bo:W.heap.size<=Z.heap.size/\Z.heap.size=F.heap.size/\F.heap.size<=w3.heap.size:=⟨by have:=B.size;rw[hΦr]at this;exact this,by rw[M];simp[World.putObj],u.size⟩
    refine⟨_,bp,bc.quiet (aF9 tl ax),World.putObj_heap_same bl,(World.putObj_heap_other aq).trans sD,tl,tD,⟨⟨λb hb=>?_,λb hb=>?_⟩,?_,λb a9 cb bw=>?_,λb hb=>?_,?_,?_,?_⟩⟩
    ·exact u.F0 b (B.F0 b (by rw[hΦr];exact hb))
    ·have ab:b≠l:=by rintro rfl;rw[ol]at hb;cases hb
     have bs:b<W.heap.size:=z.tag b AP
     have f1:Z.heap[b]? =W.heap[b]? :=by
      have:=B.frame b (by rw[hΦr];exact bs) (by rw[hΦr];exact λq=>q.1 hb)
      rw[hΦr]at this;exact this
     have a9:G1.O b= .fz:=B.F0 b (by rw[hΦr];exact hb)
     have f2:w3.heap[b]? =F.heap[b]? :=u.frame b (by show b<F.heap.size;omega) (λq=>q.1 a9)
     rw[World.putObj_heap_other ab,f2,ao b ab,f1]
    ·simp only[World.putObj,Array.size_setIfInBounds];omega
    ·have ab:b≠l:=by omega
     obtain⟨f1,g1⟩:=B.mP (w0:=W) (G0:=G') EI EI EI cb bw;obtain⟨f2,g2⟩:=u.mP (w0:=F) (G0:=G1) rfl rfl rfl Aa g1;exact⟨by rw[World.putObj_heap_other ab,f2,ao b ab,f1],g2⟩
    ·have:=u.tag b hb
     simp only[World.putObj,Array.size_setIfInBounds];exact this
    ·have a1:w3.os=F.os:=u.os
     have a2:F.os=Z.os:=by rw[M];rfl
     have a3:Z.os=W.os:=by have:=B.os;rw[hΦr]at this;exact this
     exact a1.trans (a2.trans a3)
    ·have a1:w3.tape=F.tape:=u.tape
     have a2:F.tape=Z.tape:=by rw[M];rfl
     have a3:Z.tape=W.tape:=by have:=B.tape;rw[hΦr]at this;exact this
     exact a1.trans (a2.trans a3)
    ·have a1:w3.output=F.output:=u.output
     have a2:F.output=Z.output:=by rw[M];rfl
     have a3:Z.output=W.output:=by have:=B.output;rw[hΦr]at this;exact this
     exact a1.trans (a2.trans a3)
   cases e with
   |normal=>
    obtain⟨p',a5,b8⟩:=X;obtain⟨G3,u⟩:=a5.out ah;obtain⟨L,r1,r2,r3,r4,r5,r6,r7⟩:=au none _ G3 u;exact⟨_,L,r1, .inl ⟨rfl,G3,⟨p',b8,r2,r3,r4,r5,r6⟩,r7⟩⟩
   |ret=>
    obtain⟨L,r1,r2,r3,r4,r5,r6,r7⟩:=au (some .ret) _ G2 ah;exact⟨_,L,r1, .inr ⟨rfl,G2,⟨.ret, .ret,_, .inl ⟨rfl,rfl⟩,X,r2,r3,r4,r5,r6⟩,r7⟩⟩
   |exit id=>
    obtain⟨L,r1,r2,r3,r4,r5,r6,r7⟩:=au (some (.exit id)) _ G2 ah;exact⟨_,L,r1, .inr ⟨rfl,G2,⟨.exit id, .exit id,_, .inr ⟨id,rfl,rfl⟩,X,r2,r3,r4,r5,r6⟩,r7⟩⟩
   |goto t=>exact(X:False).elim
   |panic c=>exact(X:False).elim
   |outgrown=>exact(X:False).elim
  |ret=>exact(aa:False).elim
  |exit id=>exact(aa:False).elim
  |goto t=>exact(aa:False).elim
  |panic c=>exact(aa:False).elim
  |outgrown=>exact(aa:False).elim
 ·
  have mk:∀ {W:World} {G':Gh} {J:St} {pe:Option Code} {as:LoopState},W.heap[l]? =some (.loop (E as pe))->as≠ .busy->W.heap[D]? =some (.deferred (some []))->G'.O l= .ext->G'.O D= .ext->Inv T Φ J a W G'->
   ∃L,(Instr.endLoop l).run P W= .ok pe L/\Inv T {Φ with ds:=[mark D] ++Φ.ds} J {a with defers:=[mark D] ++a.defers} L G'/\Marks Φ.w0 L G' [mark D] :=by
   intro W G' J pe as hL S hK ol oD z;have hr:=run_endLoop (P:=P) hL (by rw[K];exact S)
   refine⟨_,by rw[K]at hr;exact hr,(z.quiet (aF9 ol ax)).aQ1 _ rfl rfl rfl rfl rfl rfl (by rw[z.nd]) z.kp,[D],rfl,Ae,λD' cd=>?_⟩
   rw[QI.1 cd];exact⟨bq,(World.putObj_heap_other aq).trans hK,oD⟩
  rintro e W ⟨⟨v,rfl⟩,(⟨G',p,hI,z,hL,hK,ol,oD⟩|⟨G',c,e,J,hc,hq,z,hL,hK,ol,oD⟩)⟩
  ·obtain⟨L,r1,r2,r3⟩:=mk hL Ae hK ol oD z
   exact⟨none,L,r1,[mark D],st p,G',bh p hI,r2,r3⟩
  ·obtain⟨L,r1,r2,r3⟩:=mk hL Ae hK ol oD z
   refine⟨some c,L,r1,?_⟩;rcases hc with⟨rfl,rfl⟩|⟨i,rfl,rfl⟩
   ·exact wpIn_ret ⟨[mark D],J,G',hq,r2,r3⟩
   ·exact wpIn_exit ⟨[mark D],J,G',hq,r2,r3⟩
end
section
variable{T:Tab}{P:Program}{Φ:Fr}{σ:St}{a:Act}{w w':World}{G G':Gh}{K:VK}{o:Oper}{d:Nat}
theorem aS6{b:Md}{n:Nat}{ops:List Oper}{K:St->Prop}:∀(l:List Oper) (σ:St),aY0 T P b n ops l σ.env σ.bx σ.ar K->Run T P b n ops l σ K:=by
 intro l
 induction l with
 |nil=>intro σ h;exact h
 |cons o r g=>
  intro σ h;have f:bH0 T P b n ops o (aY0 T P b n ops r) σ.env σ.bx σ.ar K:=h;exact(aX6 f).mono (λ_ _ _ e=>aR8 e) (λc e=>g c e)
theorem aK7{b:Type}{l m:List b}{x:b}:x∈appR l m↔x∈l\/x∈m:=by rw[bT,QJ]
theorem wpIn_loop_ghost{F:Fence}{n:Nat}{Q:Exit->Act->World->Prop}{c:Code}(I:Nat->Act->World->Prop)(b:Nat)(i:I b a w)
 (round:∀g a w,I g a w->c.wpIn F n P (Exit.then (λj w'=>∃m,m<g/\I m j w') Q) a w):(Code.loop c).wpIn F n P Q a w:=by
 refine wpIn_loop (λa w=>∃n,I n a w) (λa w=>leastOf (λn=>I n a w)) ⟨b,i⟩ ?_;intro a w p;refine TG (round _ a w (leastOf_spec p).1) ?_;intro e j w' h
 cases e with
 |normal=>
  obtain⟨g,k,f⟩:=h;exact show(∃n,I n j w')/\leastOf (λn=>I n j w')<leastOf (λn=>I n a w)from⟨⟨g,f⟩,Nat.lt_of_le_of_lt ((leastOf_spec ⟨g,f⟩).2 g f) k⟩
 |exit id=>exact h
 |goto l=>exact h
 |ret=>exact h
 |panic q=>exact h
 |outgrown=>exact h
theorem oK{b:Frame}{k:List Item}{cs:List Frame}{c:Code}:step P (lone (b.atR a (.code (.scope c)::k)) cs w)= .next (lone (b.atR a (.code c:: .inScope c::k)) cs w):=
 step_lone_go (by simp[stepG,stepG.exec,Frame.atR])
theorem bN3{b:Frame}{k:List Item}{cs:List Frame}{c:Code}:step P (lone (b.atR a (.inScope c::k)) cs w)= .next (lone (b.atR a k) cs w):=
 step_lone_go (by simp[stepG,stepG.exec,Frame.atR])
theorem bE2{F:Fence}{n:Nat}{c:Code}{Q:Exit->Act->World->Prop}(h:c.wpIn F n P (λe a w=>match e with| .goto _=>False|e=>Q e a w) a w):(Code.scope c).wpIn F n P Q a w:=by
 intro b k cs u t r;have m:(lone (b.atR a (.code (.scope c)::k)) cs w).fenced P F:=fenced_calm t r rfl;obtain⟨e,i,g,p,f⟩:=h b (.inScope c::k) cs u t r
 cases e with
 |normal=>exact⟨.normal,i,g,p, .head m oK (StepsIn.trans f (.one (fenced_calm t r rfl) bN3))⟩
 |exit j=>
  have x:exitTo j (.inScope c::k)=exitTo j k:=by simp[exitTo]
  exact⟨.exit j,i,g,p,λy v=> .head m oK (f.1 y (by rw[x];exact v)),
   λs v=>let⟨q,A,z⟩:=f.2 s (by rw[x];exact v);⟨q,A, .head m oK z⟩⟩
 |goto l=>exact p.elim
 |ret=>exact⟨_,i,g,p, .of_steps (.one m oK) f⟩
 |panic B=>exact⟨_,i,g,p, .of_steps (.one m oK) f⟩
 |outgrown=>exact⟨_,i,g,p, .of_steps (.one m oK) f⟩
theorem cZ2(hT:bP T P)(hm:P.follows .mixedOrders=true){n:Nat}(c:Code):∀(Φ:Fr) (k:Option Nat) (σ:St) (a:Act) (w:World) (G:Gh) (Q:Exit->St->Prop),(k=none\/iC c=true)->Φ.n=n->(∀d∈dstsOf c,Φ.keep d=none)->Inv T Φ σ a w G->nH T P n c σ Q->c.wpIn (FW k) 0 P (Lift T Φ Q) a w:=by
 induction c with
 |skip=>intro Φ k σ a w G Q _ _ _ inv h;exact wpIn_skip (Lift.of h inv)
 |region id ops ac=>
  intro Φ k σ a w G Q _ z u inv h;subst z;have ad:∀o∈ops.toList,∀d,o.dst=some d->Φ.keep d=none:=λo ho d I=>u d (dP9 ho I);obtain⟨env,bx,ar⟩:=σ
  cases ac with
  |false=>
   have r:aY0 T P .free Φ.n ops.toList ops.toList env bx ar (Q .normal):=h;have hr:=aS6 ops.toList ⟨env,bx,ar⟩ r
   exact wpIn_region_list (eB0 hT rfl k (λq J w' G' u j=>Lift.of u j) ops.toList _ a w G ad inv hr)
  |true=>
   have r:aC9 T env ops.toList (λhv=>aY0 T P (.drawn hv) Φ.n ops.toList ops.toList env bx ar (Q .normal)):=h;replace r:=r.out;obtain⟨cl,hv,h0,Y,h2⟩:=r;have hr:=aS6 ops.toList ⟨env,bx,ar⟩ h2
   exact bC4 hT k hm rfl ad Y (dC3 inv.wfE h0) (λq J w' G' u j=>Lift.of u j) id inv hr
 |seq x y H F=>
  intro Φ k σ a w G Q t z u inv h;have r:dG2 T (nH T P n x) (nH T P n y) σ Q:=h;replace r:=r.out;have M:∀d∈dstsOf x,Φ.keep d=none:=λd I=>u d (aK7.2 (.inl I))
  have U:∀d∈dstsOf y,Φ.keep d=none:=λd I=>u d (aK7.2 (.inr I));have O:k=none\/iC x=true:=t.imp id λhh=>KE
  have N:k=none\/iC y=true:=t.imp id λhh=>KE;refine wpIn_seq ?_;rcases r with Y|⟨C,Y,h2⟩
  ·refine TG (H Φ k σ a w G _ O z M inv Y) ?_
   rintro e J w' ⟨A,q,G',B,j,mk⟩
   cases e with
   |normal=>exact TG (F (Fr.at {Φ with ds:=A++Φ.ds} w' G') k q J w' G' Q N z U j.up B) (λe a w h=>Lift.back j mk h)
   |_=>exact⟨A,q,G',B,j,mk⟩
  ·refine TG (H Φ k σ a w G _ O z M inv Y) ?_
   rintro e J w' ⟨A,q,G',B,j,mk⟩
   cases e with
   |normal=>
    obtain⟨p,aa,af⟩:=B;obtain⟨G2,v⟩:=aa.out j.up;have E:=j.down j.aF0 v rfl rfl rfl rfl rfl rfl rfl rfl
    have ab:Marks Φ.w0 w' G2 A:=by
     obtain⟨Ds,e1,e2,e3⟩:=mk;refine⟨Ds,e1,e2,λD hD=>?_⟩;obtain⟨q1,q2,q3⟩:=e3 D hD;exact⟨q1,q2,(v.mP (w0:=w') (G0:=G') rfl rfl rfl (QT.1 q2).1 q3).2⟩
    exact TG (F (Fr.at {Φ with ds:=A++Φ.ds} w' G2) k _ J w' G2 Q N z U E.up (h2 p af)) (λe a w h=>Lift.back E ab h)
   |_=>exact⟨A,q,G',B,j,mk⟩
 |cond c x y H F=>
  intro Φ k σ a w G Q t z u inv h
  have r:(match σ.ev c with
   | .lit (.bool b)=>branch b (nH T P n x σ Q) (nH T P n y σ Q)
   |_=>False):=h
  have M:∀d∈dstsOf x,Φ.keep d=none:=λd I=>u d (aK7.2 (.inl I));have U:∀d∈dstsOf y,Φ.keep d=none:=λd I=>u d (aK7.2 (.inr I))
  have O:k=none\/iC x=true:=t.imp id λhh=>KE;have N:k=none\/iC y=true:=t.imp id λhh=>KE
  have he:=(inv.ev c).1;split at r
  ·rename_i b hb
   rw[hb]at he
   cases b with
   |true=>exact wpIn_cond_true he.bH (H Φ k σ a w G Q O z M inv r)
   |false=>exact wpIn_cond_false he.bH (F Φ k σ a w G Q N z U inv r)
  ·exact r.elim
 |block id c ih=>
  intro Φ k σ a w G Q t z u inv h;refine wpIn_block (TG (ih Φ k σ a w G _ t z u inv h) ?_);rintro e J w' ⟨A,q,G',B,j,mk⟩
  cases e with
  |exit i=>
   have S:cond (Nat.beq i id) (Q .normal q) (Q (.exit i) q):=B;show Exit.inBlock id (Lift T Φ Q) (.exit i) J w';by_cases hi:i=id
   ·subst hi
    have hb:Nat.beq i i=true:=Nat.beq_refl i;rw[hb]at S;simp only[Exit.inBlock,TQ];exact⟨A,q,G',S,j,mk⟩
   ·have hb:Nat.beq i id=false:=by rw[<-TF,SX];exact hi
    rw[hb]at S;simp only[Exit.inBlock,Q5 hi];exact⟨A,q,G',S,j,mk⟩
  |_=>exact⟨A,q,G',B,j,mk⟩
 |loop c ih=>
  intro Φ k σ a w G Q t z u inv h;have r:bI0 T (nH T P n c) σ Q:=h;replace r:=r.out;obtain⟨L,⟨p0,ag,ai⟩,R⟩:=r;obtain⟨G0,inv0⟩:=ag.out inv;refine wpIn_loop_ghost (λn a w=>∃p A G,L.m p=n/\L.inv p/\Inv T {Φ with ds:=A++Φ.ds} (L.st p) a w G/\Marks Φ.w0 w G A) (L.m p0) ⟨p0,[],G0,rfl,ai,inv0,Marks.nil _ _ _⟩ ?_;rintro n' J w' ⟨p,A,G1,rfl,hi,W,mk⟩;refine TG (ih (Fr.at {Φ with ds:=A++Φ.ds} w' G1) k _ J w' G1 _ t z u W.up (R p hi)) ?_;rintro e a2 w2 hL;obtain⟨Z,q,G',B,j,ae⟩:=Lift.back W mk hL
  cases e with
  |normal=>
   obtain⟨p',aa,aj,ak⟩:=B;obtain⟨G2,v⟩:=aa.out j.up;have E:=j.down j.aF0 v rfl rfl rfl rfl rfl rfl rfl rfl
   have ab:Marks Φ.w0 w2 G2 Z:=by
    obtain⟨Ds,e1,e2,e3⟩:=ae;refine⟨Ds,e1,e2,λD hD=>?_⟩;obtain⟨q1,q2,q3⟩:=e3 D hD;exact⟨q1,q2,(v.mP (w0:=w2) (G0:=G') rfl rfl rfl (QT.1 q2).1 q3).2⟩
   exact⟨L.m p',ak,p',Z,G2,rfl,aj,E,ab⟩
  |_=>exact⟨Z,q,G',B,j,ae⟩
 |rangeFunc f ps x y H F=>
  intro Φ k σ a w G Q t z u inv h
  have ah:k=none:=by
   rcases t with h|h
   ·exact h
   ·cases(h:false=true)
  subst ah
  have r:(match σ.ev f with
   | .fn g X=>cond (allR V.still X) (cond (iC x) (cond (iC y) (cond (allR (λp=>Nat.blt p n) ps.toList) (aO0 T P f g X ps.toList (appR ps.toList (appR (dstsOf x) (dstsOf y))) (nH T P n x) (nH T P n y) σ Q) False) False) False) False
   |_=>False):=h
  split at r
  ·obtain⟨Y,r⟩:=aT r
   obtain⟨h2,r⟩:=aT r;obtain⟨h3,r⟩:=aT r;obtain⟨h4,r⟩:=aT r;rw[bT,bT]at r;refine cI6 z (λΦ k σ a w G Q=>H Φ k σ a w G Q (.inr h2)) (λΦ k σ a w G Q=>F Φ k σ a w G Q (.inr h3)) (λp hp=>blt (dY.1 h4 p hp)) ?_ Y inv r;intro d I;refine u d ?_;show d∈appR ps.toList (appR (dstsOf x) (dstsOf y));rw[bT,bT];exact I
  ·exact r.elim
 |exit id=>intro Φ k σ a w G Q _ _ _ inv h;exact wpIn_exit (Lift.of h inv)
 |scope c ih=>
  intro Φ k σ a w G Q t z u inv h;refine bE2 (TG (ih Φ k σ a w G _ t z u inv h) ?_);rintro e J w' ⟨A,q,G',B,j,mk⟩
  cases e with
  |goto l=>exact B.elim
  |_=>exact⟨A,q,G',B,j,mk⟩
 |label l=>intro Φ k σ a w G Q _ _ _ inv h;exact wpIn_label (Lift.of h inv)
 |goto l=>intro Φ k σ a w G Q _ _ _ inv h;exact(h:False).elim
 |ret=>intro Φ k σ a w G Q _ _ _ inv h;exact wpIn_ret (Lift.of h inv)
 |refuse s=>intro Φ k σ a w G Q _ _ _ inv h;exact(h:False).elim
theorem cL7{f:Func}{R:Ending->World->Prop}{u:FrameMode}(n:u≠ .run){tmps:Array Value}:∀(b:List Deferred) (w:World),Inv T Φ σ a w G->Φ.ds=[]->a.tmps=tmps->Marks Φ.w0 w G b->(∀w',Inv T Φ σ a w' G->LeavesInM (FW none) 0 P f tmps R [] u w')->LeavesInM (FW none) 0 P f tmps R b u w:=by
 intro b
 induction b with
 |nil=>intro w inv _ _ _ h;exact h w inv
 |cons d b s=>
  intro w inv j q mk h;obtain⟨e,c,g,k⟩:=mk
  cases e with
  |nil=>cases c
  |cons D e=>
   rw[QW]at c;injection c with e0 c;subst e0;obtain⟨r,l,i⟩:=k D Ae;refine⟨n, .inl ⟨D,_,rfl,run_takeDeferred l,?_⟩⟩;refine s _ (inv.quiet (aF9 i r)) j q ⟨e,c,(List.nodup_cons.1 g).2,λt m=>?_⟩ h
   grind [SB,World.putObj_heap_other,List.nodup_cons]
theorem wM(C:bP T P)(B:P.follows .mixedOrders=true){f:FuncId}{k:Func}{c:Code}{args:Array Value}{Q:Exit->St->Prop}{R:Ending->World->Prop}(z:P.funcs[f]? =some k)(E:k.body=some c)(r:Φ.ds=[])(t:Φ.keep=λ_=>none)(D:Φ.n=k.ntmps)
 (inv:Inv T Φ σ {tmps:=args++Array.replicate (k.ntmps-args.size) undef,defers:=[]} w G)(h:nH T P k.ntmps c σ Q)
 (m:∀(e:Exit) (b:St) (j:Act) (w':World) (G':Gh),Q e b->Inv T Φ b j w' G'->(e= .normal\/e= .ret)/\∃v,(results k j.tmps).run P w'= .ok v w'/\R (.returned v) w'):Calls P f args w R:=by
 refine bD0.1 (callsIn_of_wp_marks (F:=FW none) z E trivial (TG (cZ2 C B c Φ none σ _ w G Q (.inl rfl) D (λd _=>by rw[t]) inv h) ?_) rfl)
 rintro e j w' ⟨y,b,G',u,g,mk⟩;have i:Inv T Φ b {j with defers:=[]} w' G':=g.aQ1 [] rfl rfl rfl rfl rfl rfl r (λs v x=>by rw[t]at x;cases x)
 have q:j.defers=y:=by
  have:=g.nd;rw[r]at this;simpa using this
 obtain⟨H,_⟩:=m e b _ w' G' u i
 have done:LeavesInM (FW none) 0 P k j.tmps R j.defers .returning w':=by
  rw[q];refine cL7 Ae y w' i r rfl mk λA l=>?_;exact(m e b _ A G' u l).2
 rcases H with rfl|rfl
 ·exact done
 ·exact done
theorem gG2{w:World}{G:Gh}{v:Value}{rs:List V}(h:∀q,rs≠ .bot::q):Rr T w G v (.tup rs)=∃vs:Array Value,v= .tuple vs/\vs.size=rs.length/\∀(j:Nat) u y,vs[j]? =some u->rs[j]? =some y->Rb T w G j u y:=by
 simp_all [Rr]
theorem gB6{ar:Nat->Option AE}{ys xs:List V}(h:iQ T ar ys xs):∀q,ys≠ .bot::q:=by
 rintro q rfl
 cases xs with
 |nil=>exact h.elim
 |cons x xr=>exact(h.1:False)
theorem cF9(inv:Inv T Φ σ a w G){xs ys:List V}(f:iQ T σ.ar ys xs)(m:iR xs ys=true)(vs:List Value)(z:∀(i:Nat) v x,vs[i]? =some v->xs[i]? =some x->Rv w G v x/\x.ok σ.hasB σ.hasA):
 ∃Gc:Gh,(∀(j:Nat) v y,vs[j]? =some v->ys[j]? =some y->Rb T w Gc j v y)/\(∀b,G.O b= .fz->Gc.O b= .fz)/\(∀b i,Gc.O b≠ .bx i)/\(∀b,Gc.O b≠ .ext->(G.O b= .fz/\Gc.O b= .fz)\/∃k,G.O b= .ar k):=by
 obtain⟨hlen,I⟩:=qM f;simp only[iR,QN]at m;have H:=uU.1 m.1
 have s:∀k∈bD ys xs,k∉bK ys xs:=λk hk Q=>by
  grind [dY,pM]
 generalize r:bD ys xs=ok at*;generalize E:bK ys xs=B at*
 let e:Nat->Nat:=λk=> @dite _ (∃j,zW xs ys j k) (Classical.propDecidable _) (λh=>h.choose) (λ_=>0)
 have g:∀ {j k},zW xs ys j k->e k=j:=by
  intro j k F;have J:∃j,zW xs ys j k:=⟨j,F⟩;grind [aK3]
 let Gc:Gh:={G with O:=λb=>match G.O b with| .fz=> .fz| .ar k=>if k∈B then .fz else if k∈ok then .ar (e k)else .ext|_=> .ext}
 have c:∀b,G.O b= .fz->Gc.O b= .fz:=λb hb=>BU;have D:∀b i,G.O b= .bx i->Gc.O b= .ext:=λb i hb=>BU
 have t:∀b,G.O b= .ext->Gc.O b= .ext:=λb hb=>BU;have C:∀b k,G.O b= .ar k->k∈B->Gc.O b= .fz:=λb k hb hk=>DT
 have n:∀b k,G.O b= .ar k->k∈ok->Gc.O b= .ar (e k):=λb k hb hk=>by
  grind
 have A:Keep w w G Gc:=⟨c,λ_ _=>rfl⟩;refine⟨Gc,?_,c,?_,?_⟩
 ·intro j v y hv hy
  have L:j<xs.length:=EO;have q:xs[j]? =some xs[j] :=QE L
  obtain⟨M,N⟩:=z j v _ hv q;refine aJ2 inv A (I j _ y q hy) M N (λu k hk b hb=>?_) (λu k hk b hb=>?_)
  ·grind [nP]
  ·have l:k∈ok:=by rw[<-r];exact oZ.2 ⟨j,_,y,q,hy,u,hk⟩
   rw[n b k hb l,g ⟨_,y,q,hy,u,hk⟩]
 ·grind
 ·grind
def aE3(a:Act):ResultVar->Sem Value
 | .tmp t=>pure (a.tmps.getD t undef)
 | .cell b t=>do loadVar t (<-asAddr (a.tmps.getD b undef))
theorem aQ5(s:bP T P)(inv:Inv T Φ σ a w G):∀(rs:List ResultVar) (K:List V->Prop),aH3 T σ rs K->
 ∃(xs:List V) (vs:List Value),K xs/\vs.length=xs.length/\vs.length=rs.length/\(∀(i:Nat) v x,vs[i]? =some v->xs[i]? =some x->Rv w G v x/\x.ok σ.hasB σ.hasA)/\
  (rs.mapM (aE3 a)).run P w= .ok vs w:=by
 intro rs
 induction rs with
 |nil=>intro K h;exact⟨[],[],h,rfl,rfl,λi v x hv=>by simp at hv,Ae⟩
 |cons x r z=>
  intro K h
  have f:∀(v:V) (u:Value),Rv w G u v->v.ok σ.hasB σ.hasA->(aE3 a x).run P w= .ok u w->(aH3 T σ r λvs=>K (v::vs))->
   ∃(xs:List V) (vs:List Value),K xs/\vs.length=xs.length/\vs.length=(x::r).length/\(∀(i:Nat) v x,vs[i]? =some v->xs[i]? =some x->Rv w G v x/\x.ok σ.hasB σ.hasA)/\
    ((x::r).mapM (aE3 a)).run P w= .ok vs w:=by
   intro v u hv D c e;obtain⟨xs,vs,B,h2,m,C,E⟩:=z _ e;refine⟨v::xs,u::vs,B,Ho,by simp[m],?_,?_⟩
   ·grind
   ·simp_all
  cases x with
  |tmp t=>
   have g:force (σ.env t) (λv=>aH3 T σ r λvs=>K (v::vs)):=h;rw[force_eq]at g;exact f _ _ (inv.env t) (inv.wfE t) (by simp[aE3]) g
  |cell b t=>
   have g:cond (Nat.blt t (T.n t)) (pW (T.row t) σ (σ.env b) λv _=>aH3 T σ r λvs=>K (v::vs)) False:=h;obtain⟨y,h2⟩:=aT g;obtain⟨l,v',v,A,c,q,hv,j⟩:=cG1 s inv t (.tmp b) (blt y) h2;have k:a.tmps.getD b undef= .pointer (some l):=A
   exact f v v' hv j (by simp only[aE3,k,asAddr,RN,Sz,QX,c]) q
def aI1(vs:List Value):Value:=match vs with| [v] =>v|vs=> .tuple vs.toArray
theorem aD1{b:Func}{vs:List Value}(h:(b.results.toList.mapM (aE3 a)).run P w= .ok vs w):
 (results b a.tmps).run P w= .ok (aI1 vs) w:=by
 have e:(b.results.mapM (aE3 a)).run P w= .ok vs.toArray w:=by
  simp_all [Array.mapM_eq_mapM_toList,QX]
 have c:(results b a.tmps)=(do let vs<-b.results.mapM (aE3 a);pure (if h:vs.size=1 then vs[0]else .tuple vs)):=by
  unfold results;congr 1
 rw[c];simp only[RN,e,QX,Sz];congr 1
 match vs with
 | [] =>rfl
 | [v] =>rfl
 |v::u::r=>simp;rfl
theorem lY:∀(ys:List V) (j s:Nat),pF ys j s=if j<=s then(match ys[s-j]? with|some y=>cond (linear y) (.arr s 0) y|none=> .tup [])else .tup [] :=by
 intro ys
 induction ys with
 |nil=>intro j s;show V.tup [] =_;split<;>simp
 |cons y r ih=>
  intro j s;show cond (Nat.beq s j) (cond (linear y) (.arr j 0) y) (pF r (j+1) s)=_;by_cases e:s=j
  ·simp_all
  ·exact KY
theorem gY:∀(ys:List V) (j s:Nat),jK ys j s=if j<=s then(match ys[s-j]? with|some (.own e l)=>some ⟨0, .own,e,l⟩|some (.ap e l)=>some ⟨0, .ap,e,l⟩|_=>none)else none:=by
 intro ys
 induction ys with
 |nil=>intro j s;show none=_;split<;>simp
 |cons y r ih=>
  intro j s;show cond (Nat.beq s j) (match y with| .own e l=>some (⟨0, .own,e,l⟩:AE)| .ap e l=>some ⟨0, .ap,e,l⟩|_=>none) (jK r (j+1) s)=_
  by_cases e:s=j
  ·subst e
   rw[show Nat.beq s s=true from Nat.beq_refl s];grind
  ·exact KY
theorem eH1(W:bP T P)(hm:P.follows .mixedOrders=true){f:FuncId}{fn:Func}(hf:P.funcs[f]? =some fn)(M:callable P f=true){ys:List V}{r:V}(hn:ys.length<=fn.ntmps)(h:fnVC T P fn ys r):Spec T P f ys r:=by
 refine⟨M,?_⟩;intro w G cs hcs J U hargs aa;unfold fnVC at h;split at h
 ·rename_i c hb
  let Φ:Fr:=⟨w,λb=>∃j,G.O b= .ar j,λb=>G.O b= .fz,fn.ntmps,λ_=>none,λ_=>none,[],λ_=>none⟩
  let G0:Gh:={G with av:=λk _=>cs.getD k undef}
  have hkeep:Keep w w G G0:=⟨λ_ h=>h,λ_ _=>rfl⟩
  have hrb:∀(j:Nat) y,ys[j]? =some y->Rb T w G j (cs.getD j undef) y:=by
   intro j y hy;exact Pm
  have ac:∀ {j u e l},gJ T w G j u e l->u.oneCell'=true:=by
   intro j u e l h;exact OI
  have ab:∀ {u l},Rv w G u (.cap l)->u.oneCell'=true:=by
   intro u l h;exact OZ
  have inv:Inv T Φ (uD ys) {tmps:=cs++Array.replicate (fn.ntmps-cs.size) undef,defers:=[]} w G0:=by
   constructor
   ·rfl
   ·intro s v h;cases h
   ·grind
   ·intro s
    exact Oq
   ·intro s
    exact O7
   ·intro i cs' hi
    exact Og
   ·intro i cs' hi
    exact Og
   ·intro k en hen
    exact O4
   ·intro k en hen
    exact O5
   ·exact J
   ·intro b i hb;exact absurd hb (U b i)
   ·intro b k hb;exact .inr ⟨k,hb⟩
   ·intro b hb;exact .inl hb
   ·intro b hb;exact hb
   ·intro b _ _;rfl
   ·exact QH _
   ·rfl
   ·rfl
   ·rfl
   ·intro j v h;cases h
   ·grind
   ·intro i b h;cases h
  refine wM W hm hf hb (Φ:=Φ) rfl rfl rfl inv h ?_
  have fin:∀(e:Exit) (σ:St) (a':Act) (w':World) (G':Gh),dF3 T σ fn.results.toList r->Inv T Φ σ a' w' G'->∃v,(results fn a'.tmps).run P w'= .ok v w'/\∃Z g,(Ending.returned v= .returned Z)/\Rr T w' g Z r/\
   (∀b,G.O b= .fz->g.O b= .fz)/\(∀b,g.O b≠ .ext->b<w'.heap.size)/\(∀b i,g.O b≠ .bx i)/\
   (∀b,g.O b≠ .ext->(G.O b= .fz/\g.O b= .fz)\/w.heap.size<=b\/∃j,G.O b= .ar j)/\
   (∀b,b<w.heap.size->(∀j,G.O b≠ .ar j)->w'.heap[b]? =w.heap[b]?)/\
   w.heap.size<=w'.heap.size/\w'.os=w.os/\w'.tape=w.tape/\w'.output=w.output:=by
   intro e σ a' w' G' m inv';rcases m.out with m|m
   rotate_left
   ·obtain⟨xs,vs,E,A,R,H,B⟩:=aQ5 W inv' _ _ m
    have z:=aD1 B;refine⟨aI1 vs,z,aI1 vs,?_⟩
    have frame:(∀b,b<w.heap.size->(∀j,G.O b≠ .ar j)->w'.heap[b]? =w.heap[b]?)/\w.heap.size<=w'.heap.size/\w'.os=w.os/\w'.tape=w.tape/\w'.output=w.output:=
     ⟨λb hb hj=>inv'.frame b hb (λ⟨j,h⟩=>hj j h),inv'.size,inv'.os,inv'.tape,inv'.output⟩
    split at E
    ·obtain⟨n,cs,rfl,rfl,D,I⟩:=E
     obtain⟨v,rfl⟩:∃v,vs=[v] :=Uz.1 A;obtain⟨Y,S⟩:=H 0 v (.agg cs) rfl rfl
     obtain⟨F,rfl,hl,ho,M⟩:∃F:Array Value,v= .agg F/\F.size=cs.length/\(∀c∈F,c.oneCell'=true)/\∀(i:Nat) c x,F[i]? =some c->cs[i]? =some x->Rv w' G' c x:=by
      cases Y<;>grind
     have Q:=aH.1 (by simpa only[V.ok]using S:V.okL σ.hasB σ.hasA cs)
     obtain⟨g,q1,q2,q3,q4⟩:=cF9 inv' D I F.toList (λi u x hu hx=>⟨M i u x Bj hx,Q x (QF hx)⟩);have C:=(qM D).1
     refine⟨g,rfl,⟨F,rfl,Aa,ho,λj u y hu hy=>q1 j u y Bj hy⟩,λb hb=>q2 b (inv'.F0 b hb),λb hb=>inv'.tag b ?_,q3,λb hb=>?_,frame⟩
     ·grind
     ·exact Jo
    ·exact E.elim
   obtain⟨xs,vs,E,A,R,H,B⟩:=aQ5 W inv' _ _ m;have z:=aD1 B;refine⟨aI1 vs,z,aI1 vs,?_⟩
   have t:∀(n:List V),iQ T σ.ar n xs->iR xs n=true->∃g:Gh,(∀(j:Nat) v y,vs[j]? =some v->n[j]? =some y->Rb T w' g j v y)/\
    (∀b,G.O b= .fz->g.O b= .fz)/\(∀b,g.O b≠ .ext->b<w'.heap.size)/\(∀b i,g.O b≠ .bx i)/\
    (∀b,g.O b≠ .ext->(G.O b= .fz/\g.O b= .fz)\/w.heap.size<=b\/∃j,G.O b= .ar j):=by
    intro n h1 h2;obtain⟨Gc,q1,q2,q3,q4⟩:=cF9 inv' h1 h2 vs H;refine⟨Gc,q1,λb hb=>q2 b (inv'.F0 b hb),λb hb=>inv'.tag b ?_,q3,λb hb=>?_⟩
    ·grind
    ·exact Jo
   have frame:(∀b,b<w.heap.size->(∀j,G.O b≠ .ar j)->w'.heap[b]? =w.heap[b]?)/\w.heap.size<=w'.heap.size/\w'.os=w.os/\w'.tape=w.tape/\w'.output=w.output:=
    ⟨λb hb hj=>inv'.frame b hb (λ⟨j,h⟩=>hj j h),inv'.size,inv'.os,inv'.tape,inv'.output⟩
   split at E
   ·rename_i x
    obtain⟨D,I,g3⟩:=E;obtain⟨g,q1,q2,q3,q4,X⟩:=t [r] D I
    match vs,A with
    | [v],_=>
      refine⟨g,rfl,?_,q2,q3,q4,X,frame⟩;exact Ph
   ·rename_i N
    obtain⟨n,rfl,D,I⟩:=E;obtain⟨g,q1,q2,q3,q4,X⟩:=t n D I;have C:=(qM D).1;refine⟨g,rfl,?_,q2,q3,q4,X,frame⟩;have L:∀q,n≠ .bot::q:=gB6 D
    rw[gG2 L];refine⟨vs.toArray,?_,by simp[A,C],λj u y hu hy=>q1 j u y Bj hy⟩
    match vs,xs,A with
    | [],_,_=>rfl
    | [v],[x],_=>exact absurd rfl (N x)
    |v::u::rr,_,_=>rfl
  intro e σ a' w' G' hq inv';exact Nz
 ·exact h.elim
theorem cE4(hT:bP T P)(hm:P.follows .mixedOrders=true){f:FuncId}{fn:Func}(hf:P.funcs[f]? =some fn)(hc:callable P f=true){ys:List V}{r:V}(hn:ys.length<=fn.ntmps){g:Nat}{B:TypeId}{lo li:List V}(ab:g<8)(U:ys[g]? =some (.own B li))(h:fnIO T P fn ys r g B lo):bE5 T P f ys r g B lo:=by
 refine⟨hc,?_⟩;intro w G cs hcs I X hargs ac;unfold fnIO at h;split at h
 ·rename_i c hb
  let Φ:Fr:=⟨w,λb=>∃j,G.O b= .ar j,λb=>G.O b= .fz,fn.ntmps,λj=>if j=g then some (cs.getD g undef)else none,λ_=>none,[],λ_=>none⟩
  let G0:Gh:={G with av:=λk _=>cs.getD k undef}
  have hkeep:Keep w w G G0:=⟨λ_ h=>h,λ_ _=>rfl⟩
  have hrb:∀(j:Nat) y,ys[j]? =some y->Rb T w G j (cs.getD j undef) y:=by
   intro j y hy;exact Pm
  have M:∀ {j u e l},gJ T w G j u e l->u.oneCell'=true:=by
   intro j u e l h;exact OI
  have ae:∀ {u l},Rv w G u (.cap l)->u.oneCell'=true:=by
   intro u l h;exact OZ
  have inv:Inv T Φ (uD ys) {tmps:=cs++Array.replicate (fn.ntmps-cs.size) undef,defers:=[]} w G0:=by
   constructor
   ·rfl
   ·intro s v h;cases h
   ·grind
   ·intro s
    exact Oq
   ·intro s
    exact O7
   ·intro i cs' hi
    exact Og
   ·intro i cs' hi
    exact Og
   ·intro k en hen
    exact O4
   ·intro k en hen
    exact O5
   ·exact I
   ·intro b i hb;exact absurd hb (X b i)
   ·intro b k hb;exact .inr ⟨k,hb⟩
   ·intro b hb;exact .inl hb
   ·intro b hb;exact hb
   ·intro b _ _;rfl
   ·exact QH _
   ·rfl
   ·rfl
   ·rfl
   ·intro j v h
    have h':(if j=g then some (cs.getD g undef)else none)=some v:=h
    split at h'
    ·rename_i e
     subst e;cases h';refine⟨rfl,ab,?_⟩;show∃en,jK ys 0 j=some en;rw[gY];simp_all
    ·cases h'
   ·grind
   ·intro i b h;cases h
  refine wM hT hm hf hb (Φ:=Φ) rfl rfl rfl inv h ?_
  have fin:∀(e:Exit) (σ:St) (a':Act) (w':World) (G':Gh),dC6 T σ fn.results.toList r g B lo->Inv T Φ σ a' w' G'->∃v,(results fn a'.tmps).run P w'= .ok v w'/\∃v0 m,(Ending.returned v= .returned v0)/\(Rr T w' m v0 r/\IoX T g B lo cs w' m)/\
   (∀b,G.O b= .fz->m.O b= .fz)/\(∀b,m.O b≠ .ext->b<w'.heap.size)/\(∀b i,m.O b≠ .bx i)/\
   (∀b,m.O b≠ .ext->(G.O b= .fz/\m.O b= .fz)\/w.heap.size<=b\/∃j,G.O b= .ar j)/\
   (∀b,b<w.heap.size->(∀j,G.O b≠ .ar j)->w'.heap[b]? =w.heap[b]?)/\
   w.heap.size<=w'.heap.size/\w'.os=w.os/\w'.tape=w.tape/\w'.output=w.output:=by
   intro e σ a' w' G' A inv';replace A:=A.out;obtain⟨xs,vs,S,F,ah,ai,J⟩:=aQ5 hT inv' _ _ A;have E:=aD1 J;refine⟨aI1 vs,E,aI1 vs,?_⟩;obtain⟨C,_,W,N⟩:=inv'.args g (cs.getD g undef) (by show(if g=g then some (cs.getD g undef)else none)=_;rw[Q9 rfl])
   have H:(cs.getD g undef).oneCell'=true:=by
    have hr:=hrb g _ U;exact M hr.2.2
   have aa:Rv w' G' (cs.getD g undef) (.arr g 0)/\(V.arr g 0).ok σ.hasB σ.hasA:=by
    refine⟨?_,by simp only[V.ok];exact⟨W,N,Ro _⟩⟩
    have:=Rv.arr (w:=w') (G:=G') g 0 (by rw[C];exact H)
    rw[C]at this;exact this
   have L:∀(i:Nat) v x,(vs++[cs.getD g undef])[i]? =some v->(xs++[V.arr g 0])[i]? =some x->Rv w' G' v x/\x.ok σ.hasB σ.hasA:=by
    intro i v x hv hx;rcases Ry i vs.length with hi|hi
    ·grind
    ·have ag:i=vs.length:=by
      grind
     simp_all
   have t:∀(n:List V),iQ T σ.ar (n++[.own B lo]) (xs++[.arr g 0])->iR (xs++[.arr g 0]) (n++[.own B lo])=true->∃m:Gh,(∀(j:Nat) v y,vs[j]? =some v->n[j]? =some y->Rb T w' m j v y)/\IoX T g B lo cs w' m/\
    (∀b,G.O b= .fz->m.O b= .fz)/\(∀b,m.O b≠ .ext->b<w'.heap.size)/\(∀b i,m.O b≠ .bx i)/\
    (∀b,m.O b≠ .ext->(G.O b= .fz/\m.O b= .fz)\/w.heap.size<=b\/∃j,G.O b= .ar j):=by
    intro n h1 h2;obtain⟨Gc,q1,q2,q3,q4⟩:=cF9 inv' h1 h2 (vs++[cs.getD g undef]) L;have z:=(qM h1).1;simp only[QG,QM,S9]at z;refine⟨Gc,λj v y hv hy=>?_,?_,λb hb=>q2 b (inv'.F0 b hb),λb hb=>inv'.tag b ?_,q3,λb hb=>?_⟩
    ·grind
    ·have hq:=q1 vs.length (cs.getD g undef) (.own B lo) Ae (by rw[Uf (by omega)];rw[show vs.length-n.length=0 by omega];rfl)
     exact⟨hq.2.1,_,hq.2.2⟩
    ·grind
    ·exact Jo
   have frame:(∀b,b<w.heap.size->(∀j,G.O b≠ .ar j)->w'.heap[b]? =w.heap[b]?)/\w.heap.size<=w'.heap.size/\w'.os=w.os/\w'.tape=w.tape/\w'.output=w.output:=
    ⟨λb hb hj=>inv'.frame b hb (λ⟨j,h⟩=>hj j h),inv'.size,inv'.os,inv'.tape,inv'.output⟩
   split at S
   ·rename_i x
    obtain⟨D,Q,_,g3⟩:=S;obtain⟨m,q1,Y,q2,q3,q4,Z⟩:=t [r] D Q;obtain⟨v,rfl⟩:∃v,vs=[v] :=Uz.1 F;refine⟨m,rfl,⟨?_,Y⟩,q2,q3,q4,Z,frame⟩;exact Ph
   ·rename_i af
    obtain⟨n,rfl,D,Q⟩:=S;rw[bT,bT]at D Q;obtain⟨m,q1,Y,q2,q3,q4,Z⟩:=t n D Q;have z:=(qM D).1;simp only[QG,QM,S9]at z;refine⟨m,rfl,⟨?_,Y⟩,q2,q3,q4,Z,frame⟩;have R:∀q,n≠ .bot::q:=λq e=>by subst e;exact gB6 D (q++[.own B lo]) rfl
    rw[gG2 R];refine⟨vs.toArray,?_,by simp[F];omega,λj u y hu hy=>q1 j u y Bj hy⟩
    exact Oy
  intro e σ a' w' G' hq inv';exact Nz
 ·exact h.elim
end
end Go.Ab
