/- Lemmas. -/
import Derived.Test.YtcmgfjaiegpddaaGreatA8
import Derived.RangeFuncIn
set_option linter.all false
noncomputable section
namespace Go.Ab
section
variable{T:Tab}{P:Program}{Φ Φ' Φ2:Fr}{σ σ0:St}{a a0:Act}{w w' w0:World}{G G' G0:Gh}
def dP9{l:List Oper}{o:Oper}{d:Nat}(h:o∈l)(b:o.dst=some d):d∈dG4 l:=by
 induction l with
 |nil=>cases h
 |cons x r c=>
  show d∈(match x.dst with|some d=>d::dG4 r|none=>dG4 r);grind
def Fr.at(Φ:Fr)(w:World)(G:Gh):Fr:={Φ with w0:=w,given:=λb=>G.O b≠ .fz/\G.O b≠ .ext,F0:=λb=>G.O b= .fz}
structure Later(Φ Φ':Fr):Prop where
 size:Φ.w0.heap.size<=Φ'.w0.heap.size
 os:Φ'.w0.os=Φ.w0.os
 tape:Φ'.w0.tape=Φ.w0.tape
 output:Φ'.w0.output=Φ.w0.output
 given:∀b,Φ'.given b->Φ.mine b
 F0:∀b,Φ.F0 b->Φ'.F0 b
 fz:∀b,Φ'.F0 b->Φ.F0 b\/Φ.mine b
 frame:∀b,b<Φ.w0.heap.size->¬Φ.given b->Φ'.w0.heap[b]? =Φ.w0.heap[b]?
 n:Φ'.n=Φ.n
 arg:Φ'.arg=Φ.arg
 argb:Φ'.argb=Φ.argb
theorem Later.mine(h:Later Φ Φ'){b:Nat}(c:Φ'.mine b):Φ.mine b:=by
 rcases c with c|c;exact .inl (SX h.size c);exact h.given b c
def Later.trans(h:Later Φ Φ')(h2:Later Φ' Φ2):Later Φ Φ2 where
 size:=SX h.size h2.size
 os:=h2.os.trans h.os
 tape:=h2.tape.trans h.tape
 output:=h2.output.trans h.output
 given b hb:=h.mine (h2.given b hb)
 F0 b hb:=h2.F0 b (h.F0 b hb)
 fz b hb:=by
  rcases h2.fz b hb with q|q;exact h.fz b q;exact .inr (h.mine q)
 frame b hb hg:=by
  have hg':¬Φ'.given b:=λq=>by
   rcases h.given b q with q|q;omega;exact hg q
  exact(h2.frame b (U1 hb h.size) hg').trans (h.frame b hb hg)
 n:=h2.n.trans h.n
 arg:=h2.arg.trans h.arg
 argb:=h2.argb.trans h.argb
def Later.of(h1:Φ'.w0=Φ.w0)(h2:Φ'.given=Φ.given)(h3:Φ'.F0=Φ.F0)(h4:Φ'.n=Φ.n)(h5:Φ'.arg=Φ.arg)(h6:Φ'.argb=Φ.argb):Later Φ Φ' where
 size:=by rw[h1];exact Sr _
 os:=by rw[h1]
 tape:=by rw[h1]
 output:=by rw[h1]
 given b hb:= .inr (by rw[<-h2];exact hb)
 F0 b hb:=by rw[h3];exact hb
 fz b hb:= .inl (by rw[<-h3];exact hb)
 frame b _ _:=by rw[h1]
 n:=h4
 arg:=h5
 argb:=h6
structure Quiet(Φ:Fr)(w w':World)(G:Gh):Prop where
 size:w.heap.size<=w'.heap.size
 same:∀b,G.O b≠ .ext->w'.heap[b]? =w.heap[b]?
 old:∀b,b<Φ.w0.heap.size->w'.heap[b]? =w.heap[b]?
 os:w'.os=w.os
 tape:w'.tape=w.tape
 output:w'.output=w.output
def Inv.quiet(inv:Inv T Φ σ a w G)(q:Quiet Φ w w' G):Inv T Φ σ a w' G:=
 inv.change rfl ⟨λ_ h=>h,λb h=>q.same b DI⟩ (λ_ _=>rfl) (λ_ _ _=>rfl) (λ_ h=>h) (λ_ _ h=>h)
  (λi cs hi=> .inl ⟨hi,(inv.box i cs hi).choose_spec.choose_spec.2.2,q.same _ (by rw[(inv.box i cs hi).choose_spec.choose_spec.2.2];simp)⟩)
  (λk en c=> .inl ⟨c,λb hb=>⟨hb,q.same b AA⟩⟩)
  (λb hb=>U1 (inv.tag b hb) q.size) (λ_=> .inl rfl)
  (λb=>by
   rcases TI b Φ.w0.heap.size with h|h;exact .inl (q.old b h)
   exact .inr (.inl h))
  q.size q.os q.tape q.output
theorem Inv.mine(inv:Inv T Φ σ a w G){b:Nat}(h:G.O b≠ .fz)(d:G.O b≠ .ext):Φ.mine b:=by
 cases c:G.O b with
 |ext=>exact absurd c d
 |fz=>exact absurd c h
 |bx i=>exact inv.mineB b i c
 |ar k=>exact inv.mineA b k c
def Inv.up(inv:Inv T Φ σ a w G):Inv T (Φ.at w G) σ a w G where
 nd:=inv.nd
 kp:=inv.kp
 sz:=inv.sz
 env:=inv.env
 wfE:=inv.wfE
 box:=inv.box
 wfB:=inv.wfB
 arr:=inv.arr
 wfA:=inv.wfA
 tag:=inv.tag
 mineB b i h:= .inr ⟨DI,DI⟩
 mineA b k h:= .inr ⟨DI,DI⟩
 fzm b h:= .inl h
 F0 b h:=h
 frame b _ _:=rfl
 size:=Sr _
 os:=rfl
 tape:=rfl
 output:=rfl
 args:=inv.args
 lay:=by
  refine⟨T.lay_mono (λb hb=>⟨inv.F0 b hb,inv.frame b (inv.lay.2 b hb).1 (inv.lay.2 b hb).2⟩) inv.lay.1,λb hb=>⟨inv.tag b (by rw[show G.O b= .fz from hb];simp),λh=>h.1 hb⟩⟩
 argb:=inv.argb
def Inv.aF0(inv:Inv T Φ σ a w G):Later Φ (Φ.at w G)where
 size:=inv.size
 os:=inv.os
 tape:=inv.tape
 output:=inv.output
 given b hb:=inv.mine hb.1 hb.2
 F0 b hb:=inv.F0 b hb
 fz b hb:=inv.fzm b hb
 frame b hb hg:=inv.frame b hb hg
 n:=rfl
 arg:=rfl
 argb:=rfl
def Inv.down(inv0:Inv T Φ σ0 a0 w0 G0)(hl:Later Φ Φ')(inv:Inv T Φ' σ a w G)(h1:Φ2.w0=Φ.w0)(h2:Φ2.given=Φ.given)(h3:Φ2.F0=Φ.F0)(h4:Φ2.n=Φ.n)(h5:Φ2.arg=Φ.arg)(h6:Φ2.argb=Φ.argb)(h7:Φ2.ds=Φ'.ds)(h8:Φ2.keep=Φ'.keep):Inv T Φ2 σ a w G where
 nd:=by rw[h7];exact inv.nd
 kp:=by rw[h8];exact inv.kp
 sz:=by rw[h4,<-hl.n];exact inv.sz
 env:=inv.env
 wfE:=inv.wfE
 box:=inv.box
 wfB:=inv.wfB
 arr:=inv.arr
 wfA:=inv.wfA
 tag:=inv.tag
 mineB b i h:=by
  have:=hl.mine (inv.mineB b i h);unfold Fr.mine at*;rw[h1,h2];exact this
 mineA b k h:=by
  have:=hl.mine (inv.mineA b k h);unfold Fr.mine at*;rw[h1,h2];exact this
 fzm b h:=by
  have:Φ.F0 b\/Φ.mine b:=by
   rcases inv.fzm b h with q|q;exact hl.fz b q;exact .inr (hl.mine q)
  unfold Fr.mine at*;rw[h1,h2,h3];exact this
 F0 b h:=inv.F0 b (hl.F0 b (by rw[<-h3];exact h))
 frame b hb hg:=by
  rw[h1]at hb⊢;rw[h2]at hg
  have hg':¬Φ'.given b:=λq=>by
   rcases hl.given b q with q|q;omega;exact hg q
  exact(inv.frame b (U1 hb hl.size) hg').trans (hl.frame b hb hg)
 size:=by rw[h1];exact SX hl.size inv.size
 os:=by rw[h1];exact inv.os.trans hl.os
 tape:=by rw[h1];exact inv.tape.trans hl.tape
 output:=by rw[h1];exact inv.output.trans hl.output
 args:=by rw[h5,<-hl.arg];exact inv.args
 lay:=by rw[h1,h2,h3];exact inv0.lay
 argb:=by rw[h6,<-hl.argb];exact inv.argb
def Inv.nobody(inv:Inv T Φ σ a w G){b:Nat}(f:b<Φ.w0.heap.size)(e:¬Φ.given b)(g:¬Φ.F0 b):w.heap[b]? =Φ.w0.heap[b]? /\G.O b= .ext:=by
 have d:¬Φ.mine b:=λh=>by
  rcases h with h|h;omega;exact e h
 refine⟨inv.frame b f e,?_⟩;cases c:G.O b with
 |ext=>rfl
 |fz=>
  rcases inv.fzm b c with h|h;exact absurd h g;exact absurd h d
 |bx i=>exact absurd (inv.mineB b i c) d
 |ar k=>exact absurd (inv.mineA b k c) d
def Inv.mP{Φ:Fr}(inv:Inv T Φ σ a w G)(d:Φ.w0=w0)(e:Φ.given=λb=>G0.O b≠ .fz/\G0.O b≠ .ext)(f:Φ.F0=λb=>G0.O b= .fz){b:Nat}(g:b<w0.heap.size)(c:G0.O b= .ext):w.heap[b]? =w0.heap[b]? /\G.O b= .ext:=by
 have:=inv.nobody (b:=b) (by rw[d];exact g) (by rw[e];exact λh=>h.2 c) (by rw[f];exact λh=>by rw[show G0.O b= .fz from h]at c;cases c);rw[d]at this;exact this
def mark(D:Nat):Deferred:={target:= .collected D,args:= #[]}
def Marks(w0 w:World)(G:Gh)(ms:List Deferred):Prop:=
 ∃Ds:List Nat,ms=Ds.map mark/\Ds.Nodup/\∀D∈Ds,w0.heap.size<=D/\w.heap[D]? =some (.deferred (some []))/\G.O D= .ext
theorem Marks.nil(w0 w:World)(G:Gh):Marks w0 w G [] :=⟨[],rfl,List.nodup_nil,λD h=>Ah⟩
def Lift(T:Tab)(Φ:Fr)(Q:Exit->St->Prop)(e:Exit)(a:Act)(w:World):Prop:=∃ms σ G,Q e σ/\Inv T {Φ with ds:=ms++Φ.ds} σ a w G/\Marks Φ.w0 w G ms
def Lift.of{Q:Exit->St->Prop}{e:Exit}(h:Q e σ)(inv:Inv T Φ σ a w G):Lift T Φ Q e a w:=⟨[],σ,G,h,inv,Marks.nil _ _ _⟩
def Lift.back{Q:Exit->St->Prop}{e:Exit}{d:List Deferred}(b:Inv T {Φ with ds:=d++Φ.ds} σ0 a0 w0 G0)(mk:Marks Φ.w0 w0 G0 d)
 (h:Lift T (Fr.at {Φ with ds:=d++Φ.ds} w0 G0) Q e a w):Lift T Φ Q e a w:=by
 obtain⟨f,σ,G,t,inv,Ds2,r,k,o⟩:=h;obtain⟨m,q,j,n⟩:=mk;have s:Later {Φ with ds:=d++Φ.ds} {(Fr.at {Φ with ds:=d++Φ.ds} w0 G0)with ds:=f++(d++Φ.ds)}:=b.aF0.trans (Later.of rfl rfl rfl rfl rfl rfl);have p:∀D∈m,D<w0.heap.size:=λD c=>(Tj.1 (n D c).2.1).1;refine⟨f++d,σ,G,t,b.down s inv rfl rfl rfl rfl rfl rfl (Sv _ _ _) rfl,Ds2++m,by rw[q,r,Ti],?_,λD c=>?_⟩
 ·refine List.nodup_append.2 ⟨k,j,λx u y v=>?_⟩
  have g:w0.heap.size<=x:=(o x u).1;have i:=p y v;omega
 ·rcases Sz.1 c with c|c
  ·obtain⟨g,i,l⟩:=o D c
   exact⟨SX b.size g,i,l⟩
  ·obtain⟨g,i,l⟩:=n D c
   obtain⟨z,A⟩:=inv.mP (w0:=w0) (G0:=G0) rfl rfl rfl (p D c) l;exact⟨g,z.trans i,A⟩
def dJ8:∀(c:List Nat) (b:List V) (vs:List Value) (σ:St) (a:Act),c.length=b.length->vs.length=b.length->(∀p∈c,p<Φ.n/\Φ.keep p=none)->
 (∀(j:Nat) v y,vs[j]? =some v->b[j]? =some y->y.pure/\Rv w G v y)->Inv T Φ σ a w G->Inv T Φ ⟨cM2 c b σ.env,σ.bx,σ.ar⟩ {a with tmps:=(c.zip vs).foldl (λt (p,v)=>t.setIfInBounds p v) a.tmps} w G:=by
 intro c;induction c with
 |nil=>intro b vs σ a _ _ _ _ inv;exact inv
 |cons p c m=>
  intro b vs σ a g i k l inv;cases b with
  |nil=>simp at g
  |cons y b=>
   cases vs with
   |nil=>simp at i
   |cons v vs=>
    obtain⟨o,q⟩:=l 0 v y rfl rfl;have f:=k p Af;have e:=inv.bA3 (d:=p) ⟨f.1,f.2⟩ q (V.pure.ok o _ _);exact m b vs (σ.set p y) (a.put (some p) v) (by simpa using g) (by simpa using i) (λp f=>k p (by simp[f])) (λj v y hv hy=>l (j+1) v y Bd Ed) e
def Inv.outer{wr:List Nat}(inv0:Inv T Φ σ0 a0 w0 G0)(h1:Φ2.w0=Φ.w0)(h2:Φ2.given=Φ.given)(h3:Φ2.F0=Φ.F0)(h4:Φ2.n=Φ.n)(h5:Φ2.arg=Φ.arg)(h6:Φ2.argb=Φ.argb)
 (hk:∀s,s∉wr->Φ2.keep s=some (a0.tmps.getD s undef))(inv:Inv T Φ2 σ a w G):Inv T Φ (sJ wr σ) a0 w G where
 nd:=inv0.nd
 kp:=inv0.kp
 sz:=inv0.sz
 env s:=by
  show Rv w G (a0.tmps.getD s undef) (cond (memR s wr) .bot (σ.env s));cases hm:memR s wr with
  |true=>exact .bot _
  |false=>
   have:s∉wr:=λh=>by rw[pM.2 h]at hm;cases hm
   have e:=inv.kp s _ (hk s this);rw[<-e];exact inv.env s
 wfE s:=by
  show(cond (memR s wr) V.bot (σ.env s)).ok _ _;cases memR s wr with
  |true=>simp only[TT,V.ok]
  |false=>exact inv.wfE s
 box:=inv.box
 wfB:=inv.wfB
 arr:=inv.arr
 wfA:=inv.wfA
 tag:=inv.tag
 mineB b i h:=by have:=inv.mineB b i h;unfold Fr.mine at*;rw[h1,h2]at this;exact this
 mineA b k h:=by have:=inv.mineA b k h;unfold Fr.mine at*;rw[h1,h2]at this;exact this
 fzm b h:=by have:=inv.fzm b h;unfold Fr.mine at*;rw[h1,h2,h3]at this;exact this
 F0 b h:=inv.F0 b (by rw[h3];exact h)
 frame b hb hg:=by have:=inv.frame b (by rw[h1];exact hb) (by rw[h2];exact hg);rw[h1]at this;exact this
 size:=by have:=inv.size;rw[h1]at this;exact this
 os:=by have:=inv.os;rw[h1]at this;exact this
 tape:=by have:=inv.tape;rw[h1]at this;exact this
 output:=by have:=inv.output;rw[h1]at this;exact this
 args:=by have:=inv.args;rw[h5]at this;exact this
 lay:=inv0.lay
 argb:=by have:=inv.argb;rw[h6]at this;exact this
def Inv.aQ1(inv:Inv T Φ σ a w G)(ds:List Deferred)(h1:Φ2.w0=Φ.w0)(h2:Φ2.given=Φ.given)(h3:Φ2.F0=Φ.F0)(h4:Φ2.n=Φ.n)(h5:Φ2.arg=Φ.arg)(h6:Φ2.argb=Φ.argb)(h7:Φ2.ds=ds)(h8:∀s v,Φ2.keep s=some v->a.tmps.getD s undef=v):Inv T Φ2 σ {a with defers:=ds} w G where
 nd:=h7.symm
 kp:=h8
 sz:=by rw[h4];exact inv.sz
 env:=inv.env
 wfE:=inv.wfE
 box:=inv.box
 wfB:=inv.wfB
 arr:=inv.arr
 wfA:=inv.wfA
 tag:=inv.tag
 mineB b i h:=by have:=inv.mineB b i h;unfold Fr.mine at*;rw[h1,h2];exact this
 mineA b k h:=by have:=inv.mineA b k h;unfold Fr.mine at*;rw[h1,h2];exact this
 fzm b h:=by have:=inv.fzm b h;unfold Fr.mine at*;rw[h1,h2,h3];exact this
 F0 b h:=inv.F0 b (by rw[<-h3];exact h)
 frame b hb hg:=by rw[h1]at hb⊢;rw[h2]at hg;exact inv.frame b hb hg
 size:=by rw[h1];exact inv.size
 os:=by rw[h1];exact inv.os
 tape:=by rw[h1];exact inv.tape
 output:=by rw[h1];exact inv.output
 args:=by rw[h5];exact inv.args
 lay:=by rw[h1,h2,h3];exact inv.lay
 argb:=by rw[h6];exact inv.argb
def aF9{l:Nat}{o:Obj}(hl:G.O l= .ext)(h0:Φ.w0.heap.size<=l):Quiet Φ w (w.putObj l o) G where
 size:=by simp[World.putObj]
 same b hb:=World.putObj_heap_other (by rintro rfl;exact hb hl)
 old b hb:=World.putObj_heap_other Aa
 os:=rfl
 tape:=rfl
 output:=rfl
theorem Le.out(h:Le T σ σ0)(inv:Inv T Φ σ a w G):∃G',Inv T Φ σ0 a w G':=by unfold Le at h;exact h Φ a w G inv
theorem dV2{b:Array Nat}{vs:Array Value}{t:Array Value}:(b.zip vs).foldl (λt (p,v)=>t.setIfInBounds p v) t=(b.toList.zip vs.toList).foldl (λt (p,v)=>t.setIfInBounds p v) t:=by
 rw[<-Array.foldl_toList,Array.toList_zip]
def aV3(o:Obj)(inv:Inv T Φ σ a w G):Quiet Φ w (w.alloc o) G where
 size:=Af
 same b hb:=UG w _ (inv.tag b hb)
 old b hb:=UG w _ (U1 hb inv.size)
 os:=rfl
 tape:=rfl
 output:=rfl
def cI6{n:Nat}{x y:Code}{f:Operand}{g:FuncId}{R:List V}{F:Array Nat}{Q:Exit->St->Prop}(hn:Φ.n=n)
 (b8:∀(Φ:Fr) (ro:Option Nat) (σ:St) (a:Act) (w:World) (G:Gh) (Q:Exit->St->Prop),Φ.n=n->(∀d∈dstsOf x,Φ.keep d=none)->Inv T Φ σ a w G->nH T P n x σ Q->x.wpIn (FW ro) 0 P (Lift T Φ Q) a w)
 (b9:∀(Φ:Fr) (ro:Option Nat) (σ:St) (a:Act) (w:World) (G:Gh) (Q:Exit->St->Prop),Φ.n=n->(∀d∈dstsOf y,Φ.keep d=none)->Inv T Φ σ a w G->nH T P n y σ Q->y.wpIn (FW ro) 0 P (Lift T Φ Q) a w)
 (b0:∀p∈F.toList,p<n)(hk:∀d∈F.toList++(dstsOf x++dstsOf y),Φ.keep d=none)(ax:allR V.still R=true)
 (inv:Inv T Φ σ a w G)(h:aO0 T P f g R F.toList (F.toList++(dstsOf x++dstsOf y)) (nH T P n x) (nH T P n y) σ Q):(Code.rangeFunc f F x y).wpIn (FW none) 0 P (Lift T Φ Q) a w:=by
 obtain⟨ca,ad,bd,A,st,I,⟨p0,bz,h0,hf⟩,aj,a7⟩:=h.out;generalize hwr:F.toList++(dstsOf x++dstsOf y)=wr at*;have b4:∀p∈F.toList,p∈wr:=λp hp=>IA;have b5:∀p∈dstsOf x,p∈wr:=λp hp=>IA;have b6:∀p∈dstsOf y,p∈wr:=λp hp=>IA;obtain⟨G0,inv0⟩:=bz.out inv;have au:=inv0.ev f;rw[hf]at au
 obtain⟨lb,e1,e2,e3⟩:=au.1.fn_cap (by
  cases R with
  |nil=>rfl
  |cons x r=>cases x with
   |ap e l=>have:=dY.1 ax (.ap e l) (UC ..);cases this
   |_=>rfl) (λcs he=>by subst he;have:=dY.1 ax (.own 0 []) (UC ..);cases this)
 have a6:∀(j:Nat) y,R[j]? =some y->y.pure:=λj y hy=>by
  have h2:=au.2;simp only[V.ok]at h2;exact bL0 (dY.1 ax y (Sl hy)) (aH.1 h2 y (Sl hy))
 refine wpIn_rangeFunc ?_;intro fn av;obtain⟨E,K⟩:∃E:LoopState->Option Code->Loop,E=λst pe=> {state:=st,pending:=pe,fn,tmps:=a.tmps,params:=F,assign:=x,body:=y,defers:=w.heap.size}:=⟨_,rfl⟩;obtain⟨U,X⟩:∃U,(w.alloc (.deferred (some []))).alloc (.loop (E .ready none))=U:=⟨_,rfl⟩;obtain⟨l,hl⟩:∃l,l=w.heap.size+1:=⟨_,rfl⟩;obtain⟨D,hD⟩:∃D,D=w.heap.size:=⟨_,rfl⟩;have aq:D≠l:=Aa;have cf:U.heap.size=w.heap.size+2:=by rw[<-X];simp
 have br:U.heap[l]? =some (.loop (E .ready none)):=by
  rw[<-X,hl];have:=World.alloc_heap_new (w.alloc (.deferred (some []))) (.loop (E .ready none));rwa [World.size_alloc]at this
 have bp:U.heap[D]? =some (.deferred (some [])):=by
  rw[<-X,hD];exact(UG _ _ Af).trans (World.alloc_heap_new w _)
 have aw:Φ.w0.heap.size<=l:=by have:=inv.size;omega
 have bn:Φ.w0.heap.size<=D:=by have:=inv.size;omega
 have ae:=inv0.quiet (aV3 (.deferred (some [])) inv0);have an:Inv T Φ (st p0) a U G0:=by rw[<-X];exact ae.quiet (aV3 _ ae)
 have ba:Keep w U G0 G0:=⟨λ_ h=>h,λb hb=>by
  have bt:b<w.heap.size:=inv0.tag b AA;rw[<-X];exact(UG _ _ Bg).trans (UG w _ bt)⟩
 have cd:G0.O l= .ext:=inv0.ext_size Aa;have cc:G0.O D= .ext:=inv0.ext_size Aa;have C:callable P g=true:=ad.1
 have eg:∀args w,(callFunc g args).run P w= .ok (.enter g args) w:=by
  intro args w;unfold callable at C;split at C;rename_i fn av;simp only[SC,bne_iff_ne]at C;have hb:fn.body≠none:=by intro h;rw[h]at C;simp at C
  simp[callFunc,av,hb,C.2];cases C
 refine⟨l,[mark D],U,{target:= .fn (.func g) lb,args:= #[.func (.yield l) #[] #[]]},U,g, #[.func (.yield l) #[] #[]] ++lb,U,?_,?_,?_,?_,λhh=>Fg,?_⟩
 ·rw[<-X,K,hl,hD];exact run_enterLoop_outer _ _ _ _ _
 ·simp only[resolve,e1]
  simp[go_sem]
 ·intro f' _;trivial
 ·simp[invoke,go_sem,eg]
 refine(ad.2 U G0 lb l e2 (λb hb=>by have:=inv0.tag b hb;omega) (λj v y hv hy=>⟨a6 j y hy,(e3 j v y hv hy).aW ba (a6 j y hy)⟩) an.up.lay.1
  (λk W G'=>∃p,I k p/\Inv T Φ (st p) a W G'/\W.heap[l]? =some (.loop (E .ready none))/\W.heap[D]? =some (.deferred (some []))/\G'.O l= .ext/\G'.O D= .ext)
  (λW G'=>∃c e J,((c= .ret/\e= .ret)\/∃i,c= .exit i/\e= .exit i)/\Q e J/\Inv T Φ J a W G'/\W.heap[l]? =some (.loop (E .done (some c)))/\W.heap[D]? =some (.deferred (some []))/\G'.O l= .ext/\G'.O D= .ext)
  ?_ ?_ ?_ ?_ ⟨p0,h0,an,br,bp,cd,cc⟩).mono ?_
 ·rintro k W W' G' ⟨p,q1,q2,q3,q4,q5,q6⟩ S hb ho ht hu
  have ac:l<W.heap.size:=(Tj.1 q3).1;refine⟨p,q1,q2.quiet ⟨S,λb h=>hb b (q2.tag b h) (.inl h),λb h=>hb b (U1 h q2.size) (.inr (by have:=inv.size;omega)),ho,ht,hu⟩,?_,?_,q5,q6⟩
  ·rw[hb l ac (.inr Aa)];exact q3
  ·rw[hb D Aa (.inr Aa)];exact q4
 ·rintro W W' G' ⟨c,e,J,q0,q1,q2,q3,q4,q5,q6⟩ S hb ho ht hu
  have ac:l<W.heap.size:=(Tj.1 q3).1;refine⟨c,e,J,q0,q1,q2.quiet ⟨S,λb h=>hb b (q2.tag b h) (.inl h),λb h=>hb b (U1 h q2.size) (.inr (by have:=inv.size;omega)),ho,ht,hu⟩,?_,?_,q5,q6⟩
  ·rw[hb l ac (.inr Aa)];exact q3
  ·rw[hb D Aa (.inr Aa)];exact q4
 ·rintro k W G' G'' ⟨p,q1,q2,q3,q4,q5,q6⟩ b7 bs hO
  have a4:∀b,b<U.heap.size->G''.O b=G'.O b:=λb hb=>by
   rcases hO b with h|h;exact h;omega
  refine⟨p,q1,?_,q3,q4,by rw[a4 l (by omega)];exact q5,by rw[a4 D (by omega)];exact q6⟩
  have keepO:∀b,G'.O b≠ .ext->G''.O b=G'.O b:=λb hb=>by
   rcases hO b with h|h;exact h;exact absurd h.2.2.1 hb
  refine q2.change rfl ⟨λb hb=>Hf,λ_ _=>rfl⟩ (λi _=>by rw[b7]) (λi g _=>by rw[bs]) (λ_ h=>h) (λ_ _ h=>h)
   (λi cs hi=> .inl ⟨hi,?_,rfl⟩) (λk en hk=> .inl ⟨hk,λb hb=>⟨Hf,rfl⟩⟩) (λb hb=>?_) (λb=>?_) (λb=> .inl rfl) (Sr _) rfl rfl rfl
  ·have:=(q2.box i cs hi).choose_spec.choose_spec.2.2
   rw[keepO _ (by rw[this];simp)];exact this
  ·rcases hO b with h|h
   ·rw[h]at hb;exact q2.tag b hb
   ·exact h.2.1
  ·rcases hO b with h|h
   ·exact .inl h
   ·exact .inr (.inr (.inl (by have:=inv.size;omega)))
 ·
  rintro k W G' vs it ⟨p,hI,u,hL,hK,ol,oD⟩ a9 bi b3;have ac:l<W.heap.size:=(Tj.1 hL).1;have a8:it.length=F.toList.length:=bd it (Sl a9);have hy:=run_yield (P:=P) (args:=vs) hL (by rw[K];show vs.size=F.size;rw[bi,a8];simp);rw[K]at hy;refine⟨fn,_,x,y,hy,roundIn_of_wpIn av ?_⟩;show x.wpIn (FW (some l)) 0 P _ _ _;obtain⟨o,hΦr⟩:∃o:Fr,o={(Φ.at W G')with ds:=[],keep:=λs=> @ite _ (s∈wr) (Classical.propDecidable _) none (some (a.tmps.getD s undef))}:=⟨_,rfl⟩;have ai:∀d∈wr,o.keep d=none:=λd hd=>by rw[hΦr];exact Sj hd
  have ab:∀d,d∉wr->o.keep d=some (a.tmps.getD d undef):=λd hd=>by rw[hΦr];exact RZ hd
  have bh:o.n=n:=by rw[hΦr];exact hn
  have bl:Inv T o ⟨cM2 F.toList it (st p).env,(st p).bx,(st p).ar⟩ {tmps:=(F.zip vs).foldl (λt (p,v)=>t.setIfInBounds p v) a.tmps,defers:=[]} W G':=by
   rw[dV2]
   have:=u.up.aQ1 (Φ2:=o) [] FD FD FD FD FD FD FD (λs v S=>by
    by_cases hm:s∈wr;rw[ai s hm]at S;cases S
    rw[ab s hm]at S;exact TF S)
   exact dJ8 F.toList it vs.toList (st p) {a with defers:=[]} a8.symm (by simpa using bi) (λp hp=>⟨by rw[bh];exact b0 p hp,ai p (b4 p hp)⟩) (λj v y hv hy=>b3 j v y Bd hy) this
  refine Uz (b8 o (some l) _ _ W G' _ bh (λd hd=>ai d (b5 d hd)) bl (aj k p it hI a9)) ?_;rintro e a1 w1 ⟨N,ak,G1,Y,B,cg⟩;cases e with
  |normal=>
   obtain⟨rl,gl⟩:=B.mP (w0:=W) (G0:=G') EW EW EW ac ol;obtain⟨rD,gD⟩:=B.mP (w0:=W) (G0:=G') EW EW EW Aa oD;rw[hL]at rl;rw[hK]at rD;obtain⟨H,L⟩:∃H,H=w1.putObj l (.loop {E .ready none with state:= .busy}):=⟨_,rfl⟩;have be:l<w1.heap.size:=(Tj.1 rl).1;refine⟨H,by rw[L];exact run_beginRound rl (by rw[K]),?_⟩;show y.wpIn (FW (some l)) 0 P _ _ _;have bb:Later Φ {o with ds:=N++o.ds}:=u.aF0.trans (Later.of FD FD FD FD FD FD);have bk:Inv T {Φ with ds:=N++o.ds,keep:=o.keep} ak a1 w1 G1:=u.down bb B rfl rfl rfl rfl rfl rfl rfl rfl;have af:Inv T {Φ with ds:=N++o.ds,keep:=o.keep} ak a1 H G1:=by rw[L];exact bk.quiet (aF9 gl aw)
   have ah:Inv T Φ (sJ wr ak) a H G1:=u.outer (Φ2:={Φ with ds:=N++o.ds,keep:=o.keep}) rfl rfl rfl rfl rfl rfl (λs S=>ab s S) af;have az:H.heap[l]? =some (.loop {E .ready none with state:= .busy}):=by rw[L];exact World.putObj_heap_same be
   have bf:l<H.heap.size:=(Tj.1 az).1;have bq:H.heap[D]? =some (.deferred (some [])):=by rw[L];exact(World.putObj_heap_other aq).trans rD
   have am:∀b,b≠l->H.heap[b]? =w1.heap[b]? :=λb hb=>by rw[L];exact World.putObj_heap_other hb
   refine Uz (b9 (Fr.at {Φ with ds:=N++o.ds,keep:=o.keep} H G1) (some l) ak a1 H G1 _ hn (λd hd=>ai d (b6 d hd)) af.up Y) ?_;rintro e a2 w3 ⟨cb,J,G2,Z,invC,ch⟩;have ag:Inv T (Φ.at H G1) (sJ wr J) a w3 G2:=ah.up.outer (Φ2:={(Fr.at {Φ with ds:=N++o.ds,keep:=o.keep} H G1)with ds:=cb++(N++o.ds)}) rfl rfl rfl rfl rfl rfl (λs S=>ab s S) invC
   have ao:∀(m:Option Code) (al:St) (G3:Gh),Inv T (Φ.at H G1) al a w3 G3->∃M,(Instr.endRound l m).run P w3= .ok (.bool m.isNone) M/\Inv T Φ al a M G3/\M.heap[l]? =some (.loop (E (if m.isNone then .ready else .done) m))/\M.heap[D]? =some (.deferred (some []))/\G3.O l= .ext/\G3.O D= .ext/\xN U W M G' G3:=by
    intro m al G3 z;obtain⟨sl,tl⟩:=z.mP (w0:=H) (G0:=G1) rfl rfl rfl bf gl;obtain⟨sD,tD⟩:=z.mP (w0:=H) (G0:=G1) rfl rfl rfl Aa gD;rw[az]at sl;rw[bq]at sD;have bg:l<w3.heap.size:=(Tj.1 sl).1;have hr:=run_endRound (P:=P) m sl;have b2:({({E .ready none with state:= .busy}:Loop)with state:=if m.isNone then .ready else .done,pending:=m}:Loop)=E (if m.isNone then .ready else .done) m:=by rw[K]
    have b1:(Instr.endRound l m).run P w3= .ok (.bool m.isNone) (w3.putObj l (.loop (E (if m.isNone then .ready else .done) m))):=by rw[<-b2];exact hr
    have bj:Inv T Φ al a w3 G3:=ah.down ah.aF0 z rfl rfl rfl rfl rfl rfl rfl rfl;have ce:W.heap.size<=w1.heap.size/\w1.heap.size=H.heap.size/\H.heap.size<=w3.heap.size:=⟨by have:=B.size;rw[hΦr]at this;exact this,by rw[L];simp[World.putObj],z.size⟩;refine⟨_,b1,bj.quiet (aF9 tl aw),World.putObj_heap_same bg,(World.putObj_heap_other aq).trans sD,tl,tD,⟨⟨λb hb=>?_,λb hb=>?_⟩,?_,λb a5 bu bv=>?_,λb hb=>?_,?_,?_,?_⟩⟩;exact z.F0 b (B.F0 b (by rw[hΦr];exact hb));have aa:b≠l:=by rintro rfl;rw[ol]at hb;cases hb
    have bw:b<W.heap.size:=u.tag b AA
    have f1:w1.heap[b]? =W.heap[b]? :=by
     have:=B.frame b (by rw[hΦr];exact bw) (by rw[hΦr];exact λq=>q.1 hb);rw[hΦr]at this;exact this
    have a5:G1.O b= .fz:=B.F0 b (by rw[hΦr];exact hb);have f2:w3.heap[b]? =H.heap[b]? :=z.frame b (by show b<H.heap.size;omega) (λq=>q.1 a5);rw[World.putObj_heap_other aa,f2,am b aa,f1];simp only[World.putObj,Array.size_setIfInBounds];omega;have aa:b≠l:=by omega
    obtain⟨f1,g1⟩:=B.mP (w0:=W) (G0:=G') EW EW EW bu bv;obtain⟨f2,g2⟩:=z.mP (w0:=H) (G0:=G1) rfl rfl rfl Aa g1;exact⟨by rw[World.putObj_heap_other aa,f2,am b aa,f1],g2⟩;have:=z.tag b hb;simp only[World.putObj,Array.size_setIfInBounds];exact this;have a1:w3.os=H.os:=z.os;have a2:H.os=w1.os:=by rw[L];rfl
    have a3:w1.os=W.os:=by have:=B.os;rw[hΦr]at this;exact this
    exact a1.trans (a2.trans a3);have a1:w3.tape=H.tape:=z.tape;have a2:H.tape=w1.tape:=by rw[L];rfl
    have a3:w1.tape=W.tape:=by have:=B.tape;rw[hΦr]at this;exact this
    exact a1.trans (a2.trans a3);have a1:w3.output=H.output:=z.output;have a2:H.output=w1.output:=by rw[L];rfl
    have a3:w1.output=W.output:=by have:=B.output;rw[hΦr]at this;exact this
    exact a1.trans (a2.trans a3)
   cases e with
   |normal=>
    obtain⟨p',bc,bo⟩:=Z;obtain⟨G3,z⟩:=bc.out ag;obtain⟨M,r1,r2,r3,r4,r5,r6,r7⟩:=ao none _ G3 z;exact⟨_,M,r1, .inl ⟨rfl,G3,⟨p',bo,r2,r3,r4,r5,r6⟩,r7⟩⟩
   |ret=>
    obtain⟨M,r1,r2,r3,r4,r5,r6,r7⟩:=ao (some .ret) _ G2 ag;exact⟨_,M,r1, .inr ⟨rfl,G2,⟨.ret, .ret,_, .inl ⟨rfl,rfl⟩,Z,r2,r3,r4,r5,r6⟩,r7⟩⟩
   |exit id=>
    obtain⟨M,r1,r2,r3,r4,r5,r6,r7⟩:=ao (some (.exit id)) _ G2 ag;exact⟨_,M,r1, .inr ⟨rfl,G2,⟨.exit id, .exit id,_, .inr ⟨id,rfl,rfl⟩,Z,r2,r3,r4,r5,r6⟩,r7⟩⟩
   |goto t=>exact(Z:False).elim
   |panic c=>exact(Z:False).elim
   |outgrown=>exact(Z:False).elim
  |ret=>exact(Y:False).elim
  |exit id=>exact(Y:False).elim
  |goto t=>exact(Y:False).elim
  |panic c=>exact(Y:False).elim
  |outgrown=>exact(Y:False).elim
 ·
  have mk:∀ {W:World} {G':Gh} {J:St} {pe:Option Code} {ay:LoopState},W.heap[l]? =some (.loop (E ay pe))->ay≠ .busy->W.heap[D]? =some (.deferred (some []))->G'.O l= .ext->G'.O D= .ext->Inv T Φ J a W G'->
   ∃M,(Instr.endLoop l).run P W= .ok pe M/\Inv T {Φ with ds:=[mark D] ++Φ.ds} J {a with defers:=[mark D] ++a.defers} M G'/\Marks Φ.w0 M G' [mark D] :=by
   intro W G' J pe ay hL S hK ol oD u;have hr:=run_endLoop (P:=P) hL (by rw[K];exact S);refine⟨_,by rw[K]at hr;exact hr,(u.quiet (aF9 ol aw)).aQ1 _ rfl rfl rfl rfl rfl rfl (by rw[u.nd]) u.kp,[D],rfl,Af,λD' bm=>?_⟩;rw[S9.1 bm];exact⟨bn,(World.putObj_heap_other aq).trans hK,oD⟩
  rintro e W ⟨⟨v,rfl⟩,(⟨G',p,hI,u,hL,hK,ol,oD⟩|⟨G',c,e,J,hc,hq,u,hL,hK,ol,oD⟩)⟩
  ·obtain⟨M,r1,r2,r3⟩:=mk hL Af hK ol oD u
   exact⟨none,M,r1,[mark D],st p,G',a7 p hI,r2,r3⟩
  ·obtain⟨M,r1,r2,r3⟩:=mk hL Af hK ol oD u
   refine⟨some c,M,r1,?_⟩;rcases hc with⟨rfl,rfl⟩|⟨i,rfl,rfl⟩
   ·exact wpIn_ret ⟨[mark D],J,G',hq,r2,r3⟩
   ·exact wpIn_exit ⟨[mark D],J,G',hq,r2,r3⟩
end
section
variable{T:Tab}{P:Program}{Φ:Fr}{σ:St}{a:Act}{w w':World}{G G':Gh}{K:VK}{o:Oper}{d:Nat}
def aS6{b:Md}{n:Nat}{ops:List Oper}{K:St->Prop}:∀(l:List Oper) (σ:St),aY0 T P b n ops l σ.env σ.bx σ.ar K->Run T P b n ops l σ K:=by
 intro l;induction l with
 |nil=>intro σ h;exact h
 |cons o r g=>
  intro σ h;have f:bH0 T P b n ops o (aY0 T P b n ops r) σ.env σ.bx σ.ar K:=h;exact(aX6 f).mono (λ_ _ _ c=>aR8 c) (λe c=>g e c)
def aK7{b:Type}{l m:List b}{x:b}:x∈appR l m↔x∈l\/x∈m:=by rw[bT,Sz]
def wpIn_loop_ghost{F:Fence}{n:Nat}{Q:Exit->Act->World->Prop}{c:Code}(I:Nat->Act->World->Prop)(b:Nat)(i:I b a w)
 (round:∀h a w,I h a w->c.wpIn F n P (Exit.then (λj w'=>∃m,m<h/\I m j w') Q) a w):(Code.loop c).wpIn F n P Q a w:=by
 refine wpIn_loop (λa w=>∃n,I n a w) (λa w=>leastOf (λn=>I n a w)) ⟨b,i⟩ ?_;intro a w p;refine Uz (round _ a w (leastOf_spec p).1) ?_;intro e j w' g;cases e with
 |normal=>
  obtain⟨h,k,f⟩:=g;exact show(∃n,I n j w')/\leastOf (λn=>I n j w')<leastOf (λn=>I n a w)from⟨⟨h,f⟩,Nat.lt_of_le_of_lt ((leastOf_spec ⟨h,f⟩).2 h f) k⟩
 |exit id=>exact g
 |goto l=>exact g
 |ret=>exact g
 |panic q=>exact g
 |outgrown=>exact g
def oK{b:Frame}{k:List Item}{cs:List Frame}{c:Code}:step P (lone (b.atR a (.code (.scope c)::k)) cs w)= .next (lone (b.atR a (.code c:: .inScope c::k)) cs w):=
 step_lone_go (by simp[stepG,stepG.exec,Frame.atR])
def bN3{b:Frame}{k:List Item}{cs:List Frame}{c:Code}:step P (lone (b.atR a (.inScope c::k)) cs w)= .next (lone (b.atR a k) cs w):=
 step_lone_go (by simp[stepG,stepG.exec,Frame.atR])
def bE2{F:Fence}{n:Nat}{c:Code}{Q:Exit->Act->World->Prop}(h:c.wpIn F n P (λe a w=>match e with| .goto _=>False|e=>Q e a w) a w):(Code.scope c).wpIn F n P Q a w:=by
 intro b k cs v r t;have m:(lone (b.atR a (.code (.scope c)::k)) cs w).fenced P F:=fenced_calm r t rfl;obtain⟨e,g,i,p,f⟩:=h b (.inScope c::k) cs v r t;cases e with
 |normal=>exact⟨.normal,g,i,p, .head m oK (StepsIn.trans f (.one (fenced_calm r t rfl) bN3))⟩
 |exit j=>
  have x:exitTo j (.inScope c::k)=exitTo j k:=by simp[exitTo]
  exact⟨.exit j,g,i,p,λA s=> .head m oK (f.1 A (by rw[x];exact s)),
   λu s=>let⟨q,y,z⟩:=f.2 u (by rw[x];exact s);⟨q,y, .head m oK z⟩⟩
 |goto l=>exact p.elim
 |ret=>exact⟨_,g,i,p, .of_steps (.one m oK) f⟩
 |panic B=>exact⟨_,g,i,p, .of_steps (.one m oK) f⟩
 |outgrown=>exact⟨_,g,i,p, .of_steps (.one m oK) f⟩
def cZ2(hT:bP T P)(hm:P.follows .mixedOrders=true){n:Nat}(c:Code):∀(Φ:Fr) (k:Option Nat) (σ:St) (a:Act) (w:World) (G:Gh) (Q:Exit->St->Prop),(k=none\/iC c=true)->Φ.n=n->(∀d∈dstsOf c,Φ.keep d=none)->Inv T Φ σ a w G->nH T P n c σ Q->c.wpIn (FW k) 0 P (Lift T Φ Q) a w:=by
 induction c with
 |skip=>intro Φ k σ a w G Q _ _ _ inv h;exact wpIn_skip (Lift.of h inv)
 |region id ops ac=>
  intro Φ k σ a w G Q _ v u inv h;subst v;have ae:∀o∈ops.toList,∀d,o.dst=some d->Φ.keep d=none:=λo ho d I=>u d (dP9 ho I);obtain⟨env,bx,ar⟩:=σ;cases ac with
  |false=>
   have r:aY0 T P .free Φ.n ops.toList ops.toList env bx ar (Q .normal):=h;have hr:=aS6 ops.toList ⟨env,bx,ar⟩ r;exact wpIn_region_list (eB0 hT rfl k (λq J w' G' u j=>Lift.of u j) ops.toList _ a w G ae inv hr)
  |true=>
   have r:aC9 T env ops.toList (λhv=>aY0 T P (.drawn hv) Φ.n ops.toList ops.toList env bx ar (Q .normal)):=h;replace r:=r.out;obtain⟨cl,hv,h0,Y,h2⟩:=r;have hr:=aS6 ops.toList ⟨env,bx,ar⟩ h2;exact bC4 hT k hm rfl ae Y (dC3 inv.wfE h0) (λq J w' G' u j=>Lift.of u j) id inv hr
 |seq x y F H=>
  intro Φ k σ a w G Q t v u inv h;have r:dG2 T (nH T P n x) (nH T P n y) σ Q:=h;replace r:=r.out;have M:∀d∈dstsOf x,Φ.keep d=none:=λd I=>u d (aK7.2 (.inl I));have N:∀d∈dstsOf y,Φ.keep d=none:=λd I=>u d (aK7.2 (.inr I));have S:k=none\/iC x=true:=t.imp id λhh=>LK;have U:k=none\/iC y=true:=t.imp id λhh=>LK;refine wpIn_seq ?_;rcases r with Y|⟨C,Y,h2⟩;refine Uz (F Φ k σ a w G _ S v M inv Y) ?_;rintro e J w' ⟨A,q,G',B,j,mk⟩;cases e with
  |normal=>exact Uz (H (Fr.at {Φ with ds:=A++Φ.ds} w' G') k q J w' G' Q U v N j.up B) (λe a w h=>Lift.back j mk h)
  |_=>exact⟨A,q,G',B,j,mk⟩
  refine Uz (F Φ k σ a w G _ S v M inv Y) ?_;rintro e J w' ⟨A,q,G',B,j,mk⟩;cases e with
  |normal=>
   obtain⟨p,Z,ad⟩:=B;obtain⟨G2,z⟩:=Z.out j.up;have E:=j.down j.aF0 z rfl rfl rfl rfl rfl rfl rfl rfl
   have aa:Marks Φ.w0 w' G2 A:=by
    obtain⟨Ds,e1,e2,e3⟩:=mk;refine⟨Ds,e1,e2,λD hD=>?_⟩;obtain⟨q1,q2,q3⟩:=e3 D hD;exact⟨q1,q2,(z.mP (w0:=w') (G0:=G') rfl rfl rfl (Tj.1 q2).1 q3).2⟩
   exact Uz (H (Fr.at {Φ with ds:=A++Φ.ds} w' G2) k _ J w' G2 Q U v N E.up (h2 p ad)) (λe a w h=>Lift.back E aa h)
  |_=>exact⟨A,q,G',B,j,mk⟩
 |cond c x y F H=>
  intro Φ k σ a w G Q t v u inv h
  have r:(match σ.ev c with
   | .lit (.bool b)=>branch b (nH T P n x σ Q) (nH T P n y σ Q)
   |_=>False):=h
  have M:∀d∈dstsOf x,Φ.keep d=none:=λd I=>u d (aK7.2 (.inl I));have N:∀d∈dstsOf y,Φ.keep d=none:=λd I=>u d (aK7.2 (.inr I));have S:k=none\/iC x=true:=t.imp id λhh=>LK;have U:k=none\/iC y=true:=t.imp id λhh=>LK;have he:=(inv.ev c).1;split at r;rename_i b hb;rw[hb]at he;cases b with
  |true=>exact wpIn_cond_true he.bH (F Φ k σ a w G Q S v M inv r)
  |false=>exact wpIn_cond_false he.bH (H Φ k σ a w G Q U v N inv r)
  exact r.elim
 |block id c ih=>
  intro Φ k σ a w G Q t v u inv h;refine wpIn_block (Uz (ih Φ k σ a w G _ t v u inv h) ?_);rintro e J w' ⟨A,q,G',B,j,mk⟩;cases e with
  |exit i=>
   have O:cond (Nat.beq i id) (Q .normal q) (Q (.exit i) q):=B;show Exit.inBlock id (Lift T Φ Q) (.exit i) J w';by_cases hi:i=id;subst hi;have hb:Nat.beq i i=true:=Nat.beq_refl i;rw[hb]at O;simp only[Exit.inBlock,Uu];exact⟨A,q,G',O,j,mk⟩;have hb:Nat.beq i id=false:=by rw[<-Uy,Uo];exact hi
   rw[hb]at O;simp only[Exit.inBlock,RZ hi];exact⟨A,q,G',O,j,mk⟩
  |_=>exact⟨A,q,G',B,j,mk⟩
 |loop c ih=>
  intro Φ k σ a w G Q t v u inv h;have r:bI0 T (nH T P n c) σ Q:=h;replace r:=r.out;obtain⟨L,⟨p0,af,aj⟩,R⟩:=r;obtain⟨G0,inv0⟩:=af.out inv;refine wpIn_loop_ghost (λn a w=>∃p A G,L.m p=n/\L.inv p/\Inv T {Φ with ds:=A++Φ.ds} (L.st p) a w G/\Marks Φ.w0 w G A) (L.m p0) ⟨p0,[],G0,rfl,aj,inv0,Marks.nil _ _ _⟩ ?_;rintro n' J w' ⟨p,A,G1,rfl,hi,X,mk⟩;refine Uz (ih (Fr.at {Φ with ds:=A++Φ.ds} w' G1) k _ J w' G1 _ t v u X.up (R p hi)) ?_;rintro e a2 w2 hL;obtain⟨ab,q,G',B,j,ah⟩:=Lift.back X mk hL;cases e with
  |normal=>
   obtain⟨p',Z,ai,ak⟩:=B;obtain⟨G2,z⟩:=Z.out j.up;have E:=j.down j.aF0 z rfl rfl rfl rfl rfl rfl rfl rfl
   have aa:Marks Φ.w0 w2 G2 ab:=by
    obtain⟨Ds,e1,e2,e3⟩:=ah;refine⟨Ds,e1,e2,λD hD=>?_⟩;obtain⟨q1,q2,q3⟩:=e3 D hD;exact⟨q1,q2,(z.mP (w0:=w2) (G0:=G') rfl rfl rfl (Tj.1 q2).1 q3).2⟩
   exact⟨L.m p',ak,p',ab,G2,rfl,ai,E,aa⟩
  |_=>exact⟨ab,q,G',B,j,ah⟩
 |rangeFunc f ps x y F H=>
  intro Φ k σ a w G Q t v u inv h
  have ag:k=none:=by
   rcases t with h|h;exact h;cases(h:false=true)
  subst ag
  have r:(match σ.ev f with
   | .fn g W=>cond (allR V.still W) (cond (iC x) (cond (iC y) (cond (allR (λp=>Nat.blt p n) ps.toList) (aO0 T P f g W ps.toList (appR ps.toList (appR (dstsOf x) (dstsOf y))) (nH T P n x) (nH T P n y) σ Q) False) False) False) False
   |_=>False):=h
  split at r;obtain⟨Y,r⟩:=aT r;obtain⟨h2,r⟩:=aT r;obtain⟨h3,r⟩:=aT r;obtain⟨h4,r⟩:=aT r;rw[bT,bT]at r;refine cI6 v (λΦ k σ a w G Q=>F Φ k σ a w G Q (.inr h2)) (λΦ k σ a w G Q=>H Φ k σ a w G Q (.inr h3)) (λp hp=>blt (dY.1 h4 p hp)) ?_ Y inv r;intro d I;refine u d ?_;show d∈appR ps.toList (appR (dstsOf x) (dstsOf y));rw[bT,bT];exact I;exact r.elim
 |exit id=>intro Φ k σ a w G Q _ _ _ inv h;exact wpIn_exit (Lift.of h inv)
 |scope c ih=>
  intro Φ k σ a w G Q t v u inv h;refine bE2 (Uz (ih Φ k σ a w G _ t v u inv h) ?_);rintro e J w' ⟨A,q,G',B,j,mk⟩;cases e with
  |goto l=>exact B.elim
  |_=>exact⟨A,q,G',B,j,mk⟩
 |label l=>intro Φ k σ a w G Q _ _ _ inv h;exact wpIn_label (Lift.of h inv)
 |goto l=>intro Φ k σ a w G Q _ _ _ inv h;exact(h:False).elim
 |ret=>intro Φ k σ a w G Q _ _ _ inv h;exact wpIn_ret (Lift.of h inv)
 |refuse s=>intro Φ k σ a w G Q _ _ _ inv h;exact(h:False).elim
def cL7{f:Func}{R:Ending->World->Prop}{u:FrameMode}(m:u≠ .run){tmps:Array Value}:∀(c:List Deferred) (w:World),Inv T Φ σ a w G->Φ.ds=[]->a.tmps=tmps->Marks Φ.w0 w G c->(∀w',Inv T Φ σ a w' G->LeavesInM (FW none) 0 P f tmps R [] u w')->LeavesInM (FW none) 0 P f tmps R c u w:=by
 intro c;induction c with
 |nil=>intro w inv _ _ _ h;exact h w inv
 |cons d c n=>
  intro w inv j l mk h;obtain⟨e,b,g,i⟩:=mk;cases e with
  |nil=>cases b
  |cons D e=>
   rw[Tq]at b;injection b with e0 b;subst e0;obtain⟨q,r,s⟩:=i D Af;refine⟨m, .inl ⟨D,_,rfl,run_takeDeferred r,?_⟩⟩;refine n _ (inv.quiet (aF9 s q)) j l ⟨e,b,(List.nodup_cons.1 g).2,λt k=>?_⟩ h
   grind [Ud,World.putObj_heap_other,List.nodup_cons]
def wM(z:bP T P)(D:P.follows .mixedOrders=true){f:FuncId}{k:Func}{c:Code}{args:Array Value}{Q:Exit->St->Prop}{R:Ending->World->Prop}(C:P.funcs[f]? =some k)(A:k.body=some c)(q:Φ.ds=[])(t:Φ.keep=λ_=>none)(E:Φ.n=k.ntmps)
 (inv:Inv T Φ σ {tmps:=args++Array.replicate (k.ntmps-args.size) undef,defers:=[]} w G)(h:nH T P k.ntmps c σ Q)
 (l:∀(e:Exit) (b:St) (j:Act) (w':World) (G':Gh),Q e b->Inv T Φ b j w' G'->(e= .normal\/e= .ret)/\∃v,(results k j.tmps).run P w'= .ok v w'/\R (.returned v) w'):Calls P f args w R:=by
 refine bD0.1 (callsIn_of_wp_marks (F:=FW none) C A trivial (Uz (cZ2 z D c Φ none σ _ w G Q (.inl rfl) E (λd _=>by rw[t]) inv h) ?_) rfl);rintro e j w' ⟨y,b,G',u,g,mk⟩;have i:Inv T Φ b {j with defers:=[]} w' G':=g.aQ1 [] rfl rfl rfl rfl rfl rfl q (λs v x=>by rw[t]at x;cases x)
 have r:j.defers=y:=by
  have:=g.nd;rw[q]at this;simpa using this
 obtain⟨B,_⟩:=l e b _ w' G' u i
 have done:LeavesInM (FW none) 0 P k j.tmps R j.defers .returning w':=by
  rw[r];refine cL7 Af y w' i q rfl mk λH m=>?_;exact(l e b _ H G' u m).2
 rcases B with rfl|rfl
 ·exact done
 ·exact done
def gG2{w:World}{G:Gh}{v:Value}{b:List V}(h:∀q,b≠ .bot::q):Rr T w G v (.tup b)=∃vs:Array Value,v= .tuple vs/\vs.size=b.length/\∀(j:Nat) u y,vs[j]? =some u->b[j]? =some y->Rb T w G j u y:=by
 simp_all [Rr]
def gB6{ar:Nat->Option AE}{ys xs:List V}(h:iQ T ar ys xs):∀q,ys≠ .bot::q:=by
 rintro q rfl;cases xs with
 |nil=>exact h.elim
 |cons x xr=>exact(h.1:False)
def cF9(inv:Inv T Φ σ a w G){xs ys:List V}(e:iQ T σ.ar ys xs)(l:iR xs ys=true)(vs:List Value)(A:∀(i:Nat) v x,vs[i]? =some v->xs[i]? =some x->Rv w G v x/\x.ok σ.hasB σ.hasA):
 ∃Gc:Gh,(∀(j:Nat) v y,vs[j]? =some v->ys[j]? =some y->Rb T w Gc j v y)/\(∀b,G.O b= .fz->Gc.O b= .fz)/\(∀b i,Gc.O b≠ .bx i)/\(∀b,Gc.O b≠ .ext->(G.O b= .fz/\Gc.O b= .fz)\/∃k,G.O b= .ar k):=by
 obtain⟨hlen,I⟩:=qM e;simp only[iR,SC]at l;have L:=uU.1 l.1
 have s:∀k∈bD ys xs,k∉bK ys xs:=λk hk Q=>by
  grind [dY,pM]
 generalize z:bD ys xs=ok at*;generalize N:bK ys xs=D at*;let f:Nat->Nat:=λk=> @dite _ (∃j,zW xs ys j k) (Classical.propDecidable _) (λh=>h.choose) (λ_=>0)
 have n:∀ {j k},zW xs ys j k->f k=j:=by
  intro j k M;have H:∃j,zW xs ys j k:=⟨j,M⟩;grind [aK3]
 let Gc:Gh:={G with O:=λb=>match G.O b with| .fz=> .fz| .ar k=>if k∈D then .fz else if k∈ok then .ar (f k)else .ext|_=> .ext};have c:∀b,G.O b= .fz->Gc.O b= .fz:=λb hb=>BP;have B:∀b i,G.O b= .bx i->Gc.O b= .ext:=λb i hb=>BP;have r:∀b,G.O b= .ext->Gc.O b= .ext:=λb hb=>BP;have C:∀b k,G.O b= .ar k->k∈D->Gc.O b= .fz:=λb k hb hk=>DV
 have g:∀b k,G.O b= .ar k->k∈ok->Gc.O b= .ar (f k):=λb k hb hk=>by
  grind
 have t:Keep w w G Gc:=⟨c,λ_ _=>rfl⟩;refine⟨Gc,?_,c,?_,?_⟩
 ·intro j v y hv hy
  have J:j<xs.length:=Ff;have q:xs[j]? =some xs[j] :=RY J;obtain⟨E,F⟩:=A j v _ hv q;refine aJ2 inv t (I j _ y q hy) E F (λu k hk b hb=>?_) (λu k hk b hb=>?_)
  ·grind [nP]
  ·have m:k∈ok:=by rw[<-z];exact oZ.2 ⟨j,_,y,q,hy,u,hk⟩
   rw[g b k hb m,n ⟨_,y,q,hy,u,hk⟩]
 ·grind
 ·grind
def aE3(a:Act):ResultVar->Sem Value
 | .tmp t=>pure (a.tmps.getD t undef)
 | .cell b t=>do loadVar t (<-asAddr (a.tmps.getD b undef))
def aQ5(y:bP T P)(inv:Inv T Φ σ a w G):∀(g:List ResultVar) (K:List V->Prop),aH3 T σ g K->
 ∃(xs:List V) (vs:List Value),K xs/\vs.length=xs.length/\vs.length=g.length/\(∀(i:Nat) v x,vs[i]? =some v->xs[i]? =some x->Rv w G v x/\x.ok σ.hasB σ.hasA)/\
  (g.mapM (aE3 a)).run P w= .ok vs w:=by
 intro g;induction g with
 |nil=>intro K h;exact⟨[],[],h,rfl,rfl,λi v x hv=>by simp at hv,Af⟩
 |cons x r C=>
  intro K h
  have f:∀(v:V) (u:Value),Rv w G u v->v.ok σ.hasB σ.hasA->(aE3 a x).run P w= .ok u w->(aH3 T σ r λvs=>K (v::vs))->
   ∃(xs:List V) (vs:List Value),K xs/\vs.length=xs.length/\vs.length=(x::r).length/\(∀(i:Nat) v x,vs[i]? =some v->xs[i]? =some x->Rv w G v x/\x.ok σ.hasB σ.hasA)/\
    ((x::r).mapM (aE3 a)).run P w= .ok vs w:=by
   intro v u hv F c e;obtain⟨xs,vs,q,h2,s,D,E⟩:=C _ e;refine⟨v::xs,u::vs,q,Ie,by simp[s],?_,?_⟩
   ·grind
   ·simp_all
  cases x with
  |tmp t=>
   have j:force (σ.env t) (λv=>aH3 T σ r λvs=>K (v::vs)):=h;rw[force_eq]at j;exact f _ _ (inv.env t) (inv.wfE t) (by simp[aE3]) j
  |cell b t=>
   have j:cond (Nat.blt t (T.n t)) (pW (T.row t) σ (σ.env b) λv _=>aH3 T σ r λvs=>K (v::vs)) False:=h;obtain⟨B,h2⟩:=aT j;obtain⟨m,v',v,z,c,A,hv,l⟩:=cG1 y inv t (.tmp b) (blt B) h2;have k:a.tmps.getD b undef= .pointer (some m):=z;exact f v v' hv l (by simp only[aE3,k,asAddr,TJ,Ub,SQ,c]) A
def aI1(vs:List Value):Value:=match vs with| [v] =>v|vs=> .tuple vs.toArray
def aD1{b:Func}{vs:List Value}(h:(b.results.toList.mapM (aE3 a)).run P w= .ok vs w):
 (results b a.tmps).run P w= .ok (aI1 vs) w:=by
 have c:(b.results.mapM (aE3 a)).run P w= .ok vs.toArray w:=by
  simp_all [Array.mapM_eq_mapM_toList,SQ]
 have e:(results b a.tmps)=(do let vs<-b.results.mapM (aE3 a);pure (if h:vs.size=1 then vs[0]else .tuple vs)):=by
  unfold results;congr 1
 rw[e];simp only[TJ,c,SQ,Ub];congr 1;match vs with
 | [] =>rfl
 | [v] =>rfl
 |v::u::r=>simp;rfl
theorem lY:∀(ys:List V) (j s:Nat),pF ys j s=if j<=s then(match ys[s-j]? with|some y=>cond (linear y) (.arr s 0) y|none=> .tup [])else .tup [] :=by
 intro ys;induction ys with
 |nil=>intro j s;show V.tup [] =_;split<;>simp
 |cons y r ih=>
  intro j s;show cond (Nat.beq s j) (cond (linear y) (.arr j 0) y) (pF r (j+1) s)=_;by_cases e:s=j;simp_all;exact MB
theorem gY:∀(ys:List V) (j s:Nat),jK ys j s=if j<=s then(match ys[s-j]? with|some (.own e l)=>some ⟨0, .own,e,l⟩|some (.ap e l)=>some ⟨0, .ap,e,l⟩|_=>none)else none:=by
 intro ys;induction ys with
 |nil=>intro j s;show none=_;split<;>simp
 |cons y r ih=>
  intro j s;show cond (Nat.beq s j) (match y with| .own e l=>some (⟨0, .own,e,l⟩:AE)| .ap e l=>some ⟨0, .ap,e,l⟩|_=>none) (jK r (j+1) s)=_;by_cases e:s=j;subst e;rw[show Nat.beq s s=true from Nat.beq_refl s];grind;exact MB
def eH1(M:bP T P)(hm:P.follows .mixedOrders=true){f:FuncId}{fn:Func}(hf:P.funcs[f]? =some fn)(Q:callable P f=true){ys:List V}{r:V}(hn:ys.length<=fn.ntmps)(h:fnVC T P fn ys r):Spec T P f ys r:=by
 refine⟨Q,?_⟩;intro w G cs hcs L N F ab;unfold fnVC at h;split at h
 ·rename_i c hb
  let Φ:Fr:=⟨w,λb=>∃j,G.O b= .ar j,λb=>G.O b= .fz,fn.ntmps,λ_=>none,λ_=>none,[],λ_=>none⟩;let G0:Gh:={G with av:=λk _=>cs.getD k undef};have hkeep:Keep w w G G0:=⟨λ_ h=>h,λ_ _=>rfl⟩
  have hrb:∀(j:Nat) y,ys[j]? =some y->Rb T w G j (cs.getD j undef) y:=by
   intro j y hy;have hj:j<cs.size:=BM;exact F j _ y Iz hy
  have ac:∀ {j u e l},gJ T w G j u e l->u.oneCell'=true:=by
   intro j u e l h;exact OY
  have aa:∀ {u l},Rv w G u (.cap l)->u.oneCell'=true:=by
   intro u l h;exact Py
  have inv:Inv T Φ (uD ys) {tmps:=cs++Array.replicate (fn.ntmps-cs.size) undef,defers:=[]} w G0:=by
   constructor;rfl;intro s v h;cases h;grind;intro s;exact Pg;intro s;exact P7;intro i cs' hi;exact O4;intro i cs' hi;exact O4;intro k en hen;exact O6;intro k en hen;exact O7;exact L;intro b i hb;exact absurd hb (N b i);intro b k hb;exact .inr ⟨k,hb⟩;intro b hb;exact .inl hb;intro b hb;exact hb;intro b _ _;rfl;exact Sr _;rfl;rfl;rfl;intro j v h;cases h;grind;intro i b h;cases h
  refine wM M hm hf hb (Φ:=Φ) rfl rfl rfl inv h ?_
  have fin:∀(e:Exit) (σ:St) (a':Act) (w':World) (G':Gh),dF3 T σ fn.results.toList r->Inv T Φ σ a' w' G'->∃v,(results fn a'.tmps).run P w'= .ok v w'/\∃v0 g,(Ending.returned v= .returned v0)/\Rr T w' g v0 r/\
   (∀b,G.O b= .fz->g.O b= .fz)/\(∀b,g.O b≠ .ext->b<w'.heap.size)/\(∀b i,g.O b≠ .bx i)/\
   (∀b,g.O b≠ .ext->(G.O b= .fz/\g.O b= .fz)\/w.heap.size<=b\/∃j,G.O b= .ar j)/\
   (∀b,b<w.heap.size->(∀j,G.O b≠ .ar j)->w'.heap[b]? =w.heap[b]?)/\
   w.heap.size<=w'.heap.size/\w'.os=w.os/\w'.tape=w.tape/\w'.output=w.output:=by
   intro e σ a' w' G' m inv';rcases m.out with m|m;rotate_left
   ·obtain⟨xs,vs,H,z,R,I,B⟩:=aQ5 M inv' _ _ m
    have A:=aD1 B;refine⟨aI1 vs,A,aI1 vs,?_⟩
    have frame:(∀b,b<w.heap.size->(∀j,G.O b≠ .ar j)->w'.heap[b]? =w.heap[b]?)/\w.heap.size<=w'.heap.size/\w'.os=w.os/\w'.tape=w.tape/\w'.output=w.output:=
     ⟨λb hb hj=>inv'.frame b hb (λ⟨j,h⟩=>hj j h),inv'.size,inv'.os,inv'.tape,inv'.output⟩
    split at H
    ·obtain⟨n,cs,rfl,rfl,C,J⟩:=H
     obtain⟨v,rfl⟩:∃v,vs=[v] :=UH.1 z;obtain⟨X,Y⟩:=I 0 v (.agg cs) rfl rfl
     obtain⟨E,rfl,hl,ho,Q⟩:∃E:Array Value,v= .agg E/\E.size=cs.length/\(∀c∈E,c.oneCell'=true)/\∀(i:Nat) c x,E[i]? =some c->cs[i]? =some x->Rv w' G' c x:=by
      cases X<;>grind
     have W:=aH.1 (by simpa only[V.ok]using Y:V.okL σ.hasB σ.hasA cs);obtain⟨g,q1,q2,q3,q4⟩:=cF9 inv' C J E.toList (λi u x hu hx=>⟨Q i u x Ba hx,W x (Sl hx)⟩);have D:=(qM C).1;refine⟨g,rfl,⟨E,rfl,Aa,ho,λj u y hu hy=>q1 j u y Ba hy⟩,λb hb=>q2 b (inv'.F0 b hb),λb hb=>inv'.tag b ?_,q3,λb hb=>?_,frame⟩
     ·grind
     ·exact JK
    ·exact H.elim
   obtain⟨xs,vs,H,z,R,I,B⟩:=aQ5 M inv' _ _ m;have A:=aD1 B;refine⟨aI1 vs,A,aI1 vs,?_⟩
   have t:∀(n:List V),iQ T σ.ar n xs->iR xs n=true->∃g:Gh,(∀(j:Nat) v y,vs[j]? =some v->n[j]? =some y->Rb T w' g j v y)/\
    (∀b,G.O b= .fz->g.O b= .fz)/\(∀b,g.O b≠ .ext->b<w'.heap.size)/\(∀b i,g.O b≠ .bx i)/\
    (∀b,g.O b≠ .ext->(G.O b= .fz/\g.O b= .fz)\/w.heap.size<=b\/∃j,G.O b= .ar j):=by
    intro n h1 h2;obtain⟨Gc,q1,q2,q3,q4⟩:=cF9 inv' h1 h2 vs I;refine⟨Gc,q1,λb hb=>q2 b (inv'.F0 b hb),λb hb=>inv'.tag b ?_,q3,λb hb=>?_⟩
    ·grind
    ·exact JK
   have frame:(∀b,b<w.heap.size->(∀j,G.O b≠ .ar j)->w'.heap[b]? =w.heap[b]?)/\w.heap.size<=w'.heap.size/\w'.os=w.os/\w'.tape=w.tape/\w'.output=w.output:=
    ⟨λb hb hj=>inv'.frame b hb (λ⟨j,h⟩=>hj j h),inv'.size,inv'.os,inv'.tape,inv'.output⟩
   split at H
   ·rename_i x
    obtain⟨C,J,g3⟩:=H;obtain⟨g,q1,q2,q3,q4,Z⟩:=t [r] C J;match vs,z with
    | [v],_=>
      refine⟨g,rfl,?_,q2,q3,q4,Z,frame⟩;exact Ql
   ·rename_i U
    obtain⟨n,rfl,C,J⟩:=H;obtain⟨g,q1,q2,q3,q4,Z⟩:=t n C J;have D:=(qM C).1;refine⟨g,rfl,?_,q2,q3,q4,Z,frame⟩;have S:∀q,n≠ .bot::q:=gB6 C;rw[gG2 S];refine⟨vs.toArray,?_,by simp[z,D],λj u y hu hy=>q1 j u y Ba hy⟩;match vs,xs,z with
    | [],_,_=>rfl
    | [v],[x],_=>exact absurd rfl (U x)
    |v::u::rr,_,_=>rfl
  intro e σ a' w' G' hq inv';exact NW
 exact h.elim
def cE4(hT:bP T P)(hm:P.follows .mixedOrders=true){f:FuncId}{fn:Func}(hf:P.funcs[f]? =some fn)(hc:callable P f=true){ys:List V}{r:V}(hn:ys.length<=fn.ntmps){g:Nat}{B:TypeId}{lo li:List V}(W:g<8)(aa:ys[g]? =some (.own B li))(h:fnIO T P fn ys r g B lo):bE5 T P f ys r g B lo:=by
 refine⟨hc,?_⟩;intro w G cs hcs M U D ac;unfold fnIO at h;split at h;rename_i c hb;let Φ:Fr:=⟨w,λb=>∃j,G.O b= .ar j,λb=>G.O b= .fz,fn.ntmps,λj=>if j=g then some (cs.getD g undef)else none,λ_=>none,[],λ_=>none⟩;let G0:Gh:={G with av:=λk _=>cs.getD k undef};have hkeep:Keep w w G G0:=⟨λ_ h=>h,λ_ _=>rfl⟩
 have hrb:∀(j:Nat) y,ys[j]? =some y->Rb T w G j (cs.getD j undef) y:=by
  intro j y hy;have hj:j<cs.size:=BM;exact D j _ y Iz hy
 have Q:∀ {j u e l},gJ T w G j u e l->u.oneCell'=true:=by
  intro j u e l h;exact OY
 have ab:∀ {u l},Rv w G u (.cap l)->u.oneCell'=true:=by
  intro u l h;exact Py
 have inv:Inv T Φ (uD ys) {tmps:=cs++Array.replicate (fn.ntmps-cs.size) undef,defers:=[]} w G0:=by
  constructor;rfl;intro s v h;cases h;grind;intro s;exact Pg;intro s;exact P7;intro i cs' hi;exact O4;intro i cs' hi;exact O4;intro k en hen;exact O6;intro k en hen;exact O7;exact M;intro b i hb;exact absurd hb (U b i);intro b k hb;exact .inr ⟨k,hb⟩;intro b hb;exact .inl hb;intro b hb;exact hb;intro b _ _;rfl;exact Sr _;rfl;rfl;rfl;intro j v h;have h':(if j=g then some (cs.getD g undef)else none)=some v:=h;split at h';rename_i e;subst e;cases h';refine⟨rfl,W,?_⟩;show∃en,jK ys 0 j=some en;rw[gY];simp_all;cases h';grind;intro i b h;cases h
 refine wM hT hm hf hb (Φ:=Φ) rfl rfl rfl inv h ?_
 have fin:∀(e:Exit) (σ:St) (a':Act) (w':World) (G':Gh),dC6 T σ fn.results.toList r g B lo->Inv T Φ σ a' w' G'->∃v,(results fn a'.tmps).run P w'= .ok v w'/\∃v0 m,(Ending.returned v= .returned v0)/\(Rr T w' m v0 r/\IoX T g B lo cs w' m)/\
  (∀b,G.O b= .fz->m.O b= .fz)/\(∀b,m.O b≠ .ext->b<w'.heap.size)/\(∀b i,m.O b≠ .bx i)/\
  (∀b,m.O b≠ .ext->(G.O b= .fz/\m.O b= .fz)\/w.heap.size<=b\/∃j,G.O b= .ar j)/\
  (∀b,b<w.heap.size->(∀j,G.O b≠ .ar j)->w'.heap[b]? =w.heap[b]?)/\
  w.heap.size<=w'.heap.size/\w'.os=w.os/\w'.tape=w.tape/\w'.output=w.output:=by
  intro e σ a' w' G' A inv';replace A:=A.out;obtain⟨xs,vs,X,H,af,ah,L⟩:=aQ5 hT inv' _ _ A;have J:=aD1 L;refine⟨aI1 vs,J,aI1 vs,?_⟩;obtain⟨C,_,S,F⟩:=inv'.args g (cs.getD g undef) (by show(if g=g then some (cs.getD g undef)else none)=_;rw[Sj rfl])
  have I:(cs.getD g undef).oneCell'=true:=by
   have hr:=hrb g _ aa;exact Q hr.2.2
  have Y:Rv w' G' (cs.getD g undef) (.arr g 0)/\(V.arr g 0).ok σ.hasB σ.hasA:=by
   refine⟨?_,by simp only[V.ok];exact⟨S,F,SH _⟩⟩;have:=Rv.arr (w:=w') (G:=G') g 0 (by rw[C];exact I);rw[C]at this;exact this
  have N:∀(i:Nat) v x,(vs++[cs.getD g undef])[i]? =some v->(xs++[V.arr g 0])[i]? =some x->Rv w' G' v x/\x.ok σ.hasB σ.hasA:=by
   intro i v x hv hx;rcases TI i vs.length with hi|hi;grind
   have ae:i=vs.length:=by
    grind
   simp_all
  have t:∀(n:List V),iQ T σ.ar (n++[.own B lo]) (xs++[.arr g 0])->iR (xs++[.arr g 0]) (n++[.own B lo])=true->∃m:Gh,(∀(j:Nat) v y,vs[j]? =some v->n[j]? =some y->Rb T w' m j v y)/\IoX T g B lo cs w' m/\
   (∀b,G.O b= .fz->m.O b= .fz)/\(∀b,m.O b≠ .ext->b<w'.heap.size)/\(∀b i,m.O b≠ .bx i)/\
   (∀b,m.O b≠ .ext->(G.O b= .fz/\m.O b= .fz)\/w.heap.size<=b\/∃j,G.O b= .ar j):=by
   intro n h1 h2;obtain⟨Gc,q1,q2,q3,q4⟩:=cF9 inv' h1 h2 (vs++[cs.getD g undef]) N;have z:=(qM h1).1;simp only[Q5,SY,Vp]at z;refine⟨Gc,λj v y hv hy=>?_,?_,λb hb=>q2 b (inv'.F0 b hb),λb hb=>inv'.tag b ?_,q3,λb hb=>?_⟩
   ·grind
   ·have hq:=q1 vs.length (cs.getD g undef) (.own B lo) Af (by rw[List.getElem?_append_right (by omega)];rw[show vs.length-n.length=0 by omega];rfl)
    exact⟨hq.2.1,_,hq.2.2⟩
   ·grind
   ·exact JK
  have frame:(∀b,b<w.heap.size->(∀j,G.O b≠ .ar j)->w'.heap[b]? =w.heap[b]?)/\w.heap.size<=w'.heap.size/\w'.os=w.os/\w'.tape=w.tape/\w'.output=w.output:=
   ⟨λb hb hj=>inv'.frame b hb (λ⟨j,h⟩=>hj j h),inv'.size,inv'.os,inv'.tape,inv'.output⟩
  split at X
  ·rename_i x
   obtain⟨E,R,_,g3⟩:=X;obtain⟨m,q1,q0,q2,q3,q4,q5⟩:=t [r] E R;obtain⟨v,rfl⟩:∃v,vs=[v] :=UH.1 H;refine⟨m,rfl,⟨?_,q0⟩,q2,q3,q4,q5,frame⟩;exact Ql
  ·rename_i ag
   obtain⟨n,rfl,E,R⟩:=X;rw[bT,bT]at E R;obtain⟨m,q1,q0,q2,q3,q4,q5⟩:=t n E R;have z:=(qM E).1;simp only[Q5,SY,Vp]at z;refine⟨m,rfl,⟨?_,q0⟩,q2,q3,q4,q5,frame⟩;have Z:∀q,n≠ .bot::q:=λq e=>by subst e;exact gB6 E (q++[.own B lo]) rfl
   rw[gG2 Z];refine⟨vs.toArray,?_,by simp[H];omega,λj u y hu hy=>q1 j u y Ba hy⟩;exact Po
 intro e σ a' w' G' hq inv';exact NW;exact h.elim
end
end Go.Ab
