/- Lemmas. -/
import Derived.Test.YtcmgfjaiegpddaaGreatB1
import Derived.Shelf.Spec.SlicesGrow
set_option linter.all false
set_option maxRecDepth 100000
noncomputable section
namespace Go.Proofs
open Go.Shelf Go.Ab
def Tryz.bY5:Go.Shelf.Ren:=⟨λ|4=>278|n=>n,λ|22=>23|25=>84|n=>n,λn=>n⟩
def Tryz.cH7:Go.Proofs.Lays8.n4 Tryz.prog Tryz.bY5:={
 mixed:=Ac
 f4:=⟨Tryz.f278.name,Ai,Tryz.func278.trans (PN some Ac)⟩
 t0:=Tryz.underlying0
 a0:=Tryz.isAgg0
 z0:=Tryz.sizeOf0
 v0:=Tryz.zeroValue0
 t3:=Tryz.underlying3
 a3:=Tryz.isAgg3
 z3:=Tryz.sizeOf3
 v3:=Tryz.zeroValue3
 t4:=Tryz.underlying4
 a4:=Tryz.isAgg4
 z4:=Tryz.sizeOf4
 v4:=Tryz.zeroValue4
 t9:=Tryz.underlying9
 a9:=Tryz.isAgg9
 z9:=Tryz.sizeOf9
 v9:=Tryz.zeroValue9
 t20:=Tryz.underlying20
 a20:=Tryz.isAgg20
 z20:=Tryz.sizeOf20
 v20:=Tryz.zeroValue20
 t22:=Tryz.underlying23
 a22:=Tryz.isAgg23
 z22:=Tryz.sizeOf23
 v22:=Tryz.zeroValue23}
end Go.Proofs
namespace Go.Proofs.Led
open Go Go.Proofs Go.Ab Go.RowKit Tryz
def dZ9{w:World}{G:Gh}{j:Nat}{v:Value}{u:Value}(h:Rb T w G j v (.lit u)):v=u:=h.2.bH
def arr2{cs:Array Value}(h:cs.size=2):∃a b,cs= #[a,b] :=by
 obtain⟨l⟩:=cs;match l,h with
 | [a,b],_=>exact⟨a,b,rfl⟩
def row84:aH9 Tryz.prog 84 (T.row 84):=uG 84 (OZ Ac)
theorem size84:(T.row 84).size=2:=Ac
theorem bytes84:(T.row 84).bytes=16:=Ac
def dP8(n:Nat)(L:n<=1000000):Sp 278 [.lit (.slice none 0 0),I n] (.own 84 []):=by
 refine⟨Ac,λw G cs C o h3 x K=>?_⟩;obtain⟨A,B,rfl⟩:=arr2 C;have H:A= .slice none 0 0:=dZ9 (x 0 A _ rfl rfl);have J:B= .int .i64 n:=dZ9 (x 1 B (I n) rfl rfl);subst H J;have f:84<T.n 84:=OZ Ac;rcases Nat.eq_zero_or_pos n with rfl|y;refine(Any8.slices_Grow_room Tryz.cH7 none 0 0 0 w (Po _) Ai Ai Ai).mono ?_;rintro e w' ⟨rfl,rfl⟩;refine⟨_,G,rfl,⟨f,G7, .inl ⟨.inl rfl,rfl⟩⟩,λ_ h=>h,o,h3,λb hb=>?_,λ_ _ _=>rfl,Po _,rfl,rfl,rfl⟩;exact Nl;obtain⟨F,r,t,g,z,E,u,_,m,_,_⟩:=row84.info;rw[size84]at t m;rw[bytes84]at g;have v:z.cells.size=2:=by rw[<-PX,u,m]
 have d:Calls Tryz.prog 278 #[.slice none 0 0, .int .i64 n] w λe w'=>e= .returned (.slice (some ⟨w.heap.size,0,none⟩) 0 (grownCap w (0+n) 0 84))/\
  w'=w.drew.alloc (.cells (([] :List Value).toArray++Builtin.zeroCells z.cells (0+n-0)++Builtin.zeroCells z.cells (grownCap w (0+n) 0 84- (0+n))) 84):=
  Any8.slices_Grow_grow Tryz.cH7 F z r E Aa none 0 0 n [] w (Po _) Aa (by rw[g];omega) Aa Af (λ_=>rfl) (λa h=>Ag)
 refine d.mono ?_;rintro e w' ⟨rfl,rfl⟩;have D:=grownCap_ge w (0+n) 0 84;have s:=grownCap_le_maxLen w (0+n) 0 84 Dl;have c:(w.drew.alloc (.cells (([] :List Value).toArray++Builtin.zeroCells z.cells (0+n-0)++Builtin.zeroCells z.cells (grownCap w (0+n) 0 84- (0+n))) 84)).heap.size=w.heap.size+1:=Array.size_push _;have k:(w.drew.alloc (.cells (([] :List Value).toArray++Builtin.zeroCells z.cells (0+n-0)++Builtin.zeroCells z.cells (grownCap w (0+n) 0 84- (0+n))) 84)).heap[w.heap.size]? =some (.cells (([] :List Value).toArray++Builtin.zeroCells z.cells (0+n-0)++Builtin.zeroCells z.cells (grownCap w (0+n) 0 84- (0+n))) 84 (0,0)):=RP
 have l:∀b,b<w.heap.size->(w.drew.alloc (.cells (([] :List Value).toArray++Builtin.zeroCells z.cells (0+n-0)++Builtin.zeroCells z.cells (grownCap w (0+n) 0 84- (0+n))) 84)).heap[b]? =w.heap[b]? :=by
  intro b hb;have:(w.drew.alloc (.cells (([] :List Value).toArray++Builtin.zeroCells z.cells (0+n-0)++Builtin.zeroCells z.cells (grownCap w (0+n) 0 84- (0+n))) 84)).heap=w.heap.push _:=rfl;rw[this,Array.getElem?_push_lt hb,Array.getElem?_eq_getElem hb]
 refine⟨_,{G with O:=upd G.O w.heap.size (.ar 0)},rfl,⟨f,G7, .inr ⟨w.heap.size,_,_,rfl,upd_same _ _ _,k,P8 _,s,?_,Af,?_⟩⟩,?_,?_,?_,?_,λb hb _=>l b hb,by rw[c];omega,rfl,rfl,rfl⟩;rw[Sj,Sj,size_zeroCells,size_zeroCells,v,size84];show 0+(0+n-0)*2+(grownCap w (0+n) 0 84- (0+n))*2=grownCap w (0+n) 0 84*2;omega;refine⟨Af,Af,Af⟩;intro b hb;have:b≠w.heap.size:=λe=>by have:=o b Aw;omega
 show upd G.O w.heap.size (.ar 0) b= .fz;rw[upd_ne _ _ this];exact hb;intro b hb;rw[c];change upd G.O w.heap.size (.ar 0) b≠ .ext at hb;by_cases e:b=w.heap.size;omega
 have q:G.O b≠ .ext:=by
  have:=hb;rw[show(upd G.O w.heap.size (Tag.ar 0)) b=G.O b from upd_ne _ _ e]at this;exact this
 have:=o b q;omega;intro b i hb;change upd G.O w.heap.size (.ar 0) b= .bx i at hb;by_cases e:b=w.heap.size;subst e;rw[show(upd G.O w.heap.size (Tag.ar 0)) w.heap.size= .ar 0 from upd_same _ _ _]at hb;cases hb;rw[show(upd G.O w.heap.size (Tag.ar 0)) b=G.O b from upd_ne _ _ e]at hb;exact h3 b i hb;intro b hb;change upd G.O w.heap.size (.ar 0) b≠ .ext at hb;show(G.O b= .fz/\upd G.O w.heap.size (.ar 0) b= .fz)\/_;by_cases e:b=w.heap.size;exact .inr (.inl Aa);rw[show(upd G.O w.heap.size (Tag.ar 0)) b=G.O b from upd_ne _ _ e]at hb⊢;exact Nl
end Go.Proofs.Led
