/-
  The library's Grow at vectors: its laying, and what it says (after the kit's contract).
-/
import Derived.Test.YtkhhdojgbkophaaGreatB18
import Derived.Shelf.Spec.SlicesGrow
set_option linter.unusedVariables false
set_option linter.unusedSimpArgs false
namespace Go.Proofs
open Go.Shelf
def Tryz.bY5:Go.Shelf.Ren:=⟨fun|4=>325|n=>n,fun|22=>39|25=>76|n=>n,fun n=>n⟩
theorem Tryz.cH7:Go.Proofs.Lays8.n4 Tryz.prog Tryz.bY5:={
 mixed:=by kernel_rfl
 f4:=⟨Tryz.f325.name,by decide,Tryz.func325.trans (congrArg some (by kernel_rfl))⟩
 t0:=Tryz.underlying0
 a0:=Tryz.isAgg0
 z0:=Tryz.sizeOf0
 v0:=Tryz.zeroValue0
 t3:=Tryz.underlying3
 a3:=Tryz.isAgg3
 z3:=Tryz.sizeOf3
 v3:=Tryz.zeroValue3
 t4:=Tryz.underlying4
 a4:=Tryz.isAgg4
 z4:=Tryz.sizeOf4
 v4:=Tryz.zeroValue4
 t9:=Tryz.underlying9
 a9:=Tryz.isAgg9
 z9:=Tryz.sizeOf9
 v9:=Tryz.zeroValue9
 t20:=Tryz.underlying20
 a20:=Tryz.isAgg20
 z20:=Tryz.sizeOf20
 v20:=Tryz.zeroValue20
 t22:=Tryz.underlying39
 a22:=Tryz.isAgg39
 z22:=Tryz.sizeOf39
 v22:=Tryz.zeroValue39}
end Go.Proofs
namespace Go.Proofs.Led
open Go Go.Proofs Go.Ab Go.RowKit
set_option maxRecDepth 100000
theorem dZ9{w:World}{G:Gh}{j:Nat}{v:Value}{u:Value}(h:Rb T w G j v (.lit u)):v=u:=h.2.bH
theorem arr2{cs:Array Value}(h:cs.size=2):∃a b,cs= #[a,b] :=by
 obtain⟨l⟩:=cs
 match l,h with
 | [a,b],_=>exact⟨a,b,rfl⟩
theorem row76:aH9 Tryz.prog 76 (T.row 76):=uG 76 (of_decide_eq_true (by kernel_rfl))
theorem dU7:(T.row 76).size=2:=by kernel_rfl
theorem eP0:(T.row 76).bytes=16:=by kernel_rfl
theorem dP8(n:Nat)(hn:n<=1000000):Sp 325 [.lit (.slice none 0 0),I n] (.own 76 []):=by
 refine⟨by kernel_rfl,fun w G cs h1 h2 h3 h4 h5=>?_⟩
 obtain⟨v0,v1,rfl⟩:=arr2 h1
 have r0:v0= .slice none 0 0:=dZ9 (h4 0 v0 _ rfl rfl)
 have r1:v1= .int .i64 n:=dZ9 (h4 1 v1 (I n) rfl rfl)
 subst r0 r1
 have h76:76<T.n 76:=of_decide_eq_true (by kernel_rfl)
 rcases Nat.eq_zero_or_pos n with rfl|hpos
 ·refine(Any8.slices_Grow_room Tryz.cH7 none 0 0 0 w (Nat.le_refl _) (by decide) (by decide) (by decide)).mono ?_
  rintro e w' ⟨rfl,rfl⟩
  refine⟨_,G,rfl,⟨h76,by simp only[bM,V.okL], .inl ⟨.inl rfl,rfl⟩⟩,fun _ h=>h,h2,h3,fun b hb=>?_,fun _ _ _=>rfl,Nat.le_refl _,rfl,rfl,rfl⟩
  cases hO:G.O b with
  |ext=>exact absurd hO hb
  |fz=>exact .inl ⟨rfl,rfl⟩
  |bx i=>exact absurd hO (h3 b i)
  |ar j=>exact .inr (.inr ⟨j,rfl⟩)
 ·obtain⟨i0,hi0,hsz,hby,z,hz,hzc,_,hzl,_,_⟩:=row76.info
  rw[dU7]at hsz hzl
  rw[eP0]at hby
  have hzs:z.cells.size=2:=by rw[<-Array.length_toList,hzc,hzl]
  have hcall:Calls Tryz.prog 325 #[.slice none 0 0, .int .i64 n] w fun e w'=>e= .returned (.slice (some ⟨w.heap.size,0,none⟩) 0 (grownCap w (0+n) 0 76))/\
   w'=w.drew.alloc (.cells (([] :List Value).toArray++Builtin.zeroCells z.cells (0+n-0)++Builtin.zeroCells z.cells (grownCap w (0+n) 0 76- (0+n))) 76):=
   Any8.slices_Grow_grow Tryz.cH7 i0 z hi0 hz (by omega) none 0 0 n [] w (Nat.le_refl _) (by omega) (by rw[hby];omega) (by omega) (by simp) (fun _=>rfl) (fun a h=>by cases h)
  refine hcall.mono ?_
  rintro e w' ⟨rfl,rfl⟩
  have hge:=grownCap_ge w (0+n) 0 76
  have hle:=grownCap_le_maxLen w (0+n) 0 76 (by unfold maxLen;omega)
  have hsize:(w.drew.alloc (.cells (([] :List Value).toArray++Builtin.zeroCells z.cells (0+n-0)++Builtin.zeroCells z.cells (grownCap w (0+n) 0 76- (0+n))) 76)).heap.size=w.heap.size+1:=Array.size_push _
  have hnew:(w.drew.alloc (.cells (([] :List Value).toArray++Builtin.zeroCells z.cells (0+n-0)++Builtin.zeroCells z.cells (grownCap w (0+n) 0 76- (0+n))) 76)).heap[w.heap.size]? =some (.cells (([] :List Value).toArray++Builtin.zeroCells z.cells (0+n-0)++Builtin.zeroCells z.cells (grownCap w (0+n) 0 76- (0+n))) 76 (0,0)):=Array.getElem?_push_size
  have hold:∀b,b<w.heap.size->(w.drew.alloc (.cells (([] :List Value).toArray++Builtin.zeroCells z.cells (0+n-0)++Builtin.zeroCells z.cells (grownCap w (0+n) 0 76- (0+n))) 76)).heap[b]? =w.heap[b]? :=by
   intro b hb
   have:(w.drew.alloc (.cells (([] :List Value).toArray++Builtin.zeroCells z.cells (0+n-0)++Builtin.zeroCells z.cells (grownCap w (0+n) 0 76- (0+n))) 76)).heap=w.heap.push _:=rfl
   rw[this,Array.getElem?_push_lt hb,Array.getElem?_eq_getElem hb]
  refine⟨_,{G with O:=upd G.O w.heap.size (.ar 0)},rfl,⟨h76,by simp only[bM,V.okL], .inr ⟨w.heap.size,_,_,rfl,upd_same _ _ _,hnew,Nat.zero_le _,hle,?_,by simp,?_⟩⟩,?_,?_,?_,?_,fun b hb _=>hold b hb,by rw[hsize];omega,rfl,rfl,rfl⟩
  ·rw[Array.size_append,Array.size_append,size_zeroCells,size_zeroCells,hzs,dU7]
   show 0+(0+n-0)*2+(grownCap w (0+n) 0 76- (0+n))*2=grownCap w (0+n) 0 76*2
   omega
  ·refine⟨by simp,by simp,by simp⟩
  ·intro b hb
   have:b≠w.heap.size:=fun e=>by have:=h2 b (by rw[hb];simp);omega
   show upd G.O w.heap.size (.ar 0) b= .fz
   rw[upd_ne _ _ this];exact hb
  ·intro b hb
   rw[hsize]
   change upd G.O w.heap.size (.ar 0) b≠ .ext at hb
   by_cases e:b=w.heap.size
   ·omega
   ·have hb':G.O b≠ .ext:=by
     have:=hb
     rw[show(upd G.O w.heap.size (Tag.ar 0)) b=G.O b from upd_ne _ _ e]at this
     exact this
    have:=h2 b hb'
    omega
  ·intro b i hb
   change upd G.O w.heap.size (.ar 0) b= .bx i at hb
   by_cases e:b=w.heap.size
   ·subst e
    rw[show(upd G.O w.heap.size (Tag.ar 0)) w.heap.size= .ar 0 from upd_same _ _ _]at hb
    cases hb
   ·rw[show(upd G.O w.heap.size (Tag.ar 0)) b=G.O b from upd_ne _ _ e]at hb
    exact h3 b i hb
  ·intro b hb
   change upd G.O w.heap.size (.ar 0) b≠ .ext at hb
   show(G.O b= .fz/\upd G.O w.heap.size (.ar 0) b= .fz)\/_
   by_cases e:b=w.heap.size
   ·exact .inr (.inl (by omega))
   ·rw[show(upd G.O w.heap.size (Tag.ar 0)) b=G.O b from upd_ne _ _ e]at hb⊢
    cases hO:G.O b with
    |ext=>exact absurd hO hb
    |fz=>exact .inl ⟨rfl,rfl⟩
    |bx i=>exact absurd hO (h3 b i)
    |ar j=>exact .inr (.inr ⟨j,rfl⟩)
end Go.Proofs.Led
