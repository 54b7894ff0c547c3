/-
  The genealogy's Certificate: the calls in it.
-/
import Derived.Test.YtdjgbagnajikeaaGreatDoorB20
set_option linter.unusedVariables false
set_option linter.unusedSimpArgs false
set_option maxRecDepth 1000000
set_option maxHeartbeats 4000000
noncomputable section
namespace Go.Proofs.Led
open Go Go.Proofs Go.Ab Go.RowKit Go.Lib
section
variable{w:World}{G:Gh}{v0:Value}{f:List Node}(h2:∀b,G.O b≠ .ext->b<w.heap.size)(h5:LayP w (λb=>G.O b= .fz))(hp:V.pure (.sl (f.map nodeV)))(hv:Rv w G v0 (.sl (f.map nodeV)))
include h2 h5 hp hv
theorem node_calls{n k:Int}{y:Node}(h:Sp 44 [.sl (f.map nodeV),I n] (.tup [nodeV y,I k])){w':World}(l:Below w.heap.size w w'):
 Calls Tryz.prog 44 #[v0, .int .i64 n] w' λe g=>e= .returned (.tuple #[.agg (nodeA y), .int .i64 k])/\Below w'.heap.size w' g:=by
 refine(sp_at h h2 h5 l #[v0, .int .i64 n] rfl (λj v y c d=>?_)).mono ?_
 ·match j,c,d with
  |0,c,d=>cases c;cases d;exact rb_later h2 l hp hv 0
  |1,c,d=>cases c;cases d;exact⟨by simp only[V.pure,I,V.ok], .lit _ rfl⟩
 ·rintro e g ⟨v,G',rfl,⟨vs,rfl,p,m⟩,i,_⟩
  refine⟨?_,i⟩;obtain⟨a,b,rfl⟩:=arr2 p;have q:=nodeA_of (m 0 a _ rfl rfl).2;have o:b= .int .i64 k:=dZ9 (m 1 b _ rfl rfl)
  rw[q,o]
theorem climb_calls{x:Node}{C:List Node}(h:Sp 52 [.sl (f.map nodeV),nodeV x] (.own 42 (C.map nodeV)))(z:C≠ []){w':World}(p:Below w.heap.size w w'):
 Calls Tryz.prog 52 #[v0, .agg (nodeA x)] w' λe d=>(∃g cap,e= .returned (.slice (some ⟨g,0,none⟩) C.length cap)/\w'.heap.size<=g/\g<d.heap.size/\∀(k:Nat) y,C[k]? =some y->∀(j:Nat) v,(nodeA y)[j]? =some v->d.cell? ⟨g,k*9+j,none⟩=some v)/\Below w'.heap.size w' d:=by
 refine(sp_at h h2 h5 p #[v0, .agg (nodeA x)] rfl (λj v y a i=>?_)).mono ?_
 ·match j,a,i with
  |0,a,i=>cases a;cases i;exact rb_later h2 p hp hv 0
  |1,a,i=>cases a;cases i;exact rb_nodeA x
 ·rintro e d ⟨v,G',rfl,⟨_,_,I⟩,m,F⟩
  refine⟨?_,m⟩;rcases I with⟨_,H⟩|⟨b,cap,cur,rfl,n,q,K,B,A,L,o⟩
  ·exact absurd (List.map_eq_nil_iff.1 H) z
  ·refine⟨b,cap,by rw[QS],?_,(QT.1 q).1,λk y t j u E=>?_⟩
   ·rcases F b (by rw[n];simp)with h|h
    ·rw[n]at h;cases h
    ·exact h
   ·have J:(nodeC y)[j]? =some (.lit u):=by
     show((nodeA y).toList.map V.lit)[j]? =_;rw[Rk,TD,E];rfl
    have r:=flat_node C k y t j _ J;have c:k*9+j< ((C.map nodeV).flatMap V.cells).length:=(QD.1 r).1
    have D:=c;rw[<-o.len]at c;have s:=(o.rel _ _ _ (QE c) r).bH
    have l:=QE c;rw[s,TI]at l;split at l
    ·rw[World.cell?,q]
     simpa using l
    ·cases l
omit hp hv in
theorem itoa_at{m:Int}(d: -9223372036854775808<=m)(g:m<=9223372036854775807){w':World}(c:Below w.heap.size w w'):
 Calls Tryz.prog 58 #[.int .i64 m] w' λe a=>e= .returned (.string (itoaB m))/\Below w'.heap.size w' a:=
 itoa_calls m d g w' _ (layP_mono (λb hb=>⟨hb,c.block b (h2 b AP)⟩) h5)
end
end Go.Proofs.Led
