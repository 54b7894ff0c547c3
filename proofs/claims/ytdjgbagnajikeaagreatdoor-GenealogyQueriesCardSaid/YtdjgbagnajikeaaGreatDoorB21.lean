/-
  The genealogy's Certificate: the calls in it.
-/
import Derived.Test.YtdjgbagnajikeaaGreatDoorB20
set_option linter.unusedVariables false
set_option linter.unusedSimpArgs false
set_option maxRecDepth 1000000
set_option maxHeartbeats 4000000
noncomputable section
namespace Go.Proofs.Led
open Go Go.Proofs Go.Ab Go.RowKit Go.Lib
section
variable{w:World}{G:Gh}{v0:Value}{f:List Node}(h2:∀b,G.O b≠ .ext->b<w.heap.size)(h5:LayP w (fun b=>G.O b= .fz))(hp:V.pure (.sl (f.map nodeV)))(hv:Rv w G v0 (.sl (f.map nodeV)))
include h2 h5 hp hv
theorem node_calls{n e0:Int}{y:Node}(h:Sp 44 [.sl (f.map nodeV),I n] (.tup [nodeV y,I e0])){w':World}(hB:Below w.heap.size w w'):
 Calls Tryz.prog 44 #[v0, .int .i64 n] w' fun e w''=>e= .returned (.tuple #[.agg (nodeA y), .int .i64 e0])/\Below w'.heap.size w' w'':=by
 refine(sp_at h h2 h5 hB #[v0, .int .i64 n] rfl (fun j v y hv' hy=>?_)).mono ?_
 ·match j,hv',hy with
  |0,hv',hy=>cases hv';cases hy;exact rb_later h2 hB hp hv 0
  |1,hv',hy=>cases hv';cases hy;exact⟨by simp only[V.pure,I,V.ok], .lit _ rfl⟩
 ·rintro e w'' ⟨v,G',rfl,⟨vs,rfl,hs,hr⟩,hB2,_⟩
  refine⟨?_,hB2⟩;obtain⟨a,b,rfl⟩:=arr2 hs;have e1:=nodeA_of (hr 0 a _ rfl rfl).2;have e2:b= .int .i64 e0:=dZ9 (hr 1 b _ rfl rfl)
  rw[e1,e2]
theorem climb_calls{x:Node}{C:List Node}(h:Sp 52 [.sl (f.map nodeV),nodeV x] (.own 42 (C.map nodeV)))(hC:C≠ []){w':World}(hB:Below w.heap.size w w'):
 Calls Tryz.prog 52 #[v0, .agg (nodeA x)] w' fun e w''=>(∃g cap,e= .returned (.slice (some ⟨g,0,none⟩) C.length cap)/\w'.heap.size<=g/\g<w''.heap.size/\∀(k:Nat) y,C[k]? =some y->∀(j:Nat) v,(nodeA y)[j]? =some v->w''.cell? ⟨g,k*9+j,none⟩=some v)/\Below w'.heap.size w' w'':=by
 refine(sp_at h h2 h5 hB #[v0, .agg (nodeA x)] rfl (fun j v y hv' hy=>?_)).mono ?_
 ·match j,hv',hy with
  |0,hv',hy=>cases hv';cases hy;exact rb_later h2 hB hp hv 0
  |1,hv',hy=>cases hv';cases hy;exact rb_nodeA x
 ·rintro e w'' ⟨v,G',rfl,⟨_,_,ho⟩,hB2,hG⟩
  refine⟨?_,hB2⟩;rcases ho with⟨_,h0⟩|⟨b,cap,cur,rfl,hO,hb,hc,hcm,hcs,hz,hl⟩
  ·exact absurd (List.map_eq_nil_iff.1 h0) hC
  ·refine⟨b,cap,by rw[List.length_map],?_,(Array.getElem?_eq_some_iff.1 hb).1,fun k y hk j u hj=>?_⟩
   ·rcases hG b FO with h|h
    ·rw[hO]at h;cases h
    ·exact h
   ·have e2:(nodeC y)[j]? =some (.lit u):=by
     show((nodeA y).toList.map V.lit)[j]? =_;rw[List.getElem?_map,Array.getElem?_toList,hj];rfl
    have e1:=flat_node C k y hk j _ e2;have hk2:k*9+j< ((C.map nodeV).flatMap V.cells).length:=(List.getElem?_eq_some_iff.1 e1).1
    have hk3:=hk2;rw[<-hl.len]at hk2;have e3:=(hl.rel _ _ _ (List.getElem?_eq_getElem hk2) e1).bH
    have e4:=List.getElem?_eq_getElem hk2;rw[e3,List.getElem?_take]at e4;split at e4
    ·rw[World.cell?,hb]
     simpa using e4
    ·cases e4
omit hp hv in
theorem itoa_at{m:Int}(h0: -9223372036854775808<=m)(h1:m<=9223372036854775807){w':World}(hB:Below w.heap.size w w'):
 Calls Tryz.prog 58 #[.int .i64 m] w' fun e w''=>e= .returned (.string (itoaB m))/\Below w'.heap.size w' w'':=
 itoa_calls m h0 h1 w' _ (layP_mono (fun b hb=>⟨hb,hB.block b (h2 b Au)⟩) h5)
end
end Go.Proofs.Led
