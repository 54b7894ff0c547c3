/-
  The genealogy's Certificate, at the machine's level.
-/
import Derived.Test.YtdjgbagnajikeaaGreatDoorB21
set_option linter.unusedVariables false
set_option linter.unusedSimpArgs false
set_option maxRecDepth 1000000
set_option maxHeartbeats 4000000
noncomputable section
namespace Go.Proofs.Led
open Go Go.Proofs Go.Ab Go.RowKit
abbrev bs_(l:List UInt8):ByteArray:=⟨l.toArray⟩
def whatN(x:Node):ByteArray:=if x.kind=1 then bs_ [115,104,101,101,116]else if x.kind=2 then bs_ [98,97,114]else bs_ [112,97,114,116,32] ++x.part
def lineN(x:Node):ByteArray:=itoaB x.id++bs_ [32] ++whatN x++bs_ [32,115,105,122,101,32] ++itoaB x.size
def restN(x:Node):ByteArray:=if x.parent=0 then bs_ [32,103,114,97,100,101,32] ++x.grade++bs_ [32,104,101,97,116,32] ++x.heat else aI
def certL:List Node->ByteArray
 | [] =>aI
 |x::l=>certL l++lineN x++restN x++bs_ [10]
theorem itoaB_len{n:Int}(h0: -9223372036854775808<=n)(h1:n<=9223372036854775807):(itoaB n).size<=21:=by
 have:=Lib.itoa_length_le n h0 h1;simpa [itoaB,ByteArray.size]using this
theorem BOk.below{w w':World}{X base:Nat}{acc:ByteArray}(h:BOk w X base acc)(hB:Below w.heap.size w w'):BOk w' X base acc:=by
 obtain⟨p,v,h1,h2,h3,h4,h5⟩:=h;refine⟨p,v,(hB.block X (Array.getElem?_eq_some_iff.1 h1).1).trans h1,h2,h3.kept (row:=none) ⟨hB.os,hB.tape,hB.output,hB.size,fun k hk _=>hB.block k hk⟩ (by cases v.ownBlock<;>simp),h4,Nat.le_trans h5 hB.size⟩
theorem below_step{w W W':World}(h:Below w.heap.size w W)(h':Below W.heap.size W W'):Below w.heap.size w W':=h.trans (h'.mono h.size)
theorem Bel.below{base X:Nat}{w w':World}(h:Below w.heap.size w w')(hb:base<=w.heap.size):Bel base X w w':=
 ⟨h.os,h.tape,h.output,h.size,fun k hk _=>h.block k Aa,fun k c t fr hk _ _=>h.block k (Array.getElem?_eq_some_iff.1 hk).1⟩
theorem mkB_size(a:Array UInt8):(ByteArray.mk a).size=a.size:=rfl
abbrev NOk(y:Node):Prop:= -9223372036854775808<=y.id/\y.id<=9223372036854775807/\-9223372036854775808<=y.size/\y.size<=9223372036854775807/\y.part.size<=200/\y.grade.size<=200/\y.heat.size<=200
theorem certL_size:∀(l:List Node) (k:Nat),l.length<=k->(∀y∈l,NOk y)->(certL l).size<=800*k
 | [],k,_,_=>Nat.zero_le _
 |y::l,k,hk,h=>by
  obtain⟨h1,h2,h3,h4,h5,h6,h7⟩:=h y (.head _);have q1:=itoaB_len h1 h2;have q2:=itoaB_len h3 h4
  have hk':l.length+1<=k:=hk;have ih:=certL_size l (k-1) Aa (fun z hz=>h z (.tail _ hz))
  have w1:(whatN y).size<=205:=by
   unfold whatN;split
   ·exact(by decide:(5:Nat)<=205)
   ·split
    ·exact(by decide:(3:Nat)<=205)
    ·rw[ByteArray.size_append]
     show 5+_<=_;omega
  have w2:(restN y).size<=420:=by
   unfold restN;split
   ·simp only[ByteArray.size_append,mkB_size,List.size_toArray,List.length_cons,List.length_nil]
    omega
   ·exact Nat.zero_le _
  unfold certL lineN;exact NC
theorem bel_node{base X Y:Nat}{w w':World}{c:Array Value}{fr:Nat×Nat}(hb:Bel base X w w')(h:w.heap[Y]? =some (.cells c 42 fr))(hne:Y≠X):w'.heap[Y]? =some (.cells c 42 fr):=
 (hb.typed Y c _ fr h Ah hne).trans h
theorem cert_step{C:List Node}{k:Nat}{y:Node}(hy:C[k]? =some y):certL (C.take (k+1)).reverse=certL (C.take k).reverse++lineN y++restN y++bs_ [10] :=by
 rw[List.take_add_one,hy];simp only[Option.toList,List.reverse_append,List.reverse_cons,List.reverse_nil,List.nil_append,List.cons_append,certL]
theorem app_emptyB(a:ByteArray):a++aI=a:=by
 rw[show aI=ByteArray.empty from rfl,ByteArray.append_empty]
theorem certL_pos{C:List Node}(h:C≠ []):(certL C.reverse).size≠0:=by
 cases hr:C.reverse with
 |nil=>exact absurd (List.reverse_eq_nil_iff.1 hr) h
 |cons y l=>
  unfold certL;exact NC
theorem cert_any(f:List Node)(n:Int)(x:Node)(C:List Node)(w:World)(G:Gh)(v0:Value)(h2:∀b,G.O b≠ .ext->b<w.heap.size)(h5:LayP w (fun b=>G.O b= .fz))(hp:V.pure (.sl (f.map nodeV)))(hv:Rv w G v0 (.sl (f.map nodeV)))
 (hn:Sp 44 [.sl (f.map nodeV),I n] (.tup [nodeV x,I 0]))(hc:Sp 52 [.sl (f.map nodeV),nodeV x] (.own 42 (C.map nodeV)))(hC:C≠ [])(hCl:C.length<=1000000)
 (hsz:∀y∈C,-9223372036854775808<=y.id/\y.id<=9223372036854775807/\-9223372036854775808<=y.size/\y.size<=9223372036854775807/\y.part.size<=200/\y.grade.size<=200/\y.heat.size<=200):
 Calls Tryz.prog 28 #[v0, .int .i64 n] w fun e w'=>e= .returned (.tuple #[.string (certL C.reverse), .int .i64 0])/\Below w.heap.size w w':=by
 have mixed:=mixed;have hnode:=fun w' hB=>node_calls h2 h5 hp hv hn (w':=w') hB
 have hclimb:=fun w' hB=>climb_calls h2 h5 hp hv hc hC (w':=w') hB;have hnx:nodeA x= #[.int .i64 x.id, .int .i64 x.kind, .int .i64 x.parent, .string x.grade, .string x.heat, .string x.part, .int .i64 x.size, .bool x.gone, .int .i64 x.scrap] :=rfl
 rw[hnx]at hnode hclimb
 go_enter Tryz.func28,Tryz.ntmps28
 go_wp2_with (first
  |(go_at_call 44;refine(hnode _ ?_).mono ?_;exact Below.refl _ _;rintro e w1 ⟨rfl,hB1⟩)
  |(go_at_call 52;refine(hclimb _ ?_).mono ?_;exact(hB1.alloc hB1.size _).alloc (Nat.le_trans hB1.size Ae) _;rintro e w2 ⟨⟨g,cap,rfl,hg1,hg2,hgc⟩,hB2⟩)
  |go_in)
 have hX:w2.heap[w1.heap.size+1]? =some (.cells #[.pointer none, .slice none 0 0] 140 (0,0)):=by
  rw[hB2.block _ Ae];have:=heap_alloc_new (w1.alloc (.cells #[.int .i64 x.id, .int .i64 x.kind, .int .i64 x.parent, .string x.grade, .string x.heat, .string x.part, .int .i64 x.size, .bool x.gone, .int .i64 x.scrap] 42)) (.cells #[.pointer none, .slice none 0 0] 140);simpa using this
 have hXs:w1.heap.size+2<=w2.heap.size:=by have:=hB2.size;simpa using this
 have hBw2:Below w.heap.size w w2:=by
  refine Below.trans ?_ (hB2.mono (by have:=hB1.size;simp;omega))
  exact(hB1.alloc hB1.size _).alloc (Nat.le_trans hB1.size Ae) _
 have hgs:w1.heap.size+2<=g:=by simpa using hg1
 go_loopw [25] (fun i wr=>∃k:Nat,k<=C.length/\i= .int .i64 k/\BOk wr (w1.heap.size+1) w2.heap.size (certL (C.take k).reverse)/\Bel w2.heap.size (w1.heap.size+1) w2 wr)
  (fun i _=>C.length- (intOf i).toNat)
 case atStart=>exact⟨0,Nat.zero_le _,rfl,⟨.pointer none, .slice none 0 0,hX, .inl rfl,World.ownsRow_nil _ _ _ _,Aa,Nat.le_refl _⟩,Bel.refl⟩
 case round=>
  obtain⟨k,hk,rfl,hbo,hbel⟩:=hrel;by_cases hlt:k<C.length
  ·obtain⟨y,hy⟩:∃y,C[k]? =some y:=⟨_,List.getElem?_eq_getElem hlt⟩
   have hcell:∀(j:Nat) v,(nodeA y)[j]? =some v->wr.cell? ⟨g,k*9+j,none⟩=some v:=fun j v hv=>by
    rw[World.cell?_of_block (w:=w2) (hbel.block g hg2 Aa)];exact hgc k y hy j v hv
   have e0:wr.cell? ⟨g,k*9,none⟩=some (.int .i64 y.id):=hcell 0 _ rfl;have e1:wr.cell? ⟨g,k*9+1,none⟩=some (.int .i64 y.kind):=hcell 1 _ rfl
   have e2:wr.cell? ⟨g,k*9+2,none⟩=some (.int .i64 y.parent):=hcell 2 _ rfl;have e3:wr.cell? ⟨g,k*9+3,none⟩=some (.string y.grade):=hcell 3 _ rfl
   have e4:wr.cell? ⟨g,k*9+4,none⟩=some (.string y.heat):=hcell 4 _ rfl;have e5:wr.cell? ⟨g,k*9+5,none⟩=some (.string y.part):=hcell 5 _ rfl
   have e6:wr.cell? ⟨g,k*9+6,none⟩=some (.int .i64 y.size):=hcell 6 _ rfl;have e7:wr.cell? ⟨g,k*9+7,none⟩=some (.bool y.gone):=hcell 7 _ rfl
   have e8:wr.cell? ⟨g,k*9+8,none⟩=some (.int .i64 y.scrap):=hcell 8 _ rfl;clear hcell;have hBr:Below w.heap.size w wr:=⟨hbel.os.trans hBw2.os,hbel.tape.trans hBw2.tape,hbel.output.trans hBw2.output,Nat.le_trans hBw2.size hbel.size,fun k hk=>(hbel.block k (by have:=hBw2.size;omega) (by have:=hB1.size;omega)).trans (hBw2.block k hk)⟩
   obtain⟨hy1,hy2,hy3,hy4,hy5,hy6,hy7⟩:=hsz y (List.mem_of_getElem? hy);have hq1:=itoaB_len hy1 hy2;have hq2:=itoaB_len hy3 hy4
   have hcl:(certL (List.take k C).reverse).size<=800*k:=certL_size (List.take k C).reverse k A8 (fun z hz=>hsz z (List.mem_of_mem_take (List.mem_reverse.1 hz)));have hwrs:=hbel.size
   have hYX:wr.heap.size≠w1.heap.size+1:=Aa;have hs2:¬9223372036854775807< (itoaB y.id).size+1:=Aa
   have hs6:¬9223372036854775807<7+y.grade.size:=Aa;have hs7:¬9223372036854775807<7+y.grade.size+6:=Aa
   have hs8:¬9223372036854775807<7+y.grade.size+6+y.heat.size:=Aa;have hs1:¬9223372036854775807<5+y.part.size:=Aa
   obtain⟨W0,hW0⟩:∃W0,W0=wr.alloc (.cells #[.int .i64 y.id, .int .i64 y.kind, .int .i64 y.parent, .string y.grade, .string y.heat, .string y.part, .int .i64 y.size, .bool y.gone, .int .i64 y.scrap] 42):=⟨_,rfl⟩
   go_wp2
   all_goals rw[<-hW0]
   all_goals (have hR:Below W0.heap.size W0 W0.drew:=⟨rfl,rfl,rfl,Nat.le_refl _,fun _ _=>rfl⟩)
   all_goals (have hBW0:Below w.heap.size w W0:=by {rw[hW0];exact hBr.alloc hBr.size _})
   all_goals (have hbo0:BOk W0 (w1.heap.size+1) w2.heap.size (certL (C.take k).reverse):=by {rw[hW0];exact hbo.below ((Below.refl _ _).alloc (Nat.le_refl _) _)})
   all_goals (have hY0:W0.heap[wr.heap.size]? =some (.cells #[.int .i64 y.id, .int .i64 y.kind, .int .i64 y.parent, .string y.grade, .string y.heat, .string y.part, .int .i64 y.size, .bool y.gone, .int .i64 y.scrap] 42 (0,0)):=by {rw[hW0];exact heap_alloc_new wr _})
   all_goals (have hrW0:Below wr.heap.size wr W0:=by {rw[hW0];exact(Below.refl _ _).alloc (Nat.le_refl _) _})
   all_goals (have hbs0:w2.heap.size<=W0.heap.size:=Nat.le_trans hwrs hrW0.size)
   all_goals (have hbW:Bel w2.heap.size (w1.heap.size+1) w2 W0:=hbel.trans (Bel.below hrW0 hwrs))
   all_goals clear hW0
   all_goals (have hYl:wr.heap.size<W0.heap.size:=(Array.getElem?_eq_some_iff.1 hY0).1)
   all_goals (have k0:W0.cell? ⟨wr.heap.size,0,none⟩=some (.int .i64 y.id):=by {simp[World.cell?,hY0]})
   all_goals (have k6:W0.cell? ⟨wr.heap.size,6,none⟩=some (.int .i64 y.size):=by {simp[World.cell?,hY0]})
   ·have hs3:¬9223372036854775807< (itoaB y.id).size+1+5:=by omega
    have hs4:¬9223372036854775807< (itoaB y.id).size+1+5+6:=Aa;have hs5:¬9223372036854775807< (itoaB y.id).size+1+5+6+(itoaB y.size).size:=Aa
    have ew:whatN y=bs_ [115,104,101,101,116] :=by unfold whatN;rw[if_pos (by simpa using ‹(y.kind==1)=true›)]
    go_region_with (first
     |(go_at_call_of 58 (Value.int IntKind.i64 y.id);refine(itoa_at h2 h5 hy1 hy2 ?_).mono ?_;exact below_step hBW0 Ad;rintro e wa ⟨rfl,hBa⟩;have hRa:=below_step (by assumption:Below W0.heap.size W0 _) hBa;have hYa:=(hRa.block _ hYl).trans hY0;have c0:wa.cell? ⟨wr.heap.size,0,none⟩=some (.int .i64 y.id):=(hRa.cell hYl).trans k0;have c6:wa.cell? ⟨wr.heap.size,6,none⟩=some (.int .i64 y.size):=(hRa.cell hYl).trans k6)
     |(go_at_call_of 58 (Value.int IntKind.i64 y.size);refine(itoa_at h2 h5 hy3 hy4 ?_).mono ?_;exact below_step hBW0 Ad;rintro e wa ⟨rfl,hBa⟩;have hRa:=below_step (by assumption:Below W0.heap.size W0 _) hBa;have hYa:=(hRa.block _ hYl).trans hY0;have c0:wa.cell? ⟨wr.heap.size,0,none⟩=some (.int .i64 y.id):=(hRa.cell hYl).trans k0;have c6:wa.cell? ⟨wr.heap.size,6,none⟩=some (.int .i64 y.size):=(hRa.cell hYl).trans k6)
     |(go_at_call 57;refine(ws_calls (w1.heap.size+1) w2.heap.size (certL (List.take k C).reverse) _ _ (BOk.below hbo0 Ad) ?_).mono ?_;(simp only[ByteArray.size_append,mkB_size,List.size_toArray,List.length_cons,List.length_nil];omega);rintro e wc ⟨⟨m,rfl⟩,hbo1,hbel1⟩;have hYc:=bel_node (Y:=wr.heap.size) hbel1 hYa hYX;have hbC:Bel w2.heap.size (w1.heap.size+1) w2 wc:=Bel.trans (hbW.trans (Bel.below Ad hbs0)) hbel1;have d2:wc.cell? ⟨wr.heap.size,2,none⟩=some (.int .i64 y.parent):=by {simp[World.cell?,hYc]};have d3:wc.cell? ⟨wr.heap.size,3,none⟩=some (.string y.grade):=by {simp[World.cell?,hYc]};have d4:wc.cell? ⟨wr.heap.size,4,none⟩=some (.string y.heat):=by {simp[World.cell?,hYc]}))
    all_goals (go_wp2_with (first
     |(go_at_call 57;refine(ws_calls (w1.heap.size+1) w2.heap.size _ _ _ Ad ?_).mono ?_;(simp only[ByteArray.size_append,mkB_size,List.size_toArray,List.length_cons,List.length_nil];omega);rintro e wd ⟨⟨m2,rfl⟩,hbo2,hbel2⟩;have hbD:Bel w2.heap.size (w1.heap.size+1) w2 wd:=Bel.trans Ad hbel2)
     |go_in))
    all_goals (refine⟨⟨k+1,Aa,rfl,?_,Ad⟩,Aj⟩)
    all_goals (rw[cert_step hy];unfold lineN;rw[ew])
    all_goals first
     |(rw[show restN y=aI from Bv,app_emptyB];assumption)
     |(rw[show restN y=bs_ [32,103,114,97,100,101,32] ++y.grade++bs_ [32,104,101,97,116,32] ++y.heat from Bz];assumption)
   ·have hs3:¬9223372036854775807< (itoaB y.id).size+1+3:=by omega
    have hs4:¬9223372036854775807< (itoaB y.id).size+1+3+6:=Aa;have hs5:¬9223372036854775807< (itoaB y.id).size+1+3+6+(itoaB y.size).size:=Aa
    have ew:whatN y=bs_ [98,97,114] :=by unfold whatN;rw[if_neg (by simpa using ‹(y.kind==1)=false›),if_pos (by simpa using ‹(y.kind==2)=true›)]
    go_region_with (first
     |(go_at_call_of 58 (Value.int IntKind.i64 y.id);refine(itoa_at h2 h5 hy1 hy2 ?_).mono ?_;exact below_step hBW0 Ad;rintro e wa ⟨rfl,hBa⟩;have hRa:=below_step (by assumption:Below W0.heap.size W0 _) hBa;have hYa:=(hRa.block _ hYl).trans hY0;have c0:wa.cell? ⟨wr.heap.size,0,none⟩=some (.int .i64 y.id):=(hRa.cell hYl).trans k0;have c6:wa.cell? ⟨wr.heap.size,6,none⟩=some (.int .i64 y.size):=(hRa.cell hYl).trans k6)
     |(go_at_call_of 58 (Value.int IntKind.i64 y.size);refine(itoa_at h2 h5 hy3 hy4 ?_).mono ?_;exact below_step hBW0 Ad;rintro e wa ⟨rfl,hBa⟩;have hRa:=below_step (by assumption:Below W0.heap.size W0 _) hBa;have hYa:=(hRa.block _ hYl).trans hY0;have c0:wa.cell? ⟨wr.heap.size,0,none⟩=some (.int .i64 y.id):=(hRa.cell hYl).trans k0;have c6:wa.cell? ⟨wr.heap.size,6,none⟩=some (.int .i64 y.size):=(hRa.cell hYl).trans k6)
     |(go_at_call 57;refine(ws_calls (w1.heap.size+1) w2.heap.size (certL (List.take k C).reverse) _ _ (BOk.below hbo0 Ad) ?_).mono ?_;(simp only[ByteArray.size_append,mkB_size,List.size_toArray,List.length_cons,List.length_nil];omega);rintro e wc ⟨⟨m,rfl⟩,hbo1,hbel1⟩;have hYc:=bel_node (Y:=wr.heap.size) hbel1 hYa hYX;have hbC:Bel w2.heap.size (w1.heap.size+1) w2 wc:=Bel.trans (hbW.trans (Bel.below Ad hbs0)) hbel1;have d2:wc.cell? ⟨wr.heap.size,2,none⟩=some (.int .i64 y.parent):=by {simp[World.cell?,hYc]};have d3:wc.cell? ⟨wr.heap.size,3,none⟩=some (.string y.grade):=by {simp[World.cell?,hYc]};have d4:wc.cell? ⟨wr.heap.size,4,none⟩=some (.string y.heat):=by {simp[World.cell?,hYc]}))
    all_goals (go_wp2_with (first
     |(go_at_call 57;refine(ws_calls (w1.heap.size+1) w2.heap.size _ _ _ Ad ?_).mono ?_;(simp only[ByteArray.size_append,mkB_size,List.size_toArray,List.length_cons,List.length_nil];omega);rintro e wd ⟨⟨m2,rfl⟩,hbo2,hbel2⟩;have hbD:Bel w2.heap.size (w1.heap.size+1) w2 wd:=Bel.trans Ad hbel2)
     |go_in))
    all_goals (refine⟨⟨k+1,Aa,rfl,?_,Ad⟩,Aj⟩)
    all_goals (rw[cert_step hy];unfold lineN;rw[ew])
    all_goals first
     |(rw[show restN y=aI from Bv,app_emptyB];assumption)
     |(rw[show restN y=bs_ [32,103,114,97,100,101,32] ++y.grade++bs_ [32,104,101,97,116,32] ++y.heat from Bz];assumption)
   ·have hs3:¬9223372036854775807< (itoaB y.id).size+1+(5+y.part.size):=by omega
    have hs4:¬9223372036854775807< (itoaB y.id).size+1+(5+y.part.size)+6:=Aa;have hs5:¬9223372036854775807< (itoaB y.id).size+1+(5+y.part.size)+6+(itoaB y.size).size:=Aa
    have ew:whatN y=bs_ [112,97,114,116,32] ++y.part:=by unfold whatN;rw[if_neg (by simpa using ‹(y.kind==1)=false›),if_neg (by simpa using ‹(y.kind==2)=false›)]
    go_region_with (first
     |(go_at_call_of 58 (Value.int IntKind.i64 y.id);refine(itoa_at h2 h5 hy1 hy2 ?_).mono ?_;exact below_step hBW0 Ad;rintro e wa ⟨rfl,hBa⟩;have hRa:=below_step (by assumption:Below W0.heap.size W0 _) hBa;have hYa:=(hRa.block _ hYl).trans hY0;have c0:wa.cell? ⟨wr.heap.size,0,none⟩=some (.int .i64 y.id):=(hRa.cell hYl).trans k0;have c6:wa.cell? ⟨wr.heap.size,6,none⟩=some (.int .i64 y.size):=(hRa.cell hYl).trans k6)
     |(go_at_call_of 58 (Value.int IntKind.i64 y.size);refine(itoa_at h2 h5 hy3 hy4 ?_).mono ?_;exact below_step hBW0 Ad;rintro e wa ⟨rfl,hBa⟩;have hRa:=below_step (by assumption:Below W0.heap.size W0 _) hBa;have hYa:=(hRa.block _ hYl).trans hY0;have c0:wa.cell? ⟨wr.heap.size,0,none⟩=some (.int .i64 y.id):=(hRa.cell hYl).trans k0;have c6:wa.cell? ⟨wr.heap.size,6,none⟩=some (.int .i64 y.size):=(hRa.cell hYl).trans k6)
     |(go_at_call 57;refine(ws_calls (w1.heap.size+1) w2.heap.size (certL (List.take k C).reverse) _ _ (BOk.below hbo0 Ad) ?_).mono ?_;(simp only[ByteArray.size_append,mkB_size,List.size_toArray,List.length_cons,List.length_nil];omega);rintro e wc ⟨⟨m,rfl⟩,hbo1,hbel1⟩;have hYc:=bel_node (Y:=wr.heap.size) hbel1 hYa hYX;have hbC:Bel w2.heap.size (w1.heap.size+1) w2 wc:=Bel.trans (hbW.trans (Bel.below Ad hbs0)) hbel1;have d2:wc.cell? ⟨wr.heap.size,2,none⟩=some (.int .i64 y.parent):=by {simp[World.cell?,hYc]};have d3:wc.cell? ⟨wr.heap.size,3,none⟩=some (.string y.grade):=by {simp[World.cell?,hYc]};have d4:wc.cell? ⟨wr.heap.size,4,none⟩=some (.string y.heat):=by {simp[World.cell?,hYc]}))
    all_goals (go_wp2_with (first
     |(go_at_call 57;refine(ws_calls (w1.heap.size+1) w2.heap.size _ _ _ Ad ?_).mono ?_;(simp only[ByteArray.size_append,mkB_size,List.size_toArray,List.length_cons,List.length_nil];omega);rintro e wd ⟨⟨m2,rfl⟩,hbo2,hbel2⟩;have hbD:Bel w2.heap.size (w1.heap.size+1) w2 wd:=Bel.trans Ad hbel2)
     |go_in))
    all_goals (refine⟨⟨k+1,Aa,rfl,?_,Ad⟩,Aj⟩)
    all_goals (rw[cert_step hy];unfold lineN;rw[ew])
    all_goals first
     |(rw[show restN y=aI from Bv,app_emptyB];assumption)
     |(rw[show restN y=bs_ [32,103,114,97,100,101,32] ++y.grade++bs_ [32,104,101,97,116,32] ++y.heat from Bz];assumption)
  ·have hkC:k=C.length:=by omega
   subst hkC;rw[List.take_length]at hbo;have hBr:Below w.heap.size w wr:=⟨hbel.os.trans hBw2.os,hbel.tape.trans hBw2.tape,hbel.output.trans hBw2.output,Nat.le_trans hBw2.size hbel.size,fun k hk=>(hbel.block k (by have:=hBw2.size;omega) (by have:=hB1.size;omega)).trans (hBw2.block k hk)⟩
   go_wp2_with (first
    |(go_at_call 59;refine(str_of (w1.heap.size+1) w2.heap.size (certL C.reverse) _ hbo (certL_pos hC)).mono ?_;rintro e wd ⟨rfl,hbelS⟩)
    |go_in)
   go_ret2
   refine⟨rfl,⟨hbelS.os.trans hBr.os,hbelS.tape.trans hBr.tape,hbelS.output.trans hBr.output,Nat.le_trans hBr.size hbelS.size,fun k hk=>(hbelS.block k (by have:=hBw2.size;omega) (by have:=hB1.size;omega)).trans (hBr.block k hk)⟩⟩
end Go.Proofs.Led
