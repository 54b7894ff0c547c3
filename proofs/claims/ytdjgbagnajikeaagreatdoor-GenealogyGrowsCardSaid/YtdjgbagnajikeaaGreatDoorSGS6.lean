/-
  The genealogy's Certificate, at the machine's level.
-/
import Derived.Test.YtdjgbagnajikeaaGreatDoorB21
set_option linter.unusedVariables false
set_option linter.unusedSimpArgs false
set_option maxRecDepth 1000000
set_option maxHeartbeats 4000000
noncomputable section
namespace Go.Proofs.Led
open Go Go.Proofs Go.Ab Go.RowKit
abbrev bs_(l:List UInt8):ByteArray:=⟨l.toArray⟩
def whatN(x:Node):ByteArray:=if x.kind=1 then bs_ [115,104,101,101,116]else if x.kind=2 then bs_ [98,97,114]else bs_ [112,97,114,116,32] ++x.part
def lineN(x:Node):ByteArray:=itoaB x.id++bs_ [32] ++whatN x++bs_ [32,115,105,122,101,32] ++itoaB x.size
def restN(x:Node):ByteArray:=if x.parent=0 then bs_ [32,103,114,97,100,101,32] ++x.grade++bs_ [32,104,101,97,116,32] ++x.heat else aI
def certL:List Node->ByteArray
 | [] =>aI
 |x::l=>certL l++lineN x++restN x++bs_ [10]
theorem itoaB_len{n:Int}(a: -9223372036854775808<=n)(b:n<=9223372036854775807):(itoaB n).size<=21:=by
 have:=Lib.itoa_length_le n a b;simpa [itoaB,ByteArray.size]using this
theorem BOk.below{w w':World}{X a:Nat}{c:ByteArray}(h:BOk w X a c)(b:Below w.heap.size w w'):BOk w' X a c:=by
 obtain⟨p,v,d,j,f,g,e⟩:=h;refine⟨p,v,(b.block X (QT.1 d).1).trans d,j,f.kept (row:=none) ⟨b.os,b.tape,b.output,b.size,λk i _=>b.block k i⟩ (by cases v.ownBlock<;>simp),g,QV e b.size⟩
theorem below_step{w W a:World}(h:Below w.heap.size w W)(b:Below W.heap.size W a):Below w.heap.size w a:=h.trans (b.mono h.size)
theorem Bel.below{a X:Nat}{w w':World}(h:Below w.heap.size w w')(e:a<=w.heap.size):Bel a X w w':=
 ⟨h.os,h.tape,h.output,h.size,λk b _=>h.block k Aa,λk c t d b _ _=>h.block k (QT.1 b).1⟩
theorem mkB_size(a:Array UInt8):(ByteArray.mk a).size=a.size:=rfl
abbrev NOk(y:Node):Prop:= -9223372036854775808<=y.id/\y.id<=9223372036854775807/\-9223372036854775808<=y.size/\y.size<=9223372036854775807/\y.part.size<=200/\y.grade.size<=200/\y.heat.size<=200
theorem certL_size:∀(l:List Node) (k:Nat),l.length<=k->(∀y∈l,NOk y)->(certL l).size<=800*k
 | [],k,_,_=>Ro _
 |y::l,k,e,h=>by
  obtain⟨g,f,c,b,i,j,m⟩:=h y (.head _);have q:=itoaB_len g f;have o:=itoaB_len c b
  have a:l.length+1<=k:=e;have r:=certL_size l (k-1) Aa (λz d=>h z (.tail _ d))
  have n:(whatN y).size<=205:=by
   unfold whatN;split
   ·exact(by decide:(5:Nat)<=205)
   ·split
    ·exact(by decide:(3:Nat)<=205)
    ·rw[SC]
     show 5+_<=_;omega
  have s:(restN y).size<=420:=by
   unfold restN;split
   ·simp only[SC,mkB_size,SH,QM,S9]
    omega
   ·exact Ro _
  unfold certL lineN;exact Po
theorem bel_node{a X Y:Nat}{w w':World}{c:Array Value}{d:Nat×Nat}(e:Bel a X w w')(h:w.heap[Y]? =some (.cells c 42 d))(b:Y≠X):w'.heap[Y]? =some (.cells c 42 d):=
 (e.typed Y c _ d h Ai b).trans h
theorem cert_step{C:List Node}{k:Nat}{y:Node}(a:C[k]? =some y):certL (C.take (k+1)).reverse=certL (C.take k).reverse++lineN y++restN y++bs_ [10] :=by
 rw[Uh,a];simp only[Option.toList,UB,List.reverse_cons,List.reverse_nil,TM,TU,certL]
theorem app_emptyB(a:ByteArray):a++aI=a:=by
 rw[show aI=ByteArray.empty from rfl,ByteArray.append_empty]
theorem certL_pos{C:List Node}(h:C≠ []):(certL C.reverse).size≠0:=by
 cases a:C.reverse with
 |nil=>exact absurd (List.reverse_eq_nil_iff.1 a) h
 |cons y l=>
  unfold certL;exact Po
theorem cert_any(f:List Node)(n:Int)(x:Node)(C:List Node)(w:World)(G:Gh)(v0:Value)(h2:∀b,G.O b≠ .ext->b<w.heap.size)(h5:LayP w (λb=>G.O b= .fz))(hp:V.pure (.sl (f.map nodeV)))(hv:Rv w G v0 (.sl (f.map nodeV)))
 (hn:Sp 44 [.sl (f.map nodeV),I n] (.tup [nodeV x,I 0]))(hc:Sp 52 [.sl (f.map nodeV),nodeV x] (.own 42 (C.map nodeV)))(hC:C≠ [])(a8:C.length<=1000000)
 (am:∀y∈C,-9223372036854775808<=y.id/\y.id<=9223372036854775807/\-9223372036854775808<=y.size/\y.size<=9223372036854775807/\y.part.size<=200/\y.grade.size<=200/\y.heat.size<=200):
 Calls Tryz.prog 28 #[v0, .int .i64 n] w λe w'=>e= .returned (.tuple #[.string (certL C.reverse), .int .i64 0])/\Below w.heap.size w w':=by
 have mixed:=mixed;have R:=λw' hB=>node_calls h2 h5 hp hv hn (w':=w') hB
 have N:=λw' hB=>climb_calls h2 h5 hp hv hc hC (w':=w') hB;have ao:nodeA x= #[.int .i64 x.id, .int .i64 x.kind, .int .i64 x.parent, .string x.grade, .string x.heat, .string x.part, .int .i64 x.size, .bool x.gone, .int .i64 x.scrap] :=rfl
 rw[ao]at R N
 go_enter Tryz.func28,Tryz.ntmps28
 go_wp2_with (first
  |(go_at_call 44;refine(R _ ?_).mono ?_;exact Below.refl _ _;rintro e E ⟨rfl,F⟩)
  |(go_at_call 52;refine(N _ ?_).mono ?_;exact(F.alloc F.size _).alloc (QV F.size Ae) _;rintro e s ⟨⟨g,cap,rfl,ar,qas,au⟩,ae⟩)
  |go_in)
 have hX:s.heap[E.heap.size+1]? =some (.cells #[.pointer none, .slice none 0 0] 140 (0,0)):=by
  rw[ae.block _ Ae];have:=Un (E.alloc (.cells #[.int .i64 x.id, .int .i64 x.kind, .int .i64 x.parent, .string x.grade, .string x.heat, .string x.part, .int .i64 x.size, .bool x.gone, .int .i64 x.scrap] 42)) (.cells #[.pointer none, .slice none 0 0] 140);simpa using this
 have a5:E.heap.size+2<=s.heap.size:=by have:=ae.size;simpa using this
 have l:Below w.heap.size w s:=by
  refine Below.trans ?_ (ae.mono (by have:=F.size;simp;omega))
  exact(F.alloc F.size _).alloc (QV F.size Ae) _
 have az:E.heap.size+2<=g:=by simpa using ar
 go_loopw [25] (λi wr=>∃k:Nat,k<=C.length/\i= .int .i64 k/\BOk wr (E.heap.size+1) s.heap.size (certL (C.take k).reverse)/\Bel s.heap.size (E.heap.size+1) s wr)
  (λi _=>C.length- (intOf i).toNat)
 case atStart=>exact⟨0,Ro _,rfl,⟨.pointer none, .slice none 0 0,hX, .inl rfl,World.ownsRow_nil _ _ _ _,Aa,QH _⟩,Bel.refl⟩
 case round=>
  obtain⟨k,hk,rfl,ah,o⟩:=hrel;by_cases av:k<C.length
  ·obtain⟨y,hy⟩:∃y,C[k]? =some y:=⟨_,QE av⟩
   have d:∀(j:Nat) v,(nodeA y)[j]? =some v->wr.cell? ⟨g,k*9+j,none⟩=some v:=λj v hv=>by
    rw[Uj (w:=s) (o.block g qas Aa)];exact au k y hy j v hv
   have e0:wr.cell? ⟨g,k*9,none⟩=some (.int .i64 y.id):=d 0 _ rfl;have e1:wr.cell? ⟨g,k*9+1,none⟩=some (.int .i64 y.kind):=d 1 _ rfl
   have e2:wr.cell? ⟨g,k*9+2,none⟩=some (.int .i64 y.parent):=d 2 _ rfl;have e3:wr.cell? ⟨g,k*9+3,none⟩=some (.string y.grade):=d 3 _ rfl
   have e4:wr.cell? ⟨g,k*9+4,none⟩=some (.string y.heat):=d 4 _ rfl;have e5:wr.cell? ⟨g,k*9+5,none⟩=some (.string y.part):=d 5 _ rfl
   have e6:wr.cell? ⟨g,k*9+6,none⟩=some (.int .i64 y.size):=d 6 _ rfl;have e7:wr.cell? ⟨g,k*9+7,none⟩=some (.bool y.gone):=d 7 _ rfl
   have e8:wr.cell? ⟨g,k*9+8,none⟩=some (.int .i64 y.scrap):=d 8 _ rfl;clear d;have L:Below w.heap.size w wr:=⟨o.os.trans l.os,o.tape.trans l.tape,o.output.trans l.output,QV l.size o.size,λk hk=>(o.block k (by have:=l.size;omega) (by have:=F.size;omega)).trans (l.block k hk)⟩
   obtain⟨Z,X,W,U,a0,ay,a3⟩:=am y (QF hy);have a7:=itoaB_len Z X;have a1:=itoaB_len W U
   have a9:(certL (List.take k C).reverse).size<=800*k:=certL_size (List.take k C).reverse k AU (λz hz=>am z (Ri (List.mem_reverse.1 hz)));have ab:=o.size
   have ag:wr.heap.size≠E.heap.size+1:=Aa;have a6:¬9223372036854775807< (itoaB y.id).size+1:=Aa
   have a2:¬9223372036854775807<7+y.grade.size:=Aa;have aw:¬9223372036854775807<7+y.grade.size+6:=Aa
   have ax:¬9223372036854775807<7+y.grade.size+6+y.heat.size:=Aa;have a4:¬9223372036854775807<5+y.part.size:=Aa
   obtain⟨t,Q⟩:∃t,t=wr.alloc (.cells #[.int .i64 y.id, .int .i64 y.kind, .int .i64 y.parent, .string y.grade, .string y.heat, .string y.part, .int .i64 y.size, .bool y.gone, .int .i64 y.scrap] 42):=⟨_,rfl⟩
   go_wp2
   all_goals rw[<-Q]
   all_goals (have hR:Below t.heap.size t t.drew:=⟨rfl,rfl,rfl,QH _,λ_ _=>rfl⟩)
   all_goals (have H:Below w.heap.size w t:=by {rw[Q];exact L.alloc L.size _})
   all_goals (have S:BOk t (E.heap.size+1) s.heap.size (certL (C.take k).reverse):=by {rw[Q];exact ah.below ((Below.refl _ _).alloc (QH _) _)})
   all_goals (have J:t.heap[wr.heap.size]? =some (.cells #[.int .i64 y.id, .int .i64 y.kind, .int .i64 y.parent, .string y.grade, .string y.heat, .string y.part, .int .i64 y.size, .bool y.gone, .int .i64 y.scrap] 42 (0,0)):=by {rw[Q];exact Un wr _})
   all_goals (have ac:Below wr.heap.size wr t:=by {rw[Q];exact(Below.refl _ _).alloc (QH _) _})
   all_goals (have T:s.heap.size<=t.heap.size:=QV ab ac.size)
   all_goals (have af:Bel s.heap.size (E.heap.size+1) s t:=o.trans (Bel.below ac ab))
   all_goals clear Q
   all_goals (have q:wr.heap.size<t.heap.size:=(QT.1 J).1)
   all_goals (have k0:t.cell? ⟨wr.heap.size,0,none⟩=some (.int .i64 y.id):=by {simp[World.cell?,J]})
   all_goals (have k6:t.cell? ⟨wr.heap.size,6,none⟩=some (.int .i64 y.size):=by {simp[World.cell?,J]})
   ·have an:¬9223372036854775807< (itoaB y.id).size+1+5:=by omega
    have aj:¬9223372036854775807< (itoaB y.id).size+1+5+6:=Aa;have ak:¬9223372036854775807< (itoaB y.id).size+1+5+6+(itoaB y.size).size:=Aa
    have ew:whatN y=bs_ [115,104,101,101,116] :=by unfold whatN;rw[Q9 (by simpa using ‹(y.kind==1)=true›)]
    go_region_with (first
     |(go_at_call_of 58 (Value.int IntKind.i64 y.id);refine(itoa_at h2 h5 Z X ?_).mono ?_;exact below_step H Ag;rintro e M ⟨rfl,u⟩;have c:=below_step (by assumption:Below t.heap.size t _) u;have K:=(c.block _ q).trans J;have c0:M.cell? ⟨wr.heap.size,0,none⟩=some (.int .i64 y.id):=(c.cell q).trans k0;have c6:M.cell? ⟨wr.heap.size,6,none⟩=some (.int .i64 y.size):=(c.cell q).trans k6)
     |(go_at_call_of 58 (Value.int IntKind.i64 y.size);refine(itoa_at h2 h5 W U ?_).mono ?_;exact below_step H Ag;rintro e M ⟨rfl,u⟩;have c:=below_step (by assumption:Below t.heap.size t _) u;have K:=(c.block _ q).trans J;have c0:M.cell? ⟨wr.heap.size,0,none⟩=some (.int .i64 y.id):=(c.cell q).trans k0;have c6:M.cell? ⟨wr.heap.size,6,none⟩=some (.int .i64 y.size):=(c.cell q).trans k6)
     |(go_at_call 57;refine(ws_calls (E.heap.size+1) s.heap.size (certL (List.take k C).reverse) _ _ (BOk.below S Ag) ?_).mono ?_;(simp only[SC,mkB_size,SH,QM,S9];omega);rintro e P ⟨⟨m,rfl⟩,ad,r⟩;have D:=bel_node (Y:=wr.heap.size) r K ag;have ai:Bel s.heap.size (E.heap.size+1) s P:=Bel.trans (af.trans (Bel.below Ag T)) r;have d2:P.cell? ⟨wr.heap.size,2,none⟩=some (.int .i64 y.parent):=by {simp[World.cell?,D]};have d3:P.cell? ⟨wr.heap.size,3,none⟩=some (.string y.grade):=by {simp[World.cell?,D]};have d4:P.cell? ⟨wr.heap.size,4,none⟩=some (.string y.heat):=by {simp[World.cell?,D]}))
    all_goals (go_wp2_with (first
     |(go_at_call 57;refine(ws_calls (E.heap.size+1) s.heap.size _ _ _ Ag ?_).mono ?_;(simp only[SC,mkB_size,SH,QM,S9];omega);rintro e wd ⟨⟨m2,rfl⟩,aa,B⟩;have al:Bel s.heap.size (E.heap.size+1) s wd:=Bel.trans Ag B)
     |go_in))
    all_goals (refine⟨⟨k+1,Aa,rfl,?_,Ag⟩,Am⟩)
    all_goals (rw[cert_step hy];unfold lineN;rw[ew])
    all_goals first
     |(rw[show restN y=aI from BN,app_emptyB];assumption)
     |(rw[show restN y=bs_ [32,103,114,97,100,101,32] ++y.grade++bs_ [32,104,101,97,116,32] ++y.heat from BP];assumption)
   ·have an:¬9223372036854775807< (itoaB y.id).size+1+3:=by omega
    have aj:¬9223372036854775807< (itoaB y.id).size+1+3+6:=Aa;have ak:¬9223372036854775807< (itoaB y.id).size+1+3+6+(itoaB y.size).size:=Aa
    have ew:whatN y=bs_ [98,97,114] :=by unfold whatN;rw[Q5 (by simpa using ‹(y.kind==1)=false›),Q9 (by simpa using ‹(y.kind==2)=true›)]
    go_region_with (first
     |(go_at_call_of 58 (Value.int IntKind.i64 y.id);refine(itoa_at h2 h5 Z X ?_).mono ?_;exact below_step H Ag;rintro e M ⟨rfl,u⟩;have c:=below_step (by assumption:Below t.heap.size t _) u;have K:=(c.block _ q).trans J;have c0:M.cell? ⟨wr.heap.size,0,none⟩=some (.int .i64 y.id):=(c.cell q).trans k0;have c6:M.cell? ⟨wr.heap.size,6,none⟩=some (.int .i64 y.size):=(c.cell q).trans k6)
     |(go_at_call_of 58 (Value.int IntKind.i64 y.size);refine(itoa_at h2 h5 W U ?_).mono ?_;exact below_step H Ag;rintro e M ⟨rfl,u⟩;have c:=below_step (by assumption:Below t.heap.size t _) u;have K:=(c.block _ q).trans J;have c0:M.cell? ⟨wr.heap.size,0,none⟩=some (.int .i64 y.id):=(c.cell q).trans k0;have c6:M.cell? ⟨wr.heap.size,6,none⟩=some (.int .i64 y.size):=(c.cell q).trans k6)
     |(go_at_call 57;refine(ws_calls (E.heap.size+1) s.heap.size (certL (List.take k C).reverse) _ _ (BOk.below S Ag) ?_).mono ?_;(simp only[SC,mkB_size,SH,QM,S9];omega);rintro e P ⟨⟨m,rfl⟩,ad,r⟩;have D:=bel_node (Y:=wr.heap.size) r K ag;have ai:Bel s.heap.size (E.heap.size+1) s P:=Bel.trans (af.trans (Bel.below Ag T)) r;have d2:P.cell? ⟨wr.heap.size,2,none⟩=some (.int .i64 y.parent):=by {simp[World.cell?,D]};have d3:P.cell? ⟨wr.heap.size,3,none⟩=some (.string y.grade):=by {simp[World.cell?,D]};have d4:P.cell? ⟨wr.heap.size,4,none⟩=some (.string y.heat):=by {simp[World.cell?,D]}))
    all_goals (go_wp2_with (first
     |(go_at_call 57;refine(ws_calls (E.heap.size+1) s.heap.size _ _ _ Ag ?_).mono ?_;(simp only[SC,mkB_size,SH,QM,S9];omega);rintro e wd ⟨⟨m2,rfl⟩,aa,B⟩;have al:Bel s.heap.size (E.heap.size+1) s wd:=Bel.trans Ag B)
     |go_in))
    all_goals (refine⟨⟨k+1,Aa,rfl,?_,Ag⟩,Am⟩)
    all_goals (rw[cert_step hy];unfold lineN;rw[ew])
    all_goals first
     |(rw[show restN y=aI from BN,app_emptyB];assumption)
     |(rw[show restN y=bs_ [32,103,114,97,100,101,32] ++y.grade++bs_ [32,104,101,97,116,32] ++y.heat from BP];assumption)
   ·have an:¬9223372036854775807< (itoaB y.id).size+1+(5+y.part.size):=by omega
    have aj:¬9223372036854775807< (itoaB y.id).size+1+(5+y.part.size)+6:=Aa;have ak:¬9223372036854775807< (itoaB y.id).size+1+(5+y.part.size)+6+(itoaB y.size).size:=Aa
    have ew:whatN y=bs_ [112,97,114,116,32] ++y.part:=by unfold whatN;rw[Q5 (by simpa using ‹(y.kind==1)=false›),Q5 (by simpa using ‹(y.kind==2)=false›)]
    go_region_with (first
     |(go_at_call_of 58 (Value.int IntKind.i64 y.id);refine(itoa_at h2 h5 Z X ?_).mono ?_;exact below_step H Ag;rintro e M ⟨rfl,u⟩;have c:=below_step (by assumption:Below t.heap.size t _) u;have K:=(c.block _ q).trans J;have c0:M.cell? ⟨wr.heap.size,0,none⟩=some (.int .i64 y.id):=(c.cell q).trans k0;have c6:M.cell? ⟨wr.heap.size,6,none⟩=some (.int .i64 y.size):=(c.cell q).trans k6)
     |(go_at_call_of 58 (Value.int IntKind.i64 y.size);refine(itoa_at h2 h5 W U ?_).mono ?_;exact below_step H Ag;rintro e M ⟨rfl,u⟩;have c:=below_step (by assumption:Below t.heap.size t _) u;have K:=(c.block _ q).trans J;have c0:M.cell? ⟨wr.heap.size,0,none⟩=some (.int .i64 y.id):=(c.cell q).trans k0;have c6:M.cell? ⟨wr.heap.size,6,none⟩=some (.int .i64 y.size):=(c.cell q).trans k6)
     |(go_at_call 57;refine(ws_calls (E.heap.size+1) s.heap.size (certL (List.take k C).reverse) _ _ (BOk.below S Ag) ?_).mono ?_;(simp only[SC,mkB_size,SH,QM,S9];omega);rintro e P ⟨⟨m,rfl⟩,ad,r⟩;have D:=bel_node (Y:=wr.heap.size) r K ag;have ai:Bel s.heap.size (E.heap.size+1) s P:=Bel.trans (af.trans (Bel.below Ag T)) r;have d2:P.cell? ⟨wr.heap.size,2,none⟩=some (.int .i64 y.parent):=by {simp[World.cell?,D]};have d3:P.cell? ⟨wr.heap.size,3,none⟩=some (.string y.grade):=by {simp[World.cell?,D]};have d4:P.cell? ⟨wr.heap.size,4,none⟩=some (.string y.heat):=by {simp[World.cell?,D]}))
    all_goals (go_wp2_with (first
     |(go_at_call 57;refine(ws_calls (E.heap.size+1) s.heap.size _ _ _ Ag ?_).mono ?_;(simp only[SC,mkB_size,SH,QM,S9];omega);rintro e wd ⟨⟨m2,rfl⟩,aa,B⟩;have al:Bel s.heap.size (E.heap.size+1) s wd:=Bel.trans Ag B)
     |go_in))
    all_goals (refine⟨⟨k+1,Aa,rfl,?_,Ag⟩,Am⟩)
    all_goals (rw[cert_step hy];unfold lineN;rw[ew])
    all_goals first
     |(rw[show restN y=aI from BN,app_emptyB];assumption)
     |(rw[show restN y=bs_ [32,103,114,97,100,101,32] ++y.grade++bs_ [32,104,101,97,116,32] ++y.heat from BP];assumption)
  ·have aq:k=C.length:=by omega
   subst aq;rw[Tn]at ah;have L:Below w.heap.size w wr:=⟨o.os.trans l.os,o.tape.trans l.tape,o.output.trans l.output,QV l.size o.size,λk hk=>(o.block k (by have:=l.size;omega) (by have:=F.size;omega)).trans (l.block k hk)⟩
   go_wp2_with (first
    |(go_at_call 59;refine(str_of (E.heap.size+1) s.heap.size (certL C.reverse) _ ah (certL_pos hC)).mono ?_;rintro e wd ⟨rfl,A⟩)
    |go_in)
   go_ret2
   refine⟨rfl,⟨A.os.trans L.os,A.tape.trans L.tape,A.output.trans L.output,QV L.size A.size,λk hk=>(A.block k (by have:=l.size;omega) (by have:=F.size;omega)).trans (L.block k hk)⟩⟩
end Go.Proofs.Led
