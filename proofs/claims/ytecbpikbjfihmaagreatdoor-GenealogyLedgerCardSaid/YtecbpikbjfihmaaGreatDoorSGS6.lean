/- Lemmas. -/
import Derived.Test.YtecbpikbjfihmaaGreatDoorB15
set_option linter.all false
set_option autoImplicit true
set_option relaxedAutoImplicit true
set_option maxRecDepth 1000000
set_option maxHeartbeats 4000000
noncomputable section
namespace Go.Proofs.Led
open Go Go.Proofs Go.Ab Go.RowKit
abbrev bs_(l:List UInt8):ByteArray:=⟨l.toArray⟩
def whatN(x:Node):ByteArray:=if x.kind=1 then bs_ [115,104,101,101,116]else if x.kind=2 then bs_ [98,97,114]else bs_ [112,97,114,116,32] ++x.part
def lineN(x:Node):ByteArray:=itoaB x.id++bs_ [32] ++whatN x++bs_ [32,115,105,122,101,32] ++itoaB x.size
def restN(x:Node):ByteArray:=if x.parent=0 then bs_ [32,103,114,97,100,101,32] ++x.grade++bs_ [32,104,101,97,116,32] ++x.heat else aI
def certL:List Node->ByteArray
 | [] =>aI
 |x::l=>certL l++lineN x++restN x++bs_ [10]
def itoaB_len(a: -9223372036854775808<=n)(b:n<=9223372036854775807):(itoaB n).size<=21:=by
 have:=Lib.itoa_length_le n a b;simpa [itoaB,ByteArray.size]using this
def BOk.below{X a}(h:BOk w X a c)(b:Below w.heap.size w w'):BOk w' X a c:=by
 let⟨p,v,d,e,f,g,i⟩:=h;refine⟨p,v,(b.block X (Ry.1 d).1).trans d,e,f.kept (row:=none) ⟨b.os,b.tape,b.output,b.size,λk j _=>b.block k j⟩ (by cases v.ownBlock<;>simp),g,Rz i b.size⟩
def below_step{w W a}(h:Below w.heap.size w W)(b:Below W.heap.size W a):Below w.heap.size w a:=h.trans (b.mono h.size)
def Bel.below{a X}(h:Below w.heap.size w w')(e:a<=w.heap.size):Bel a X w w':=
 ⟨h.os,h.tape,h.output,h.size,λk b _=>h.block k Aa,λk c t d b _ _=>h.block k (Ry.1 b).1⟩
theorem mkB_size a:(ByteArray.mk a).size=a.size:=rfl
abbrev NOk(y:Node):Prop:= -9223372036854775808<=y.id/\y.id<=9223372036854775807/\-9223372036854775808<=y.size/\y.size<=9223372036854775807/\y.part.size<=200/\y.grade.size<=200/\y.heat.size<=200
def certL_size:∀ l  k,l.length<=k->(∀y∈l,NOk y)->(certL l).size<=800*k
 | [],k,_,_=>RY _
 |y::l,k,e,h=>by
  let⟨a,b,c,d,i,j,m⟩:=h y (.head _);have o:=itoaB_len a b;have q:=itoaB_len c d;have f:l.length+1<=k:=e;have n:=certL_size l (k-1) Aa (λz g=>h z (.tail _ g))
  have r:(whatN y).size<=205:=by
   unfold whatN;split;exact(by decide:(5:Nat)<=205);split;exact(by decide:(3:Nat)<=205);rw[Tv];show 5+_<=_;omega
  have s:(restN y).size<=420:=by
   unfold restN;split;simp[Tv,mkB_size,Tz,Ro,Tc];omega;exact RY _
  unfold certL lineN;exact P6
def bel_node{a X Y}(e:Bel a X w w')(h:w.heap[Y]? =some (.cells c 40 b))(d:Y≠X):w'.heap[Y]? =some (.cells c 40 b):=
 (e.typed Y c _ b h Ai d).trans h
def cert_step{C:List Node}(a:C[k]? =some y):certL (C.take (k+1)).reverse=certL (C.take k).reverse++lineN y++restN y++bs_ [10] :=by
 rw[U2,a];simp[Option.toList,UZ,List.reverse_cons,List.reverse_nil,Uj,Ur,certL]
theorem app_emptyB a:a++aI=a:=by
 rw[show aI=ByteArray.empty from rfl,ByteArray.append_empty]
def certL_pos(h:C≠ []):(certL C.reverse).size≠0:=by
 cases a:C.reverse with
 |nil=>exact absurd (List.reverse_eq_nil_iff.1 a) h
 |cons y l=>
  unfold certL;exact P6
def cert_any(f:List Node)(n:Int)(x:Node)(C:List Node)(w:World)(G:Gh)(v0:Value)(Z:∀b,G.O b≠ .ext->b<w.heap.size)(h5:LayP w (λb=>G.O b= .fz))(hp:V.pure (.sl (f.map nodeV)))(hv:Rv w G v0 (.sl (f.map nodeV)))
 (hn:Sp 30 [.sl (f.map nodeV),I n] (.tup [nodeV x,I 0]))(hc:Sp 31 [.sl (f.map nodeV),nodeV x] (.own 40 (C.map nodeV)))(hC:C≠ [])(ax:C.length<=1000000)
 (an:∀y∈C,-9223372036854775808<=y.id/\y.id<=9223372036854775807/\-9223372036854775808<=y.size/\y.size<=9223372036854775807/\y.part.size<=200/\y.grade.size<=200/\y.heat.size<=200):
 Calls Tryz.prog 14 #[v0, .int .i64 n] w λe w'=>e= .returned (.tuple #[.string (certL C.reverse), .int .i64 0])/\Below w.heap.size w w':=by
 have mixed:=mixed;have S:=λw' hB=>node_calls Z h5 hp hv hn (w':=w') hB;have M:=λw' hB=>climb_calls Z h5 hp hv hc hC (w':=w') hB;have aw:nodeA x= #[.int .i64 x.id, .int .i64 x.kind, .int .i64 x.parent, .string x.grade, .string x.heat, .string x.part, .int .i64 x.size, .bool x.gone, .int .i64 x.scrap] :=rfl;rw[aw]at S M
 go_enter Tryz.func14,Tryz.ntmps14
 go_wp2_with (first
  |(go_at_call 30;refine(S _ ?_).mono ?_;exact Below.refl _ _;rintro e D ⟨rfl,E⟩)
  |(go_at_call 31;refine(M _ ?_).mono ?_;exact(E.alloc E.size _).alloc (Rz E.size Ad) _;rintro e r ⟨⟨g,cap,rfl,ao,aq,ar⟩,ae⟩)
  |go_in)
 have hX:r.heap[D.heap.size+1]? =some (.cells #[.pointer none, .slice none 0 0] 115 (0,0)):=by
  rw[ae.block _ Ad];have:=U6 (D.alloc (.cells #[.int .i64 x.id, .int .i64 x.kind, .int .i64 x.parent, .string x.grade, .string x.heat, .string x.part, .int .i64 x.size, .bool x.gone, .int .i64 x.scrap] 40)) (.cells #[.pointer none, .slice none 0 0] 115);simpa using this
 have ay:D.heap.size+2<=r.heap.size:=by have:=ae.size;simpa using this
 have d:Below w.heap.size w r:=by
  refine Below.trans ?_ (ae.mono (by have:=E.size;simp;omega));exact(E.alloc E.size _).alloc (Rz E.size Ad) _
 have a0:D.heap.size+2<=g:=by simpa using ao
 go_loopw [25] (λi wr=>∃k:Nat,k<=C.length/\i= .int .i64 k/\BOk wr (D.heap.size+1) r.heap.size (certL (C.take k).reverse)/\Bel r.heap.size (D.heap.size+1) r wr)
  (λi _=>C.length- (intOf i).toNat)
 case atStart=>exact⟨0,RY _,rfl,⟨.pointer none, .slice none 0 0,hX, .inl rfl,World.ownsRow_nil _ _ _ _,Aa,Rf _⟩,Bel.refl⟩
 case round=>
  obtain⟨k,hk,rfl,ah,l⟩:=hrel;by_cases av:k<C.length
  ·obtain⟨y,hy⟩:∃y,C[k]? =some y:=⟨_,QX av⟩
   have c:∀(j:Nat) v,(nodeA y)[j]? =some v->wr.cell? ⟨g,k*9+j,none⟩=some v:=λj v hv=>by
    rw[UU (w:=r) (l.block g aq Aa)];exact ar k y hy j v hv
   have e0:wr.cell? ⟨g,k*9,none⟩=some (.int .i64 y.id):=c 0 _ rfl;have e1:wr.cell? ⟨g,k*9+1,none⟩=some (.int .i64 y.kind):=c 1 _ rfl;have e2:wr.cell? ⟨g,k*9+2,none⟩=some (.int .i64 y.parent):=c 2 _ rfl;have e3:wr.cell? ⟨g,k*9+3,none⟩=some (.string y.grade):=c 3 _ rfl;have e4:wr.cell? ⟨g,k*9+4,none⟩=some (.string y.heat):=c 4 _ rfl;have e5:wr.cell? ⟨g,k*9+5,none⟩=some (.string y.part):=c 5 _ rfl;have e6:wr.cell? ⟨g,k*9+6,none⟩=some (.int .i64 y.size):=c 6 _ rfl;have e7:wr.cell? ⟨g,k*9+7,none⟩=some (.bool y.gone):=c 7 _ rfl;have e8:wr.cell? ⟨g,k*9+8,none⟩=some (.int .i64 y.scrap):=c 8 _ rfl;clear c;have J:Below w.heap.size w wr:=⟨l.os.trans d.os,l.tape.trans d.tape,l.output.trans d.output,Rz d.size l.size,λk hk=>(l.block k (by have:=d.size;omega) (by have:=E.size;omega)).trans (d.block k hk)⟩;obtain⟨T,U,W,X,a8,a9,ba⟩:=an y (QZ hy);have a1:=itoaB_len T U;have a2:=itoaB_len W X;have az:(certL (List.take k C).reverse).size<=800*k:=certL_size (List.take k C).reverse k AY (λz hz=>an z (RP (List.mem_reverse.1 hz)));have ad:=l.size;have af:wr.heap.size≠D.heap.size+1:=Aa;have a4:¬9223372036854775807< (itoaB y.id).size+1:=Aa;have a5:¬9223372036854775807<7+y.grade.size:=Aa;have a6:¬9223372036854775807<7+y.grade.size+6:=Aa;have a7:¬9223372036854775807<7+y.grade.size+6+y.heat.size:=Aa;have a3:¬9223372036854775807<5+y.part.size:=Aa;obtain⟨s,P⟩:∃s,s=wr.alloc (.cells #[.int .i64 y.id, .int .i64 y.kind, .int .i64 y.parent, .string y.grade, .string y.heat, .string y.part, .int .i64 y.size, .bool y.gone, .int .i64 y.scrap] 40):=⟨_,rfl⟩
   go_wp2
   all_goals rw[<-P]
   all_goals (have hR:Below s.heap.size s s.drew:=⟨rfl,rfl,rfl,Rf _,λ_ _=>rfl⟩)
   all_goals (have F:Below w.heap.size w s:=by {rw[P];exact J.alloc J.size _})
   all_goals (have Q:BOk s (D.heap.size+1) r.heap.size (certL (C.take k).reverse):=by {rw[P];exact ah.below ((Below.refl _ _).alloc (Rf _) _)})
   all_goals (have H:s.heap[wr.heap.size]? =some (.cells #[.int .i64 y.id, .int .i64 y.kind, .int .i64 y.parent, .string y.grade, .string y.heat, .string y.part, .int .i64 y.size, .bool y.gone, .int .i64 y.scrap] 40 (0,0)):=by {rw[P];exact U6 wr _})
   all_goals (have ac:Below wr.heap.size wr s:=by {rw[P];exact(Below.refl _ _).alloc (Rf _) _})
   all_goals (have R:r.heap.size<=s.heap.size:=Rz ad ac.size)
   all_goals (have ag:Bel r.heap.size (D.heap.size+1) r s:=l.trans (Bel.below ac ad))
   all_goals clear P
   all_goals (have o:wr.heap.size<s.heap.size:=(Ry.1 H).1)
   all_goals (have k0:s.cell? ⟨wr.heap.size,0,none⟩=some (.int .i64 y.id):=by {simp[World.cell?,H]})
   all_goals (have k6:s.cell? ⟨wr.heap.size,6,none⟩=some (.int .i64 y.size):=by {simp[World.cell?,H]})
   ·have ak:¬9223372036854775807< (itoaB y.id).size+1+5:=by omega
    have al:¬9223372036854775807< (itoaB y.id).size+1+5+6:=Aa;have am:¬9223372036854775807< (itoaB y.id).size+1+5+6+(itoaB y.size).size:=Aa;have ew:whatN y=bs_ [115,104,101,101,116] :=by unfold whatN;rw[QU (by simpa using ‹(y.kind==1)=true›)]
    go_region_with (first
     |(go_at_call_of 34 (Value.int IntKind.i64 y.id);refine(itoa_at Z h5 T U ?_).mono ?_;exact below_step F Ag;rintro e L ⟨rfl,t⟩;have a:=below_step (by assumption:Below s.heap.size s _) t;have K:=(a.block _ o).trans H;have c0:L.cell? ⟨wr.heap.size,0,none⟩=some (.int .i64 y.id):=(a.cell o).trans k0;have c6:L.cell? ⟨wr.heap.size,6,none⟩=some (.int .i64 y.size):=(a.cell o).trans k6)
     |(go_at_call_of 34 (Value.int IntKind.i64 y.size);refine(itoa_at Z h5 W X ?_).mono ?_;exact below_step F Ag;rintro e L ⟨rfl,t⟩;have a:=below_step (by assumption:Below s.heap.size s _) t;have K:=(a.block _ o).trans H;have c0:L.cell? ⟨wr.heap.size,0,none⟩=some (.int .i64 y.id):=(a.cell o).trans k0;have c6:L.cell? ⟨wr.heap.size,6,none⟩=some (.int .i64 y.size):=(a.cell o).trans k6)
     |(go_at_call 33;refine(ws_calls (D.heap.size+1) r.heap.size (certL (List.take k C).reverse) _ _ (BOk.below Q Ag) ?_).mono ?_;(simp only[Tv,mkB_size,Tz,Ro,Tc];omega);rintro e N ⟨⟨m,rfl⟩,aa,q⟩;have u:=bel_node (Y:=wr.heap.size) q K af;have ai:Bel r.heap.size (D.heap.size+1) r N:=Bel.trans (ag.trans (Bel.below Ag R)) q;have d2:N.cell? ⟨wr.heap.size,2,none⟩=some (.int .i64 y.parent):=by {simp[World.cell?,u]};have d3:N.cell? ⟨wr.heap.size,3,none⟩=some (.string y.grade):=by {simp[World.cell?,u]};have d4:N.cell? ⟨wr.heap.size,4,none⟩=some (.string y.heat):=by {simp[World.cell?,u]}))
    all_goals (go_wp2_with (first
     |(go_at_call 33;refine(ws_calls (D.heap.size+1) r.heap.size _ _ _ Ag ?_).mono ?_;(simp only[Tv,mkB_size,Tz,Ro,Tc];omega);rintro e wd ⟨⟨m2,rfl⟩,ab,A⟩;have aj:Bel r.heap.size (D.heap.size+1) r wd:=Bel.trans Ag A)
     |go_in))
    all_goals (refine⟨⟨k+1,Aa,rfl,?_,Ag⟩,Aq⟩)
    all_goals (rw[cert_step hy];unfold lineN;rw[ew])
    all_goals first
     |(rw[show restN y=aI from BQ,app_emptyB];assumption)
     |(rw[show restN y=bs_ [32,103,114,97,100,101,32] ++y.grade++bs_ [32,104,101,97,116,32] ++y.heat from BV];assumption)
   ·have ak:¬9223372036854775807< (itoaB y.id).size+1+3:=by omega
    have al:¬9223372036854775807< (itoaB y.id).size+1+3+6:=Aa;have am:¬9223372036854775807< (itoaB y.id).size+1+3+6+(itoaB y.size).size:=Aa;have ew:whatN y=bs_ [98,97,114] :=by unfold whatN;rw[Q9 (by simpa using ‹(y.kind==1)=false›),QU (by simpa using ‹(y.kind==2)=true›)]
    go_region_with (first
     |(go_at_call_of 34 (Value.int IntKind.i64 y.id);refine(itoa_at Z h5 T U ?_).mono ?_;exact below_step F Ag;rintro e L ⟨rfl,t⟩;have a:=below_step (by assumption:Below s.heap.size s _) t;have K:=(a.block _ o).trans H;have c0:L.cell? ⟨wr.heap.size,0,none⟩=some (.int .i64 y.id):=(a.cell o).trans k0;have c6:L.cell? ⟨wr.heap.size,6,none⟩=some (.int .i64 y.size):=(a.cell o).trans k6)
     |(go_at_call_of 34 (Value.int IntKind.i64 y.size);refine(itoa_at Z h5 W X ?_).mono ?_;exact below_step F Ag;rintro e L ⟨rfl,t⟩;have a:=below_step (by assumption:Below s.heap.size s _) t;have K:=(a.block _ o).trans H;have c0:L.cell? ⟨wr.heap.size,0,none⟩=some (.int .i64 y.id):=(a.cell o).trans k0;have c6:L.cell? ⟨wr.heap.size,6,none⟩=some (.int .i64 y.size):=(a.cell o).trans k6)
     |(go_at_call 33;refine(ws_calls (D.heap.size+1) r.heap.size (certL (List.take k C).reverse) _ _ (BOk.below Q Ag) ?_).mono ?_;(simp only[Tv,mkB_size,Tz,Ro,Tc];omega);rintro e N ⟨⟨m,rfl⟩,aa,q⟩;have u:=bel_node (Y:=wr.heap.size) q K af;have ai:Bel r.heap.size (D.heap.size+1) r N:=Bel.trans (ag.trans (Bel.below Ag R)) q;have d2:N.cell? ⟨wr.heap.size,2,none⟩=some (.int .i64 y.parent):=by {simp[World.cell?,u]};have d3:N.cell? ⟨wr.heap.size,3,none⟩=some (.string y.grade):=by {simp[World.cell?,u]};have d4:N.cell? ⟨wr.heap.size,4,none⟩=some (.string y.heat):=by {simp[World.cell?,u]}))
    all_goals (go_wp2_with (first
     |(go_at_call 33;refine(ws_calls (D.heap.size+1) r.heap.size _ _ _ Ag ?_).mono ?_;(simp only[Tv,mkB_size,Tz,Ro,Tc];omega);rintro e wd ⟨⟨m2,rfl⟩,ab,A⟩;have aj:Bel r.heap.size (D.heap.size+1) r wd:=Bel.trans Ag A)
     |go_in))
    all_goals (refine⟨⟨k+1,Aa,rfl,?_,Ag⟩,Aq⟩)
    all_goals (rw[cert_step hy];unfold lineN;rw[ew])
    all_goals first
     |(rw[show restN y=aI from BQ,app_emptyB];assumption)
     |(rw[show restN y=bs_ [32,103,114,97,100,101,32] ++y.grade++bs_ [32,104,101,97,116,32] ++y.heat from BV];assumption)
   have ak:¬9223372036854775807< (itoaB y.id).size+1+(5+y.part.size):=by omega
   have al:¬9223372036854775807< (itoaB y.id).size+1+(5+y.part.size)+6:=Aa;have am:¬9223372036854775807< (itoaB y.id).size+1+(5+y.part.size)+6+(itoaB y.size).size:=Aa;have ew:whatN y=bs_ [112,97,114,116,32] ++y.part:=by unfold whatN;rw[Q9 (by simpa using ‹(y.kind==1)=false›),Q9 (by simpa using ‹(y.kind==2)=false›)]
   go_region_with (first
    |(go_at_call_of 34 (Value.int IntKind.i64 y.id);refine(itoa_at Z h5 T U ?_).mono ?_;exact below_step F Ag;rintro e L ⟨rfl,t⟩;have a:=below_step (by assumption:Below s.heap.size s _) t;have K:=(a.block _ o).trans H;have c0:L.cell? ⟨wr.heap.size,0,none⟩=some (.int .i64 y.id):=(a.cell o).trans k0;have c6:L.cell? ⟨wr.heap.size,6,none⟩=some (.int .i64 y.size):=(a.cell o).trans k6)
    |(go_at_call_of 34 (Value.int IntKind.i64 y.size);refine(itoa_at Z h5 W X ?_).mono ?_;exact below_step F Ag;rintro e L ⟨rfl,t⟩;have a:=below_step (by assumption:Below s.heap.size s _) t;have K:=(a.block _ o).trans H;have c0:L.cell? ⟨wr.heap.size,0,none⟩=some (.int .i64 y.id):=(a.cell o).trans k0;have c6:L.cell? ⟨wr.heap.size,6,none⟩=some (.int .i64 y.size):=(a.cell o).trans k6)
    |(go_at_call 33;refine(ws_calls (D.heap.size+1) r.heap.size (certL (List.take k C).reverse) _ _ (BOk.below Q Ag) ?_).mono ?_;(simp only[Tv,mkB_size,Tz,Ro,Tc];omega);rintro e N ⟨⟨m,rfl⟩,aa,q⟩;have u:=bel_node (Y:=wr.heap.size) q K af;have ai:Bel r.heap.size (D.heap.size+1) r N:=Bel.trans (ag.trans (Bel.below Ag R)) q;have d2:N.cell? ⟨wr.heap.size,2,none⟩=some (.int .i64 y.parent):=by {simp[World.cell?,u]};have d3:N.cell? ⟨wr.heap.size,3,none⟩=some (.string y.grade):=by {simp[World.cell?,u]};have d4:N.cell? ⟨wr.heap.size,4,none⟩=some (.string y.heat):=by {simp[World.cell?,u]}))
   all_goals (go_wp2_with (first
    |(go_at_call 33;refine(ws_calls (D.heap.size+1) r.heap.size _ _ _ Ag ?_).mono ?_;(simp only[Tv,mkB_size,Tz,Ro,Tc];omega);rintro e wd ⟨⟨m2,rfl⟩,ab,A⟩;have aj:Bel r.heap.size (D.heap.size+1) r wd:=Bel.trans Ag A)
    |go_in))
   all_goals (refine⟨⟨k+1,Aa,rfl,?_,Ag⟩,Aq⟩)
   all_goals (rw[cert_step hy];unfold lineN;rw[ew])
   all_goals first
    |(rw[show restN y=aI from BQ,app_emptyB];assumption)
    |(rw[show restN y=bs_ [32,103,114,97,100,101,32] ++y.grade++bs_ [32,104,101,97,116,32] ++y.heat from BV];assumption)
  have au:k=C.length:=by omega
  subst au;rw[TM]at ah;have J:Below w.heap.size w wr:=⟨l.os.trans d.os,l.tape.trans d.tape,l.output.trans d.output,Rz d.size l.size,λk hk=>(l.block k (by have:=d.size;omega) (by have:=E.size;omega)).trans (d.block k hk)⟩
  go_wp2_with (first
   |(go_at_call 35;refine(str_of (D.heap.size+1) r.heap.size (certL C.reverse) _ ah (certL_pos hC)).mono ?_;rintro e wd ⟨rfl,B⟩)
   |go_in)
  go_ret2
  refine⟨rfl,⟨B.os.trans J.os,B.tape.trans J.tape,B.output.trans J.output,Rz J.size B.size,λk hk=>(B.block k (by have:=d.size;omega) (by have:=E.size;omega)).trans (J.block k hk)⟩⟩
end Go.Proofs.Led
