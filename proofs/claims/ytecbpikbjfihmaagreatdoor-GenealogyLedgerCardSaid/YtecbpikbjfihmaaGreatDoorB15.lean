/- Lemmas. -/
import Derived.Test.YtecbpikbjfihmaaGreatDoorB14
import Derived.Shelf.Small.Bits
import Derived.Shelf.Strconv.Itoa0
import Derived.Shelf.Strconv.Itoa1
import Derived.Shelf.LaysM
import Derived.Shelf.Strconv.Itoa2
import Derived.Shelf.Strconv.Itoa3
import Derived.Below
import Derived.Sort.Grow
import Derived.Shelf.Strconv.Itoa4
import Derived.Lib.ItoaLen
import Derived.Lib.Builder
import Derived.Lib.UnsafeStr
import Derived.Shelf.RegionOpenPlain
import Derived.Lib.AppendStr
import Derived.Maps.OwnRows
set_option linter.all false
set_option autoImplicit true
set_option relaxedAutoImplicit true
set_option maxRecDepth 1000000
set_option maxHeartbeats 4000000
noncomputable section
namespace Go.Proofs
open Go.Shelf Go.Ab
def Tryz.laysM171_ren:Go.Shelf.Ren:=⟨λ|171=>34|243=>73|246=>115|283=>166|284=>167|285=>168|286=>169|129=>209|317=>208|318=>210|319=>211|320=>212|337=>260|338=>261|n=>n,λ|3=>3|9=>9|2=>2|4=>4|171=>236|0=>0|53=>237|37=>113|5=>5|173=>240|212=>265|51=>266|20=>20|213=>267|46=>186|232=>325|233=>326|n=>n,λ|17=>0|18=>1|19=>2|n=>n⟩
def Tryz.laysM171:Go.Proofs.LaysM.n171 Tryz.prog Tryz.laysM171_ren:={
 mixed:=Ac
 f129:=Tryz.func209.trans (RI some Ac)
 f171:=Tryz.func34.trans (RI some Ac)
 f243:=Tryz.func73.trans (RI some Ac)
 f246:=Tryz.func115.trans (RI some Ac)
 f283:=Tryz.func166.trans (RI some Ac)
 f284:=Tryz.func167.trans (RI some Ac)
 f285:=Tryz.func168.trans (RI some Ac)
 f286:=Tryz.func169.trans (RI some Ac)
 f317:=Tryz.func208.trans (RI some Ac)
 f318:=Tryz.func210.trans (RI some Ac)
 f319:=Tryz.func211.trans (RI some Ac)
 f320:=Tryz.func212.trans (RI some Ac)
 f337:=Tryz.func260.trans (RI some Ac)
 f338:=Tryz.func261.trans (RI some Ac)
 t0:=Tryz.underlying0
 a0:=Tryz.isAgg0
 z0:=Tryz.sizeOf0
 v0:=Tryz.zeroValue0
 t2:=Tryz.underlying2
 a2:=Tryz.isAgg2
 z2:=Tryz.sizeOf2
 v2:=Tryz.zeroValue2
 t3:=Tryz.underlying3
 a3:=Tryz.isAgg3
 z3:=Tryz.sizeOf3
 v3:=Tryz.zeroValue3
 t4:=Tryz.underlying4
 a4:=Tryz.isAgg4
 z4:=Tryz.sizeOf4
 v4:=Tryz.zeroValue4
 t5:=Tryz.underlying5
 a5:=Tryz.isAgg5
 z5:=Tryz.sizeOf5
 v5:=Tryz.zeroValue5
 t9:=Tryz.underlying9
 a9:=Tryz.isAgg9
 z9:=Tryz.sizeOf9
 v9:=Tryz.zeroValue9
 t20:=Tryz.underlying20
 a20:=Tryz.isAgg20
 z20:=Tryz.sizeOf20
 v20:=Tryz.zeroValue20
 t37:=Tryz.underlying113
 a37:=Tryz.isAgg113
 z37:=Tryz.sizeOf113
 v37:=Tryz.zeroValue113
 t46:=Tryz.underlying186
 a46:=Tryz.isAgg186
 z46:=Tryz.sizeOf186
 v46:=Tryz.zeroValue186
 t51:=Tryz.underlying266
 a51:=Tryz.isAgg266
 z51:=Tryz.sizeOf266
 v51:=Tryz.zeroValue266
 t53:=Tryz.underlying237
 a53:=Tryz.isAgg237
 z53:=Tryz.sizeOf237
 v53:=Tryz.zeroValue237
 t171:=Tryz.underlying236
 a171:=Tryz.isAgg236
 z171:=Tryz.sizeOf236
 v171:=Tryz.zeroValue236
 t173:=Tryz.underlying240
 a173:=Tryz.isAgg240
 z173:=Tryz.sizeOf240
 v173:=Tryz.zeroValue240
 t212:=Tryz.underlying265
 a212:=Tryz.isAgg265
 z212:=Tryz.sizeOf265
 v212:=Tryz.zeroValue265
 t213:=Tryz.underlying267
 a213:=Tryz.isAgg267
 z213:=Tryz.sizeOf267
 t232:=Tryz.underlying325
 a232:=Tryz.isAgg325
 z232:=Tryz.sizeOf325
 v232:=Tryz.zeroValue325
 t233:=Tryz.underlying326
 a233:=Tryz.isAgg326
 z233:=Tryz.sizeOf326
 v233:=Tryz.zeroValue326
 g17:=Ac
 g18:=Ac
 g19:=Ac
 i0:=Ac
 i2:=Ac
 i3:=Ac
 i4:=Ac
 i5:=Ac
 i9:=Ac
 i20:=Ac
 i37:=Ac
 i46:=Ac
 i51:=Ac
 i53:=Ac
 i171:=Ac
 i173:=Ac
 i212:=Ac
 i232:=Ac
 i233:=Ac
 m17:=Ac
 m18:=Ac
 m19:=Ac}
end Go.Proofs
namespace Go.Proofs.Led
open Go Go.Proofs Go.Ab Go.RowKit Go.Shelf
def below_grow:Below w.heap.size w (Sort.grow (w.drewN k) os):=
 ⟨rfl,rfl,rfl,by show w.heap.size<=(w.heap++os).size;simp,λb a=>by show(w.heap++os)[b]? =w.heap[b]?;rw[Array.getElem?_append_left a]⟩
def spec_of_calls(o:callable Tryz.prog f=true)
 (h:∀(w:World) (G:Gh) (cs:Array Value),cs.size=ys.length->(∀b,G.O b≠ .ext->b<w.heap.size)->(∀(j:Nat) v y,cs[j]? =some v->ys[j]? =some y->Rb T w G j v y)->LayP w (λb=>G.O b= .fz)->
  Calls Tryz.prog f cs w λe w'=>Below w.heap.size w w'/\∃v,e= .returned v/\Rr T w' G v r):Sp f ys r:=by
 refine⟨o,λw G cs l d g m n=>(h w G cs l d m n).mono ?_⟩;rintro e w' ⟨c,v,rfl,p⟩;refine⟨v,G,rfl,⟨p,trivial⟩,λ_ h=>h,λb a=>SS (d b a) c.size,g,λb a=>?_,λb a _=>c.block b a,c.size,c.os,c.tape,c.output⟩;cases k:G.O b with
 |ext=>exact absurd k a
 |fz=>exact .inl ⟨rfl,rfl⟩
 |bx i=>exact absurd k (g b i)
 |ar j=>exact .inr (.inr ⟨j,rfl⟩)
def itoaB(n:Int):ByteArray:=⟨(Lib.itoa n).toArray⟩
def itoa_calls n(a: -9223372036854775808<=n)(b:n<=9223372036854775807) w F(c:LayP w F):Calls Tryz.prog 34 #[.int .i64 n] w λe w'=>e= .returned (.string (itoaB n))/\Below w.heap.size w w':=by
 refine(Any.strconv_Itoa Tryz.laysM171 n a b w ?_).mono ?_;let⟨t,z,d⟩:=c.p10.2;refine Option.bind_eq_some_iff.2 ⟨0,Ac,?_⟩;rw[d];rintro e w' ⟨rfl,k,os,rfl⟩;exact⟨rfl,below_grow⟩
end Go.Proofs.Led
namespace Go.Proofs.Led
open Go Go.Proofs Go.Ab
end Go.Proofs.Led
namespace Go.Proofs.Led
open Go Go.Proofs Go.Ab Go.RowKit
def bld_size:(Tryz.prog.info? 115).map (·.size)=some 2:=Ac
def bld_lies:liesAt Tryz.prog Tryz.prog.depth 115 (2/Tryz.prog.cellsOf 115) 0 115 1=true:=Ac
def cc_new b w(l:w.cell? ⟨b,0,none⟩=some (.pointer none))(a:w.shape? b=some (115,2))(i:w.frozen? ⟨b,0,none⟩=false):
 Calls Tryz.prog 72 #[.pointer (some ⟨b,0,none⟩)] w λe w'=>e= .returned (.tuple #[])/\w'=w.setCell ⟨b,0,none⟩ (.pointer (some ⟨b,0,none⟩)):=by
 let⟨j,g,c⟩:=Option.map_eq_some_iff.1 bld_size;have d:=Tryz.underlying112;have k:=Tryz.underlying115;have f:=Tryz.underlying183;have uP:=RJ d;have m:=RJ k;have uU:=RJ f;have aP:=Tryz.isAgg112;have aB:=Tryz.isAgg115
 go_enter Tryz.func72,Tryz.ntmps72
 go_wp2
 rw[Lib.run_to_unsafe w ⟨b,0,none⟩ d f g (by rw[c];decide) a (Nat.zero_lt_succ 1)];simp[Result.andThen];rw[Uk]
 go_wp2
 rw[UC Tryz.func114 Ac Ac Ac (e:=Extern.AbiNoEscape.same) Ac];rw[Lib.run_noEscape];simp[Result.andThen];rw[Uk]
 go_wp2
 rw[Lib.run_from_unsafe w ⟨b,0,none⟩ f d g a bld_lies];simp[Result.andThen];rw[Uk]
 go_wp2
 go_end0
 exact⟨rfl,rfl⟩
def cc_old b w(h:w.cell? ⟨b,0,none⟩=some (.pointer (some ⟨b,0,none⟩))):
 Calls Tryz.prog 72 #[.pointer (some ⟨b,0,none⟩)] w λe w'=>e= .returned (.tuple #[])/\w'=w:=by
 let⟨j,c,d⟩:=Option.map_eq_some_iff.1 bld_size;have a:=Tryz.underlying112;have f:=Tryz.underlying115;have g:=Tryz.underlying183;have uP:=RJ a;have i:=RJ f;have uU:=RJ g;have aP:=Tryz.isAgg112;have aB:=Tryz.isAgg115
 go_enter Tryz.func72,Tryz.ntmps72
 go_wp2
 rw[Lib.run_neq_ptr_same w _ a c]
 go_wp2
 go_end0
 exact⟨rfl,rfl⟩
def bld_byte:Tryz.prog.cellsOf 5=1:=Ac
def str_calls b g n cap p cur l w(k:w.heap[b]? =some (.cells #[p, .slice (some ⟨g,0,none⟩) n cap] 115 (0,0)))(d:w.heap[g]? =some (.cells cur 5 (0,0)))
 (q:n=l.length)(c:l≠ [])(C:n<=cap)(hcm:cap<=maxLen)(D:cur.size=cap)(m:∀(j:Nat) (x:UInt8),l[j]? =some x->cur[j]? =some (Value.int .u8 x.toNat)):
 Calls Tryz.prog 35 #[.pointer (some ⟨b,0,none⟩)] w λe w'=>e= .returned (.string ⟨l.toArray⟩)/\w'=w.drew.freeze ⟨g,0,none⟩ n:=by
 have o:l.length≠0:=by simpa using c
 subst q
 have B:w.drew.cell? ⟨b,1,none⟩=some (.slice (some ⟨g,0,none⟩) l.length cap):=by
  have:w.drew.heap[b]? =some (.cells #[p, .slice (some ⟨g,0,none⟩) l.length cap] 115 (0,0)):=k;rw[Lib.cell_of_heap this];rfl
 have f:(Builtin.unsafeSliceData_ #[113] 157 #[.slice (some ⟨g,0,none⟩) l.length cap]).run Tryz.prog w.drew= .ok (.pointer (some ⟨g,0,none⟩)) w.drew:=
  Lib.run_unsafeSliceData_row _ _ _ _ _ _ Aa
 have i:(Builtin.unsafeString_ #[157,3] 9 #[.pointer (some ⟨g,0,none⟩), .int .i64 l.length]).run Tryz.prog w.drew= .ok (.string ⟨l.toArray⟩) (w.drew.freeze ⟨g,0,none⟩ l.length):=by
  refine Lib.run_unsafeString_row w.drew 157 3 9 5 Tryz.underlying157 bld_byte g cur.size (by have a:w.drew.heap[g]? =some (.cells cur 5 (0,0)):=d;simp[World.shape?,a]) l c Aa G6 ?_;intro j x r;have a:w.drew.heap[g]? =some (.cells cur 5 (0,0)):=d;have:=m j x r;rw[Addr.add_lit];simp[World.cell?,a];simpa using this
 have y:=Tryz.underlying112;have v:=Tryz.underlying115;have z:=Tryz.underlying113;have A:=Tryz.underlying157;have s:=SL;have u:=Tryz.underlying9;have t:=Tryz.underlying5;have uP:=RJ y;have H:=RJ v;have I:=RJ z;have J:=RJ A;have E:=RJ s;have G:=RJ u;have F:=RJ t;have aP:=Tryz.isAgg112;have aB:=Tryz.isAgg115;have aS:=Tryz.isAgg113;have mixed:=mixed
 go_enter Tryz.func35,Tryz.ntmps35
 go_wp2
 go_region_o
 all_goals (go_wp2;go_ret;exact⟨rfl,rfl⟩)
end Go.Proofs.Led
namespace Go.Proofs.Led
open Go Go.Proofs Go.Ab Go.RowKit Go.Lib
def byte_info:(Tryz.prog.info? 5).map (λi=>(i.zero,i.size,i.bytes))=some (some (.int .u8 0),1,1):=Ac
def BOk(w:World)(X base:Nat)(acc:ByteArray):Prop:=
 ∃p v,w.heap[X]? =some (.cells #[p,v] 115 (0,0))/\(p= .pointer none\/p= .pointer (some ⟨X,0,none⟩))/\w.ownsRow base 5 1 v acc.size (strCells acc)/\X<base/\base<=w.heap.size
structure Bel(base X:Nat)(w w':World):Prop where
 os:w'.os=w.os
 tape:w'.tape=w.tape
 output:w'.output=w.output
 size:w.heap.size<=w'.heap.size
 block:∀k,k<base->k≠X->w'.heap[k]? =w.heap[k]?
 typed:∀k c t fr,w.heap[k]? =some (.cells c t fr)->t≠5->k≠X->w'.heap[k]? =w.heap[k]?
def Bel.refl{a X}:Bel a X w w:=⟨rfl,rfl,rfl,Rf _,λ_ _ _=>rfl,λ_ _ _ _ _ _ _=>rfl⟩
def Bel.trans{d X}(h:Bel d X a b)(k:Bel d X b c):Bel d X a c:=
 ⟨k.os.trans h.os,k.tape.trans h.tape,k.output.trans h.output,Rz h.size k.size,λi hi e=>(k.block i hi e).trans (h.block i hi e),λi c t f hi g e=>(k.typed i c t f ((h.typed i c t f hi g e).trans hi) g e).trans (h.typed i c t f hi g e)⟩
theorem strCells_app a b:strCells (a++b)=strCells a++strCells b:=by simp[strCells]
def row_slice{w:World}(h:w.ownsRow b e size v n xs):∃a m c,v= .slice a m c:=by
 rcases h.2 with⟨rfl,_⟩|⟨g,cap,_,rfl,_⟩;exact⟨_,_,_,rfl⟩;exact⟨_,_,_,rfl⟩
def row_typed{w:World}(h:w.ownsRow a e size v n xs)(hv:v.ownBlock=some k)(f:w.heap[k]? =some (.cells c t b))(i:t≠e):False:=by
 rcases h.2 with⟨rfl,_⟩|⟨g,cap,cur,rfl,_,d,_⟩;cases hv;cases hv<;>simp_all
def set_grown{w:World}{X i}:w.grownBy (w.setCell ⟨X,i,none⟩ u) (some X):=
 ⟨EU,EU,EU,by unfold World.setCell;split<;>simp,λk _ a=>heap_setCell_other w _ k _ (λe=>a Io)⟩
def ws_calls X b d s w(h:BOk w X b d)(Z:d.size+s.size<=1000000000):
 Calls Tryz.prog 33 #[.pointer (some ⟨X,0,none⟩), .string s] w λe w'=>(∃m,e= .returned (.tuple #[m, .nilIface]))/\BOk w' X b (d++s)/\Bel b X w w':=by
 let⟨p,v,u,V,l,G,z⟩:=h;let⟨W,hi,J,K,L⟩:=info_parts byte_info;have B:=λk o=>(l.lt k o).1
 have H:Calls Tryz.prog 72 #[.pointer (some ⟨X,0,none⟩)] w λe w'=>e= .returned (.tuple #[])/\w'.heap[X]? =some (.cells #[.pointer (some ⟨X,0,none⟩),v] 115 (0,0))/\w'.ownsRow b 5 1 v d.size (strCells d)/\Bel b X w w':=by
  have M:w.cell? ⟨X,0,none⟩=some p:=by simp[World.cell?,u]
  have S:w.frozen? ⟨X,0,none⟩=false:=by simp[World.frozen?,u]
  have I:w.shape? X=some (115,2):=by simp[World.shape?,u]
  rcases V with rfl|rfl;refine(cc_new X w M I S).mono ?_;rintro e w' ⟨rfl,rfl⟩;have f:w.grownBy (w.setCell ⟨X,0,none⟩ (.pointer (some ⟨X,0,none⟩))) (some X):=set_grown;refine⟨rfl,?_,l.kept f ?_,⟨f.os,f.tape,f.output,f.size,λk o g=>f.block k Aa (λe=>g (by cases e;rfl)),λk c t U o O g=>f.block k (Ry.1 o).1 (λe=>g (by cases e;rfl))⟩⟩;rw[heap_setCell_same _ _ _ _ _ _ u];rfl;grind;refine(cc_old X w M).mono ?_;rintro e w' ⟨rfl,rfl⟩;exact⟨rfl,u,l,Bel.refl⟩
 go_enter Tryz.func33,Tryz.ntmps33
 go_wp2_with (first
  |(go_at_call 72;refine H.mono ?_;rintro e Q ⟨rfl,x,n,j⟩;have Y:Q.cell? ⟨X,1,none⟩=some v:=by {simp[World.cell?,x]})
  |(at_builtin;refine wpList_append_own_string _ rfl _ _ 113 9 rfl b 5 W Tryz.underlying113 Tryz.underlying9 hi J K L v d.size (strCells d) rfl n s rfl Cj Aa (Rz z j.size) ?_;intro v' C i a N;obtain⟨D,F,E,rfl⟩:=row_slice i;have q:=a.block X (SS Aa j.size) (λr=>by {have:=B X r.symm;omega});rw[x]at q;have R:C.cell? ⟨X,1,none⟩=some v:=by {simp[World.cell?,q]};have T:C.frozen? ⟨X,1,none⟩=false:=by {simp[World.frozen?,q]})
  |go_in)
 go_ret2
 have f:C.grownBy (C.setCell ⟨X,1,none⟩ (.slice D F E)) (some X):=set_grown;have P:=λk o=>(i.lt k o).1
 have y:Bel b X Q (C.setCell ⟨X,1,none⟩ (.slice D F E)):=⟨f.os.trans a.os,f.tape.trans a.tape,f.output.trans a.output,Rz a.size f.size,λk o g=>(f.block k (SS Aa (Rz j.size a.size)) (λe=>g (by cases e;rfl))).trans (a.block k (SS Aa j.size) (λr=>by have:=B k r.symm;omega)),λk c t U o O g=>by
  have A:=(Ry.1 o).1;rw[f.block k (SS A a.size) (λe=>g (by cases e;rfl)),a.block k A (λr=>row_typed n r.symm o O)]⟩
 refine⟨⟨_,rfl⟩,⟨.pointer (some ⟨X,0,none⟩), .slice D F E,?_, .inr rfl,?_,G,Rz z (Rz j.size (Rz a.size f.size))⟩,j.trans y⟩
 ·rw[heap_setCell_same _ _ _ _ _ _ q]
  rfl
 ·have e:(d++s).size=d.size+s.size:=Tv
  rw[e,strCells_app];refine i.kept f ?_;grind
def str_of X b a w(h:BOk w X b a)(u:a.size≠0):
 Calls Tryz.prog 35 #[.pointer (some ⟨X,0,none⟩)] w λe w'=>e= .returned (.string a)/\Bel b X w w':=by
 let⟨p,v,A,I,f,B,D⟩:=h;rcases f.2 with⟨_,F⟩|⟨g,cap,cur,rfl,C,y,q,l,m,d⟩
 ·exact absurd F u
 ·have o:a.data.toList.length=a.size:=by simp
  refine(str_calls X g a.size cap p cur a.data.toList w A y o.symm (λe=>u (by rw[<-o,e];rfl)) q l (by simpa using m) (λj x z=>?_)).mono ?_
  ·have E:j<a.size:=by rw[<-o];exact(QW.1 z).1
   have s:(cur.toList.take (a.size*1))[j]? =(strCells a)[j]? :=by rw[d]
   rw[TV,QU Aa]at s;rw[<-Ud,s];simp[strCells,z]
  ·rintro e w' ⟨rfl,rfl⟩
   refine⟨Ad,EZ,EZ,EZ,?_,λk i n=>?_,λk c t H i G n=>?_⟩
   ·unfold World.freeze
    split
    ·exact Rf _
    ·exact Nat.le_of_eq (Array.size_modify ..).symm
   ·unfold World.freeze
    split
    ·rfl
    ·show(w.heap.modify g _)[k]? =_
     rw[Array.getElem?_modify,Q9 Aa]
   ·have r:g≠k:=λe=>by
     subst e;rw[y]at i;simp[SI,Obj.cells.injEq]at i;exact G i.2.1.symm
    unfold World.freeze;split
    ·rfl
    ·show(w.heap.modify g _)[k]? =_
     rw[Array.getElem?_modify,Q9 r]
def fzG(G:Gh):Gh:={G with O:=λb=>match G.O b with| .fz=> .fz|_=> .ext}
theorem fzG_iff:(fzG G).O b= .fz↔G.O b= .fz:=by
 unfold fzG;dsimp only;cases G.O b<;>simp
theorem fzG_ext(h:(fzG G).O b≠ .ext):G.O b= .fz:=by
 grind [fzG]
def sp_at(h:Sp f ys r)(g:∀b,G.O b≠ .ext->b<w.heap.size)(m:LayP w (λb=>G.O b= .fz))(l:Below w.heap.size w w') cs(q:cs.size=ys.length)
 (n:∀(j:Nat) v y,cs[j]? =some v->ys[j]? =some y->Rb T w' (fzG G) j v y):
 Calls Tryz.prog f cs w' λe a=>∃v G',e= .returned v/\Rr T a G' v r/\Below w'.heap.size w' a/\∀b,G'.O b≠ .ext->G'.O b= .fz\/w'.heap.size<=b:=by
 refine(h.2 w' (fzG G) cs q (λb hb=>SS (g b (by rw[fzG_ext hb];simp)) l.size) (λb i hb=>?_) n ?_).mono ?_
 ·grind [fzG_ext,fzG_iff]
 ·refine layP_mono (λb hb=>?_) m
  exact⟨fzG_iff.2 hb,l.block b (g b AV)⟩
 ·rintro e a ⟨v,G',rfl,⟨s,_⟩,A,B,C,D,t,u,x,z,d⟩
  have c:∀b j,(fzG G).O b≠ .ar j:=λb j hb=>by
   grind [fzG_ext,fzG_iff]
  refine⟨v,G',rfl,s,⟨x,z,d,u,λk o=>t k o (λj=>c k j)⟩,λb hb=>?_⟩;grind
def rb_later(c:∀b,G.O b≠ .ext->b<w.heap.size)(d:Below w.heap.size w w')(a:V.pure (.sl l))(h:Rv w G v (.sl l)) j:Rb T w' (fzG G) j v (.sl l):=by
 refine⟨a,Rv.keep (w:=w) (G:=G) ⟨λb hb=>fzG_iff.2 hb,λb hb=>d.block b (c b AV)⟩ h a (λ_ h=>h.elim) (λ_ _ h=>h.elim)⟩
def rb_nodeA x:Rb T w G j (.agg (nodeA x)) (nodeV x):=by
 refine⟨by simp[V.pure,nodeV,nodeC,V.ok,V.okL,I,S,B,and_self], .agg (nodeA x) (nodeC x) rfl (by
  intro c a;simp[nodeA,List.mem_toArray,Rl,TP,UL]at a;rcases a with rfl|rfl|rfl|rfl|rfl|rfl|rfl|rfl|rfl<;>rfl) λi c y a d=>?_⟩
 have e:nodeC x=(nodeA x).toList.map V.lit:=rfl;rw[e,RN,Ud,a]at d;cases d;refine .lit _ ?_;have b:=Array.mem_of_getElem? a;simp[nodeA,List.mem_toArray,Rl,TP,UL]at b;rcases b with rfl|rfl|rfl|rfl|rfl|rfl|rfl|rfl|rfl<;>rfl
def nodeA_of(h:Rv w G v (nodeV x)):v= .agg (nodeA x):=by
 obtain⟨cs,rfl,c,_,b⟩:=Rv.zV (show Rv w G v (.agg (nodeC x))from h);congr 1;apply Array.ext;rw[c];rfl;intro i a d
 have e:(nodeC x)[i]? =some (.lit (nodeA x)[i]):=by
  show((nodeA x).toList.map V.lit)[i]? =_;simp_all
 exact(b i _ _ (U4 a) e).bH
section
variable{w:World}{G:Gh}{v0:Value}{f:List Node}(h2:∀b,G.O b≠ .ext->b<w.heap.size)(h5:LayP w (λb=>G.O b= .fz))(hp:V.pure (.sl (f.map nodeV)))(hv:Rv w G v0 (.sl (f.map nodeV)))
include h2 h5 hp hv
theorem node_calls(h:Sp 30 [.sl (f.map nodeV),I n] (.tup [nodeV y,I i]))(l:Below w.heap.size w w'):
 Calls Tryz.prog 30 #[v0, .int .i64 n] w' λe g=>e= .returned (.tuple #[.agg (nodeA y), .int .i64 i])/\Below w'.heap.size w' g:=by
 refine(sp_at h h2 h5 l #[v0, .int .i64 n] rfl (λj v y c d=>?_)).mono ?_
 ·match j,c,d with
  |0,c,d=>cases c;cases d;exact rb_later h2 l hp hv 0
  |1,c,d=>cases c;cases d;exact⟨by simp[V.pure,I,V.ok], .lit _ rfl⟩
 ·rintro e g ⟨v,G',rfl,⟨vs,rfl,q,m⟩,k,_⟩
  refine⟨?_,k⟩;obtain⟨a,b,rfl⟩:=arr2 q;have o:=nodeA_of (m 0 a _ rfl rfl).2;have p:=dZ9 (m 1 b _ rfl rfl);rw[o,p]
theorem climb_calls(h:Sp 31 [.sl (f.map nodeV),nodeV x] (.own 40 (C.map nodeV)))(A:C≠ [])(o:Below w.heap.size w w'):
 Calls Tryz.prog 31 #[v0, .agg (nodeA x)] w' λe d=>(∃g cap,e= .returned (.slice (some ⟨g,0,none⟩) C.length cap)/\w'.heap.size<=g/\g<d.heap.size/\∀ k y,C[k]? =some y->∀ j v,(nodeA y)[j]? =some v->d.cell? ⟨g,k*9+j,none⟩=some v)/\Below w'.heap.size w' d:=by
 refine(sp_at h h2 h5 o #[v0, .agg (nodeA x)] rfl (λj v y a i=>?_)).mono ?_
 ·match j,a,i with
  |0,a,i=>cases a;cases i;exact rb_later h2 o hp hv 0
  |1,a,i=>cases a;cases i;exact rb_nodeA x
 ·rintro e d ⟨v,G',rfl,⟨_,_,J⟩,m,B⟩
  refine⟨?_,m⟩;rcases J with⟨_,z⟩|⟨b,cap,cur,rfl,p,q,K,D,E,L,r⟩
  ·exact absurd (List.map_eq_nil_iff.1 z) A
  ·refine⟨b,cap,by rw[Rw],?_,(Ry.1 q).1,λk y H j u F=>?_⟩
   ·rcases B b (by rw[p];simp)with h|h
    ·rw[p]at h;cases h
    ·exact h
   ·have s:(nodeC y)[j]? =some (.lit u):=by
     show((nodeA y).toList.map V.lit)[j]? =_;rw[RN,Ud,F];rfl
    have n:=flat_node C k y H j _ s;have c:=(QW.1 n).1;have I:=c;rw[<-r.len]at c;have t:=(r.rel _ _ _ (QX c) n).bH;have l:=QX c;rw[t,TV]at l;split at l
    ·rw[World.cell?,q]
     simpa using l
    ·cases l
omit hp hv in
theorem itoa_at(c: -9223372036854775808<=m)(d:m<=9223372036854775807)(g:Below w.heap.size w w'):
 Calls Tryz.prog 34 #[.int .i64 m] w' λe a=>e= .returned (.string (itoaB m))/\Below w'.heap.size w' a:=
 itoa_calls m c d w' _ (layP_mono (λb hb=>⟨hb,g.block b (h2 b AV)⟩) h5)
end
end Go.Proofs.Led
