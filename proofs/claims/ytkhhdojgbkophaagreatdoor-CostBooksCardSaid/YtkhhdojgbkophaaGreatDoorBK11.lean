/-
  The functions of costs, walked: values, comparisons.
-/
import Derived.Test.YtkhhdojgbkophaaGreatDoorBB1
import Derived.Below
import Derived.Sort.Grow
import Derived.Shelf.Strings.OnBuilder
import Derived.Shelf.Strconv.Itoa3
import Derived.Shelf.LaysM
import Derived.Shelf.Sort.Plain
set_option linter.unusedVariables false
set_option linter.unusedSimpArgs false
set_option maxRecDepth 100000
noncomputable section
namespace Go.Proofs.Cost58
open Go Go.Proofs Go.Ab Go.Proofs.Led
theorem arith_u{n:Int}{K:Int->Prop}(h:0<=n/\n<=18446744073709551615)(hk:K n):arith .u64 n K:=by
 refine⟨?_⟩;rw[show IntKind.wrap .u64 n=n from by simp[IntKind.wrap,IntKind.signed,IntKind.bits];omega];exact hk
theorem arith_half{n:Int}{K:Int->Prop}(h:0<=n/\n<=18446744073709551615)(hk:K (n/2)):arith .i64 (shrI .u64 n 1) K:=by
 have e:shrI .u64 n 1=n/2:=by unfold shrI;rw[Int.fdiv_eq_ediv_of_nonneg _ (by decide)];rfl
 rw[e];exact eH4 Aa hk
theorem loop_4{T:Tab}{σ:St}{x:aA2}{Q:Exit->St->Prop}{A B C D:Type}(st:A->B->C->D->St)(inv:A->B->C->D->Prop)(m:A->B->C->D->Nat)(a0:A)(b0:B)(c0:C)(d0:D)(h0:Le T σ (st a0 b0 c0 d0))(h1:inv a0 b0 c0 d0)(h:∀a b c d,inv a b c d->x (st a b c d) fun e σ'=>match e with
 | .normal=>∃p':A×B×C×D,Le T σ' (st p'.1 p'.2.1 p'.2.2.1 p'.2.2.2)/\inv p'.1 p'.2.1 p'.2.2.1 p'.2.2.2/\m p'.1 p'.2.1 p'.2.2.1 p'.2.2.2<m a b c d
 |e=>Q e σ'):bI0 T x σ Q:=
 lD (A:=A×B×C×D) (fun p=>st p.1 p.2.1 p.2.2.1 p.2.2.2) (fun p=>inv p.1 p.2.1 p.2.2.1 p.2.2.2) (fun p=>m p.1 p.2.1 p.2.2.1 p.2.2.2) (a0,b0,c0,d0) h0 h1 (fun p hp=>h p.1 p.2.1 p.2.2.1 p.2.2.2 hp)
set_option maxRecDepth 100000
theorem nan_vc(n:Int):fnVC T Tryz.prog Tryz.f79 [I n] (.lit (.bool false)):=by
 repeat' ((conv=>whnf);first
  |refine arith_half Aa ?_
  |refine arith_u Aa ?_
  |refine eY7 ?_
  |refine eZ1 Ac ?_
  |refine eH4 Aa ?_
  |refine fU (p:=(T.row _).eq=true) Ac ?_
  |refine fU Aa ?_
  |refine eZ2 ?_
  |refine eZ0 (fun hd=>?_) (fun hd=>?_)
  |refine br_lt (fun hlt=>?_) (fun hlt=>?_)
  |refine br_le (fun hle=>?_) (fun hle=>?_)
  |refine eV7 (fun heq=>?_) (fun heq=>?_)
  |refine eQ9 Aa (fun x hx=>?_)
  |refine eY0 rfl (fun h=>Ad) ?_
  |refine jU (fun hbb=>?_) (fun hbb=>?_)
  |refine ret_i ?_
  |refine fA7 ?_)
 exact PD
theorem aN2(n:Int):Sp 79 [I n] (.lit (.bool false)):=zsp Tryz.func79 (nan_vc n)
def cmpI(a b:Int):Int:=if a<b then-1 else if b<a then 1 else 0
theorem cmp_vc(a b:Int):fnVC T Tryz.prog Tryz.f47 [I a,I b] (I (cmpI a b)):=by
 unfold cmpI
 repeat' ((conv=>whnf);first
  |refine arith_half Aa ?_
  |refine arith_u Aa ?_
  |(refine aS5 (aN2 a) false ?_ rfl ?_;focus ((repeat' (first|exact trivial|refine And.intro ?_ ?_|with_reducible rfl|exact(fun h=>Ad)|exact rfl));done))
  |(refine aS5 (aN2 b) false ?_ rfl ?_;focus ((repeat' (first|exact trivial|refine And.intro ?_ ?_|with_reducible rfl|exact(fun h=>Ad)|exact rfl));done))
  |refine eY7 ?_
  |refine eZ1 Ac ?_
  |refine eH4 Aa ?_
  |refine fU (p:=(T.row _).eq=true) Ac ?_
  |refine fU Aa ?_
  |refine eZ2 ?_
  |refine eZ0 (fun hd=>?_) (fun hd=>?_)
  |refine br_lt (fun hlt=>?_) (fun hlt=>?_)
  |refine br_le (fun hle=>?_) (fun hle=>?_)
  |refine eV7 (fun heq=>?_) (fun heq=>?_)
  |refine eQ9 Aa (fun x hx=>?_)
  |refine eY0 rfl (fun h=>Ad) ?_
  |refine jU (fun hbb=>?_) (fun hbb=>?_)
  |refine ret_i ?_
  |refine fA7 ?_)
 all_goals
  conv=>whnf
  refine aG ?_
 ·rw[if_pos hlt]
 ·rw[if_neg Aa,if_pos hlt]
 ·rw[if_neg Aa,if_neg Aa]
theorem aB9(a b:Int):Sp 47 [I a,I b] (I (cmpI a b)):=zsp Tryz.func47 (cmp_vc a b)
theorem mulB{a b A B:Int}(ha:0<=a/\a<=A)(hb:0<=b/\b<=B):0<=a*b/\a*b<=A*B:=
 ⟨Int.mul_nonneg ha.1 hb.1,Int.mul_le_mul ha.2 hb.2 hb.1 Aa⟩
theorem arith_mul{a b A B:Int}{K:Int->Prop}(ha:0<=a/\a<=A)(hb:0<=b/\b<=B)(h:A*B<=9223372036854775807)(hk:K (a*b)):arith .i64 (a*b) K:=
 eH4 (by have:=mulB ha hb;omega) hk
def restF(am s:Int)(ws:List Int)(i:Int):Int:=(am*ws.getD i.toNat 0).tmod s
def bY(am s:Int)(ws:List Int):V:= .fn 44 [.fp [I am], .fp [.sl (ws.map I)], .fp [I s]]
theorem rest_vc(am s:Int)(ws:List Int)(i:Int)(h0:0<=i)(h1:i<ws.length)(hs:0<s)(ha:0<=am/\am<=1000000000)(hw:∀w∈ws,0<=w/\w<=1000000):
 fnVC T Tryz.prog Tryz.f44 [I i, .fp [I am], .fp [.sl (ws.map I)], .fp [I s]] (I (restF am s ws i)):=by
 have hl:(ws.map I).length=ws.length:=Ae
 repeat' ((conv=>whnf);first
  |refine arith_half Aa ?_
  |refine arith_u Aa ?_
  |refine arith_mul (A:=1000000000) (B:=1000000) ha (hw _ (List.mem_of_getElem? hx)) Ak ?_
  |refine eY7 ?_
  |refine eZ1 Ac ?_
  |refine eH4 Aa ?_
  |refine fU (p:=(T.row _).eq=true) Ac ?_
  |refine fU Aa ?_
  |refine eZ2 ?_
  |refine eZ0 (fun hd=>?_) (fun hd=>?_)
  |refine br_lt (fun hlt=>?_) (fun hlt=>?_)
  |refine br_le (fun hle=>?_) (fun hle=>?_)
  |refine eV7 (fun heq=>?_) (fun heq=>?_)
  |refine eQ9 Aa (fun x hx=>?_)
  |refine eY0 rfl (fun h=>Ad) ?_
  |refine jU (fun hbb=>?_) (fun hbb=>?_)
  |refine ret_i ?_
  |refine fA7 ?_)
 conv=>whnf
 refine aG ?_;unfold restF;rw[List.getD_eq_getElem?_getD,hx];rfl
theorem dL8(am s:Int)(ws:List Int)(i:Int)(h0:0<=i)(h1:i<ws.length)(hs:0<s)(ha:0<=am/\am<=1000000000)(hw:∀w∈ws,0<=w/\w<=1000000):
 Sp 44 [I i, .fp [I am], .fp [.sl (ws.map I)], .fp [I s]] (I (restF am s ws i)):=zsp Tryz.func44 (rest_vc am s ws i h0 h1 hs ha hw)
def ordV(am s:Int)(ws:List Int):V:= .fn 46 [.fp [bY am s ws]]
def ordF(am s:Int)(ws:List Int)(i j:Int):Int:=cmpI (restF am s ws j) (restF am s ws i)
theorem ord_vc(am s:Int)(ws:List Int)(i j:Int)(hi:0<=i/\i<ws.length)(hj:0<=j/\j<ws.length)(hs:0<s)(ha:0<=am/\am<=1000000000)(hw:∀w∈ws,0<=w/\w<=1000000):
 fnVC T Tryz.prog Tryz.f46 [I i,I j, .fp [bY am s ws]] (I (ordF am s ws i j)):=by
 repeat' ((conv=>whnf);first
  |refine arith_half Aa ?_
  |refine arith_u Aa ?_
  |(refine aS5 (dL8 am s ws j hj.1 hj.2 hs ha hw) false ?_ rfl ?_;focus ((repeat' (first|exact trivial|refine And.intro ?_ ?_|with_reducible rfl|exact(fun h=>Ad)|exact rfl));done))
  |(refine aS5 (dL8 am s ws i hi.1 hi.2 hs ha hw) false ?_ rfl ?_;focus ((repeat' (first|exact trivial|refine And.intro ?_ ?_|with_reducible rfl|exact(fun h=>Ad)|exact rfl));done))
  |(refine aS5 (aB9 (restF am s ws j) (restF am s ws i)) false ?_ rfl ?_;focus ((repeat' (first|exact trivial|refine And.intro ?_ ?_|with_reducible rfl|exact(fun h=>Ad)|exact rfl));done))
  |refine eY7 ?_
  |refine eZ1 Ac ?_
  |refine eH4 Aa ?_
  |refine fU (p:=(T.row _).eq=true) Ac ?_
  |refine fU Aa ?_
  |refine eZ2 ?_
  |refine eZ0 (fun hd=>?_) (fun hd=>?_)
  |refine br_lt (fun hlt=>?_) (fun hlt=>?_)
  |refine br_le (fun hle=>?_) (fun hle=>?_)
  |refine eV7 (fun heq=>?_) (fun heq=>?_)
  |refine eQ9 Aa (fun x hx=>?_)
  |refine eY0 rfl (fun h=>Ad) ?_
  |refine jU (fun hbb=>?_) (fun hbb=>?_)
  |refine ret_i ?_
  |refine fA7 ?_)
 conv=>whnf
 exact aG rfl
theorem ord_spec(am s:Int)(ws:List Int)(i j:Int)(hi:0<=i/\i<ws.length)(hj:0<=j/\j<ws.length)(hs:0<s)(ha:0<=am/\am<=1000000000)(hw:∀w∈ws,0<=w/\w<=1000000):
 Sp 46 [I i,I j, .fp [bY am s ws]] (I (ordF am s ws i j)):=zsp Tryz.func46 (ord_vc am s ws i j hi hj hs ha hw)
end Go.Proofs.Cost58
namespace Go.Proofs.Cost58
open Go Go.Proofs Go.Ab Go.Proofs.Led Go.RowKit
theorem below_grow{w:World}{k:Nat}{os:Array Obj}:Below w.heap.size w (Sort.grow (w.drewN k) os):=
 ⟨rfl,rfl,rfl,by show w.heap.size<=(w.heap++os).size;simp,fun b hb=>by show(w.heap++os)[b]? =w.heap[b]?;rw[Array.getElem?_append_left hb]⟩
theorem spec_of_calls{f:FuncId}{ys:List V}{r:V}(hc:callable Tryz.prog f=true)
 (h:∀(w:World) (G:Gh) (cs:Array Value),cs.size=ys.length->(∀b,G.O b≠ .ext->b<w.heap.size)->(∀(j:Nat) v y,cs[j]? =some v->ys[j]? =some y->Rb T w G j v y)->LayP w (fun b=>G.O b= .fz)->
  Calls Tryz.prog f cs w fun e w'=>Below w.heap.size w w'/\∃v,e= .returned v/\Rr T w' G v r):Sp f ys r:=by
 refine⟨hc,fun w G cs h1 h2 h3 h4 h5=>(h w G cs h1 h2 h4 h5).mono ?_⟩;rintro e w' ⟨hb,v,rfl,hr⟩;refine⟨v,G,rfl,hr,fun _ h=>h,fun b hb'=>Nat.lt_of_lt_of_le (h2 b hb') hb.size,h3,fun b hb'=>?_,fun b hb' _=>hb.block b hb',hb.size,hb.os,hb.tape,hb.output⟩
 cases hO:G.O b with
 |ext=>exact absurd hO hb'
 |fz=>exact .inl ⟨rfl,rfl⟩
 |bx i=>exact absurd hO (h3 b i)
 |ar j=>exact .inr (.inr ⟨j,rfl⟩)
theorem dZ9{w:World}{G:Gh}{j:Nat}{v:Value}{u:Value}(h:Rb T w G j v (.lit u)):v=u:=h.2.bH
theorem rr_lit{w:World}{G:Gh}{u:Value}(h:u.oneCell'=true):Rr T w G u (.lit u):=⟨Gy, .lit u h⟩
theorem spec_lits{f:FuncId}{us:List Value}{u:Value}(hc:callable Tryz.prog f=true)(hu:u.oneCell'=true)
 (h:∀(w:World) (F:Nat->Prop),LayP w F->Calls Tryz.prog f us.toArray w fun e w'=>e= .returned u/\Below w.heap.size w w'):Sp f (us.map .lit) (.lit u):=by
 refine spec_of_calls hc fun w G cs h1 h2 h4 h5=>?_
 have e:cs=us.toArray:=by
  apply Array.ext
  ·rw[h1];simp
  ·intro i hi hi'
   have hi2:i<us.length:=by simpa using hi'
   have:=h4 i cs[i] (.lit us[i]) F5 (by simp[hi2])
   simpa using dZ9 this
 rw[e];refine(h w _ h5).mono ?_;rintro e w' ⟨rfl,hb⟩;exact⟨hb,u,rfl,rr_lit hu⟩
end Go.Proofs.Cost58
namespace Go.Proofs
open Go.Shelf Go.Ab
def Tryz.lays156_ren:Go.Shelf.Ren:=⟨fun|156=>49|165=>81|166=>82|169=>83|240=>127|241=>128|276=>162|277=>163|n=>n,fun|31=>46|9=>9|3=>3|4=>4|0=>0|20=>20|72=>148|76=>152|70=>146|37=>132|75=>151|127=>202|164=>228|5=>5|80=>154|n=>n,fun|n=>n⟩
theorem Tryz.lays156:Go.Proofs.Lays.n156 Tryz.prog Tryz.lays156_ren:={
 mixed:=Ac
 f156:=Tryz.func49.trans (congrArg some Ac)
 f165:=Tryz.func81.trans (congrArg some Ac)
 f166:=Tryz.func82.trans (congrArg some Ac)
 f169:=Tryz.func83.trans (congrArg some Ac)
 f240:=Tryz.func127.trans (congrArg some Ac)
 f241:=Tryz.func128.trans (congrArg some Ac)
 f276:=Tryz.func162.trans (congrArg some Ac)
 f277:=Tryz.func163.trans (congrArg some Ac)
 t0:=Tryz.underlying0
 a0:=Tryz.isAgg0
 z0:=Tryz.sizeOf0
 v0:=Tryz.zeroValue0
 t3:=Tryz.underlying3
 a3:=Tryz.isAgg3
 z3:=Tryz.sizeOf3
 v3:=Tryz.zeroValue3
 t4:=Tryz.underlying4
 a4:=Tryz.isAgg4
 z4:=Tryz.sizeOf4
 v4:=Tryz.zeroValue4
 t9:=Tryz.underlying9
 a9:=Tryz.isAgg9
 z9:=Tryz.sizeOf9
 v9:=Tryz.zeroValue9
 t20:=Tryz.underlying20
 a20:=Tryz.isAgg20
 z20:=Tryz.sizeOf20
 v20:=Tryz.zeroValue20
 t31:=Tryz.underlying46
 a31:=Tryz.isAgg46
 z31:=Tryz.sizeOf46
 v31:=Tryz.zeroValue46
 t37:=Tryz.underlying132
 a37:=Tryz.isAgg132
 z37:=Tryz.sizeOf132
 v37:=Tryz.zeroValue132
 t70:=Tryz.underlying146
 a70:=Tryz.isAgg146
 z70:=Tryz.sizeOf146
 v70:=Tryz.zeroValue146
 t72:=Tryz.underlying148
 a72:=Tryz.isAgg148
 z72:=Tryz.sizeOf148
 v72:=Tryz.zeroValue148
 t75:=Tryz.underlying151
 a75:=Tryz.isAgg151
 z75:=Tryz.sizeOf151
 v75:=Tryz.zeroValue151
 t76:=Tryz.underlying152
 a76:=Tryz.isAgg152
 z76:=Tryz.sizeOf152
 v76:=Tryz.zeroValue152
 t127:=Tryz.underlying202
 a127:=Tryz.isAgg202
 z127:=Tryz.sizeOf202
 v127:=Tryz.zeroValue202
 t164:=Tryz.underlying228
 a164:=Tryz.isAgg228
 z164:=Tryz.sizeOf228
 v164:=Tryz.zeroValue228}
theorem Tryz.Builder_Extra_156:Builder.Extra Tryz.prog Tryz.lays156_ren:={
 sizeBuilder:=Ac
 liesBuilder:=Ac
 t5:=Tryz.underlying5
 a5:=Tryz.isAgg5
 z5:=Tryz.sizeOf5
 v5:=Tryz.zeroValue5
 infoByte:=Ac
 cellsByte:=Ac
 sizeByte:=Ac
 neB5:=Ak}
def Tryz.laysM171_ren:Go.Shelf.Ren:=⟨fun|171=>27|243=>59|246=>101|283=>144|284=>145|285=>146|286=>147|129=>100|317=>180|318=>181|319=>182|320=>183|337=>221|338=>222|n=>n,fun|3=>3|9=>9|2=>2|4=>4|171=>214|0=>0|53=>131|37=>132|5=>5|173=>216|212=>244|51=>169|20=>20|213=>245|46=>129|232=>302|233=>303|n=>n,fun|17=>0|18=>2|19=>3|n=>n⟩
theorem Tryz.laysM171:Go.Proofs.LaysM.n171 Tryz.prog Tryz.laysM171_ren:={
 mixed:=Ac
 f129:=Tryz.func100.trans (congrArg some Ac)
 f171:=Tryz.func27.trans (congrArg some Ac)
 f243:=Tryz.func59.trans (congrArg some Ac)
 f246:=Tryz.func101.trans (congrArg some Ac)
 f283:=Tryz.func144.trans (congrArg some Ac)
 f284:=Tryz.func145.trans (congrArg some Ac)
 f285:=Tryz.func146.trans (congrArg some Ac)
 f286:=Tryz.func147.trans (congrArg some Ac)
 f317:=Tryz.func180.trans (congrArg some Ac)
 f318:=Tryz.func181.trans (congrArg some Ac)
 f319:=Tryz.func182.trans (congrArg some Ac)
 f320:=Tryz.func183.trans (congrArg some Ac)
 f337:=Tryz.func221.trans (congrArg some Ac)
 f338:=Tryz.func222.trans (congrArg some Ac)
 t0:=Tryz.underlying0
 a0:=Tryz.isAgg0
 z0:=Tryz.sizeOf0
 v0:=Tryz.zeroValue0
 t2:=Tryz.underlying2
 a2:=Tryz.isAgg2
 z2:=Tryz.sizeOf2
 v2:=Tryz.zeroValue2
 t3:=Tryz.underlying3
 a3:=Tryz.isAgg3
 z3:=Tryz.sizeOf3
 v3:=Tryz.zeroValue3
 t4:=Tryz.underlying4
 a4:=Tryz.isAgg4
 z4:=Tryz.sizeOf4
 v4:=Tryz.zeroValue4
 t5:=Tryz.underlying5
 a5:=Tryz.isAgg5
 z5:=Tryz.sizeOf5
 v5:=Tryz.zeroValue5
 t9:=Tryz.underlying9
 a9:=Tryz.isAgg9
 z9:=Tryz.sizeOf9
 v9:=Tryz.zeroValue9
 t20:=Tryz.underlying20
 a20:=Tryz.isAgg20
 z20:=Tryz.sizeOf20
 v20:=Tryz.zeroValue20
 t37:=Tryz.underlying132
 a37:=Tryz.isAgg132
 z37:=Tryz.sizeOf132
 v37:=Tryz.zeroValue132
 t46:=Tryz.underlying129
 a46:=Tryz.isAgg129
 z46:=Tryz.sizeOf129
 v46:=Tryz.zeroValue129
 t51:=Tryz.underlying169
 a51:=Tryz.isAgg169
 z51:=Tryz.sizeOf169
 v51:=Tryz.zeroValue169
 t53:=Tryz.underlying131
 a53:=Tryz.isAgg131
 z53:=Tryz.sizeOf131
 v53:=Tryz.zeroValue131
 t171:=Tryz.underlying214
 a171:=Tryz.isAgg214
 z171:=Tryz.sizeOf214
 v171:=Tryz.zeroValue214
 t173:=Tryz.underlying216
 a173:=Tryz.isAgg216
 z173:=Tryz.sizeOf216
 v173:=Tryz.zeroValue216
 t212:=Tryz.underlying244
 a212:=Tryz.isAgg244
 z212:=Tryz.sizeOf244
 v212:=Tryz.zeroValue244
 t213:=Tryz.underlying245
 a213:=Tryz.isAgg245
 z213:=Tryz.sizeOf245
 t232:=Tryz.underlying302
 a232:=Tryz.isAgg302
 z232:=Tryz.sizeOf302
 v232:=Tryz.zeroValue302
 t233:=Tryz.underlying303
 a233:=Tryz.isAgg303
 z233:=Tryz.sizeOf303
 v233:=Tryz.zeroValue303
 g17:=Ac
 g18:=Ac
 g19:=Ac
 i0:=Ac
 i2:=Ac
 i3:=Ac
 i4:=Ac
 i5:=Ac
 i9:=Ac
 i20:=Ac
 i37:=Ac
 i46:=Ac
 i51:=Ac
 i53:=Ac
 i171:=Ac
 i173:=Ac
 i212:=Ac
 i232:=Ac
 i233:=Ac
 m17:=Ac
 m18:=Ac
 m19:=Ac}
def Tryz.lays190_ren:Go.Shelf.Ren:=⟨fun|190=>26|125=>58|258=>57|128=>99|129=>100|302=>90|303=>91|304=>92|305=>93|306=>94|307=>95|308=>96|309=>97|310=>98|333=>138|329=>139|330=>140|334=>141|335=>142|336=>143|344=>179|n=>n,fun|31=>46|9=>9|3=>3|46=>129|0=>0|51=>169|53=>131|4=>4|183=>162|182=>161|131=>135|5=>5|218=>208|222=>212|228=>241|229=>242|n=>n,fun|n=>n⟩
theorem Tryz.lays190:Go.Proofs.Lays.n190 Tryz.prog Tryz.lays190_ren:={
 mixed:=Ac
 f125:=Tryz.func58.trans (congrArg some Ac)
 f128:=Tryz.func99.trans (congrArg some Ac)
 f129:=Tryz.func100.trans (congrArg some Ac)
 f190:=Tryz.func26.trans (congrArg some Ac)
 f258:=Tryz.func57.trans (congrArg some Ac)
 f302:=Tryz.func90.trans (congrArg some Ac)
 f303:=Tryz.func91.trans (congrArg some Ac)
 f304:=Tryz.func92.trans (congrArg some Ac)
 f305:=Tryz.func93.trans (congrArg some Ac)
 f306:=Tryz.func94.trans (congrArg some Ac)
 f307:=Tryz.func95.trans (congrArg some Ac)
 f308:=Tryz.func96.trans (congrArg some Ac)
 f309:=Tryz.func97.trans (congrArg some Ac)
 f310:=Tryz.func98.trans (congrArg some Ac)
 f329:=Tryz.func139.trans (congrArg some Ac)
 f330:=Tryz.func140.trans (congrArg some Ac)
 f333:=Tryz.func138.trans (congrArg some Ac)
 f334:=Tryz.func141.trans (congrArg some Ac)
 f335:=Tryz.func142.trans (congrArg some Ac)
 f336:=Tryz.func143.trans (congrArg some Ac)
 f344:=Tryz.func179.trans (congrArg some Ac)
 t0:=Tryz.underlying0
 a0:=Tryz.isAgg0
 z0:=Tryz.sizeOf0
 v0:=Tryz.zeroValue0
 t3:=Tryz.underlying3
 a3:=Tryz.isAgg3
 z3:=Tryz.sizeOf3
 v3:=Tryz.zeroValue3
 t4:=Tryz.underlying4
 a4:=Tryz.isAgg4
 z4:=Tryz.sizeOf4
 v4:=Tryz.zeroValue4
 t5:=Tryz.underlying5
 a5:=Tryz.isAgg5
 z5:=Tryz.sizeOf5
 v5:=Tryz.zeroValue5
 t9:=Tryz.underlying9
 a9:=Tryz.isAgg9
 z9:=Tryz.sizeOf9
 v9:=Tryz.zeroValue9
 t31:=Tryz.underlying46
 a31:=Tryz.isAgg46
 z31:=Tryz.sizeOf46
 v31:=Tryz.zeroValue46
 t46:=Tryz.underlying129
 a46:=Tryz.isAgg129
 z46:=Tryz.sizeOf129
 v46:=Tryz.zeroValue129
 t51:=Tryz.underlying169
 a51:=Tryz.isAgg169
 z51:=Tryz.sizeOf169
 v51:=Tryz.zeroValue169
 t53:=Tryz.underlying131
 a53:=Tryz.isAgg131
 z53:=Tryz.sizeOf131
 v53:=Tryz.zeroValue131
 t131:=Tryz.underlying135
 a131:=Tryz.isAgg135
 z131:=Tryz.sizeOf135
 v131:=Tryz.zeroValue135
 t182:=Tryz.underlying161
 a182:=Tryz.isAgg161
 z182:=Tryz.sizeOf161
 v182:=Tryz.zeroValue161
 t183:=Tryz.underlying162
 a183:=Tryz.isAgg162
 z183:=Tryz.sizeOf162
 v183:=Tryz.zeroValue162
 t218:=Tryz.underlying208
 a218:=Tryz.isAgg208
 z218:=Tryz.sizeOf208
 v218:=Tryz.zeroValue208
 t222:=Tryz.underlying212
 a222:=Tryz.isAgg212
 z222:=Tryz.sizeOf212
 v222:=Tryz.zeroValue212
 t228:=Tryz.underlying241
 a228:=Tryz.isAgg241
 z228:=Tryz.sizeOf241
 v228:=Tryz.zeroValue241
 t229:=Tryz.underlying242
 a229:=Tryz.isAgg242
 z229:=Tryz.sizeOf242
 v229:=Tryz.zeroValue242}
end Go.Proofs
namespace Go.Proofs.Cost58
open Go Go.Proofs Go.Ab Go.Proofs.Led Go.RowKit
def itoaB(n:Int):ByteArray:=⟨(Lib.itoa n).toArray⟩
def joinB(xs:List ByteArray)(sep:ByteArray):ByteArray:=⟨(Lib.join (xs.map (·.data.toList)) sep.data.toList).toArray⟩
theorem itoa_spec(n:Int)(h0: -9223372036854775808<=n)(h1:n<=9223372036854775807):Sp 27 [I n] (S (itoaB n)):=by
 refine spec_lits (us:=[.int .i64 n]) Ac rfl fun w F hl=>?_;refine(Any.strconv_Itoa Tryz.laysM171 n h0 h1 w ?_).mono ?_
 ·obtain⟨t,z,hp⟩:=hl.p10.2
  refine Option.bind_eq_some_iff.2 ⟨0,Ac,?_⟩;rw[hp]
 ·rintro e w' ⟨rfl,k,os,rfl⟩
  exact⟨rfl,below_grow⟩
theorem cells_strs{xs:List ByteArray}:(xs.map S).flatMap V.cells=xs.map S:=by
 induction xs with
 |nil=>rfl
 |cons x xs ih=>rw[List.map_cons,List.flatMap_cons,ih];rfl
theorem spot_none{w:World}{a:Addr}{v:Value}(h:w.cell? a=some v):a=⟨a.block,a.off,none⟩/\a.block<w.heap.size:=by
 obtain⟨b,o,s⟩:=a;unfold World.cell? at h;simp only at h
 cases hb:w.heap[b]? with
 |none=>rw[hb]at h;cases h
 |some ob=>
  have hlt:b<w.heap.size:=by
   rcases Nat.lt_or_ge b w.heap.size with hlt|hge
   ·exact hlt
   ·rw[Array.getElem?_eq_none hge]at hb;cases hb
  rw[hb]at h;cases ob<;>simp only at h<;>first|(cases h;done)|skip
  cases s with
  |none=>exact⟨rfl,hlt⟩
  |some k=>simp at h
theorem strs_inv{w:World}{G:Gh}{v:Value}{xs:List ByteArray}(h:Rv w G v (.sl (xs.map S))):(xs=[]/\∃a c,v= .slice a 0 c)\/∃bk o c,v= .slice (some ⟨bk,o,none⟩) xs.length c/\xs.length<=c/\bk<w.heap.size/\∀(j:Nat) x,xs[j]? =some x->w.cell? ⟨bk,o+j,none⟩=some (.string x):=by
 generalize hx:V.sl (xs.map S)=y at h
 cases h with
 |slN=>
  cases hx':xs with
  |nil=>exact .inl ⟨rfl,none,0,rfl⟩
  |cons x r=>rw[hx']at hx;cases hx
 |slS a c l sz cc hc hm hf hz hcell hr=>
  cases hx;have hl:(xs.map S).length=xs.length:=Ae;rw[hl]at hc⊢
  cases hxs:xs with
  |nil=>exact .inl ⟨rfl,some a,c,rfl⟩
  |cons x0 r=>
   right;rw[<-hxs];rw[cells_strs]at hcell hr
   have get:∀(j:Nat) x,xs[j]? =some x->w.cell? (a.add j)=some (.string x):=by
    intro j x hj;have hy:(xs.map S)[j]? =some (S x):=by rw[List.getElem?_map,hj];rfl
    have h1:=(hcell j _ hy).1;have h2:cc j= .string x:=(hr j _ hy).bH
    rw[h1,h2]
   have h0:=get 0 x0 (by rw[hxs];rfl)
   have ha0:a.add 0=a:=by simp[Addr.add]
   rw[ha0]at h0;obtain⟨e,hb⟩:=spot_none h0;refine⟨a.block,a.off,c,by rw[<-e],hc,hb,fun j x hj=>?_⟩
   have:=get j x hj
   have ea:a.add j=⟨a.block,a.off+j,none⟩:=by
    unfold Addr.add;split
    ·rename_i hj0;subst hj0;rw[Nat.add_zero];exact e
    ·rfl
   rw[<-ea];exact this
 |_=>cases hx
theorem arr2{cs:Array Value}(h:cs.size=2):∃a b,cs= #[a,b] :=by
 exact OY
theorem join_spec(xs:List ByteArray)(sep:ByteArray)(hlen:(Lib.join (xs.map (·.data.toList)) sep.data.toList).length<=140737488355328)(hN:xs.length<=140737488355328):Sp 49 [.sl (xs.map S),S sep] (S (joinB xs sep)):=by
 refine spec_of_calls Ac fun w G cs h1 h2 h4 h5=>?_;obtain⟨v0,v1,rfl⟩:=arr2 h1;have r0:=h4 0 v0 _ rfl rfl
 have r1:v1= .string sep:=dZ9 (h4 1 v1 (S sep) rfl rfl);subst r1;rcases strs_inv r0.2 with⟨rfl,a,c,rfl⟩|⟨bk,o,c,rfl,hc,hb,hcell⟩
 ·refine(Any.strings_Join_none Tryz.lays156 Tryz.Builder_Extra_156 a c sep w).mono ?_
  rintro e w' ⟨rfl,rfl⟩;refine⟨Below.refl _ _,_,rfl,?_⟩;have:joinB [] sep=⟨#[]⟩:=rfl;rw[this];exact rr_lit rfl
 ·refine(Any.strings_Join Tryz.lays156 Tryz.Builder_Extra_156 bk o c xs sep w hcell hb hN hc hlen).mono ?_
  rintro e w' ⟨rfl,hb⟩;exact⟨hb,_,rfl,rr_lit rfl⟩
end Go.Proofs.Cost58
namespace Go.Proofs.Cost58
open Go Go.Proofs Go.Ab Go.Proofs.Led
section
variable{α:Type}(c:α->α->Int)
def insR(x:α):List α->List α
 | [] => [x]
 |y::r=>if c x y<0 then y::insR x r else x::y::r
def isR(xs:List α):List α:=xs.foldl (fun R x=>insR c x R) []
def qA(xs:List α):List α:=(isR c xs).reverse
variable{c}
theorem cE5(x:α):∀R,(insR c x R).length=R.length+1
 | [] =>rfl
 |y::r=>by
  unfold insR;split
  ·simp[cE5 x r]
  ·simp
theorem eB2(xs:List α)(x:α):isR c (xs++[x])=insR c x (isR c xs):=by simp[isR]
theorem dG7:∀(xs R:List α),(xs.foldl (fun R x=>insR c x R) R).length=R.length+xs.length
 | [],R=>rfl
 |x::xs,R=>Fg
theorem dH2(xs:List α):(isR c xs).length=xs.length:=by unfold isR;rw[dG7];simp
theorem cG2{x:α}:∀ {R:List α} {z:α},z∈insR c x R↔z=x\/z∈R
 | [],z=>by simp[insR]
 |y::r,z=>KH
theorem dH5:∀ {xs R:List α} {z:α},z∈xs.foldl (fun R x=>insR c x R) R↔z∈R\/z∈xs
 | [],R,z=>Ae
 |x::xs,R,z=>KA
theorem dI0{xs:List α}{z:α}:z∈isR c xs↔z∈xs:=by unfold isR;rw[dH5];simp
end
theorem dX6{α:Type}{f:α->V}{l:List α}{en:AE}{g:Nat}{z:Int}{K:Prop}(h1:en.gen=g)(h2:en.kind≠ .dead)(h0:en.l=l.map f)(h3:0<=z/\z<l.length)(hk:K):need (en.gen=g/\en.kind≠ .dead/\0<=z/\z<en.l.length) K:=
 fU ⟨h1,h2,h3.1,by rw[h0,List.length_map];exact h3.2⟩ hk
theorem dY5{α:Type}{f:α->V}{l:List α}{n:Nat}{v:V}{en:AE}{g:Nat}{z:Int}{K:Prop}(h1:en.gen=g)(h2:en.kind≠ .dead)(h0:en.l=(l.map f).set n v)(h3:0<=z/\z<l.length)(hk:K):need (en.gen=g/\en.kind≠ .dead/\0<=z/\z<en.l.length) K:=
 fU ⟨h1,h2,h3.1,En⟩ hk
theorem cQ9{l:List V}{i j:Nat}{v:V}{K:V->Prop}(h:j≠i)(hk:idx l i K):idx (l.set j v) i K:=by
 obtain⟨x,h1,h2⟩:=hk;exact⟨x,Gl,h2⟩
theorem set_mid{α:Type}{A B:List α}{x y:α}{i:Nat}(h:i=A.length):(A++x::B).set i y=A++y::B:=by subst h;simp
theorem dB8{en:AE}{g:Nat}{K:Prop}(h1:en.gen=g)(h2:en.kind= .own)(hk:K):need (en.gen=g/\en.kind= .own) K:=fU ⟨h1,h2⟩ hk
variable{g:FuncId}{cs:List V}{c:Int->Int->Int}{Q:Int->Prop}
abbrev cF2(g:FuncId)(cs:List V)(c:Int->Int->Int)(Q:Int->Prop):Prop:=∀i j,Q i->Q j->Sp g [I i,I j, .fp cs] (I (c i j))
theorem fC7(hc:cF2 g cs c Q)(pre xs post:List Int)(hq:∀x∈xs,Q x)(hl:pre.length+xs.length+post.length<=100000):
 fnIO T Tryz.prog Tryz.f125 [.own 3 ((pre++xs++post).map I),I pre.length,I (pre.length+xs.length), .fn g [.fp cs]] (.tup []) 0 3 ((pre++qA c xs++post).map I):=by
 repeat' ((conv=>whnf);first
  |refine arith_half Aa ?_
  |refine arith_u Aa ?_
  |refine eY7 ?_
  |refine eZ1 Ac ?_
  |refine eH4 Aa ?_
  |refine fU (p:=(T.row _).eq=true) Ac ?_
  |refine fU Aa ?_
  |refine eZ2 ?_
  |refine eZ0 (fun hd=>?_) (fun hd=>?_)
  |refine br_lt (fun hlt=>?_) (fun hlt=>?_)
  |refine br_le (fun hle=>?_) (fun hle=>?_)
  |refine eV7 (fun heq=>?_) (fun heq=>?_)
  |refine eQ9 Aa (fun x hx=>?_)
  |refine eY0 rfl (fun h=>Ad) ?_
  |refine jU (fun hbb=>?_) (fun hbb=>?_)
  |refine ret_i ?_
  |refine fA7 ?_)
 refine lD (A:=Nat) (fun k=>mkSt [(0, .arr 0 0),(1,I pre.length),(2,I (pre.length+xs.length)),(3, .fn g [.fp cs]),(8,I (pre.length+k))] [] [(0,⟨0, .own,3,(pre++(isR c (xs.take k)).reverse++xs.drop k++post).map I⟩)])
  (fun k=>1<=k/\(k<=xs.length\/k=1)) (fun k=>xs.length-k) 1 ?_ ⟨Aa, .inr rfl⟩ (fun k hk=>?_)
 ·refine dV ?_ ?_ ?_ ?_
  all_goals repeat' (first|exact trivial|refine And.intro ?_ ?_|with_reducible rfl|exact(fun h=>Ad)|exact Nat.le_refl _|omega|exact rfl)
  ·show List.map I (pre++xs++post)=List.map I (pre++(isR c (List.take 1 xs)).reverse++List.drop 1 xs++post)
   exact P7
 ·change 1<=k/\(k<=xs.length\/k=1)at hk
  rcases Nat.lt_or_ge k xs.length with hkl|hkl
  ·have hd:xs.drop k=xs[k] ::xs.drop (k+1):=List.drop_eq_getElem_cons hkl
   have ht:xs.take (k+1)=xs.take k++[xs[k]] :=BI;have hx0:Q xs[k] :=hq _ (List.getElem_mem hkl)
   generalize xs[k] =x at hd ht hx0;obtain⟨tl,hd'⟩:∃tl,xs.drop (k+1)=tl:=⟨_,rfl⟩;rw[hd']at hd;have hlen:(isR c (xs.take k)).length=k:=by rw[dH2,List.length_take];omega
   have hR0:∀z∈isR c (xs.take k),Q z:=fun z hz=>hq z (List.mem_of_mem_take (dI0.1 hz));have hnew:isR c (xs.take (k+1))=insR c x (isR c (xs.take k)):=by rw[ht,eB2]
   generalize isR c (xs.take k)=R0 at hlen hR0 hnew;rw[hd]
   repeat' ((conv=>whnf);first
    |refine arith_half Aa ?_
    |refine arith_u Aa ?_
    |(exfalso;omega)
    |refine eY7 ?_
    |refine eZ1 Ac ?_
    |refine eH4 Aa ?_
    |refine fU (p:=(T.row _).eq=true) Ac ?_
    |refine fU Aa ?_
    |refine eZ2 ?_
    |refine eZ0 (fun hd=>?_) (fun hd=>?_)
    |refine br_lt (fun hlt=>?_) (fun hlt=>?_)
    |refine br_le (fun hle=>?_) (fun hle=>?_)
    |refine eV7 (fun heq=>?_) (fun heq=>?_)
    |refine eQ9 Aa (fun x hx=>?_)
    |refine eY0 rfl (fun h=>Ad) ?_
    |refine jU (fun hbb=>?_) (fun hbb=>?_)
    |refine ret_i ?_
    |refine fA7 ?_)
   refine aU (A:=List Int) (B:=List Int) (fun R M=>mkSt [(0, .arr 0 0),(1,I pre.length),(2,I (pre.length+xs.length)),(3, .fn g [.fp cs]),(8,I (pre.length+k)),(9,I (pre.length+R.length))] [] [(0,⟨0, .own,3,(pre++(R.reverse++x::(M++tl))++post).map I⟩)])
    (fun R M=>R.length<=k/\(∀z∈R,Q z)/\(insR c x R0).reverse=(insR c x R).reverse++M) (fun R M=>R.length) R0 [] ?_ ⟨Aa,hR0,Ae⟩ (fun R M hp=>?_)
   ·refine dV ?_ ?_ ?_ ?_
    all_goals repeat' (first|exact trivial|refine And.intro ?_ ?_|with_reducible rfl|exact(fun h=>Ad)|exact Nat.le_refl _|omega|exact rfl)
    ·show List.map I (pre++R0.reverse++x::tl++post)=List.map I (pre++(R0.reverse++x::([] ++tl))++post)
     simp
   ·obtain⟨hp1,hp2,hp3⟩:=hp
    change R.length<=k at hp1;change∀z∈R,Q z at hp2;change (insR c x R0).reverse=(insR c x R).reverse++M at hp3
    cases R with
    |nil=>
     have hn:([] :List Int).length=0:=rfl
     repeat' ((conv=>whnf);first
      |refine arith_half Aa ?_
      |refine arith_u Aa ?_
      |(exfalso;omega)
      |refine eY7 ?_
      |refine eZ1 Ac ?_
      |refine eH4 Aa ?_
      |refine fU (p:=(T.row _).eq=true) Ac ?_
      |refine fU Aa ?_
      |refine eZ2 ?_
      |refine eZ0 (fun hd=>?_) (fun hd=>?_)
      |refine br_lt (fun hlt=>?_) (fun hlt=>?_)
      |refine br_le (fun hle=>?_) (fun hle=>?_)
      |refine eV7 (fun heq=>?_) (fun heq=>?_)
      |refine eQ9 Aa (fun x hx=>?_)
      |refine eY0 rfl (fun h=>Ad) ?_
      |refine jU (fun hbb=>?_) (fun hbb=>?_)
      |refine ret_i ?_
      |refine fA7 ?_)
     refine⟨k+1,?_,⟨Aa, .inl Aa⟩,Aa⟩;rw[hnew];refine dV ?_ ?_ ?_ ?_;all_goals repeat' (first|exact trivial|refine And.intro ?_ ?_|with_reducible rfl|exact(fun h=>Ad)|exact Nat.le_refl _|omega|exact rfl)
     ·show List.map I (pre++([].reverse++x::(M++tl))++post)=List.map I (pre++(insR c x R0).reverse++List.drop (k+1) xs++post)
      rw[hp3,hd'];simp[insR]
    |cons y r=>
     have hsz:(pre++((y::r).reverse++x::(M++tl))++post).length=pre.length+(r.length+1)+1+(M++tl++post).length:=Ai;have hlc:(y::r).length=r.length+1:=rfl
     repeat' ((conv=>whnf);first
      |refine arith_half Aa ?_
      |refine arith_u Aa ?_
      |(exfalso;omega)
      |(refine dY5 (l:=pre++((y::r).reverse++x::(M++tl))++post) rfl (fun h=>Ad) rfl ?_ ?_;focus (constructor<;>omega))
      |refine cQ9 Aa ?_
      |(refine dX6 (l:=pre++((y::r).reverse++x::(M++tl))++post) rfl (fun h=>Ad) rfl ?_ ?_;focus (constructor<;>omega))
      |refine aF (l:=pre++((y::r).reverse++x::(M++tl))++post) (A:=pre++(y::r).reverse) (x:=x) (B:=M++tl++post) Ae Ai ?_
      |refine aF (l:=pre++((y::r).reverse++x::(M++tl))++post) (A:=pre++r.reverse) (x:=y) (B:=x::(M++tl++post)) Ae Ai ?_
      |(refine aS5 (hc x y hx0 (hp2 y Ae)) false ?_ rfl ?_;focus ((repeat' (first|exact trivial|refine And.intro ?_ ?_|with_reducible rfl|exact(fun h=>Ad)|exact rfl));done))
      |refine dB8 rfl rfl ?_
      |refine eY7 ?_
      |refine eZ1 Ac ?_
      |refine eH4 Aa ?_
      |refine fU (p:=(T.row _).eq=true) Ac ?_
      |refine fU Aa ?_
      |refine eZ2 ?_
      |refine eZ0 (fun hd=>?_) (fun hd=>?_)
      |refine br_lt (fun hlt=>?_) (fun hlt=>?_)
      |refine br_le (fun hle=>?_) (fun hle=>?_)
      |refine eV7 (fun heq=>?_) (fun heq=>?_)
      |refine eQ9 Aa (fun x hx=>?_)
      |refine eY0 rfl (fun h=>Ad) ?_
      |refine jU (fun hbb=>?_) (fun hbb=>?_)
      |refine ret_i ?_
      |refine fA7 ?_)
     ·refine⟨(r,y::M),?_,?_,?_⟩
      ·refine dV ?_ ?_ ?_ ?_
       all_goals repeat' (first|exact trivial|refine And.intro ?_ ?_|with_reducible rfl|exact(fun h=>Ad)|exact Nat.le_refl _|omega|exact rfl)
       ·show List.set (List.set (List.map I (pre++((y::r).reverse++x::(M++tl))++post)) _ (I y)) _ (I x)=List.map I (pre++(r.reverse++x::(y::M++tl))++post)
        rw[show pre++((y::r).reverse++x::(M++tl))++post=(pre++(y::r).reverse)++x::(M++tl++post) from Ae,List.map_append,List.map_cons,set_mid Ai];rw[show(pre++(y::r).reverse:List Int)=(pre++r.reverse)++[y] from Ae,List.map_append,List.map_cons,List.append_assoc,List.map_nil,List.cons_append,List.nil_append,set_mid Ai];simp
       ·show(pre.length:Int)+(y::r).length-1=pre.length+r.length
        omega
      ·exact JE
      ·show r.length< (y::r).length
       simp
     ·refine⟨k+1,?_,⟨Aa, .inl Aa⟩,Aa⟩
      rw[hnew];refine dV ?_ ?_ ?_ ?_;all_goals repeat' (first|exact trivial|refine And.intro ?_ ?_|with_reducible rfl|exact(fun h=>Ad)|exact Nat.le_refl _|omega|exact rfl)
      ·show List.map I (pre++((y::r).reverse++x::(M++tl))++post)=List.map I (pre++(insR c x R0).reverse++List.drop (k+1) xs++post)
       rw[hp3,hd'];simp[insR,show¬c x y<0 from Aa]
  ·rw[List.take_of_length_le hkl,List.drop_eq_nil_of_le hkl]
   repeat' ((conv=>whnf);first
    |refine arith_half Aa ?_
    |refine arith_u Aa ?_
    |(exfalso;omega)
    |refine eY7 ?_
    |refine eZ1 Ac ?_
    |refine eH4 Aa ?_
    |refine fU (p:=(T.row _).eq=true) Ac ?_
    |refine fU Aa ?_
    |refine eZ2 ?_
    |refine eZ0 (fun hd=>?_) (fun hd=>?_)
    |refine br_lt (fun hlt=>?_) (fun hlt=>?_)
    |refine br_le (fun hle=>?_) (fun hle=>?_)
    |refine eV7 (fun heq=>?_) (fun heq=>?_)
    |refine eQ9 Aa (fun x hx=>?_)
    |refine eY0 rfl (fun h=>Ad) ?_
    |refine jU (fun hbb=>?_) (fun hbb=>?_)
    |refine ret_i ?_
    |refine fA7 ?_)
   refine cA7 ?_
   conv=>whnf
   refine⟨[],rfl,⟨⟨rfl,rfl,rfl,?_⟩,trivial⟩,rfl⟩;show List.map I (pre++(isR c xs).reverse++[] ++post)=List.map I (pre++qA c xs++post);simp[qA]
theorem eI2(hc:cF2 g cs c Q)(pre xs post:List Int)(hq:∀x∈xs,Q x)(hl:pre.length+xs.length+post.length<=100000):
 SpIO 125 [.own 3 ((pre++xs++post).map I),I pre.length,I (pre.length+xs.length), .fn g [.fp cs]] (.tup []) 3 ((pre++qA c xs++post).map I):=
 eH7 rfl Tryz.func125 Ac Ac (fC7 hc pre xs post hq hl)
end Go.Proofs.Cost58
