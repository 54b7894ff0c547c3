/-
  The reference's genealogy: Sum.
-/
import Derived.Test.YtdjgbagnajikeaaGreatDoorB19
import Derived.Shelf.Small.Bits
import Derived.Shelf.Strconv.Itoa0
import Derived.Shelf.Strconv.Itoa1
import Derived.Shelf.LaysM
import Derived.Shelf.Strconv.Itoa2
import Derived.Shelf.Strconv.Itoa3
import Derived.Below
import Derived.Sort.Grow
import Derived.Shelf.Strconv.Itoa4
import Derived.Lib.ItoaLen
import Derived.Lib.Builder
import Derived.Lib.UnsafeStr
import Derived.Shelf.RegionOpenPlain
import Derived.Lib.AppendStr
import Derived.Maps.OwnRows
set_option linter.unusedVariables false
set_option linter.unusedSimpArgs false
set_option maxRecDepth 1000000
set_option maxHeartbeats 8000000
noncomputable section
namespace Go.Proofs.Led
open Go Go.Proofs Go.Ab
def smU(f:List Node)(g:Node->Int)(n:Int)(D:List Node):Int:=(D.map fun x=>ind (underN f x n)*g x).sum
theorem smU_snoc(f:List Node)(g:Node->Int)(n:Int)(D:List Node)(x:Node):smU f g n (D++[x])=smU f g n D+ind (underN f x n)*g x:=by
 unfold smU;simp
def rsSt(f:List Node)(n k a b c:Int):St:=mkSt [(0, .sl (f.map nodeV)),(1,I n),(4, .box 4 0),(7, .box 7 0),(8,I k)] [(4,[I 0,I 0,I 0]),(7,[I (W a),I (W b),I (W c)])] []
theorem rsumY_spec(f:List Node)(n:Int)(x:Node)(hl:f.length<=1000000)(hz:SzN f)(h:RightF f)(hn:getN f n=some x):Sp 27 [.sl (f.map nodeV),I n] (.tup [.agg (acC f n),I 0]):=by
 refine zsp Tryz.func27 ?_;have hc:=rcheckY_spec f n x hl hz h hn;have hml:(f.map nodeV).length=f.length:=Ae
 clear hn
 repeat' ((conv=>whnf);first|(exfalso;contradiction)|refine zS ?_|refine zm (fun x hx=>?_)|refine zT ?_ ?_<;>intro _|fail)
 refine aU (A:=List Node) (B:=List Node) (fun D R=>rsSt f n D.length (smU f g0N n D) (smU f g1N n D) (smU f g2N n D)) (fun D R=>f=D++R) (fun D R=>R.length) [] f ?_ rfl (fun D R hp=>?_)
 ·show Le T _ (mkSt [(0, .sl (f.map nodeV)),(1,I n),(4, .box 4 0),(7, .box 7 0),(8,I 0)] [(4,[I 0,I 0,I 0]),(7,[I (W 0),I (W 0),I (W 0)])] [])
  rw[show W 0=0 from w_in Aa];exact zj
 cases R with
 |nil=>
  have hlen:f.length=D.length:=Af;have hD:D=f:=Af
  have ha:∀g,smU f g n D=allU f g n:=fun g=>by rw[hD];rfl
  unfold acC;rw[ha,ha,ha];unfold rsSt;generalize allU f g0N n=a at*;generalize allU f g1N n=b at*;generalize allU f g2N n=c at*;exact KP
 |cons y R=>
  have hlen:=aO hp;have hy:y∈f:=Af
  have hg:f[D.length]? =some y:=Af;have hu:=runder_spec f D.length y n hl h hy hg
  have hs0:=smU_snoc f g0N n D y;have hs1:=smU_snoc f g1N n D y
  have hs2:=smU_snoc f g2N n D y;generalize smU f g0N n D=a at*;generalize smU f g1N n D=b at*;generalize smU f g2N n D=c at*;by_cases hun:underN f y n
  ·rw[ind_t hun]at hs0 hs1 hs2
   generalize underN f y n=P at*;unfold rsSt
   repeat' ((conv=>whnf);first|(exfalso;contradiction)|(exfalso;omega)|refine zS ?_|refine zm (fun x hx=>?_)|refine zT ?_ ?_<;>intro _|fail)
   all_goals conv=>whnf
   all_goals (refine⟨(D++[y],R),?_,Af,Ae⟩)
   all_goals (show Le T _ (rsSt f n ((D++[y]).length:Nat) (smU f g0N n (D++[y])) (smU f g1N n (D++[y])) (smU f g2N n (D++[y]))))
   all_goals rw[hs0,hs1,hs2,List.length_append,List.length_singleton]
   all_goals (unfold rsSt
              show Le T _ (mkSt [(0, .sl (f.map nodeV)),(1,I n),(4, .box 4 0),(7, .box 7 0),(8,I ((D.length+1:Nat):Int))] [(4,[I 0,I 0,I 0]),(7,[I (W (a+1*g0N y)),I (W (b+1*g1N y)),I (W (c+1*g2N y))])] []);refine dV ?_ ?_ ?_ ?_;all_goals repeat' (first|exact trivial|refine And.intro ?_ ?_|with_reducible rfl|exact(fun h=>Ag)|exact Nat.le_refl _|omega|exact rfl)
              all_goals first
               |(clear hp hs0 hs1 hs2 hc h hz hu hl;rw[bF8];refine congrArg W ?_;simp[g0N,g1N,g2N, *];done)
               |(clear hp hs0 hs1 hs2 hc h hz hu hl;refine congrArg W ?_;simp[g0N,g1N,g2N, *];done)
               |(rw[bF8,Int.one_mul];done)
               |(rw[Int.zero_mul,Int.add_zero];done))
  ·rw[ind_f hun]at hs0 hs1 hs2
   generalize underN f y n=P at*;unfold rsSt
   repeat' ((conv=>whnf);first|(exfalso;contradiction)|(exfalso;omega)|refine zS ?_|refine zm (fun x hx=>?_)|refine zT ?_ ?_<;>intro _|fail)
   all_goals conv=>whnf
   all_goals (refine⟨(D++[y],R),?_,Af,Ae⟩)
   all_goals (show Le T _ (rsSt f n ((D++[y]).length:Nat) (smU f g0N n (D++[y])) (smU f g1N n (D++[y])) (smU f g2N n (D++[y]))))
   all_goals rw[hs0,hs1,hs2,List.length_append,List.length_singleton]
   all_goals (unfold rsSt
              show Le T _ (mkSt [(0, .sl (f.map nodeV)),(1,I n),(4, .box 4 0),(7, .box 7 0),(8,I ((D.length+1:Nat):Int))] [(4,[I 0,I 0,I 0]),(7,[I (W (a+0*g0N y)),I (W (b+0*g1N y)),I (W (c+0*g2N y))])] []);refine dV ?_ ?_ ?_ ?_;all_goals repeat' (first|exact trivial|refine And.intro ?_ ?_|with_reducible rfl|exact(fun h=>Ag)|exact Nat.le_refl _|omega|exact rfl)
              all_goals first
               |(clear hp hs0 hs1 hs2 hc h hz hu hl;rw[bF8];refine congrArg W ?_;simp[g0N,g1N,g2N, *];done)
               |(clear hp hs0 hs1 hs2 hc h hz hu hl;refine congrArg W ?_;simp[g0N,g1N,g2N, *];done)
               |(rw[bF8,Int.one_mul];done)
               |(rw[Int.zero_mul,Int.add_zero];done))
end Go.Proofs.Led
namespace Go.Proofs
open Go.Shelf Go.Ab
def Tryz.laysM171_ren:Go.Shelf.Ren:=⟨fun|171=>58|243=>107|246=>145|283=>188|284=>189|285=>190|286=>191|129=>232|317=>231|318=>233|319=>234|320=>235|337=>283|338=>284|n=>n,fun|3=>3|9=>9|2=>2|4=>4|171=>258|0=>0|53=>191|37=>138|5=>5|173=>261|212=>286|51=>287|20=>20|213=>288|46=>212|232=>354|233=>355|n=>n,fun|17=>0|18=>1|19=>2|n=>n⟩
theorem Tryz.laysM171:Go.Proofs.LaysM.n171 Tryz.prog Tryz.laysM171_ren:={
 mixed:=Ac
 f129:=Tryz.func232.trans (congrArg some Ac)
 f171:=Tryz.func58.trans (congrArg some Ac)
 f243:=Tryz.func107.trans (congrArg some Ac)
 f246:=Tryz.func145.trans (congrArg some Ac)
 f283:=Tryz.func188.trans (congrArg some Ac)
 f284:=Tryz.func189.trans (congrArg some Ac)
 f285:=Tryz.func190.trans (congrArg some Ac)
 f286:=Tryz.func191.trans (congrArg some Ac)
 f317:=Tryz.func231.trans (congrArg some Ac)
 f318:=Tryz.func233.trans (congrArg some Ac)
 f319:=Tryz.func234.trans (congrArg some Ac)
 f320:=Tryz.func235.trans (congrArg some Ac)
 f337:=Tryz.func283.trans (congrArg some Ac)
 f338:=Tryz.func284.trans (congrArg some Ac)
 t0:=Tryz.underlying0
 a0:=Tryz.isAgg0
 z0:=Tryz.sizeOf0
 v0:=Tryz.zeroValue0
 t2:=Tryz.underlying2
 a2:=Tryz.isAgg2
 z2:=Tryz.sizeOf2
 v2:=Tryz.zeroValue2
 t3:=Tryz.underlying3
 a3:=Tryz.isAgg3
 z3:=Tryz.sizeOf3
 v3:=Tryz.zeroValue3
 t4:=Tryz.underlying4
 a4:=Tryz.isAgg4
 z4:=Tryz.sizeOf4
 v4:=Tryz.zeroValue4
 t5:=Tryz.underlying5
 a5:=Tryz.isAgg5
 z5:=Tryz.sizeOf5
 v5:=Tryz.zeroValue5
 t9:=Tryz.underlying9
 a9:=Tryz.isAgg9
 z9:=Tryz.sizeOf9
 v9:=Tryz.zeroValue9
 t20:=Tryz.underlying20
 a20:=Tryz.isAgg20
 z20:=Tryz.sizeOf20
 v20:=Tryz.zeroValue20
 t37:=Tryz.underlying138
 a37:=Tryz.isAgg138
 z37:=Tryz.sizeOf138
 v37:=Tryz.zeroValue138
 t46:=Tryz.underlying212
 a46:=Tryz.isAgg212
 z46:=Tryz.sizeOf212
 v46:=Tryz.zeroValue212
 t51:=Tryz.underlying287
 a51:=Tryz.isAgg287
 z51:=Tryz.sizeOf287
 v51:=Tryz.zeroValue287
 t53:=Tryz.underlying191
 a53:=Tryz.isAgg191
 z53:=Tryz.sizeOf191
 v53:=Tryz.zeroValue191
 t171:=Tryz.underlying258
 a171:=Tryz.isAgg258
 z171:=Tryz.sizeOf258
 v171:=Tryz.zeroValue258
 t173:=Tryz.underlying261
 a173:=Tryz.isAgg261
 z173:=Tryz.sizeOf261
 v173:=Tryz.zeroValue261
 t212:=Tryz.underlying286
 a212:=Tryz.isAgg286
 z212:=Tryz.sizeOf286
 v212:=Tryz.zeroValue286
 t213:=Tryz.underlying288
 a213:=Tryz.isAgg288
 z213:=Tryz.sizeOf288
 t232:=Tryz.underlying354
 a232:=Tryz.isAgg354
 z232:=Tryz.sizeOf354
 v232:=Tryz.zeroValue354
 t233:=Tryz.underlying355
 a233:=Tryz.isAgg355
 z233:=Tryz.sizeOf355
 v233:=Tryz.zeroValue355
 g17:=Ac
 g18:=Ac
 g19:=Ac
 i0:=Ac
 i2:=Ac
 i3:=Ac
 i4:=Ac
 i5:=Ac
 i9:=Ac
 i20:=Ac
 i37:=Ac
 i46:=Ac
 i51:=Ac
 i53:=Ac
 i171:=Ac
 i173:=Ac
 i212:=Ac
 i232:=Ac
 i233:=Ac
 m17:=Ac
 m18:=Ac
 m19:=Ac}
end Go.Proofs
namespace Go.Proofs.Led
open Go Go.Proofs Go.Ab Go.RowKit Go.Shelf
theorem below_grow{w:World}{k:Nat}{os:Array Obj}:Below w.heap.size w (Sort.grow (w.drewN k) os):=
 ⟨rfl,rfl,rfl,by show w.heap.size<=(w.heap++os).size;simp,fun b hb=>by show(w.heap++os)[b]? =w.heap[b]?;rw[Array.getElem?_append_left hb]⟩
theorem spec_of_calls{f:FuncId}{ys:List V}{r:V}(hc:callable Tryz.prog f=true)
 (h:∀(w:World) (G:Gh) (cs:Array Value),cs.size=ys.length->(∀b,G.O b≠ .ext->b<w.heap.size)->(∀(j:Nat) v y,cs[j]? =some v->ys[j]? =some y->Rb T w G j v y)->LayP w (fun b=>G.O b= .fz)->
  Calls Tryz.prog f cs w fun e w'=>Below w.heap.size w w'/\∃v,e= .returned v/\Rr T w' G v r):Sp f ys r:=by
 refine⟨hc,fun w G cs h1 h2 h3 h4 h5=>(h w G cs h1 h2 h4 h5).mono ?_⟩;rintro e w' ⟨hb,v,rfl,hr⟩;refine⟨v,G,rfl,hr,fun _ h=>h,fun b hb'=>Nat.lt_of_lt_of_le (h2 b hb') hb.size,h3,fun b hb'=>?_,fun b hb' _=>hb.block b hb',hb.size,hb.os,hb.tape,hb.output⟩
 cases hO:G.O b with
 |ext=>exact absurd hO hb'
 |fz=>exact .inl ⟨rfl,rfl⟩
 |bx i=>exact absurd hO (h3 b i)
 |ar j=>exact .inr (.inr ⟨j,rfl⟩)
def itoaB(n:Int):ByteArray:=⟨(Lib.itoa n).toArray⟩
theorem itoa_calls(n:Int)(h0: -9223372036854775808<=n)(h1:n<=9223372036854775807)(w:World)(F:Nat->Prop)(hl:LayP w F):Calls Tryz.prog 58 #[.int .i64 n] w fun e w'=>e= .returned (.string (itoaB n))/\Below w.heap.size w w':=by
 refine(Any.strconv_Itoa Tryz.laysM171 n h0 h1 w ?_).mono ?_
 ·obtain⟨t,z,hp⟩:=hl.p10.2
  refine Option.bind_eq_some_iff.2 ⟨0,Ac,?_⟩;rw[hp]
 ·rintro e w' ⟨rfl,k,os,rfl⟩
  exact⟨rfl,below_grow⟩
end Go.Proofs.Led
namespace Go.Proofs.Led
open Go Go.Proofs Go.Ab
theorem cat_size(a b:ByteArray):(a++b).size=a.size+b.size:=ByteArray.size_append
theorem arith_u{n:Int}{K:Int->Prop}(h:0<=n/\n<=18446744073709551615)(hk:K n):arith .u64 n K:=by
 refine⟨?_⟩;rw[show IntKind.wrap .u64 n=n from Bo];exact hk
theorem arith_u8{n:Int}{K:Int->Prop}(h:0<=n/\n<=255)(hk:K n):arith .u8 n K:=by
 refine⟨?_⟩;rw[show IntKind.wrap .u8 n=n from Bo];exact hk
theorem arith_neg{n:Int}{K:Int->Prop}(h: -9223372036854775808<=n/\n<0)(hk:K (n+18446744073709551616)):arith .u64 n K:=by
 refine⟨?_⟩;rw[show IntKind.wrap .u64 n=n+18446744073709551616 from Bo];exact hk
theorem arith_neg2{n:Int}{K:Int->Prop}(h:0<n/\n<=18446744073709551615)(hk:K (18446744073709551616-n)):arith .u64 (0-n) K:=by
 refine⟨?_⟩;rw[show IntKind.wrap .u64 (0-n)=18446744073709551616-n from Bo];exact hk
def digB(u:Nat):ByteArray:=⟨(Lib.decDigits u).toArray⟩
theorem bytes_ext{a b:ByteArray}(h:a.data.toList=b.data.toList):a=b:=WideShapes.bytes_inj h
theorem strOf_one(n:Int):(strOf [n]).data.toList=[UInt8.ofNat n.toNat] :=rfl
theorem cat_data(a b:ByteArray):(a++b).data.toList=a.data.toList++b.data.toList:=Ae
theorem digB_step{u:Nat}(h:10<=u):digB u=digB (u/10)++strOf [((48+u% 10:Nat):Int)] :=by
 apply bytes_ext;rw[cat_data,strOf_one];unfold digB;show Lib.decDigits u=Lib.decDigits (u/10)++[UInt8.ofNat (48+u% 10)];rw[Lib.decDigits,dif_neg Aa]
theorem digB_small{u:Nat}(h:u<10):digB u=strOf [((48+u:Nat):Int)] :=by
 apply bytes_ext;rw[strOf_one];unfold digB;show Lib.decDigits u=[UInt8.ofNat (48+u)];rw[Lib.decDigits,dif_pos h]
theorem cat_assoc(a b c:ByteArray):a++b++c=a++(b++c):=by apply bytes_ext;simp[cat_data]
theorem cat_empty(a:ByteArray):a++aI=a:=by apply bytes_ext;rw[cat_data];simp
theorem empty_cat(a:ByteArray):aI++a=a:=by apply bytes_ext;rw[cat_data];simp
theorem digB_size(u:Nat)(h:u<=18446744073709551615):(digB u).size<=20:=by
 show(Lib.decDigits u).toArray.size<=20
 have:(Lib.decDigits u).length<=20:=by
  rw[Lib.decDigits_length];exact Lib.nDigits_le20 u Aa
 simpa using this
theorem itoaB_pos{u:Nat}:itoaB u=digB u:=by
 unfold itoaB digB Lib.itoa;rw[if_neg Aa];rfl
theorem itoaB_neg{u:Nat}(h:0<u):itoaB (-(u:Int))=({data:= #[45]}:ByteArray)++digB u:=by
 apply bytes_ext;rw[cat_data];unfold itoaB digB Lib.itoa;rw[if_pos Aa];show 45::Lib.decDigits (-(u:Int)).natAbs=[45] ++Lib.decDigits u;rw[show(-(u:Int)).natAbs=u from Aa];rfl
def DigI(u0 u:Nat)(s:ByteArray):Prop:=(0<u->digB u++s=digB u0)/\(u=0->s=digB u0)/\u<=u0
theorem digI_size{u0 u:Nat}{s:ByteArray}(h0:u0<=9223372036854775808)(h:DigI u0 u s):s.size<=20:=by
 have hz:=digB_size u0 Aa;rcases Nat.eq_zero_or_pos u with e|hp
 ·rw[h.2.1 e];exact hz
 ·have:=congrArg ByteArray.size (h.1 hp)
  rw[cat_size]at this;omega
theorem digI_step{u0 u:Nat}{s:ByteArray}(hp:0<u)(h:DigI u0 u s):DigI u0 (u/10) (strOf [((48+u% 10:Nat):Int)] ++s):=by
 refine⟨fun h1=>?_,fun h1=>?_,by have:=h.2.2;omega⟩
 ·rw[<-cat_assoc,<-digB_step Aa];exact h.1 hp
 ·rw[<-h.1 hp,digB_small Aa,show u% 10=u from Aa]
theorem ritoa_vc(n:Int)(h0: -9223372036854775808<=n)(h1:n<=9223372036854775807):fnVC T Tryz.prog Tryz.f61 [I n] (S (itoaB n)):=by
 rcases Int.lt_trichotomy n 0 with hneg|rfl|hpos
 ·obtain⟨u0,rfl⟩:∃u:Nat,n= -(u:Int):=⟨n.natAbs,Aa⟩
  have hp0:0<u0:=Aa
  repeat' ((conv=>whnf);first|(exfalso;omega)|refine arith_neg ⟨h0,hneg⟩ ?_|refine arith_neg2 Aa ?_|refine zS ?_|refine zd (fun hd=>?_) (fun hd=>?_)|refine zl (fun hlt=>?_) (fun hlt=>?_)|refine zk (fun hle=>?_) (fun hle=>?_)|refine ze (fun heq=>?_) (fun heq=>?_)|refine zm (fun x hx=>?_)|refine zb (fun hbb=>?_) (fun hbb=>?_))
  rw[show(18446744073709551616:Int)- (-(u0:Int)+18446744073709551616)=u0 from Aa];refine aU (A:=Nat) (B:=ByteArray) (fun u s=>mkSt [(3,U64 u),(4,S ({data:= #[45]}:ByteArray)),(5,S s)] [] []) (fun u s=>DigI u0 u s) (fun u s=>u) u0 aI ?_ ⟨fun _=>cat_empty _,fun e=>Aa,Nat.le_refl _⟩ (fun u s hp=>?_)
  ·exact zj
  ·have hz:=digI_size Aa (show DigI u0 u s from hp)
   have hu:=(show DigI u0 u s from hp).2.2;have hm:(u:Int).tmod 10=((u% 10:Nat):Int):=Eg
   have hd:(u:Int).tdiv 10=((u/10:Nat):Int):=Eh;have hs1:(strOf [48+(u:Int).tmod 10]).size=1:=rfl
   have hsg:ByteArray.size ({data:= #[45]}:ByteArray)<=1:=Ah;rcases Nat.eq_zero_or_pos u with rfl|hup
   ·have hs:=(show DigI u0 0 s from hp).2.1 rfl
    have hz2:=digB_size u0 Aa
    repeat' ((conv=>whnf);first|(exfalso;omega)|refine fU (show ByteArray.size ({data:= #[45]}:ByteArray)+s.size<=9223372036854775807 from Aa) ?_|refine zS ?_|refine zd (fun hd=>?_) (fun hd=>?_)|refine zl (fun hlt=>?_) (fun hlt=>?_)|refine zk (fun hle=>?_) (fun hle=>?_)|refine ze (fun heq=>?_) (fun heq=>?_)|refine zm (fun x hx=>?_)|refine zb (fun hbb=>?_) (fun hbb=>?_))
    conv=>whnf
    refine aP ?_;show Value.string (({data:= #[45]}:ByteArray)++s)=_;rw[hs,itoaB_neg hp0]
   ·exact He
 ·repeat' ((conv=>whnf);first|(exfalso;exact heq rfl)|refine zS ?_|refine zd (fun hd=>?_) (fun hd=>?_)|refine zl (fun hlt=>?_) (fun hlt=>?_)|refine zk (fun hle=>?_) (fun hle=>?_)|refine ze (fun heq=>?_) (fun heq=>?_)|refine zm (fun x hx=>?_)|refine zb (fun hbb=>?_) (fun hbb=>?_))
  conv=>whnf
  refine aP ?_;have:itoaB 0={data:= #[48]}:=by unfold itoaB Lib.itoa;simp[Lib.decDigits]
  rw[this]
 ·obtain⟨u0,rfl⟩:∃u:Nat,n=(u:Int):=⟨n.toNat,Aa⟩
  have hp0:0<u0:=Aa
  repeat' ((conv=>whnf);first|(exfalso;omega)|refine arith_u Aa ?_|refine zS ?_|refine zd (fun hd=>?_) (fun hd=>?_)|refine zl (fun hlt=>?_) (fun hlt=>?_)|refine zk (fun hle=>?_) (fun hle=>?_)|refine ze (fun heq=>?_) (fun heq=>?_)|refine zm (fun x hx=>?_)|refine zb (fun hbb=>?_) (fun hbb=>?_))
  refine aU (A:=Nat) (B:=ByteArray) (fun u s=>mkSt [(3,U64 u),(4,S aI),(5,S s)] [] []) (fun u s=>DigI u0 u s) (fun u s=>u) u0 aI ?_ ⟨fun _=>cat_empty _,fun e=>Aa,Nat.le_refl _⟩ (fun u s hp=>?_)
  ·exact zj
  ·have hz:=digI_size Aa (show DigI u0 u s from hp)
   have hu:=(show DigI u0 u s from hp).2.2;have hm:(u:Int).tmod 10=((u% 10:Nat):Int):=Eg
   have hd:(u:Int).tdiv 10=((u/10:Nat):Int):=Eh;have hs1:(strOf [48+(u:Int).tmod 10]).size=1:=rfl
   have hsg:ByteArray.size aI<=1:=Ah;rcases Nat.eq_zero_or_pos u with rfl|hup
   ·have hs:=(show DigI u0 0 s from hp).2.1 rfl
    have hz2:=digB_size u0 Aa
    repeat' ((conv=>whnf);first|(exfalso;omega)|refine fU (show ByteArray.size aI+s.size<=9223372036854775807 from Aa) ?_|refine zS ?_|refine zd (fun hd=>?_) (fun hd=>?_)|refine zl (fun hlt=>?_) (fun hlt=>?_)|refine zk (fun hle=>?_) (fun hle=>?_)|refine ze (fun heq=>?_) (fun heq=>?_)|refine zm (fun x hx=>?_)|refine zb (fun hbb=>?_) (fun hbb=>?_))
    conv=>whnf
    refine aP ?_;show Value.string (aI++s)=_;rw[hs,empty_cat,itoaB_pos]
   ·exact He
theorem ritoa_spec(n:Int)(h0: -9223372036854775808<=n)(h1:n<=9223372036854775807):Sp 61 [I n] (S (itoaB n)):=zsp Tryz.func61 (ritoa_vc n h0 h1)
end Go.Proofs.Led
namespace Go.Proofs.Led
open Go Go.Proofs Go.Ab Go.RowKit
theorem bld_size:(Tryz.prog.info? 140).map (·.size)=some 2:=Ac
theorem bld_lies:liesAt Tryz.prog Tryz.prog.depth 140 (2/Tryz.prog.cellsOf 140) 0 140 1=true:=Ac
theorem cc_new(b:Nat)(w:World)(h0:w.cell? ⟨b,0,none⟩=some (.pointer none))(hsh:w.shape? b=some (140,2))(hfz:w.frozen? ⟨b,0,none⟩=false):
 Calls Tryz.prog 106 #[.pointer (some ⟨b,0,none⟩)] w fun e w'=>e= .returned (.tuple #[])/\w'=w.setCell ⟨b,0,none⟩ (.pointer (some ⟨b,0,none⟩)):=by
 obtain⟨j,hj,hjs⟩:=Option.map_eq_some_iff.1 bld_size;have tP:=Tryz.underlying137;have tB:=Tryz.underlying140;have tU:=Tryz.underlying215
 have uP:=run_underlying tP;have uB:=run_underlying tB;have uU:=run_underlying tU
 have aP:=Tryz.isAgg137;have aB:=Tryz.isAgg140
 go_enter Tryz.func106,Tryz.ntmps106
 go_wp2
 rw[Lib.run_to_unsafe w ⟨b,0,none⟩ tP tU hj (by rw[hjs];decide) hsh (Nat.zero_lt_succ 1)]
 simp only[Result.andThen];rw[Oper.upon_value]
 go_wp2
 rw[run_callFunc_extern Tryz.func144 Ac Ac Ac (e:=Extern.AbiNoEscape.same) Ac];rw[Lib.run_noEscape];simp only[Result.andThen];rw[Oper.upon_value]
 go_wp2
 rw[Lib.run_from_unsafe w ⟨b,0,none⟩ tU tP hj hsh bld_lies];simp only[Result.andThen];rw[Oper.upon_value]
 go_wp2
 go_end0
 exact⟨rfl,rfl⟩
theorem cc_old(b:Nat)(w:World)(h0:w.cell? ⟨b,0,none⟩=some (.pointer (some ⟨b,0,none⟩))):
 Calls Tryz.prog 106 #[.pointer (some ⟨b,0,none⟩)] w fun e w'=>e= .returned (.tuple #[])/\w'=w:=by
 obtain⟨j,hj,hjs⟩:=Option.map_eq_some_iff.1 bld_size;have tP:=Tryz.underlying137;have tB:=Tryz.underlying140;have tU:=Tryz.underlying215
 have uP:=run_underlying tP;have uB:=run_underlying tB;have uU:=run_underlying tU
 have aP:=Tryz.isAgg137;have aB:=Tryz.isAgg140
 go_enter Tryz.func106,Tryz.ntmps106
 go_wp2
 rw[Lib.run_neq_ptr_same w _ tP hj]
 go_wp2
 go_end0
 exact⟨rfl,rfl⟩
theorem bld_byte:Tryz.prog.cellsOf 5=1:=Ac
theorem str_calls(b g n cap:Nat)(p:Value)(cur:Array Value)(l:List UInt8)(w:World)(hb:w.heap[b]? =some (.cells #[p, .slice (some ⟨g,0,none⟩) n cap] 140 (0,0)))(hg:w.heap[g]? =some (.cells cur 5 (0,0)))
 (hn:n=l.length)(h0:l≠ [])(hc:n<=cap)(hcm:cap<=maxLen)(hs:cur.size=cap)(hl:∀(j:Nat) (x:UInt8),l[j]? =some x->cur[j]? =some (Value.int .u8 x.toNat)):
 Calls Tryz.prog 59 #[.pointer (some ⟨b,0,none⟩)] w fun e w'=>e= .returned (.string ⟨l.toArray⟩)/\w'=w.drew.freeze ⟨g,0,none⟩ n:=by
 have hl0:l.length≠0:=by simpa using h0
 subst hn
 have c1:w.drew.cell? ⟨b,1,none⟩=some (.slice (some ⟨g,0,none⟩) l.length cap):=by
  have:w.drew.heap[b]? =some (.cells #[p, .slice (some ⟨g,0,none⟩) l.length cap] 140 (0,0)):=hb;rw[Lib.cell_of_heap this];rfl
 have hSD:(Builtin.unsafeSliceData_ #[138] 190 #[.slice (some ⟨g,0,none⟩) l.length cap]).run Tryz.prog w.drew= .ok (.pointer (some ⟨g,0,none⟩)) w.drew:=
  Lib.run_unsafeSliceData_row _ _ _ _ _ _ Aa
 have hUS:(Builtin.unsafeString_ #[190,3] 9 #[.pointer (some ⟨g,0,none⟩), .int .i64 l.length]).run Tryz.prog w.drew= .ok (.string ⟨l.toArray⟩) (w.drew.freeze ⟨g,0,none⟩ l.length):=by
  refine Lib.run_unsafeString_row w.drew 190 3 9 5 Tryz.underlying190 bld_byte g cur.size (by have hg':w.drew.heap[g]? =some (.cells cur 5 (0,0)):=hg;simp[World.shape?,hg']) l h0 Aa Fa ?_
  intro j x hx;have hg':w.drew.heap[g]? =some (.cells cur 5 (0,0)):=hg;have:=hl j x hx
  rw[Addr.add_lit];simp only[World.cell?,hg'];simpa using this
 have tP:=Tryz.underlying137;have tB:=Tryz.underlying140;have tS:=Tryz.underlying138;have tu:=Tryz.underlying190
 have t3:=Tryz.underlying3;have t9:=Tryz.underlying9;have t5:=Tryz.underlying5
 have uP:=run_underlying tP;have uB:=run_underlying tB;have uS:=run_underlying tS;have uu:=run_underlying tu
 have u3:=run_underlying t3;have u9:=run_underlying t9;have u5:=run_underlying t5
 have aP:=Tryz.isAgg137;have aB:=Tryz.isAgg140;have aS:=Tryz.isAgg138
 have mixed:=mixed
 go_enter Tryz.func59,Tryz.ntmps59
 go_wp2
 go_region_o
 all_goals (go_wp2;go_ret;exact⟨rfl,rfl⟩)
end Go.Proofs.Led
namespace Go.Proofs.Led
open Go Go.Proofs Go.Ab Go.RowKit Go.Lib
theorem byte_info:(Tryz.prog.info? 5).map (fun i=>(i.zero,i.size,i.bytes))=some (some (.int .u8 0),1,1):=Ac
def BOk(w:World)(X base:Nat)(acc:ByteArray):Prop:=
 ∃p v,w.heap[X]? =some (.cells #[p,v] 140 (0,0))/\(p= .pointer none\/p= .pointer (some ⟨X,0,none⟩))/\w.ownsRow base 5 1 v acc.size (strCells acc)/\X<base/\base<=w.heap.size
structure Bel(base X:Nat)(w w':World):Prop where
 os:w'.os=w.os
 tape:w'.tape=w.tape
 output:w'.output=w.output
 size:w.heap.size<=w'.heap.size
 block:∀k,k<base->k≠X->w'.heap[k]? =w.heap[k]?
 typed:∀k c t fr,w.heap[k]? =some (.cells c t fr)->t≠5->k≠X->w'.heap[k]? =w.heap[k]?
theorem Bel.refl{base X:Nat}{w:World}:Bel base X w w:=⟨rfl,rfl,rfl,Nat.le_refl _,fun _ _ _=>rfl,fun _ _ _ _ _ _ _=>rfl⟩
theorem Bel.trans{base X:Nat}{a b c:World}(h:Bel base X a b)(k:Bel base X b c):Bel base X a c:=
 ⟨k.os.trans h.os,k.tape.trans h.tape,k.output.trans h.output,Nat.le_trans h.size k.size,fun i hi hx=>(k.block i hi hx).trans (h.block i hi hx),fun i c t fr hi ht hx=>(k.typed i c t fr ((h.typed i c t fr hi ht hx).trans hi) ht hx).trans (h.typed i c t fr hi ht hx)⟩
theorem strCells_app(a b:ByteArray):strCells (a++b)=strCells a++strCells b:=by simp[strCells]
theorem row_slice{w:World}{base:Nat}{e:TypeId}{size n:Nat}{v:Value}{xs:List Value}(h:w.ownsRow base e size v n xs):∃a m c,v= .slice a m c:=by
 rcases h.2 with⟨rfl,_⟩|⟨g,cap,_,rfl,_⟩
 ·exact⟨_,_,_,rfl⟩
 ·exact⟨_,_,_,rfl⟩
theorem row_typed{w:World}{base:Nat}{e:TypeId}{size n k:Nat}{v:Value}{xs:List Value}{c:Array Value}{t:TypeId}{fr:Nat×Nat}(h:w.ownsRow base e size v n xs)(hv:v.ownBlock=some k)(hk:w.heap[k]? =some (.cells c t fr))(ht:t≠e):False:=by
 rcases h.2 with⟨rfl,_⟩|⟨g,cap,cur,rfl,_,hg,_⟩
 ·cases hv
 ·cases hv
  exact NI
theorem set_grown{w:World}{X i:Nat}{u:Value}:w.grownBy (w.setCell ⟨X,i,none⟩ u) (some X):=
 ⟨Ed,Ed,Ed,by unfold World.setCell;split<;>simp,fun k _ hk=>heap_setCell_other w _ k _ (fun e=>hk (by rw[e]))⟩
theorem ws_calls(X base:Nat)(acc s:ByteArray)(w:World)(h:BOk w X base acc)(hs:acc.size+s.size<=1000000000):
 Calls Tryz.prog 57 #[.pointer (some ⟨X,0,none⟩), .string s] w fun e w'=>(∃m,e= .returned (.tuple #[m, .nilIface]))/\BOk w' X base (acc++s)/\Bel base X w w':=by
 obtain⟨p,v,hX,hp,hown,hXb,hbs⟩:=h;obtain⟨i0,hi,hz0,hz1,hz2⟩:=info_parts byte_info;have hvX:∀k,v.ownBlock=some k->base<=k:=fun k hk=>(hown.lt k hk).1
 have hcc:Calls Tryz.prog 106 #[.pointer (some ⟨X,0,none⟩)] w fun e w'=>e= .returned (.tuple #[])/\w'.heap[X]? =some (.cells #[.pointer (some ⟨X,0,none⟩),v] 140 (0,0))/\w'.ownsRow base 5 1 v acc.size (strCells acc)/\Bel base X w w':=by
  have c0:w.cell? ⟨X,0,none⟩=some p:=by simp[World.cell?,hX]
  have f0:w.frozen? ⟨X,0,none⟩=false:=by simp[World.frozen?,hX]
  have hsh:w.shape? X=some (140,2):=by simp[World.shape?,hX]
  rcases hp with rfl|rfl
  ·refine(cc_new X w c0 hsh f0).mono ?_
   rintro e w' ⟨rfl,rfl⟩;have hg:w.grownBy (w.setCell ⟨X,0,none⟩ (.pointer (some ⟨X,0,none⟩))) (some X):=set_grown;refine⟨rfl,?_,hown.kept hg ?_,⟨hg.os,hg.tape,hg.output,hg.size,fun k hk hkX=>hg.block k Aa (fun e=>hkX Gf),fun k c t fr hk ht hkX=>hg.block k (Array.getElem?_eq_some_iff.1 hk).1 (fun e=>hkX Gf)⟩⟩
   ·rw[heap_setCell_same _ _ _ _ _ _ hX]
    rfl
   ·cases hv:v.ownBlock with
    |none=>exact .inl rfl
    |some k=>
     have:=hvX k hv;exact .inr (fun e=>by cases e;omega)
  ·refine(cc_old X w c0).mono ?_
   rintro e w' ⟨rfl,rfl⟩;exact⟨rfl,hX,hown,Bel.refl⟩
 go_enter Tryz.func57,Tryz.ntmps57
 go_wp2_with (first
  |(go_at_call 106;refine hcc.mono ?_;rintro e w2 ⟨rfl,hX2,hown2,hB2⟩;have c1:w2.cell? ⟨X,1,none⟩=some v:=by {simp[World.cell?,hX2]})
  |(at_builtin;refine wpList_append_own_string _ rfl _ _ 138 9 rfl base 5 i0 Tryz.underlying138 Tryz.underlying9 hi hz0 hz1 hz2 v acc.size (strCells acc) rfl hown2 s rfl BI Aa (Nat.le_trans hbs hB2.size) ?_;intro v' w1 hown' hgrow hnil;obtain⟨ao,n',c',rfl⟩:=row_slice hown';have hX1:=hgrow.block X (Nat.lt_of_lt_of_le Aa hB2.size) (fun e1=>by {have:=hvX X e1.symm;omega});rw[hX2]at hX1;have c1':w1.cell? ⟨X,1,none⟩=some v:=by {simp[World.cell?,hX1]};have f1':w1.frozen? ⟨X,1,none⟩=false:=by {simp[World.frozen?,hX1]})
  |go_in)
 go_ret2
 have hg:w1.grownBy (w1.setCell ⟨X,1,none⟩ (.slice ao n' c')) (some X):=set_grown;have hvX':∀k,(Value.slice ao n' c').ownBlock=some k->base<=k:=fun k hk=>(hown'.lt k hk).1
 have hbel:Bel base X w2 (w1.setCell ⟨X,1,none⟩ (.slice ao n' c')):=⟨hg.os.trans hgrow.os,hg.tape.trans hgrow.tape,hg.output.trans hgrow.output,Nat.le_trans hgrow.size hg.size,fun k hk hkX=>(hg.block k (Nat.lt_of_lt_of_le Aa (Nat.le_trans hB2.size hgrow.size)) (fun e=>hkX Gf)).trans (hgrow.block k (Nat.lt_of_lt_of_le Aa hB2.size) (fun e1=>by have:=hvX k e1.symm;omega)),fun k c t fr hk ht hkX=>by
  have hkl:=(Array.getElem?_eq_some_iff.1 hk).1;rw[hg.block k (Nat.lt_of_lt_of_le hkl hgrow.size) (fun e=>hkX Gf),hgrow.block k hkl (fun e1=>row_typed hown2 e1.symm hk ht)]⟩
 refine⟨⟨_,rfl⟩,⟨.pointer (some ⟨X,0,none⟩), .slice ao n' c',?_, .inr rfl,?_,hXb,Nat.le_trans hbs (Nat.le_trans hB2.size (Nat.le_trans hgrow.size hg.size))⟩,hB2.trans hbel⟩
 ·rw[heap_setCell_same _ _ _ _ _ _ hX1]
  rfl
 ·have e:(acc++s).size=acc.size+s.size:=ByteArray.size_append
  rw[e,strCells_app];refine hown'.kept hg ?_
  cases hv:(Value.slice ao n' c').ownBlock with
  |none=>exact .inl rfl
  |some k=>
   have:=hvX' k hv;exact .inr (fun e=>by cases e;omega)
theorem str_of(X base:Nat)(acc:ByteArray)(w:World)(h:BOk w X base acc)(h0:acc.size≠0):
 Calls Tryz.prog 59 #[.pointer (some ⟨X,0,none⟩)] w fun e w'=>e= .returned (.string acc)/\Bel base X w w':=by
 obtain⟨p,v,hX,hp,hown,hXb,hbs⟩:=h;rcases hown.2 with⟨_,hn⟩|⟨g,cap,cur,rfl,hbg,hg,hnc,hcm,hcs,htake⟩
 ·exact absurd hn h0
 ·have hl:acc.data.toList.length=acc.size:=by simp
  refine(str_calls X g acc.size cap p cur acc.data.toList w hX hg hl.symm (fun e=>h0 (by rw[<-hl,e];rfl)) hnc hcm (by simpa using hcs) (fun j x hj=>?_)).mono ?_
  ·have hjl:j<acc.size:=by rw[<-hl];exact(List.getElem?_eq_some_iff.1 hj).1
   have e1:(cur.toList.take (acc.size*1))[j]? =(strCells acc)[j]? :=by rw[htake]
   rw[List.getElem?_take,if_pos Aa]at e1;rw[<-Array.getElem?_toList,e1];simp[strCells,hj]
  ·rintro e w' ⟨rfl,rfl⟩
   refine⟨Ae,Ej,Ej,Ej,?_,fun k hk hkX=>?_,fun k c t fr hk ht hkX=>?_⟩
   ·unfold World.freeze
    split
    ·exact Nat.le_refl _
    ·exact Nat.le_of_eq (Array.size_modify ..).symm
   ·unfold World.freeze
    split
    ·rfl
    ·show(w.heap.modify g _)[k]? =_
     rw[Array.getElem?_modify,if_neg Aa]
   ·have hne:g≠k:=fun e=>by
     subst e;exact NI
    unfold World.freeze;split
    ·rfl
    ·show(w.heap.modify g _)[k]? =_
     rw[Array.getElem?_modify,if_neg hne]
def fzG(G:Gh):Gh:={G with O:=fun b=>match G.O b with| .fz=> .fz|_=> .ext}
theorem fzG_iff{G:Gh}{b:Nat}:(fzG G).O b= .fz↔G.O b= .fz:=by
 unfold fzG;dsimp only;cases G.O b<;>simp
theorem fzG_ext{G:Gh}{b:Nat}(h:(fzG G).O b≠ .ext):G.O b= .fz:=by
 unfold fzG at h;dsimp only at h;cases hG:G.O b<;>simp[hG]at h⊢
theorem sp_at{f:FuncId}{ys:List V}{r:V}(h:Sp f ys r){w w':World}{G:Gh}(h2:∀b,G.O b≠ .ext->b<w.heap.size)(h5:LayP w (fun b=>G.O b= .fz))(hB:Below w.heap.size w w')(cs:Array Value)(hs:cs.size=ys.length)
 (ha:∀(j:Nat) v y,cs[j]? =some v->ys[j]? =some y->Rb T w' (fzG G) j v y):
 Calls Tryz.prog f cs w' fun e w''=>∃v G',e= .returned v/\Rr T w'' G' v r/\Below w'.heap.size w' w''/\∀b,G'.O b≠ .ext->G'.O b= .fz\/w'.heap.size<=b:=by
 refine(h.2 w' (fzG G) cs hs (fun b hb=>Nat.lt_of_lt_of_le (h2 b (by rw[fzG_ext hb];simp)) hB.size) (fun b i hb=>?_) ha ?_).mono ?_
 ·have:=fzG_ext (G:=G) (b:=b) Au
  rw[fzG_iff.2 this]at hb;cases hb
 ·refine layP_mono (fun b hb=>?_) h5
  exact⟨fzG_iff.2 hb,hB.block b (h2 b Au)⟩
 ·rintro e w'' ⟨v,G',rfl,q1,q2,q3,q4,q5,q6,q7,q8,q9,q10⟩
  have har:∀b j,(fzG G).O b≠ .ar j:=fun b j hb=>by
   have:=fzG_ext (G:=G) (b:=b) Au;rw[fzG_iff.2 this]at hb;cases hb
  refine⟨v,G',rfl,q1,⟨q8,q9,q10,q7,fun k hk=>q6 k hk (fun j=>har k j)⟩,fun b hb=>?_⟩;rcases q5 b hb with⟨_,h⟩|h|⟨j,h⟩
  ·exact .inl h
  ·exact .inr h
  ·exact absurd h (har b j)
theorem rb_later{w w':World}{G:Gh}(h2:∀b,G.O b≠ .ext->b<w.heap.size)(hB:Below w.heap.size w w'){v:Value}{l:List V}(hp:V.pure (.sl l))(h:Rv w G v (.sl l))(j:Nat):Rb T w' (fzG G) j v (.sl l):=by
 refine⟨hp,Rv.keep (w:=w) (G:=G) ⟨fun b hb=>fzG_iff.2 hb,fun b hb=>hB.block b (h2 b Au)⟩ h hp (fun _ h=>h.elim) (fun _ _ h=>h.elim)⟩
theorem rb_nodeA{w:World}{G:Gh}{j:Nat}(x:Node):Rb T w G j (.agg (nodeA x)) (nodeV x):=by
 refine⟨by simp only[V.pure,nodeV,nodeC,V.ok,V.okL,I,S,B,and_self], .agg (nodeA x) (nodeC x) rfl (by
  intro c hc;simp only[nodeA,List.mem_toArray,List.mem_cons,List.not_mem_nil,or_false]at hc;rcases hc with rfl|rfl|rfl|rfl|rfl|rfl|rfl|rfl|rfl<;>rfl) fun i c y hc hy=>?_⟩
 have e:nodeC x=(nodeA x).toList.map V.lit:=rfl;rw[e,List.getElem?_map,Array.getElem?_toList,hc]at hy;cases hy;refine .lit _ ?_;have hm:c∈(nodeA x):=Array.mem_of_getElem? hc
 simp only[nodeA,List.mem_toArray,List.mem_cons,List.not_mem_nil,or_false]at hm;rcases hm with rfl|rfl|rfl|rfl|rfl|rfl|rfl|rfl|rfl<;>rfl
theorem nodeA_of{w:World}{G:Gh}{v:Value}{x:Node}(h:Rv w G v (nodeV x)):v= .agg (nodeA x):=by
 obtain⟨cs,rfl,hs,_,hc⟩:=Rv.zV (show Rv w G v (.agg (nodeC x))from h);congr 1;apply Array.ext
 ·rw[hs];rfl
 ·intro i h1 h2
  have e:(nodeC x)[i]? =some (.lit (nodeA x)[i]):=by
   show((nodeA x).toList.map V.lit)[i]? =_;rw[List.getElem?_map,Array.getElem?_toList,Array.getElem?_eq_getElem h2];rfl
  exact(hc i _ _ (Array.getElem?_eq_getElem h1) e).bH
end Go.Proofs.Led
