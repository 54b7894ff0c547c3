/-
  Numerals of the reference, walked.
-/
import Derived.Test.YtkhhdojgbkophaaGreatDoorB10
import Derived.Test.YtkhhdojgbkophaaGreatDoorK15
set_option linter.unusedVariables false
set_option linter.unusedSimpArgs false
set_option maxRecDepth 100000
set_option maxHeartbeats 4000000
noncomputable section
namespace Go.Proofs.Cost58
open Go Go.Proofs Go.Ab Go.Proofs.Led
theorem arith_u8{n:Int}{K:Int->Prop}(h:0<=n/\n<=255)(hk:K n):arith .u8 n K:=by
 refine⟨?_⟩;rw[show IntKind.wrap .u8 n=n from AZ];exact hk
theorem arith_neg{n:Int}{K:Int->Prop}(h: -9223372036854775808<=n/\n<0)(hk:K (n+18446744073709551616)):arith .u64 n K:=by
 refine⟨?_⟩;rw[show IntKind.wrap .u64 n=n+18446744073709551616 from AZ];exact hk
theorem arith_neg2{n:Int}{K:Int->Prop}(h:0<n/\n<=18446744073709551615)(hk:K (18446744073709551616-n)):arith .u64 (0-n) K:=by
 refine⟨?_⟩;rw[show IntKind.wrap .u64 (0-n)=18446744073709551616-n from AZ];exact hk
def U64(n:Int):V:= .lit (.int .u64 n)
def digB(u:Nat):ByteArray:=⟨(Lib.decDigits u).toArray⟩
theorem bytes_ext{a b:ByteArray}(h:a.data.toList=b.data.toList):a=b:=WideShapes.bytes_inj h
theorem strOf_one(n:Int):(strOf [n]).data.toList=[UInt8.ofNat n.toNat] :=rfl
theorem cat_data(a b:ByteArray):(a++b).data.toList=a.data.toList++b.data.toList:=Ae
theorem digB_step{u:Nat}(h:10<=u):digB u=digB (u/10)++strOf [((48+u% 10:Nat):Int)] :=by
 apply bytes_ext;rw[cat_data,strOf_one];unfold digB;show Lib.decDigits u=Lib.decDigits (u/10)++[UInt8.ofNat (48+u% 10)];rw[Lib.decDigits,dif_neg Aa]
theorem digB_small{u:Nat}(h:u<10):digB u=strOf [((48+u:Nat):Int)] :=by
 apply bytes_ext;rw[strOf_one];unfold digB;show Lib.decDigits u=[UInt8.ofNat (48+u)];rw[Lib.decDigits,dif_pos h]
theorem cat_assoc(a b c:ByteArray):a++b++c=a++(b++c):=by apply bytes_ext;simp[cat_data]
theorem cat_empty(a:ByteArray):a++aI=a:=by apply bytes_ext;rw[cat_data];simp
theorem empty_cat(a:ByteArray):aI++a=a:=by apply bytes_ext;rw[cat_data];simp
theorem digB_size(u:Nat)(h:u<=18446744073709551615):(digB u).size<=20:=by
 show(Lib.decDigits u).toArray.size<=20
 have:(Lib.decDigits u).length<=20:=by
  rw[Lib.decDigits_length];exact Lib.nDigits_le20 u Aa
 simpa using this
theorem itoaB_pos{u:Nat}:itoaB u=digB u:=by
 unfold itoaB digB Lib.itoa;rw[if_neg Aa];rfl
theorem itoaB_neg{u:Nat}(h:0<u):itoaB (-(u:Int))=({data:= #[45]}:ByteArray)++digB u:=by
 apply bytes_ext;rw[cat_data];unfold itoaB digB Lib.itoa;rw[if_pos Aa];show 45::Lib.decDigits (-(u:Int)).natAbs=[45] ++Lib.decDigits u;rw[show(-(u:Int)).natAbs=u from Aa];rfl
def DigI(u0 u:Nat)(s:ByteArray):Prop:=(0<u->digB u++s=digB u0)/\(u=0->s=digB u0)/\u<=u0
theorem digI_size{u0 u:Nat}{s:ByteArray}(h0:u0<=9223372036854775808)(h:DigI u0 u s):s.size<=20:=by
 have hz:=digB_size u0 Aa;rcases Nat.eq_zero_or_pos u with e|hp
 ·rw[h.2.1 e];exact hz
 ·have:=congrArg ByteArray.size (h.1 hp)
  rw[cat_size]at this;omega
theorem digI_step{u0 u:Nat}{s:ByteArray}(hp:0<u)(h:DigI u0 u s):DigI u0 (u/10) (strOf [((48+u% 10:Nat):Int)] ++s):=by
 refine⟨fun h1=>?_,fun h1=>?_,by have:=h.2.2;omega⟩
 ·rw[<-cat_assoc,<-digB_step Aa];exact h.1 hp
 ·rw[<-h.1 hp,digB_small Aa,show u% 10=u from Aa]
theorem ritoa_vc(n:Int)(h0: -9223372036854775808<=n)(h1:n<=9223372036854775807):fnVC T Tryz.prog Tryz.f29 [I n] (S (itoaB n)):=by
 rcases Int.lt_trichotomy n 0 with hneg|rfl|hpos
 ·obtain⟨u0,rfl⟩:∃u:Nat,n= -(u:Int):=⟨n.natAbs,Aa⟩
  have hp0:0<u0:=Aa
  repeat' ((conv=>whnf);first
   |refine arith_half Aa ?_
   |refine arith_u Aa ?_
   |(exfalso;omega)
   |refine arith_neg ⟨h0,hneg⟩ ?_
   |refine arith_neg2 Aa ?_
   |refine eY7 ?_
   |refine eZ1 Ac ?_
   |refine eH4 Aa ?_
   |refine fU (p:=(T.row _).eq=true) Ac ?_
   |refine fU Aa ?_
   |refine eZ2 ?_
   |refine eZ0 (fun hd=>?_) (fun hd=>?_)
   |refine br_lt (fun hlt=>?_) (fun hlt=>?_)
   |refine br_le (fun hle=>?_) (fun hle=>?_)
   |refine eV7 (fun heq=>?_) (fun heq=>?_)
   |refine eQ9 Aa (fun x hx=>?_)
   |refine eY0 rfl (fun h=>Ad) ?_
   |refine jU (fun hbb=>?_) (fun hbb=>?_)
   |refine ret_i ?_
   |refine fA7 ?_)
  rw[show(18446744073709551616:Int)- (-(u0:Int)+18446744073709551616)=u0 from Aa];refine aU (A:=Nat) (B:=ByteArray) (fun u s=>mkSt [(3,U64 u),(4,S ({data:= #[45]}:ByteArray)),(5,S s)] [] []) (fun u s=>DigI u0 u s) (fun u s=>u) u0 aI ?_ ⟨fun _=>cat_empty _,fun e=>Aa,Nat.le_refl _⟩ (fun u s hp=>?_)
  ·exact G7
  ·have hz:=digI_size Aa (show DigI u0 u s from hp)
   have hu:=(show DigI u0 u s from hp).2.2;have hm:(u:Int).tmod 10=((u% 10:Nat):Int):=DK
   have hd:(u:Int).tdiv 10=((u/10:Nat):Int):=DL;have hs1:(strOf [48+(u:Int).tmod 10]).size=1:=rfl
   have hsg:ByteArray.size ({data:= #[45]}:ByteArray)<=1:=Aj;rcases Nat.eq_zero_or_pos u with rfl|hup
   ·have hs:=(show DigI u0 0 s from hp).2.1 rfl
    have hz2:=digB_size u0 Aa
    repeat' ((conv=>whnf);first
     |refine arith_half Aa ?_
     |refine arith_u Aa ?_
     |(exfalso;omega)
     |refine fU (show ByteArray.size ({data:= #[45]}:ByteArray)+s.size<=9223372036854775807 from Aa) ?_
     |refine eY7 ?_
     |refine eZ1 Ac ?_
     |refine eH4 Aa ?_
     |refine fU (p:=(T.row _).eq=true) Ac ?_
     |refine fU Aa ?_
     |refine eZ2 ?_
     |refine eZ0 (fun hd=>?_) (fun hd=>?_)
     |refine br_lt (fun hlt=>?_) (fun hlt=>?_)
     |refine br_le (fun hle=>?_) (fun hle=>?_)
     |refine eV7 (fun heq=>?_) (fun heq=>?_)
     |refine eQ9 Aa (fun x hx=>?_)
     |refine eY0 rfl (fun h=>Ad) ?_
     |refine jU (fun hbb=>?_) (fun hbb=>?_)
     |refine ret_i ?_
     |refine fA7 ?_)
    conv=>whnf
    refine aP ?_;show Value.string (({data:= #[45]}:ByteArray)++s)=_;rw[hs,itoaB_neg hp0]
   ·exact GH
 ·repeat' ((conv=>whnf);first
   |refine arith_half Aa ?_
   |refine arith_u Aa ?_
   |(exfalso;exact heq rfl)
   |refine eY7 ?_
   |refine eZ1 Ac ?_
   |refine eH4 Aa ?_
   |refine fU (p:=(T.row _).eq=true) Ac ?_
   |refine fU Aa ?_
   |refine eZ2 ?_
   |refine eZ0 (fun hd=>?_) (fun hd=>?_)
   |refine br_lt (fun hlt=>?_) (fun hlt=>?_)
   |refine br_le (fun hle=>?_) (fun hle=>?_)
   |refine eV7 (fun heq=>?_) (fun heq=>?_)
   |refine eQ9 Aa (fun x hx=>?_)
   |refine eY0 rfl (fun h=>Ad) ?_
   |refine jU (fun hbb=>?_) (fun hbb=>?_)
   |refine ret_i ?_
   |refine fA7 ?_)
  conv=>whnf
  refine aP ?_;have:itoaB 0={data:= #[48]}:=BA;rw[this]
 ·obtain⟨u0,rfl⟩:∃u:Nat,n=(u:Int):=⟨n.toNat,Aa⟩
  have hp0:0<u0:=Aa
  repeat' ((conv=>whnf);first
   |refine arith_half Aa ?_
   |refine arith_u Aa ?_
   |(exfalso;omega)
   |refine eY7 ?_
   |refine eZ1 Ac ?_
   |refine eH4 Aa ?_
   |refine fU (p:=(T.row _).eq=true) Ac ?_
   |refine fU Aa ?_
   |refine eZ2 ?_
   |refine eZ0 (fun hd=>?_) (fun hd=>?_)
   |refine br_lt (fun hlt=>?_) (fun hlt=>?_)
   |refine br_le (fun hle=>?_) (fun hle=>?_)
   |refine eV7 (fun heq=>?_) (fun heq=>?_)
   |refine eQ9 Aa (fun x hx=>?_)
   |refine eY0 rfl (fun h=>Ad) ?_
   |refine jU (fun hbb=>?_) (fun hbb=>?_)
   |refine ret_i ?_
   |refine fA7 ?_)
  refine aU (A:=Nat) (B:=ByteArray) (fun u s=>mkSt [(3,U64 u),(4,S aI),(5,S s)] [] []) (fun u s=>DigI u0 u s) (fun u s=>u) u0 aI ?_ ⟨fun _=>cat_empty _,fun e=>Aa,Nat.le_refl _⟩ (fun u s hp=>?_)
  ·exact G7
  ·have hz:=digI_size Aa (show DigI u0 u s from hp)
   have hu:=(show DigI u0 u s from hp).2.2;have hm:(u:Int).tmod 10=((u% 10:Nat):Int):=DK
   have hd:(u:Int).tdiv 10=((u/10:Nat):Int):=DL;have hs1:(strOf [48+(u:Int).tmod 10]).size=1:=rfl
   have hsg:ByteArray.size aI<=1:=Aj;rcases Nat.eq_zero_or_pos u with rfl|hup
   ·have hs:=(show DigI u0 0 s from hp).2.1 rfl
    have hz2:=digB_size u0 Aa
    repeat' ((conv=>whnf);first
     |refine arith_half Aa ?_
     |refine arith_u Aa ?_
     |(exfalso;omega)
     |refine fU (show ByteArray.size aI+s.size<=9223372036854775807 from Aa) ?_
     |refine eY7 ?_
     |refine eZ1 Ac ?_
     |refine eH4 Aa ?_
     |refine fU (p:=(T.row _).eq=true) Ac ?_
     |refine fU Aa ?_
     |refine eZ2 ?_
     |refine eZ0 (fun hd=>?_) (fun hd=>?_)
     |refine br_lt (fun hlt=>?_) (fun hlt=>?_)
     |refine br_le (fun hle=>?_) (fun hle=>?_)
     |refine eV7 (fun heq=>?_) (fun heq=>?_)
     |refine eQ9 Aa (fun x hx=>?_)
     |refine eY0 rfl (fun h=>Ad) ?_
     |refine jU (fun hbb=>?_) (fun hbb=>?_)
     |refine ret_i ?_
     |refine fA7 ?_)
    conv=>whnf
    refine aP ?_;show Value.string (aI++s)=_;rw[hs,empty_cat,itoaB_pos]
   ·exact GH
theorem ritoa_spec(n:Int)(h0: -9223372036854775808<=n)(h1:n<=9223372036854775807):Sp 29 [I n] (S (itoaB n)):=zsp Tryz.func29 (ritoa_vc n h0 h1)
theorem cZ1(c:Int):fnVC T Tryz.prog Tryz.f60 [U c] (.lit (.bool (decB (jA c)))):=by
 repeat' ((conv=>whnf);first
  |refine arith_half Aa ?_
  |refine arith_u Aa ?_
  |refine eY7 ?_
  |refine eZ1 Ac ?_
  |refine eH4 Aa ?_
  |refine fU (p:=(T.row _).eq=true) Ac ?_
  |refine fU Aa ?_
  |refine eZ2 ?_
  |refine eZ0 (fun hd=>?_) (fun hd=>?_)
  |refine br_lt (fun hlt=>?_) (fun hlt=>?_)
  |refine br_le (fun hle=>?_) (fun hle=>?_)
  |refine eV7 (fun heq=>?_) (fun heq=>?_)
  |refine eQ9 Aa (fun x hx=>?_)
  |refine eY0 rfl (fun h=>Ad) ?_
  |refine jU (fun hbb=>?_) (fun hbb=>?_)
  |refine ret_i ?_
  |refine fA7 ?_)
 all_goals conv=>whnf
 all_goals refine aA ?_
 all_goals first
  |exact fE EQ
  |(refine le_dec ?_;unfold jA;omega)
  |exact aC EQ
theorem aO8(c:Int):Sp 60 [U c] (.lit (.bool (decB (jA c)))):=zsp Tryz.func60 (cZ1 c)
theorem dP4(c:Int):fnVC T Tryz.prog Tryz.f102 [U c] (.lit (.bool (decB (isDigit c)))):=by
 repeat' ((conv=>whnf);first
  |refine arith_half Aa ?_
  |refine arith_u Aa ?_
  |refine eY7 ?_
  |refine eZ1 Ac ?_
  |refine eH4 Aa ?_
  |refine fU (p:=(T.row _).eq=true) Ac ?_
  |refine fU Aa ?_
  |refine eZ2 ?_
  |refine eZ0 (fun hd=>?_) (fun hd=>?_)
  |refine br_lt (fun hlt=>?_) (fun hlt=>?_)
  |refine br_le (fun hle=>?_) (fun hle=>?_)
  |refine eV7 (fun heq=>?_) (fun heq=>?_)
  |refine eQ9 Aa (fun x hx=>?_)
  |refine eY0 rfl (fun h=>Ad) ?_
  |refine jU (fun hbb=>?_) (fun hbb=>?_)
  |refine ret_i ?_
  |refine fA7 ?_)
 all_goals conv=>whnf
 all_goals refine aA ?_
 all_goals first
  |(refine le_dec ?_;unfold isDigit;omega)
  |exact aC (by unfold isDigit;omega)
theorem cH4(c:Int):Sp 102 [U c] (.lit (.bool (decB (isDigit c)))):=zsp Tryz.func102 (dP4 c)
theorem dS9(s:ByteArray)(hs:s.size<=1000000000):fnVC T Tryz.prog Tryz.f61 [S s,I 0] (I (whS fG s 0)):=by
 repeat' ((conv=>whnf);first
  |refine arith_half Aa ?_
  |refine arith_u Aa ?_
  |refine eY7 ?_
  |refine eZ1 Ac ?_
  |refine eH4 Aa ?_
  |refine fU (p:=(T.row _).eq=true) Ac ?_
  |refine fU Aa ?_
  |refine eZ2 ?_
  |refine eZ0 (fun hd=>?_) (fun hd=>?_)
  |refine br_lt (fun hlt=>?_) (fun hlt=>?_)
  |refine br_le (fun hle=>?_) (fun hle=>?_)
  |refine eV7 (fun heq=>?_) (fun heq=>?_)
  |refine eQ9 Aa (fun x hx=>?_)
  |refine eY0 rfl (fun h=>Ad) ?_
  |refine jU (fun hbb=>?_) (fun hbb=>?_)
  |refine ret_i ?_
  |refine fA7 ?_)
 refine lD (A:=Nat) (fun k=>mkSt [(0,S s),(1,I 0),(5,I k)] [] []) (fun k=>k<=s.size/\whS fG s k=whS fG s 0) (fun k=>s.size-k) 0 ?_ ⟨Nat.zero_le _,rfl⟩ (fun k hk=>?_)
 ·exact G7
 ·obtain⟨hkz,hk⟩:=hk
  rcases Nat.lt_or_ge k s.size with hlt|hge
  ·obtain⟨f,hf⟩:∃f,s.size-k=f+1:=⟨s.size-k-1,Aa⟩
   have hks:whS fG s k=wh (fun j=>decB (fG (byteAt s j))) (f+1) k:=by unfold whS;rw[hf]
   have hix:((0:Int)+k).toNat=k:=Aa;have hget:byteAt s ((0:Int)+k).toNat=byteAt s k:=by rw[hix]
   have cont:fG (byteAt s k)->whS fG s (k+1)=whS fG s 0:=fun h=>by
    rw[<-hk,hks,dG8 (dH.2 h)];unfold whS;rw[show s.size- (k+1)=f from Aa]
   have stop:¬fG (byteAt s k)->(k:Int)=whS fG s 0:=fun h=>by
    rw[<-hk,hks,dE4 (dW.2 h)]
   repeat' ((conv=>whnf);first
    |refine arith_half Aa ?_
    |refine arith_u Aa ?_
    |(exfalso;omega)
    |(refine aS5 (aO8 (byteAt s ((0:Int)+k).toNat)) false ?_ rfl ?_;focus ((repeat' (first|exact trivial|refine And.intro ?_ ?_|with_reducible rfl|exact(fun h=>Ad)|exact rfl));done))
    |(refine aS5 (cH4 (byteAt s ((0:Int)+k).toNat)) false ?_ rfl ?_;focus ((repeat' (first|exact trivial|refine And.intro ?_ ?_|with_reducible rfl|exact(fun h=>Ad)|exact rfl));done))
    |refine eY7 ?_
    |refine eZ1 Ac ?_
    |refine eH4 Aa ?_
    |refine fU (p:=(T.row _).eq=true) Ac ?_
    |refine fU Aa ?_
    |refine eZ2 ?_
    |refine eZ0 (fun hd=>?_) (fun hd=>?_)
    |refine br_lt (fun hlt=>?_) (fun hlt=>?_)
    |refine br_le (fun hle=>?_) (fun hle=>?_)
    |refine eV7 (fun heq=>?_) (fun heq=>?_)
    |refine eQ9 Aa (fun x hx=>?_)
    |refine eY0 rfl (fun h=>Ad) ?_
    |refine jU (fun hbb=>?_) (fun hbb=>?_)
    |refine ret_i ?_
    |refine fA7 ?_)
   all_goals rw[hget]at*
   ·conv=>whnf
    refine⟨k+1,?_,⟨Aa,cont (.inl hd)⟩,Aa⟩;exact Kw
   ·conv=>whnf
    refine⟨k+1,?_,⟨Aa,cont (.inr (.inl hd))⟩,Aa⟩;exact Kw
   ·conv=>whnf
    refine⟨k+1,?_,⟨Aa,cont (.inr (.inr heq))⟩,Aa⟩;exact Kw
   ·conv=>whnf
    refine aG (stop ?_);rename_i h1;rintro(h|h|h)
    ·exact h1 h
    ·exact hd h
    ·exact heq h
  ·have hks:whS fG s k=k:=by unfold whS;rw[show s.size-k=0 from Aa];rfl
   repeat' ((conv=>whnf);first
    |refine arith_half Aa ?_
    |refine arith_u Aa ?_
    |(exfalso;omega)
    |refine eY7 ?_
    |refine eZ1 Ac ?_
    |refine eH4 Aa ?_
    |refine fU (p:=(T.row _).eq=true) Ac ?_
    |refine fU Aa ?_
    |refine eZ2 ?_
    |refine eZ0 (fun hd=>?_) (fun hd=>?_)
    |refine br_lt (fun hlt=>?_) (fun hlt=>?_)
    |refine br_le (fun hle=>?_) (fun hle=>?_)
    |refine eV7 (fun heq=>?_) (fun heq=>?_)
    |refine eQ9 Aa (fun x hx=>?_)
    |refine eY0 rfl (fun h=>Ad) ?_
    |refine jU (fun hbb=>?_) (fun hbb=>?_)
    |refine ret_i ?_
    |refine fA7 ?_)
   conv=>whnf
   refine aG ?_;rw[<-hk,hks]
theorem cO5(s:ByteArray)(hs:s.size<=1000000000):Sp 61 [S s,I 0] (I (whS fG s 0)):=zsp Tryz.func61 (dS9 s hs)
theorem dX9(s:ByteArray):fnVC T Tryz.prog Tryz.f28 [S s] (.lit (.bool (decB (iM s)))):=by
 rcases Nat.lt_or_ge 16 s.size with hbig|hsm
 ·repeat' ((conv=>whnf);first
   |refine arith_half Aa ?_
   |refine arith_u Aa ?_
   |(exfalso;omega)
   |refine eY7 ?_
   |refine eZ1 Ac ?_
   |refine eH4 Aa ?_
   |refine fU (p:=(T.row _).eq=true) Ac ?_
   |refine fU Aa ?_
   |refine eZ2 ?_
   |refine eZ0 (fun hd=>?_) (fun hd=>?_)
   |refine br_lt (fun hlt=>?_) (fun hlt=>?_)
   |refine br_le (fun hle=>?_) (fun hle=>?_)
   |refine eV7 (fun heq=>?_) (fun heq=>?_)
   |refine eQ9 Aa (fun x hx=>?_)
   |refine eY0 rfl (fun h=>Ad) ?_
   |refine jU (fun hbb=>?_) (fun hbb=>?_)
   |refine ret_i ?_
   |refine fA7 ?_)
  all_goals conv=>whnf
  all_goals refine aA ?_
  all_goals exact aC (fun h=>Gm)
 ·repeat' ((conv=>whnf);first
   |refine arith_half Aa ?_
   |refine arith_u Aa ?_
   |refine cK2 ⟨Aa,Aa⟩ ?_
   |(refine aS5 (aO8 (byteAt s 0)) false ?_ rfl ?_;focus ((repeat' (first|exact trivial|refine And.intro ?_ ?_|with_reducible rfl|exact(fun h=>Ad)|exact rfl));done))
   |(refine aS5 (cO5 s Aa) false ?_ rfl ?_;focus ((repeat' (first|exact trivial|refine And.intro ?_ ?_|with_reducible rfl|exact(fun h=>Ad)|exact rfl));done))
   |(exfalso;omega)
   |refine eY7 ?_
   |refine eZ1 Ac ?_
   |refine eH4 Aa ?_
   |refine fU (p:=(T.row _).eq=true) Ac ?_
   |refine fU Aa ?_
   |refine eZ2 ?_
   |refine eZ0 (fun hd=>?_) (fun hd=>?_)
   |refine br_lt (fun hlt=>?_) (fun hlt=>?_)
   |refine br_le (fun hle=>?_) (fun hle=>?_)
   |refine eV7 (fun heq=>?_) (fun heq=>?_)
   |refine eQ9 Aa (fun x hx=>?_)
   |refine eY0 rfl (fun h=>Ad) ?_
   |refine jU (fun hbb=>?_) (fun hbb=>?_)
   |refine ret_i ?_
   |refine fA7 ?_)
  ·conv=>whnf
   refine aA (sK ?_);have hw:=cV4 (fun j=>decB (fG (byteAt s j))) s.size 0;have hs0:whS fG s 0=wh (fun j=>decB (fG (byteAt s j))) s.size 0:=rfl
   exact KN
  ·conv=>whnf
   exact aA (aC (fun h=>hd h.2.2.1))
  ·conv=>whnf
   exact aA (aC (fun h=>by have:=h.1;omega))
theorem bD8(s:ByteArray):Sp 28 [S s] (.lit (.bool (decB (iM s)))):=zsp Tryz.func28 (dX9 s)
theorem sameLines_vc(a b:List ByteArray)(ha:a.length<=1000000):fnVC T Tryz.prog Tryz.f12 [.sl (a.map S), .sl (b.map S)] (.lit (.bool (decB (a=b)))):=by
 have hla:(a.map S).length=a.length:=Ae;have hlb:(b.map S).length=b.length:=Ae
 rcases Nat.lt_trichotomy a.length b.length with hl|hl|hl
 ·exact G9
 ·repeat' ((conv=>whnf);first
   |refine arith_half Aa ?_
   |refine arith_u Aa ?_
   |(exfalso;omega)
   |refine eY7 ?_
   |refine eZ1 Ac ?_
   |refine eH4 Aa ?_
   |refine fU (p:=(T.row _).eq=true) Ac ?_
   |refine fU Aa ?_
   |refine eZ2 ?_
   |refine eZ0 (fun hd=>?_) (fun hd=>?_)
   |refine br_lt (fun hlt=>?_) (fun hlt=>?_)
   |refine br_le (fun hle=>?_) (fun hle=>?_)
   |refine eV7 (fun heq=>?_) (fun heq=>?_)
   |refine eQ9 Aa (fun x hx=>?_)
   |refine eY0 rfl (fun h=>Ad) ?_
   |refine jU (fun hbb=>?_) (fun hbb=>?_)
   |refine ret_i ?_
   |refine fA7 ?_)
  refine lD (A:=Nat) (fun k=>mkSt [(0, .sl (a.map S)),(1, .sl (b.map S)),(5,I k)] [] []) (fun k=>k<=a.length/\∀i,i<k->a[i]? =b[i]?) (fun k=>a.length-k) 0 ?_ ⟨Nat.zero_le _,fun i hi=>Aa⟩ (fun k hk=>?_)
  ·exact G7
  ·obtain⟨hk1,hk2⟩:=hk
   rcases Nat.lt_or_ge k a.length with hka|hka
   ·repeat' ((conv=>whnf);first
     |refine arith_half Aa ?_
     |refine arith_u Aa ?_
     |(exfalso;omega)
     |refine aB (l:=a) Aa ?_
     |refine aB (l:=b) Aa ?_
     |refine idx_get (f:=S) (l:=a) Aa ?_
     |refine idx_get (f:=S) (l:=b) Aa ?_
     |refine jI (fun heq=>?_) (fun heq=>?_)
     |refine eY7 ?_
     |refine eZ1 Ac ?_
     |refine eH4 Aa ?_
     |refine fU (p:=(T.row _).eq=true) Ac ?_
     |refine fU Aa ?_
     |refine eZ2 ?_
     |refine eZ0 (fun hd=>?_) (fun hd=>?_)
     |refine br_lt (fun hlt=>?_) (fun hlt=>?_)
     |refine br_le (fun hle=>?_) (fun hle=>?_)
     |refine eV7 (fun heq=>?_) (fun heq=>?_)
     |refine eQ9 Aa (fun x hx=>?_)
     |refine eY0 rfl (fun h=>Ad) ?_
     |refine jU (fun hbb=>?_) (fun hbb=>?_)
     |refine ret_i ?_
     |refine fA7 ?_)
    ·exact Kt
    ·conv=>whnf
     refine aA (aC (fun h=>heq ?_));subst h;rfl
   ·exact GV
 ·exact G9
theorem sameLines_spec(a b:List ByteArray)(ha:a.length<=1000000):Sp 12 [.sl (a.map S), .sl (b.map S)] (.lit (.bool (decB (a=b)))):=zsp Tryz.func12 (sameLines_vc a b ha)
def pcOf(p:Piece):Pc:=⟨p.id,p.parent,p.part,p.grade,p.heat,p.size,p.isBar,p.status,p.order⟩
def skOf(x:aN):Sk:=⟨x.isBar,x.sheet.id,x.sheet.grade,x.sheet.heat,x.sheet.grain,x.sheet.shape.outer.map vcV,x.sheet.shape.holes.map rgV,x.sheet.defects.map shV,x.bar.id,x.bar.grade,x.bar.heat,x.bar.length,x.bar.defects.map ivV,x.program⟩
def lsOf(s:aJ):Ls:=⟨s.stocks.map skOf,s.pieces.map pcOf,s.used.map I,s.received.1,s.received.2,s.scrap.1,s.scrap.2⟩
theorem lsV_of(s:aJ):lsV (lsOf s)=invV s:=by
 unfold lsV lsOf invV invC;simp only[List.map_map];rfl
def stS(r:Rt)(a:Int)(x:aN):Int:=IntKind.i64.wrap (a+valR r (sizeA x) x.isBar)
def stA(r:Rt)(l:List aN):Int:=l.foldl (stS r) 0
theorem stA_snoc(r:Rt)(D:List aN)(x:aN):stA r (D++[x])=IntKind.i64.wrap (stA r D+valR r (sizeA x) x.isBar):=by simp[stA,stS]
def pcS(r:Rt)(k a:Int)(p:Piece):Int:=if p.status=k then IntKind.i64.wrap (a+valR r p.size p.isBar)else a
def pcA(r:Rt)(k:Int)(l:List Piece):Int:=l.foldl (pcS r k) 0
theorem pcA_yes{r:Rt}{k:Int}{D:List Piece}{p:Piece}(h:p.status=k):pcA r k (D++[p])=IntKind.i64.wrap (pcA r k D+valR r p.size p.isBar):=by simp[pcA,pcS,h]
theorem pcA_no{r:Rt}{k:Int}{D:List Piece}{p:Piece}(h:p.status≠k):pcA r k (D++[p])=pcA r k D:=by simp[pcA,pcS,h]
def scA(r:Rt)(v:Led.Iv):Int:=IntKind.i64.wrap (IntKind.i64.wrap (v.1*r.sheet)+IntKind.i64.wrap (v.2*r.bar))
def bkV(a b c d e f:Int):V:= .agg [I a,I b,I c,I d,I e,I f]
def booksV(r:Rt)(s:aJ):V:=bkV (stA r s.stocks) (pcA r 1 s.pieces) (pcA r 2 s.pieces) (pcA r 3 s.pieces) (scA r s.scrap) (scA r s.received)
def rtF(r:Rt)(b:Bool):Int:=match b with|true=>r.bar|false=>r.sheet
theorem valR_eq(r:Rt)(n:Int)(b:Bool):valR r n b=IntKind.i64.wrap (n*rtF r b):=rfl
theorem rate_spec(r:Rt)(b:Bool):Sp 24 [rtV r, .lit (.bool b)] (I (rtF r b)):=by
 refine zsp Tryz.func24 ?_;cases b
 ·exact Hf
 ·exact Hf
theorem books_mk(r:Rt)(s:aJ):booksV r s= .agg [I (stA r s.stocks),I (pcA r 1 s.pieces),I (pcA r 2 s.pieces),I (pcA r 3 s.pieces),I (scA r s.scrap),I (scA r s.received)] :=rfl
def bk0:V:= .agg [I 0,I 0,I 0,I 0,I 0,I 0]
theorem accN_spec(r:Rt)(s:aJ)(hr:¬rtOk r):Sp 7 [rtV r,invV s] (.tup [bk0,I 1]):=by
 refine zsp Tryz.func7 ?_;have hv:=valid_spec r;rw[dW.2 hr]at hv;exact Kz
theorem accY_spec(r:Rt)(s:aJ)(hr:rtOk r)(hl1:s.stocks.length<=1000000)(hl2:s.pieces.length<=1000000)(hz:∀x∈s.stocks,shBg x.sheet.shape):Sp 7 [rtV r,invV s] (.tup [booksV r s,I 0]):=by
 refine zsp Tryz.func7 ?_;have hv:=valid_spec r;rw[dH.2 hr]at hv;have hm1:(s.stocks.map aQ).length=s.stocks.length:=Ae
 have hm2:(s.pieces.map aZ).length=s.pieces.length:=Ae;rw[books_mk];unfold scA
 repeat' ((conv=>whnf);first|refine zS ?_|refine zm (fun x hx=>?_)|refine zT ?_ ?_<;>intro _|fail)
 generalize hz1:IntKind.i64.wrap (IntKind.i64.wrap (s.scrap.1*r.sheet)+IntKind.i64.wrap (s.scrap.2*r.bar))=z1;generalize hz2:IntKind.i64.wrap (IntKind.i64.wrap (s.received.1*r.sheet)+IntKind.i64.wrap (s.received.2*r.bar))=z2;refine aU (A:=List aN) (B:=List aN) (fun D R=>mkSt [(2, .box 2 0),(3, .box 3 0),(4, .box 4 0),(6, .box 6 0),(44, .sl (s.stocks.map aQ)),(45,I s.stocks.length),(46,I D.length)] [(2,(rtV r).cells),(3,invC s),(4,[I 0,I 0,I 0,I 0,I 0,I 0]),(6,[I (stA r D),I 0,I 0,I 0,I z1,I z2])] []) (fun D R=>s.stocks=D++R) (fun D R=>R.length) [] s.stocks ?_ rfl (fun D R hp=>?_)
 ·refine dV ?_ ?_ ?_ ?_
  all_goals repeat' (first|exact trivial|refine And.intro ?_ ?_|with_reducible rfl|exact(fun h=>Ad)|exact Nat.le_refl _|omega|exact rfl)
  all_goals first|rw[hm1] |exact hz1|exact hz2
 cases R with
 |cons x R=>
  have hlen:=aO hp;have g2:=sizeG_spec x (hz x Ag)
  have g3:=value_spec r (sizeA x) x.isBar;have hsn:=stA_snoc r D x
  have hlD:((D++[x]).length:Int)=(D.length:Int)+1:=Ae;generalize stA r D=a at*;generalize valR r (sizeA x) x.isBar=v at*;exact KO
 |nil=>
  have hlen:s.stocks.length=D.length:=Ag;have e:s.stocks=D:=Ag
  generalize hS:stA r s.stocks=zs;rw[e]at hS;rw[hS]
  repeat' ((conv=>whnf);first|(exfalso;omega)|refine zS ?_|refine zm (fun x hx=>?_)|refine zT ?_ ?_<;>intro _|fail)
  clear hp;refine aU (A:=List Piece) (B:=List Piece) (fun D R=>mkSt [(2, .box 2 0),(3, .box 3 0),(4, .box 4 0),(6, .box 6 0),(62, .sl (s.pieces.map aZ)),(63,I s.pieces.length),(64,I D.length)] [(2,(rtV r).cells),(3,invC s),(4,[I 0,I 0,I 0,I 0,I 0,I 0]),(6,[I zs,I (pcA r 1 D),I (pcA r 2 D),I (pcA r 3 D),I z1,I z2])] []) (fun D R=>s.pieces=D++R) (fun D R=>R.length) [] s.pieces ?_ rfl (fun D R hp=>?_)
  ·refine dV ?_ ?_ ?_ ?_
   all_goals repeat' (first|exact trivial|refine And.intro ?_ ?_|with_reducible rfl|exact(fun h=>Ad)|exact Nat.le_refl _|omega|exact rfl)
   all_goals (try rw[hm2])
  cases R with
  |cons x R=>
   have hlen:=aO hp;have g3:=value_spec r x.size x.isBar
   have y1:=fun h=>pcA_yes (r:=r) (k:=1) (D:=D) (p:=x) h;have y2:=fun h=>pcA_yes (r:=r) (k:=2) (D:=D) (p:=x) h
   have y3:=fun h=>pcA_yes (r:=r) (k:=3) (D:=D) (p:=x) h;have n1:=fun h=>pcA_no (r:=r) (k:=1) (D:=D) (p:=x) h
   have n2:=fun h=>pcA_no (r:=r) (k:=2) (D:=D) (p:=x) h;have n3:=fun h=>pcA_no (r:=r) (k:=3) (D:=D) (p:=x) h
   have hlD:((D++[x]).length:Int)=(D.length:Int)+1:=Ae;generalize hP1:pcA r 1 (D++[x])=q1 at*;generalize hP2:pcA r 2 (D++[x])=q2 at*;generalize hP3:pcA r 3 (D++[x])=q3 at*;generalize pcA r 1 D=p1 at*;generalize pcA r 2 D=p2 at*;generalize pcA r 3 D=p3 at*;generalize valR r x.size x.isBar=v at*;exact KH
  |nil=>exact Ht
theorem raccN_spec(r:Rt)(s:aJ)(hr:¬rtOk r):Sp 9 [rtV r,invV s] (.tup [bk0,I 1]):=by
 refine zsp Tryz.func9 ?_;have hv:=rvalid_spec r;rw[dW.2 hr]at hv;exact Kz
theorem raccY_spec(r:Rt)(s:aJ)(hr:rtOk r)(hl1:s.stocks.length<=1000000)(hl2:s.pieces.length<=1000000)(hz:∀x∈s.stocks,shBg x.sheet.shape):Sp 9 [rtV r,invV s] (.tup [booksV r s,I 0]):=by
 refine zsp Tryz.func9 ?_;have hv:=rvalid_spec r;rw[dH.2 hr]at hv;have hm1:(s.stocks.map aQ).length=s.stocks.length:=Ae
 have hm2:(s.pieces.map aZ).length=s.pieces.length:=Ae;rw[books_mk];unfold scA
 repeat' ((conv=>whnf);first|refine zS ?_|refine zm (fun x hx=>?_)|refine zT ?_ ?_<;>intro _|fail)
 generalize hz1:IntKind.i64.wrap (IntKind.i64.wrap (s.scrap.1*r.sheet)+IntKind.i64.wrap (s.scrap.2*r.bar))=z1;generalize hz2:IntKind.i64.wrap (IntKind.i64.wrap (s.received.1*r.sheet)+IntKind.i64.wrap (s.received.2*r.bar))=z2;refine aU (A:=List aN) (B:=List aN) (fun D R=>mkSt [(2, .box 2 0),(3, .box 3 0),(4, .box 4 0),(6, .box 6 0),(7,I D.length)] [(2,(rtV r).cells),(3,invC s),(4,[I 0,I 0,I 0,I 0,I 0,I 0]),(6,[I (stA r D),I 0,I 0,I 0,I z1,I z2])] []) (fun D R=>s.stocks=D++R) (fun D R=>R.length) [] s.stocks ?_ rfl (fun D R hp=>?_)
 ·refine dV ?_ ?_ ?_ ?_
  all_goals repeat' (first|exact trivial|refine And.intro ?_ ?_|with_reducible rfl|exact(fun h=>Ad)|exact Nat.le_refl _|omega|exact rfl)
  all_goals first|exact hz1|exact hz2
 cases R with
 |cons x R=>
  have hlen:=aO hp;have g2:=rsizeG_spec x (hz x Ag)
  have g3:=rate_spec r x.isBar;have hsn:=stA_snoc r D x
  rw[valR_eq]at hsn;have hlD:((D++[x]).length:Int)=(D.length:Int)+1:=Ae;generalize stA r D=a at*;generalize rtF r x.isBar=v at*;exact KO
 |nil=>
  have hlen:s.stocks.length=D.length:=Ag;have e:s.stocks=D:=Ag
  generalize hS:stA r s.stocks=zs;rw[e]at hS;rw[hS]
  repeat' ((conv=>whnf);first|(exfalso;omega)|refine zS ?_|refine zm (fun x hx=>?_)|refine zT ?_ ?_<;>intro _|fail)
  clear hp;refine aU (A:=List Piece) (B:=List Piece) (fun D R=>mkSt [(2, .box 2 0),(3, .box 3 0),(4, .box 4 0),(6, .box 6 0),(8,I D.length)] [(2,(rtV r).cells),(3,invC s),(4,[I 0,I 0,I 0,I 0,I 0,I 0]),(6,[I zs,I (pcA r 1 D),I (pcA r 2 D),I (pcA r 3 D),I z1,I z2])] []) (fun D R=>s.pieces=D++R) (fun D R=>R.length) [] s.pieces ?_ rfl (fun D R hp=>?_)
  ·exact zj
  cases R with
  |cons x R=>
   have hlen:=aO hp;have g3:=rate_spec r x.isBar
   have y1:=fun h=>pcA_yes (r:=r) (k:=1) (D:=D) (p:=x) h;have y2:=fun h=>pcA_yes (r:=r) (k:=2) (D:=D) (p:=x) h
   have y3:=fun h=>pcA_yes (r:=r) (k:=3) (D:=D) (p:=x) h;have n1:=fun h=>pcA_no (r:=r) (k:=1) (D:=D) (p:=x) h
   have n2:=fun h=>pcA_no (r:=r) (k:=2) (D:=D) (p:=x) h;have n3:=fun h=>pcA_no (r:=r) (k:=3) (D:=D) (p:=x) h
   have hlD:((D++[x]).length:Int)=(D.length:Int)+1:=Ae;simp only[valR_eq]at y1 y2 y3;generalize hP1:pcA r 1 (D++[x])=q1 at*;generalize hP2:pcA r 2 (D++[x])=q2 at*;generalize hP3:pcA r 3 (D++[x])=q3 at*;generalize pcA r 1 D=p1 at*;generalize pcA r 2 D=p2 at*;generalize pcA r 3 D=p3 at*;generalize rtF r x.isBar=v at*;exact KH
  |nil=>exact Ht
end Go.Proofs.Cost58
