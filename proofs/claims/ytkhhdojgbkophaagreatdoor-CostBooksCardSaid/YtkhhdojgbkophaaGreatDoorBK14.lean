/-
  Names, walked: letters, digits, what follows in a name.
-/
import Derived.Test.YtkhhdojgbkophaaGreatDoorBB5
import Derived.Test.YtkhhdojgbkophaaGreatDoorBSkW1
import Derived.Lib.ItoaLen
import Derived.Lib.SmallJoins
set_option linter.unusedVariables false
set_option linter.unusedSimpArgs false
set_option maxRecDepth 100000
noncomputable section
namespace Go.Proofs.Cost58
open Go Go.Proofs Go.Ab Go.Proofs.Led
structure Pc where
 id:Int
 par:Int
 part:ByteArray
 grade:ByteArray
 heat:ByteArray
 size:Int
 bar:Bool
 status:Int
 order:ByteArray
def pcV(p:Pc):V:= .agg [I p.id,I p.par,S p.part,S p.grade,S p.heat,I p.size, .lit (.bool p.bar),I p.status,S p.order]
def idOk(n:Int):Prop:=1<=n/\n<=1000000
theorem id_vc(n:Int):fnVC T Tryz.prog Tryz.f80 [I n] (.lit (.bool (decB (idOk n)))):=by
 repeat' ((conv=>whnf);first
  |refine arith_half Aa ?_
  |refine arith_u Aa ?_
  |refine eY7 ?_
  |refine eZ1 Ac ?_
  |refine eH4 Aa ?_
  |refine fU (p:=(T.row _).eq=true) Ac ?_
  |refine fU Aa ?_
  |refine eZ2 ?_
  |refine eZ0 (fun hd=>?_) (fun hd=>?_)
  |refine br_lt (fun hlt=>?_) (fun hlt=>?_)
  |refine br_le (fun hle=>?_) (fun hle=>?_)
  |refine eV7 (fun heq=>?_) (fun heq=>?_)
  |refine eQ9 Aa (fun x hx=>?_)
  |refine eY0 rfl (fun h=>Ad) ?_
  |refine jU (fun hbb=>?_) (fun hbb=>?_)
  |refine ret_i ?_
  |refine fA7 ?_)
 all_goals conv=>whnf
 all_goals refine aA ?_
 ·refine le_dec ?_
  unfold idOk;omega
 ·exact aC (by unfold idOk;omega)
theorem id_spec(n:Int):Sp 80 [I n] (.lit (.bool (decB (idOk n)))):=zsp Tryz.func80 (id_vc n)
def statusOk(p:Pc):Prop:=((p.status=1\/p.status=2)/\p.order=aI)\/(p.status=3/\iM p.order)
def labelled(p:Pc):Prop:=idOk p.id/\idOk p.par/\iM p.part/\iM p.grade/\iM p.heat/\(1<=p.size/\p.size<=1000000000)/\statusOk p
theorem labelled_vc(p:Pc):fnVC T Tryz.prog Tryz.f48 [pcV p] (.lit (.bool (decB (labelled p)))):=by
 repeat' ((conv=>whnf);first
  |refine arith_half Aa ?_
  |refine arith_u Aa ?_
  |(refine aS5 (id_spec p.id) false ?_ rfl ?_;focus ((repeat' (first|exact trivial|refine And.intro ?_ ?_|with_reducible rfl|exact(fun h=>Ad)|exact rfl));done))
  |(refine aS5 (id_spec p.par) false ?_ rfl ?_;focus ((repeat' (first|exact trivial|refine And.intro ?_ ?_|with_reducible rfl|exact(fun h=>Ad)|exact rfl));done))
  |(refine aS5 (aG6 p.part) false ?_ rfl ?_;focus ((repeat' (first|exact trivial|refine And.intro ?_ ?_|with_reducible rfl|exact(fun h=>Ad)|exact rfl));done))
  |(refine aS5 (aG6 p.grade) false ?_ rfl ?_;focus ((repeat' (first|exact trivial|refine And.intro ?_ ?_|with_reducible rfl|exact(fun h=>Ad)|exact rfl));done))
  |(refine aS5 (aG6 p.heat) false ?_ rfl ?_;focus ((repeat' (first|exact trivial|refine And.intro ?_ ?_|with_reducible rfl|exact(fun h=>Ad)|exact rfl));done))
  |(refine aS5 (aG6 p.order) false ?_ rfl ?_;focus ((repeat' (first|exact trivial|refine And.intro ?_ ?_|with_reducible rfl|exact(fun h=>Ad)|exact rfl));done))
  |refine eY7 ?_
  |refine eZ1 Ac ?_
  |refine eH4 Aa ?_
  |refine fU (p:=(T.row _).eq=true) Ac ?_
  |refine fU Aa ?_
  |refine eZ2 ?_
  |refine eZ0 (fun hd=>?_) (fun hd=>?_)
  |refine br_lt (fun hlt=>?_) (fun hlt=>?_)
  |refine br_le (fun hle=>?_) (fun hle=>?_)
  |refine eV7 (fun heq=>?_) (fun heq=>?_)
  |refine eQ9 Aa (fun x hx=>?_)
  |refine eY0 rfl (fun h=>Ad) ?_
  |refine jU (fun hbb=>?_) (fun hbb=>?_)
  |refine ret_i ?_
  |refine fA7 ?_)
 all_goals conv=>whnf
 all_goals refine aA ?_
 all_goals first
  |(refine aC ?_;rintro⟨h1,h2,h3,h4,h5,h6,h7⟩;first|contradiction|omega|(rcases h7 with⟨h8|h8,_⟩|⟨h8,_⟩<;>omega);done)
  |(refine qV ⟨fun h=>⟨Ag,Ag,Ag,Ag,Ag,Aa, .inl ⟨Aa,h⟩⟩,fun h=>?_⟩;obtain⟨_,_,_,_,_,_,h7⟩:=h;rcases h7 with⟨_,h9⟩|⟨h8,_⟩;exact h9;omega)
  |(refine fQ ⟨fun h=>⟨Ag,Ag,Ag,Ag,Ag,Aa, .inr ⟨Aa,h⟩⟩,fun h=>?_⟩;obtain⟨_,_,_,_,_,_,h7⟩:=h;rcases h7 with⟨h8|h8,_⟩|⟨_,h9⟩;omega;omega;exact h9)
  |(exfalso;omega)
theorem labelled_spec(p:Pc):Sp 48 [pcV p] (.lit (.bool (decB (labelled p)))):=zsp Tryz.func48 (labelled_vc p)
def fromB:ByteArray:={data:= #[102,114,111,109]}
def areaB:ByteArray:={data:= #[97,114,101,97]}
def lengthB:ByteArray:={data:= #[108,101,110,103,116,104]}
def goodB:ByteArray:={data:= #[103,111,111,100]}
def rejectedB:ByteArray:={data:= #[114,101,106,101,99,116,101,100]}
def shippedB:ByteArray:={data:= #[115,104,105,112,112,101,100,32,116,111,32]}
def colonB:ByteArray:={data:= #[58]}
def spaceB:ByteArray:={data:= #[32]}
def whatB(p:Pc):ByteArray:=match p.bar with|true=>lengthB|false=>areaB
def statB(p:Pc):ByteArray:=if p.status=2 then rejectedB else if p.status=3 then shippedB++p.order else goodB
def labelB(p:Pc):ByteArray:=joinB [itoaB p.id,fromB,itoaB p.par++colonB,p.part,p.grade,p.heat,whatB p,itoaB p.size,statB p] spaceB
open Classical in
def labelR(p:Pc):ByteArray×Int:=if labelled p then(labelB p,0)else(aI,1)
theorem labelR_ok{p:Pc}(h:labelled p):labelR p=(labelB p,0):=by unfold labelR;rw[if_pos h]
theorem labelR_no{p:Pc}(h:¬labelled p):labelR p=(aI,1):=by unfold labelR;rw[if_neg h]
theorem itoaB_size(n:Int)(h0: -9223372036854775808<=n)(h1:n<=9223372036854775807):(itoaB n).size<=21:=by
 have:=Lib.itoa_length_le n h0 h1;show(Lib.itoa n).toArray.size<=21;simpa using this
theorem cat_size(a b:ByteArray):(a++b).size=a.size+b.size:=ByteArray.size_append
theorem data_len(s:ByteArray):s.data.toList.length=s.size:=Array.length_toList
set_option maxRecDepth 1000 in
theorem join_len:∀(xs:List (List UInt8)) (n:Nat),(∀x∈xs,x.length<=n)->(List.intercalate [32] xs).length<=xs.length*(n+1)
 | [],n,_=>Nat.zero_le _
 | [x],n,h=>by
   have:=h x Ae;rw[List.intercalate_singleton,List.length_singleton];omega
 |x::y::r,n,h=>by
  have ih:=join_len (y::r) n (fun z hz=>h z (List.mem_cons_of_mem _ hz));have h1:=h x Ae
  rw[List.intercalate_cons_cons,List.length_append,List.length_append,List.length_singleton,List.length_cons (a:=x),Nat.add_mul];omega
theorem label_join(p:Pc)(hl:labelled p)(what st:ByteArray)(hw:what.size<=30)(hst:st.size<=30):Sp 49 [.sl ([itoaB p.id,fromB,itoaB p.par++colonB,p.part,p.grade,p.heat,what,itoaB p.size,st].map S),S spaceB] (S (joinB [itoaB p.id,fromB,itoaB p.par++colonB,p.part,p.grade,p.heat,what,itoaB p.size,st] spaceB)):=by
 obtain⟨h1,h2,h3,h4,h5,h6,h7⟩:=id hl;have k1:=h1.1;have k2:=h1.2;have k3:=h2.1;have k4:=h2.2
 refine join_spec _ _ (Nat.le_trans (join_len _ 40 ?_) Ae) Ae;intro x hx;have hz1:=itoaB_size p.id Aa Aa;have hz2:=itoaB_size p.par Aa Aa
 have hz3:=itoaB_size p.size Aa Aa;have hc:colonB.size=1:=rfl
 have hf:fromB.size=4:=rfl;have q1:=h3.2.1
 have q2:=h4.2.1;have q3:=h5.2.1
 simp only[List.map_cons,List.map_nil,List.mem_cons,List.not_mem_nil,or_false]at hx;rcases hx with rfl|rfl|rfl|rfl|rfl|rfl|rfl|rfl|rfl<;>rw[data_len] <;>first|omega|(rw[cat_size];omega)
set_option maxHeartbeats 400000 in
theorem label_t1(p:Pc)(hl:labelled p)(hb:p.bar=true)(hst:p.status=1):fnVC T Tryz.prog Tryz.f18 [pcV p] (.tup [S (labelB p),I 0]):=by
 obtain⟨h1,h2,h3,h4,h5,h6,h7⟩:=id hl;have k1:=h1.1;have k2:=h1.2;have k3:=h2.1;have k4:=h2.2
 have ho:p.order.size<=16:=Ji;have hz2:=itoaB_size p.par Aa Aa
 have hs11:shippedB.size=11:=rfl
 have hlb:labelB p=joinB [itoaB p.id,fromB,itoaB p.par++colonB,p.part,p.grade,p.heat,lengthB,itoaB p.size,goodB] spaceB:=by
  unfold labelB whatB statB;rw[hb,hst];rfl
 have hj:=label_join p hl lengthB goodB Ak Ak;exact MQ
set_option maxHeartbeats 400000 in
theorem label_t2(p:Pc)(hl:labelled p)(hb:p.bar=true)(hst:p.status=2):fnVC T Tryz.prog Tryz.f18 [pcV p] (.tup [S (labelB p),I 0]):=by
 obtain⟨h1,h2,h3,h4,h5,h6,h7⟩:=id hl;have k1:=h1.1;have k2:=h1.2;have k3:=h2.1;have k4:=h2.2
 have ho:p.order.size<=16:=Ji;have hz2:=itoaB_size p.par Aa Aa
 have hs11:shippedB.size=11:=rfl
 have hlb:labelB p=joinB [itoaB p.id,fromB,itoaB p.par++colonB,p.part,p.grade,p.heat,lengthB,itoaB p.size,rejectedB] spaceB:=by
  unfold labelB whatB statB;rw[hb,hst];rfl
 have hj:=label_join p hl lengthB rejectedB Ak Ak;exact MQ
set_option maxHeartbeats 400000 in
theorem label_t3(p:Pc)(hl:labelled p)(hb:p.bar=true)(hst:p.status=3):fnVC T Tryz.prog Tryz.f18 [pcV p] (.tup [S (labelB p),I 0]):=by
 obtain⟨h1,h2,h3,h4,h5,h6,h7⟩:=id hl;have k1:=h1.1;have k2:=h1.2;have k3:=h2.1;have k4:=h2.2
 have ho:p.order.size<=16:=Ji;have hz2:=itoaB_size p.par Aa Aa
 have hs11:shippedB.size=11:=rfl
 have hlb:labelB p=joinB [itoaB p.id,fromB,itoaB p.par++colonB,p.part,p.grade,p.heat,lengthB,itoaB p.size,(shippedB++p.order)] spaceB:=by
  unfold labelB whatB statB;rw[hb,hst];rfl
 have hj:=label_join p hl lengthB (shippedB++p.order) Ak EO;exact MQ
set_option maxHeartbeats 400000 in
theorem label_f1(p:Pc)(hl:labelled p)(hb:p.bar=false)(hst:p.status=1):fnVC T Tryz.prog Tryz.f18 [pcV p] (.tup [S (labelB p),I 0]):=by
 obtain⟨h1,h2,h3,h4,h5,h6,h7⟩:=id hl;have k1:=h1.1;have k2:=h1.2;have k3:=h2.1;have k4:=h2.2
 have ho:p.order.size<=16:=Ji;have hz2:=itoaB_size p.par Aa Aa
 have hs11:shippedB.size=11:=rfl
 have hlb:labelB p=joinB [itoaB p.id,fromB,itoaB p.par++colonB,p.part,p.grade,p.heat,areaB,itoaB p.size,goodB] spaceB:=by
  unfold labelB whatB statB;rw[hb,hst];rfl
 have hj:=label_join p hl areaB goodB Ak Ak;exact MP
set_option maxHeartbeats 400000 in
theorem label_f2(p:Pc)(hl:labelled p)(hb:p.bar=false)(hst:p.status=2):fnVC T Tryz.prog Tryz.f18 [pcV p] (.tup [S (labelB p),I 0]):=by
 obtain⟨h1,h2,h3,h4,h5,h6,h7⟩:=id hl;have k1:=h1.1;have k2:=h1.2;have k3:=h2.1;have k4:=h2.2
 have ho:p.order.size<=16:=Ji;have hz2:=itoaB_size p.par Aa Aa
 have hs11:shippedB.size=11:=rfl
 have hlb:labelB p=joinB [itoaB p.id,fromB,itoaB p.par++colonB,p.part,p.grade,p.heat,areaB,itoaB p.size,rejectedB] spaceB:=by
  unfold labelB whatB statB;rw[hb,hst];rfl
 have hj:=label_join p hl areaB rejectedB Ak Ak;exact MP
set_option maxHeartbeats 400000 in
theorem label_f3(p:Pc)(hl:labelled p)(hb:p.bar=false)(hst:p.status=3):fnVC T Tryz.prog Tryz.f18 [pcV p] (.tup [S (labelB p),I 0]):=by
 obtain⟨h1,h2,h3,h4,h5,h6,h7⟩:=id hl;have k1:=h1.1;have k2:=h1.2;have k3:=h2.1;have k4:=h2.2
 have ho:p.order.size<=16:=Ji;have hz2:=itoaB_size p.par Aa Aa
 have hs11:shippedB.size=11:=rfl
 have hlb:labelB p=joinB [itoaB p.id,fromB,itoaB p.par++colonB,p.part,p.grade,p.heat,areaB,itoaB p.size,(shippedB++p.order)] spaceB:=by
  unfold labelB whatB statB;rw[hb,hst];rfl
 have hj:=label_join p hl areaB (shippedB++p.order) Ak EO;exact MP
theorem label_vc(p:Pc):fnVC T Tryz.prog Tryz.f18 [pcV p] (.tup [S (labelR p).1,I (labelR p).2]):=by
 by_cases hl:labelled p
 ·rw[labelR_ok hl]
  have hst:p.status=1\/p.status=2\/p.status=3:=by
   rcases hl.2.2.2.2.2.2 with⟨h,_⟩|⟨h,_⟩<;>omega
  cases hb:p.bar<;>rcases hst with hst|hst|hst
  ·exact label_f1 p hl hb hst
  ·exact label_f2 p hl hb hst
  ·exact label_f3 p hl hb hst
  ·exact label_t1 p hl hb hst
  ·exact label_t2 p hl hb hst
  ·exact label_t3 p hl hb hst
 ·rw[labelR_no hl]
  repeat' ((conv=>whnf);first
   |refine arith_half Aa ?_
   |refine arith_u Aa ?_
   |(refine aS5 (labelled_spec p) false ?_ rfl ?_;focus ((repeat' (first|exact trivial|refine And.intro ?_ ?_|with_reducible rfl|exact(fun h=>Ad)|exact rfl));done))
   |(exact(hl hd).elim)
   |refine eY7 ?_
   |refine eZ1 Ac ?_
   |refine eH4 Aa ?_
   |refine fU (p:=(T.row _).eq=true) Ac ?_
   |refine fU Aa ?_
   |refine eZ2 ?_
   |refine eZ0 (fun hd=>?_) (fun hd=>?_)
   |refine br_lt (fun hlt=>?_) (fun hlt=>?_)
   |refine br_le (fun hle=>?_) (fun hle=>?_)
   |refine eV7 (fun heq=>?_) (fun heq=>?_)
   |refine eQ9 Aa (fun x hx=>?_)
   |refine eY0 rfl (fun h=>Ad) ?_
   |refine jU (fun hbb=>?_) (fun hbb=>?_)
   |refine ret_i ?_
   |refine fA7 ?_)
  conv=>whnf
  exact ret_two rfl rfl rfl
theorem aI6(p:Pc):Sp 18 [pcV p] (.tup [S (labelR p).1,I (labelR p).2]):=zsp Tryz.func18 (label_vc p)
def minL(x:Int)(l:List Int):Int:=l.foldl minI x
def maxL(x:Int)(l:List Int):Int:=l.foldl maxI x
theorem minL_snoc(x y:Int)(l:List Int):minL x (l++[y])=minI (minL x l) y:=by unfold minL;rw[List.foldl_append];rfl
theorem maxL_snoc(x y:Int)(l:List Int):maxL x (l++[y])=maxI (maxL x l) y:=by unfold maxL;rw[List.foldl_append];rfl
theorem minL_ge(l:List Int)(x k:Int):k<=minL x l↔k<=x/\∀y∈l,k<=y:=by
 refine snoc_ind (p:=fun l:List Int=>k<=minL x l↔k<=x/\∀y∈l,k<=y) (by simp[minL]) ?_ l
 intro xs y ih;rw[minL_snoc,lH,Int.le_min,ih];exact Nz
theorem maxL_le(l:List Int)(x k:Int):maxL x l<=k↔x<=k/\∀y∈l,y<=k:=by
 refine snoc_ind (p:=fun l:List Int=>maxL x l<=k↔x<=k/\∀y∈l,y<=k) (by simp[maxL]) ?_ l
 intro xs y ih;rw[maxL_snoc,mG,Int.max_le,ih];exact Nz
theorem min_vc(x:Int)(l:List Int)(hl:l.length<=1000000):fnVC T Tryz.prog Tryz.f50 [.sl ((x::l).map I)] (I (minL x l)):=by
 have hll:((x::l).map I).length=l.length+1:=Ae
 repeat' ((conv=>whnf);first
  |refine arith_half Aa ?_
  |refine arith_u Aa ?_
  |(exfalso;omega)
  |refine dE3 (I x) rfl ?_
  |refine eY7 ?_
  |refine eZ1 Ac ?_
  |refine eH4 Aa ?_
  |refine fU (p:=(T.row _).eq=true) Ac ?_
  |refine fU Aa ?_
  |refine eZ2 ?_
  |refine eZ0 (fun hd=>?_) (fun hd=>?_)
  |refine br_lt (fun hlt=>?_) (fun hlt=>?_)
  |refine br_le (fun hle=>?_) (fun hle=>?_)
  |refine eV7 (fun heq=>?_) (fun heq=>?_)
  |refine eQ9 Aa (fun x hx=>?_)
  |refine eY0 rfl (fun h=>Ad) ?_
  |refine jU (fun hbb=>?_) (fun hbb=>?_)
  |refine ret_i ?_
  |refine fA7 ?_)
 refine aU (A:=List Int) (B:=List Int) (fun D R=>mkSt [(0, .sl ((x::l).map I)),(3,I (minL x D)),(4,I (D.length+1))] [] [])
  (fun D R=>l=D++R) (fun D R=>R.length) [] l ?_ rfl (fun D R hp=>?_)
 ·exact Il
 ·have hlen:l.length=D.length+R.length:=by rw[show l=D++R from hp];simp
  cases R with
  |nil=>exact I5
  |cons y R=>
   rw[List.length_cons]at hlen
   repeat' ((conv=>whnf);first
    |refine arith_half Aa ?_
    |refine arith_u Aa ?_
    |(exfalso;omega)
    |refine dE3 (I y) AQ ?_
    |refine eY7 ?_
    |refine eZ1 Ac ?_
    |refine eH4 Aa ?_
    |refine fU (p:=(T.row _).eq=true) Ac ?_
    |refine fU Aa ?_
    |refine eZ2 ?_
    |refine eZ0 (fun hd=>?_) (fun hd=>?_)
    |refine br_lt (fun hlt=>?_) (fun hlt=>?_)
    |refine br_le (fun hle=>?_) (fun hle=>?_)
    |refine eV7 (fun heq=>?_) (fun heq=>?_)
    |refine eQ9 Aa (fun x hx=>?_)
    |refine eY0 rfl (fun h=>Ad) ?_
    |refine jU (fun hbb=>?_) (fun hbb=>?_)
    |refine ret_i ?_
    |refine fA7 ?_)
   conv=>whnf
   refine⟨(D++[y],R),?_,?_,?_⟩
   ·refine dV ?_ ?_ ?_ ?_
    all_goals repeat' (first|exact trivial|refine And.intro ?_ ?_|with_reducible rfl|exact(fun h=>Ad)|exact Nat.le_refl _|omega|exact rfl)
    ·show minI (minL x D) y=minL x (D++[y])
     rw[minL_snoc]
    ·show(D.length:Int)+1+1=(D++[y]).length+1
     simp
   ·show l=D++[y] ++R
    rw[show l=D++y::R from hp];simp
   ·show R.length< (y::R).length
    simp
theorem min_spec(x:Int)(l:List Int)(hl:l.length<=1000000):Sp 50 [.sl ((x::l).map I)] (I (minL x l)):=zsp Tryz.func50 (min_vc x l hl)
theorem max_vc(x:Int)(l:List Int)(hl:l.length<=1000000):fnVC T Tryz.prog Tryz.f51 [.sl ((x::l).map I)] (I (maxL x l)):=by
 have hll:((x::l).map I).length=l.length+1:=Ae
 repeat' ((conv=>whnf);first
  |refine arith_half Aa ?_
  |refine arith_u Aa ?_
  |(exfalso;omega)
  |refine dE3 (I x) rfl ?_
  |refine eY7 ?_
  |refine eZ1 Ac ?_
  |refine eH4 Aa ?_
  |refine fU (p:=(T.row _).eq=true) Ac ?_
  |refine fU Aa ?_
  |refine eZ2 ?_
  |refine eZ0 (fun hd=>?_) (fun hd=>?_)
  |refine br_lt (fun hlt=>?_) (fun hlt=>?_)
  |refine br_le (fun hle=>?_) (fun hle=>?_)
  |refine eV7 (fun heq=>?_) (fun heq=>?_)
  |refine eQ9 Aa (fun x hx=>?_)
  |refine eY0 rfl (fun h=>Ad) ?_
  |refine jU (fun hbb=>?_) (fun hbb=>?_)
  |refine ret_i ?_
  |refine fA7 ?_)
 refine aU (A:=List Int) (B:=List Int) (fun D R=>mkSt [(0, .sl ((x::l).map I)),(3,I (maxL x D)),(4,I (D.length+1))] [] [])
  (fun D R=>l=D++R) (fun D R=>R.length) [] l ?_ rfl (fun D R hp=>?_)
 ·exact Il
 ·have hlen:l.length=D.length+R.length:=by rw[show l=D++R from hp];simp
  cases R with
  |nil=>exact I5
  |cons y R=>
   rw[List.length_cons]at hlen
   repeat' ((conv=>whnf);first
    |refine arith_half Aa ?_
    |refine arith_u Aa ?_
    |(exfalso;omega)
    |refine dE3 (I y) AQ ?_
    |refine eY7 ?_
    |refine eZ1 Ac ?_
    |refine eH4 Aa ?_
    |refine fU (p:=(T.row _).eq=true) Ac ?_
    |refine fU Aa ?_
    |refine eZ2 ?_
    |refine eZ0 (fun hd=>?_) (fun hd=>?_)
    |refine br_lt (fun hlt=>?_) (fun hlt=>?_)
    |refine br_le (fun hle=>?_) (fun hle=>?_)
    |refine eV7 (fun heq=>?_) (fun heq=>?_)
    |refine eQ9 Aa (fun x hx=>?_)
    |refine eY0 rfl (fun h=>Ad) ?_
    |refine jU (fun hbb=>?_) (fun hbb=>?_)
    |refine ret_i ?_
    |refine fA7 ?_)
   conv=>whnf
   refine⟨(D++[y],R),?_,?_,?_⟩
   ·refine dV ?_ ?_ ?_ ?_
    all_goals repeat' (first|exact trivial|refine And.intro ?_ ?_|with_reducible rfl|exact(fun h=>Ad)|exact Nat.le_refl _|omega|exact rfl)
    ·show maxI (maxL x D) y=maxL x (D++[y])
     rw[maxL_snoc]
    ·show(D.length:Int)+1+1=(D++[y]).length+1
     simp
   ·show l=D++[y] ++R
    rw[show l=D++y::R from hp];simp
   ·show R.length< (y::R).length
    simp
theorem max_spec(x:Int)(l:List Int)(hl:l.length<=1000000):Sp 51 [.sl ((x::l).map I)] (I (maxL x l)):=zsp Tryz.func51 (max_vc x l hl)
structure Rt where
 sheet:Int
 bar:Int
 cut:Int
 rapid:Int
 pierce:Int
 joint:Int
 setup:Int
def Rt.l(r:Rt):List Int:=[r.sheet,r.bar,r.cut,r.rapid,r.pierce,r.joint,r.setup]
def rtV(r:Rt):V:= .agg [I r.sheet,I r.bar,I r.cut,I r.rapid,I r.pierce,I r.joint,I r.setup]
def rtOk(r:Rt):Prop:=∀x∈r.l,0<=x/\x<=1000
theorem valid_vc(r:Rt):fnVC T Tryz.prog Tryz.f20 [rtV r] (.lit (.bool (decB (rtOk r)))):=by
 repeat' ((conv=>whnf);first
  |refine arith_half Aa ?_
  |refine arith_u Aa ?_
  |(refine aS5 (min_spec r.sheet [r.bar,r.cut,r.rapid,r.pierce,r.joint,r.setup] Ae) true ?_ rfl ?_;focus ((repeat' (first|exact trivial|refine And.intro ?_ ?_|with_reducible rfl|exact(fun h=>Ad)|exact rfl));done))
  |(refine aS5 (max_spec r.sheet [r.bar,r.cut,r.rapid,r.pierce,r.joint,r.setup] Ae) true ?_ rfl ?_;focus ((repeat' (first|exact trivial|refine And.intro ?_ ?_|with_reducible rfl|exact(fun h=>Ad)|exact rfl));done))
  |refine eY7 ?_
  |refine eZ1 Ac ?_
  |refine eH4 Aa ?_
  |refine fU (p:=(T.row _).eq=true) Ac ?_
  |refine fU Aa ?_
  |refine eZ2 ?_
  |refine eZ0 (fun hd=>?_) (fun hd=>?_)
  |refine br_lt (fun hlt=>?_) (fun hlt=>?_)
  |refine br_le (fun hle=>?_) (fun hle=>?_)
  |refine eV7 (fun heq=>?_) (fun heq=>?_)
  |refine eQ9 Aa (fun x hx=>?_)
  |refine eY0 rfl (fun h=>Ad) ?_
  |refine jU (fun hbb=>?_) (fun hbb=>?_)
  |refine ret_i ?_
  |refine fA7 ?_)
 all_goals conv=>whnf
 all_goals refine aA ?_
 ·rw[minL_ge]at hle
  refine le_dec ?_;rw[maxL_le];unfold rtOk Rt.l;simp at hle⊢;omega
 ·refine aC (fun h=>?_)
  have:=(minL_ge [r.bar,r.cut,r.rapid,r.pierce,r.joint,r.setup] r.sheet 0).2 (by unfold rtOk Rt.l at h;simp at h⊢;omega)
  omega
theorem valid_spec(r:Rt):Sp 20 [rtV r] (.lit (.bool (decB (rtOk r)))):=zsp Tryz.func20 (valid_vc r)
theorem sameInts_vc(a b:List Int)(ha:a.length<=1000000):fnVC T Tryz.prog Tryz.f19 [.sl (a.map I), .sl (b.map I)] (.lit (.bool (decB (a=b)))):=by
 have hla:(a.map I).length=a.length:=Ae;have hlb:(b.map I).length=b.length:=Ae
 rcases Nat.lt_trichotomy a.length b.length with hl|hl|hl
 ·exact I8
 ·repeat' ((conv=>whnf);first
   |refine arith_half Aa ?_
   |refine arith_u Aa ?_
   |(exfalso;omega)
   |refine eY7 ?_
   |refine eZ1 Ac ?_
   |refine eH4 Aa ?_
   |refine fU (p:=(T.row _).eq=true) Ac ?_
   |refine fU Aa ?_
   |refine eZ2 ?_
   |refine eZ0 (fun hd=>?_) (fun hd=>?_)
   |refine br_lt (fun hlt=>?_) (fun hlt=>?_)
   |refine br_le (fun hle=>?_) (fun hle=>?_)
   |refine eV7 (fun heq=>?_) (fun heq=>?_)
   |refine eQ9 Aa (fun x hx=>?_)
   |refine eY0 rfl (fun h=>Ad) ?_
   |refine jU (fun hbb=>?_) (fun hbb=>?_)
   |refine ret_i ?_
   |refine fA7 ?_)
  refine lD (A:=Nat) (fun k=>mkSt [(0, .sl (a.map I)),(1, .sl (b.map I)),(5,I k)] [] []) (fun k=>k<=a.length/\∀i,i<k->a[i]? =b[i]?) (fun k=>a.length-k) 0 ?_ ⟨Nat.zero_le _,fun i hi=>Aa⟩ (fun k hk=>?_)
  ·exact Il
  ·obtain⟨hk1,hk2⟩:=hk
   rcases Nat.lt_or_ge k a.length with hka|hka
   ·repeat' ((conv=>whnf);first
     |refine arith_half Aa ?_
     |refine arith_u Aa ?_
     |(exfalso;omega)
     |refine aB (l:=a) Aa ?_
     |refine aB (l:=b) Aa ?_
     |refine idx_get (f:=I) (l:=a) Aa ?_
     |refine idx_get (f:=I) (l:=b) Aa ?_
     |refine eY7 ?_
     |refine eZ1 Ac ?_
     |refine eH4 Aa ?_
     |refine fU (p:=(T.row _).eq=true) Ac ?_
     |refine fU Aa ?_
     |refine eZ2 ?_
     |refine eZ0 (fun hd=>?_) (fun hd=>?_)
     |refine br_lt (fun hlt=>?_) (fun hlt=>?_)
     |refine br_le (fun hle=>?_) (fun hle=>?_)
     |refine eV7 (fun heq=>?_) (fun heq=>?_)
     |refine eQ9 Aa (fun x hx=>?_)
     |refine eY0 rfl (fun h=>Ad) ?_
     |refine jU (fun hbb=>?_) (fun hbb=>?_)
     |refine ret_i ?_
     |refine fA7 ?_)
    ·conv=>whnf
     refine⟨k+1,?_,⟨Aa,fun i hi=>?_⟩,Aa⟩
     ·exact Il
     ·rcases Nat.lt_or_ge i k with h|h
      ·exact hk2 i h
      ·obtain rfl:i=k:=by omega
       rw[List.getElem?_eq_getElem hka,List.getElem?_eq_getElem Aa];exact congrArg some heq
    ·conv=>whnf
     refine aA (aC (fun h=>heq ?_));subst h;rfl
   ·repeat' ((conv=>whnf);first
     |refine arith_half Aa ?_
     |refine arith_u Aa ?_
     |(exfalso;omega)
     |refine eY7 ?_
     |refine eZ1 Ac ?_
     |refine eH4 Aa ?_
     |refine fU (p:=(T.row _).eq=true) Ac ?_
     |refine fU Aa ?_
     |refine eZ2 ?_
     |refine eZ0 (fun hd=>?_) (fun hd=>?_)
     |refine br_lt (fun hlt=>?_) (fun hlt=>?_)
     |refine br_le (fun hle=>?_) (fun hle=>?_)
     |refine eV7 (fun heq=>?_) (fun heq=>?_)
     |refine eQ9 Aa (fun x hx=>?_)
     |refine eY0 rfl (fun h=>Ad) ?_
     |refine jU (fun hbb=>?_) (fun hbb=>?_)
     |refine ret_i ?_
     |refine fA7 ?_)
    conv=>whnf
    refine aA (fE ?_);apply List.ext_getElem?;intro i;rcases Nat.lt_or_ge i k with h|h
    ·exact hk2 i h
    ·rw[List.getElem?_eq_none Aa,List.getElem?_eq_none Aa]
 ·exact I8
theorem sameInts_spec(a b:List Int)(ha:a.length<=1000000):Sp 19 [.sl (a.map I), .sl (b.map I)] (.lit (.bool (decB (a=b)))):=zsp Tryz.func19 (sameInts_vc a b ha)
theorem mapget_i{es:List V}{s:Value}{z:V}{K:V->Prop}{v:V}(h:(jG s es).getD z=v)(k:K v):eG6 es s z K:=eV6 h k
structure Sk where
 bar:Bool
 id:Int
 grade:ByteArray
 heat:ByteArray
 grain:Int
 ring:List V
 rings:List V
 defs:List V
 bid:Int
 bgrade:ByteArray
 bheat:ByteArray
 blen:Int
 bdefs:List V
 prog:ByteArray
def skV(x:Sk):V:= .agg [.lit (.bool x.bar),I x.id,S x.grade,S x.heat,I x.grain, .sl x.ring, .sl x.rings, .sl x.defs,I x.bid,S x.bgrade,S x.bheat,I x.blen, .sl x.bdefs,S x.prog]
structure Ls where
 stocks:List Sk
 pieces:List Pc
 used:List V
 r0:Int
 r1:Int
 s0:Int
 s1:Int
def lsV(s:Ls):V:= .agg [.sl (s.stocks.map skV), .sl (s.pieces.map pcV), .sl s.used,I s.r0,I s.r1,I s.s0,I s.s1]
def fewP(s:Ls):Prop:=s.stocks.length<=20/\s.pieces.length<=40
def valR(r:Rt)(n:Int)(bar:Bool):Int:=IntKind.i64.wrap (n*(match bar with|true=>r.bar|false=>r.sheet))
theorem value_vc(r:Rt)(n:Int)(b:Bool):fnVC T Tryz.prog Tryz.f21 [rtV r,I n, .lit (.bool b)] (I (valR r n b)):=by
 cases b with
 |true=>exact I9
 |false=>exact I9
theorem value_spec(r:Rt)(n:Int)(b:Bool):Sp 21 [rtV r,I n, .lit (.bool b)] (I (valR r n b)):=zsp Tryz.func21 (value_vc r n b)
theorem share_example:shareR 10 [1,1,1] =([4,3,3],0):=by
 rw[shareR_ok ⟨by simp[WOk],Ak,Ak,Ak,Ak⟩]
 have:shareP 10 ([1,1,1] :List Int).sum [1,1,1] =[4,3,3] :=DU;rw[this]
def p0:Pc:={id:=2,par:=1,part:={data:= #[97]},grade:={data:= #[83,50,51,53]},heat:={data:= #[72,55]},size:=40,bar:=false,status:=1,order:={data:= #[]}}
def l0:ByteArray:={data:= #[50,32,102,114,111,109,32,49,58,32,97,32,83,50,51,53,32,72,55,32,97,114,101,97,32,52,48,32,103,111,111,100]}
theorem name_of{s:ByteArray}(h:(decide (1<=s.size)&&decide (s.size<=16)&& (decide (97<=((s.data.toList.getD 0 0).toNat))&&decide (((s.data.toList.getD 0 0).toNat)<=122)||decide (65<=((s.data.toList.getD 0 0).toNat))&&decide (((s.data.toList.getD 0 0).toNat)<=90))&&
 s.data.toList.all fun c=>decide (97<=c.toNat)&&decide (c.toNat<=122)||decide (65<=c.toNat)&&decide (c.toNat<=90)||decide (48<=c.toNat)&&decide (c.toNat<=57)||decide (c.toNat=95))=true):iM s:=by
 simp only[Bool.and_eq_true,Bool.or_eq_true,decide_eq_true_eq,List.all_eq_true]at h;obtain⟨⟨⟨h1,h2⟩,h3⟩,h4⟩:=h
 have hb:∀i,i<s.size->∃c∈s.data.toList,byteAt s i=(c.toNat:Int)/\s.data.toList.getD i 0=c:=by
  intro i hi;have hi':i<s.data.toList.length:=by rw[data_len];exact hi
  refine⟨s.data.toList[i],List.getElem_mem hi',?_,?_⟩
  ·unfold byteAt
   rw[show s[i]? =some (s[i]'hi)from getElem?_pos s i hi];rfl
  ·rw[List.getD_eq_getElem?_getD,List.getElem?_eq_getElem hi'];rfl
 refine⟨h1,h2,?_,fun i hi=>?_⟩
 ·obtain⟨c,hc,e1,e2⟩:=hb 0 Aa
  rw[e2]at h3;rw[e1];unfold jA;omega
 ·obtain⟨c,hc,e1,e2⟩:=hb i hi
  have:=h4 c hc;rw[e1];unfold fG jA isDigit;omega
theorem label_example:labelR p0=(l0,0):=by
 have hl:labelled p0:=⟨⟨Ak,Ak⟩,⟨Ak,Ak⟩,name_of Ak,name_of Ak,name_of Ak,⟨Ak,Ak⟩, .inl ⟨.inl rfl,rfl⟩⟩;rw[labelR_ok hl];have e1:itoaB 2={data:= #[50]}:=Dj
 have e2:itoaB 1={data:= #[49]}:=Dj;have e3:itoaB 40={data:= #[52,48]}:=Dj
 have:labelB p0=l0:=by
  show joinB [itoaB 2,fromB,itoaB 1++colonB,_,_,_,whatB p0,itoaB 40,statB p0] spaceB=l0;rw[e1,e2,e3];rfl
 rw[this]
theorem awake_vc:fnVC T Tryz.prog Tryz.f5 [] (.lit (.bool true)):=by
 have hs:=share_spec 10 [1,1,1] Ak;rw[share_example]at hs;have hl:=aI6 p0
 rw[label_example]at hl;have hr:rtOk ⟨0,0,0,0,0,0,0⟩:=by unfold rtOk Rt.l;simp
 repeat' ((conv=>whnf);first
  |refine arith_half Aa ?_
  |refine arith_u Aa ?_
  |(refine aS5 (hs) false ?_ rfl ?_;focus ((repeat' (first|exact trivial|refine And.intro ?_ ?_|with_reducible rfl|exact(fun h=>Ad)|exact rfl));done))
  |(refine aS5 (hl) false ?_ rfl ?_;focus ((repeat' (first|exact trivial|refine And.intro ?_ ?_|with_reducible rfl|exact(fun h=>Ad)|exact rfl));done))
  |(refine aS5 (sameInts_spec [4,3,3] [4,3,3] Ak) true ?_ rfl ?_;focus ((repeat' (first|exact trivial|refine And.intro ?_ ?_|with_reducible rfl|exact(fun h=>Ad)|exact rfl));done))
  |(exfalso;exact hd rfl)
  |(exfalso;exact heq rfl)
  |refine jI (fun heq=>?_) (fun heq=>?_)
  |(refine aS5 (valid_spec ⟨0,0,0,0,0,0,0⟩) false ?_ rfl ?_;focus ((repeat' (first|exact trivial|refine And.intro ?_ ?_|with_reducible rfl|exact(fun h=>Ad)|exact rfl));done))
  |refine eY7 ?_
  |refine eZ1 Ac ?_
  |refine eH4 Aa ?_
  |refine fU (p:=(T.row _).eq=true) Ac ?_
  |refine fU Aa ?_
  |refine eZ2 ?_
  |refine eZ0 (fun hd=>?_) (fun hd=>?_)
  |refine br_lt (fun hlt=>?_) (fun hlt=>?_)
  |refine br_le (fun hle=>?_) (fun hle=>?_)
  |refine eV7 (fun heq=>?_) (fun heq=>?_)
  |refine eQ9 Aa (fun x hx=>?_)
  |refine eY0 rfl (fun h=>Ad) ?_
  |refine jU (fun hbb=>?_) (fun hbb=>?_)
  |refine ret_i ?_
  |refine fA7 ?_)
 conv=>whnf
 exact aK (dH.2 hr)
theorem zB:Sp 5 [] (.lit (.bool true)):=zsp Tryz.func5 awake_vc
theorem rvalid_vc(r:Rt):fnVC T Tryz.prog Tryz.f14 [rtV r] (.lit (.bool (decB (rtOk r)))):=by
 have hrl:r.l.length=7:=rfl
 repeat' ((conv=>whnf);first
  |refine arith_half Aa ?_
  |refine arith_u Aa ?_
  |refine eY7 ?_
  |refine eZ1 Ac ?_
  |refine eH4 Aa ?_
  |refine fU (p:=(T.row _).eq=true) Ac ?_
  |refine fU Aa ?_
  |refine eZ2 ?_
  |refine eZ0 (fun hd=>?_) (fun hd=>?_)
  |refine br_lt (fun hlt=>?_) (fun hlt=>?_)
  |refine br_le (fun hle=>?_) (fun hle=>?_)
  |refine eV7 (fun heq=>?_) (fun heq=>?_)
  |refine eQ9 Aa (fun x hx=>?_)
  |refine eY0 rfl (fun h=>Ad) ?_
  |refine jU (fun hbb=>?_) (fun hbb=>?_)
  |refine ret_i ?_
  |refine fA7 ?_)
 refine lD (A:=Nat) (fun k=>mkSt [(3, .arr 19 0),(4,I k)] [] [(19,⟨0, .own,3,r.l.map I⟩)]) (fun k=>k<=7/\∀i (h:i<r.l.length),i<k->0<=r.l[i]/\r.l[i]<=1000) (fun k=>7-k) 0 ?_ ⟨Aa,fun i h hi=>Aa⟩ (fun k hk=>?_)
 ·exact Il
 ·obtain⟨hk1,hk2⟩:=hk
  rcases Nat.lt_or_ge k 7 with hk7|hk7
  ·have hkr:k<r.l.length:=by omega
   have bad:¬(0<=r.l[k]/\r.l[k]<=1000)->¬rtOk r:=fun hn h=>hn (h _ (List.getElem_mem hkr))
   repeat' ((conv=>whnf);first
    |refine arith_half Aa ?_
    |refine arith_u Aa ?_
    |(exfalso;change (7:Int)<=k at hlt;omega)
    |(refine dX6 (l:=r.l) rfl (fun h=>Ad) rfl ?_ ?_;focus (constructor<;>omega))
    |refine idx_get (f:=I) (l:=r.l) Aa ?_
    |refine eY7 ?_
    |refine eZ1 Ac ?_
    |refine eH4 Aa ?_
    |refine fU (p:=(T.row _).eq=true) Ac ?_
    |refine fU Aa ?_
    |refine eZ2 ?_
    |refine eZ0 (fun hd=>?_) (fun hd=>?_)
    |refine br_lt (fun hlt=>?_) (fun hlt=>?_)
    |refine br_le (fun hle=>?_) (fun hle=>?_)
    |refine eV7 (fun heq=>?_) (fun heq=>?_)
    |refine eQ9 Aa (fun x hx=>?_)
    |refine eY0 rfl (fun h=>Ad) ?_
    |refine jU (fun hbb=>?_) (fun hbb=>?_)
    |refine ret_i ?_
    |refine fA7 ?_)
   ·conv=>whnf
    exact aA (aC (bad (fun h=>by change r.l[k] <0 at hlt;omega)))
   ·conv=>whnf
    exact aA (aC (bad (fun h=>by change 1000<r.l[k]at hlt;omega)))
   ·rename_i h0
    conv=>whnf
    refine⟨k+1,?_,⟨Aa,fun i h hi=>?_⟩,Aa⟩
    ·exact Il
    ·rcases Nat.lt_or_ge i k with hik|hik
     ·exact hk2 i h hik
     ·obtain rfl:i=k:=by omega
      exact⟨h0,hlt⟩
  ·repeat' ((conv=>whnf);first
    |refine arith_half Aa ?_
    |refine arith_u Aa ?_
    |(exfalso;change (k:Int)<7 at hlt;omega)
    |refine eY7 ?_
    |refine eZ1 Ac ?_
    |refine eH4 Aa ?_
    |refine fU (p:=(T.row _).eq=true) Ac ?_
    |refine fU Aa ?_
    |refine eZ2 ?_
    |refine eZ0 (fun hd=>?_) (fun hd=>?_)
    |refine br_lt (fun hlt=>?_) (fun hlt=>?_)
    |refine br_le (fun hle=>?_) (fun hle=>?_)
    |refine eV7 (fun heq=>?_) (fun heq=>?_)
    |refine eQ9 Aa (fun x hx=>?_)
    |refine eY0 rfl (fun h=>Ad) ?_
    |refine jU (fun hbb=>?_) (fun hbb=>?_)
    |refine ret_i ?_
    |refine fA7 ?_)
   conv=>whnf
   refine aA (fE (fun x hx=>?_));obtain⟨i,hi,rfl⟩:=List.mem_iff_getElem.1 hx;exact hk2 i hi Aa
theorem rvalid_spec(r:Rt):Sp 14 [rtV r] (.lit (.bool (decB (rtOk r)))):=zsp Tryz.func14 (rvalid_vc r)
end Go.Proofs.Cost58
