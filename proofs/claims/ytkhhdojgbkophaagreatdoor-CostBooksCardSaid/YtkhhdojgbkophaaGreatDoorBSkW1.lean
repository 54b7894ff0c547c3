/-
  Sharing an amount, walked: the program's function.
-/
import Derived.Test.YtkhhdojgbkophaaGreatDoorBSkQ3
set_option linter.unusedVariables false
set_option linter.unusedSimpArgs false
set_option maxRecDepth 100000
noncomputable section
namespace Go.Proofs.Cost58
open Go Go.Proofs Go.Ab Go.Proofs.Led
theorem tdivB{a b A:Int}(ha:0<=a/\a<=A)(hb:0<b):0<=a.tdiv b/\a.tdiv b<=A:=by
 rw[Int.tdiv_eq_ediv_of_nonneg ha.1];exact⟨Int.ediv_nonneg ha.1 Aa,Int.le_trans (Int.ediv_le_self _ ha.1) ha.2⟩
theorem arith_tdiv{a b A:Int}{K:Int->Prop}(ha:0<=a/\a<=A)(hb:0<b)(h:A<=9223372036854775807)(hk:K (a.tdiv b)):arith .i64 (a.tdiv b) K:=
 eH4 (by have:=tdivB ha hb;omega) hk
theorem need_make{n c:Int}{bytes:Nat}{K:Prop}(h0:0<=n)(h1:n=c)(h2:c<=1000000000)(hb:bytes<=10000)(hk:K):need (0<=n/\n=c/\c*bytes<=140737488355328/\c<=140737488355328) K:=by
 refine fU ⟨h0,h1,?_,Aa⟩ hk;subst h1;have:n*(bytes:Int)<=1000000000*10000:=Int.mul_le_mul h2 Aa Aa Aa;omega
theorem ret_two{T:Tab}{ar:Nat->Option AE}{a b a' b':V}(h1:wU T ar a' a)(h2:wU T ar b' b)(h3:iR [a',b'] [a,b] =true):∃ys,V.tup [a,b] = .tup ys/\iQ T ar ys [a',b']/\iR [a',b'] ys=true:=⟨_,rfl,⟨h1,h2,trivial⟩,h3⟩
def WOk(ws:List Int):Prop:=∀w∈ws,0<=w/\w<=1000000
def ShOk(am:Int)(ws:List Int):Prop:=WOk ws/\0<=am/\am<=1000000000/\ws.length<=60/\ws.sum≠0
open Classical in
def shareR(am:Int)(ws:List Int):List Int×Int:=if ShOk am ws then(shareP am ws.sum ws,0)else([],2)
theorem shareR_ok{am:Int}{ws:List Int}(h:ShOk am ws):shareR am ws=(shareP am ws.sum ws,0):=by unfold shareR;rw[if_pos h]
theorem shareR_no{am:Int}{ws:List Int}(h:¬ShOk am ws):shareR am ws=([],2):=by unfold shareR;rw[if_neg h]
theorem sumB:∀ {l:List Int},WOk l->0<=l.sum/\l.sum<=l.length*1000000
 | [],_=>Ae
 |w::l,h=>by
  have h1:=h w Ae;have h2:=sumB (l:=l) (fun x hx=>h x BO)
  simp only[List.sum_cons,List.length_cons];omega
theorem ShOk.share{am:Int}{ws:List Int}(h:ShOk am ws):ShareOk am ws.sum ws:=by
 obtain⟨h1,h2,h3,h4,h5⟩:=h;have:=sumB h1;exact⟨h2,Aa,fun w hw=>(h1 w hw).1,rfl⟩
theorem quos_snoc(am s:Int)(D:List Int)(w:Int):quos am s (D++[w])=quos am s D++[(am*w).tdiv s] :=by simp[quos]
theorem quosB{am s:Int}{D:List Int}(ha:0<=am/\am<=1000000000)(hs:0<s)(h:WOk D):∀x∈quos am s D,0<=x/\x<=1000000000000000:=by
 intro x hx;obtain⟨w,hw,rfl⟩:=List.mem_map.1 hx;exact tdivB (mulB ha (h w hw)) hs
theorem sumQ:∀ {l:List Int},(∀x∈l,0<=x/\x<=1000000000000000)->0<=l.sum/\l.sum<=l.length*1000000000000000
 | [],_=>Ae
 |w::l,h=>by
  have h1:=h w Ae;have h2:=sumQ (l:=l) (fun x hx=>h x BO)
  simp only[List.sum_cons,List.length_cons];omega
theorem bumpB{o is:List Int}{B:Int}(h:∀x∈o,0<=x/\x<=B):∀x∈bump o is,0<=x/\x<=B+is.length+1:=by
 refine snoc_ind (p:=fun is:List Int=>∀x∈bump o is,0<=x/\x<=B+is.length+1) ?_ ?_ is
 ·intro x hx
  have:=h x hx;simp;omega
 ·intro xs y ih x hx
  rw[bump_snoc]at hx;rw[List.length_append,List.length_singleton];rcases List.mem_or_eq_of_mem_set hx with hx|rfl
  ·have:=ih x hx;omega
  ·rw[List.getD_eq_getElem?_getD]
   cases hg:(bump o xs)[y.toNat]? with
   |none=>
    have hlt:¬y.toNat< (bump o xs).length:=fun hl=>by rw[List.getElem?_eq_getElem hl]at hg;cases hg
    rw[List.set_eq_of_length_le Aa]at hx;have:=ih _ hx;rw[List.getD_eq_getElem?_getD,hg]at this;omega
   |some z=>
    have:=ih z (List.mem_of_getElem? hg);simp only[Option.getD_some];omega
theorem idx_set_same{l:List V}{i:Nat}{v:V}{K:V->Prop}(h:i<l.length)(hk:K v):idx (l.set i v) i K:=dE3 v (by rw[List.getElem?_set_self h]) hk
theorem need_cut0{h:Int}{xs:List V}{n:Nat}{K:Prop}(h0:0<=h)(h1:h<=xs.length)(hk:K):need ((0:Int)<=0/\0<=h/\h<=xs.length/\((0:Int)=0\/∀x∈xs,x.cells.length=n)) K:=fU ⟨Aa,h0,h1, .inl rfl⟩ hk
theorem frz_i{en:AE}{g:Nat}{K:Prop}(h1:en.gen=g)(h2:en.kind= .frz)(hk:K):need (en.gen=g/\en.kind= .frz) K:=fU ⟨h1,h2⟩ hk
theorem sorts_at{g:FuncId}{cs:List V}{c:Int->Int->Int}{Q:Int->Prop}{key:Int->Int}(hc:cF2 g cs c Q)(hk:∀a b,c a b<0↔key a<key b){L L':List Int}(e:L'=L)(hq:∀x∈L,Q x)(hl:L.length<=10000):
 SpIO 45 [.own 3 (L'.map I), .fn g [.fp cs]] (.tup []) 3 ((qA c L).map I):=by
 subst e;exact sorts_spec hc hk L' hq hl
theorem share_vc(am:Int)(ws:List Int)(hl:ws.length<=1000):
 fnVC T Tryz.prog Tryz.f17 [I am, .sl (ws.map I)] (.tup [.own 3 ((shareR am ws).1.map I),I (shareR am ws).2]):=by
 have hll:(ws.map I).length=ws.length:=Ae;have hno:∀ {n},n∉([] :List Int):=Ae
 have ret0:¬ShOk am ws->∃ys,V.tup [.own 3 ((shareR am ws).1.map I),I (shareR am ws).2] = .tup ys/\iQ T (fun _=>none) ys [.lit (.slice none 0 0),I 2]/\iR [.lit (.slice none 0 0),I 2] ys=true:=by
  intro hn;rw[shareR_no hn];exact ret_two ⟨of_decide_eq_true Ac,rfl⟩ rfl rfl
 repeat' ((conv=>whnf);first
  |refine arith_half Aa ?_
  |refine arith_u Aa ?_
  |refine eY7 ?_
  |refine eZ1 Ac ?_
  |refine eH4 Aa ?_
  |refine fU (p:=(T.row _).eq=true) Ac ?_
  |refine fU Aa ?_
  |refine eZ2 ?_
  |refine eZ0 (fun hd=>?_) (fun hd=>?_)
  |refine br_lt (fun hlt=>?_) (fun hlt=>?_)
  |refine br_le (fun hle=>?_) (fun hle=>?_)
  |refine eV7 (fun heq=>?_) (fun heq=>?_)
  |refine eQ9 Aa (fun x hx=>?_)
  |refine eY0 rfl (fun h=>Ad) ?_
  |refine jU (fun hbb=>?_) (fun hbb=>?_)
  |refine ret_i ?_
  |refine fA7 ?_)
 refine aU (A:=List Int) (B:=List Int) (fun D R=>mkSt [(2, .box 2 0),(3, .box 3 0),(4, .lit (.slice none 0 0)),(5,I 0),(6, .box 6 0),(17, .sl (ws.map I)),(18,I ws.length),(19,I D.length)] [(2,[I am]),(3,[.sl (ws.map I)]),(6,[I D.sum])] [])
  (fun D R=>ws=D++R/\WOk D) (fun D R=>R.length) [] ws ?_ ⟨rfl,by simp[WOk]⟩ (fun D R hp=>?_)
 ·exact Il
 ·obtain⟨h1,h2⟩:=hp
  have hlen:ws.length=D.length+R.length:=Bj;have hsD:=sumB h2
  cases R with
  |nil=>
   rw[List.append_nil]at h1;subst h1
   repeat' ((conv=>whnf);first
    |refine arith_half Aa ?_
    |refine arith_u Aa ?_
    |(exfalso;simp at hlen;omega)
    |refine need_make Aa rfl Aa (of_decide_eq_true rfl) ?_
    |refine eY7 ?_
    |refine eZ1 Ac ?_
    |refine eH4 Aa ?_
    |refine fU (p:=(T.row _).eq=true) Ac ?_
    |refine fU Aa ?_
    |refine eZ2 ?_
    |refine eZ0 (fun hd=>?_) (fun hd=>?_)
    |refine br_lt (fun hlt=>?_) (fun hlt=>?_)
    |refine br_le (fun hle=>?_) (fun hle=>?_)
    |refine eV7 (fun heq=>?_) (fun heq=>?_)
    |refine eQ9 Aa (fun x hx=>?_)
    |refine eY0 rfl (fun h=>Ad) ?_
    |refine jU (fun hbb=>?_) (fun hbb=>?_)
    |refine ret_i ?_
    |refine fA7 ?_)
   ·conv=>whnf
    exact ret0 (fun h=>by have:=h.2.1;omega)
   ·conv=>whnf
    exact ret0 (fun h=>by have:=h.2.2.1;omega)
   ·conv=>whnf
    exact ret0 (fun h=>by have:=h.2.2.2.1;omega)
   ·conv=>whnf
    exact ret0 (fun h=>h.2.2.2.2 heq)
   rename_i _ hlt2 hlt3;have hsok:ShOk am ws:=⟨h2,hlt2,hlt3,Aa,heq⟩;have hs0:0<ws.sum:=Aa
   have hsh:=hsok.share;rw[shareR_ok hsok]
   refine aU (A:=List Int) (B:=List Int) (fun D R=>mkSt [(2, .box 2 0),(3, .box 3 0),(6, .box 6 0),(9, .arr 50 0),(10, .arr 53 0),(11,I (am- (quos am ws.sum D).sum)),(55, .sl (ws.map I)),(56,I ws.length),(57,I D.length)] [(2,[I am]),(3,[.sl (ws.map I)]),(6,[I ws.sum])] [(50,⟨0, .own,3,(quos am ws.sum D++List.replicate R.length 0).map I⟩),(53,⟨0, .own,3,(idxs D.length++List.replicate R.length 0).map I⟩)])
    (fun D R=>ws=D++R) (fun D R=>R.length) [] ws ?_ rfl (fun D R hp=>?_)
   ·refine dV ?_ ?_ ?_ ?_
    all_goals repeat' (first|exact trivial|refine And.intro ?_ ?_|with_reducible rfl|exact(fun h=>Ad)|exact Nat.le_refl _|omega|exact rfl)
    ·show List.replicate (((ws.map I).length:Nat):Int).toNat (I 0)=List.map I (quos am ws.sum [] ++List.replicate ws.length 0)
     rw[hll];simp[quos]
    ·show List.replicate (((ws.map I).length:Nat):Int).toNat (I 0)=List.map I (idxs 0++List.replicate ws.length 0)
     rw[hll];simp[idxs]
    ·show am=am- (quos am ws.sum []).sum
     simp[quos]
   ·have h1:ws=D++R:=hp
    have hlen:ws.length=D.length+R.length:=Bj;have hwD:WOk D:=fun w hw=>h2 w (by rw[h1];simp[hw])
    have hqD:=quosB ⟨hlt2,hlt3⟩ hs0 hwD;have hqs:=sumQ hqD
    rw[quos_len]at hqs
    cases R with
    |nil=>
     rw[List.append_nil]at h1;subst h1;have hlb:=left_bd hsh;have hlp:leftP am ws.sum ws=am- (quos am ws.sum ws).sum:=rfl
     repeat' ((conv=>whnf);first
      |refine arith_half Aa ?_
      |refine arith_u Aa ?_
      |(exfalso;simp at hlen;omega)
      |(refine aQ2 (sorts_at (g:=46) (cs:=[bY am ws.sum ws]) (c:=ordF am ws.sum ws) (Q:=fun i=>0<=i/\i<ws.length) (key:=fun i=>-restF am ws.sum ws i) (fun i j hi hj=>ord_spec am ws.sum ws i j hi hj hs0 ⟨hlt2,hlt3⟩ h2) (fun a b=>ordF_neg a b) (L:=idxs ws.length) (L':=idxs ws.length++List.replicate ([] :List Int).length 0) Ae (fun x hx=>idxs_mem.1 hx) (by rw[idxs_len];omega)) rfl rfl ?_ rfl rfl ?_;focus ((repeat' (first|exact trivial|refine And.intro ?_ ?_|with_reducible rfl|exact(fun h=>Ad)|exact rfl));done))
      |refine frz_i rfl rfl ?_
      |refine need_cut0 Aa (by rw[List.length_map,cX8,idxs_len];omega) ?_
      |refine eY7 ?_
      |refine eZ1 Ac ?_
      |refine eH4 Aa ?_
      |refine fU (p:=(T.row _).eq=true) Ac ?_
      |refine fU Aa ?_
      |refine eZ2 ?_
      |refine eZ0 (fun hd=>?_) (fun hd=>?_)
      |refine br_lt (fun hlt=>?_) (fun hlt=>?_)
      |refine br_le (fun hle=>?_) (fun hle=>?_)
      |refine eV7 (fun heq=>?_) (fun heq=>?_)
      |refine eQ9 Aa (fun x hx=>?_)
      |refine eY0 rfl (fun h=>Ad) ?_
      |refine jU (fun hbb=>?_) (fun hbb=>?_)
      |refine ret_i ?_
      |refine fA7 ?_)
     refine aU (A:=List Int) (B:=List Int) (fun D R=>mkSt [(9, .arr 50 0),(87, .sl (((ordP am ws.sum ws).take (leftP am ws.sum ws).toNat).map I)),(88,I (leftP am ws.sum ws).toNat),(89,I D.length)] [] [(50,⟨0, .own,3,(bump (quos am ws.sum ws) D).map I⟩)])
      (fun D R=>(ordP am ws.sum ws).take (leftP am ws.sum ws).toNat=D++R) (fun D R=>R.length) [] _ ?_ rfl (fun D R hp=>?_)
     ·refine dV ?_ ?_ ?_ ?_
      all_goals repeat' (first|exact trivial|refine And.intro ?_ ?_|with_reducible rfl|exact(fun h=>Ad)|exact Nat.le_refl _|omega|exact rfl)
      ·show List.map I (quos am ws.sum ws++List.replicate 0 0)=List.map I (quos am ws.sum ws)
       simp
      ·show List.drop 0 (List.take (am- (quos am ws.sum ws).sum).toNat (List.map I (ordP am ws.sum ws)))=List.map I ((ordP am ws.sum ws).take (leftP am ws.sum ws).toNat)
       rw[List.map_take];rfl
      ·show(((List.drop 0 (List.take (am- (quos am ws.sum ws).sum).toNat (List.map I (ordP am ws.sum ws)))).length:Nat):Int)=((leftP am ws.sum ws).toNat:Nat)
       rw[<-hlp,List.drop_zero,List.length_take,List.length_map,ord_len];omega
     ·have hD:(ordP am ws.sum ws).take (leftP am ws.sum ws).toNat=D++R:=hp
      have hDl:=left_len hsh;rw[hD,List.length_append]at hDl;have hml:(List.map I ((ordP am ws.sum ws).take (leftP am ws.sum ws).toNat)).length=D.length+R.length:=by rw[List.length_map,hD,List.length_append]
      have hbB:=bumpB (is:=D) hqD;have hbl:(bump (quos am ws.sum ws) D).length=ws.length:=by rw[bump_len,quos_len]
      cases R with
      |nil=>
       rw[List.append_nil]at hD;rw[List.length_nil]at hDl
       repeat' ((conv=>whnf);first
        |refine arith_half Aa ?_
        |refine arith_u Aa ?_
        |(exfalso;omega)
        |refine eY7 ?_
        |refine eZ1 Ac ?_
        |refine eH4 Aa ?_
        |refine fU (p:=(T.row _).eq=true) Ac ?_
        |refine fU Aa ?_
        |refine eZ2 ?_
        |refine eZ0 (fun hd=>?_) (fun hd=>?_)
        |refine br_lt (fun hlt=>?_) (fun hlt=>?_)
        |refine br_le (fun hle=>?_) (fun hle=>?_)
        |refine eV7 (fun heq=>?_) (fun heq=>?_)
        |refine eQ9 Aa (fun x hx=>?_)
        |refine eY0 rfl (fun h=>Ad) ?_
        |refine jU (fun hbb=>?_) (fun hbb=>?_)
        |refine ret_i ?_
        |refine fA7 ?_)
       conv=>whnf
       refine ret_two ⟨rfl,rfl,rfl,?_⟩ rfl rfl;show List.map I (bump (quos am ws.sum ws) D)=List.map I (shareP am ws.sum ws);unfold shareP;rw[hD]
      |cons i R=>
       rw[List.length_cons]at hDl hml;have hi:0<=i/\i<ws.length:=ord_mem.1 (List.mem_of_mem_take (by rw[hD];simp))
       repeat' ((conv=>whnf);first
        |refine arith_half Aa ?_
        |refine arith_u Aa ?_
        |(exfalso;omega)
        |refine aF (l:=(ordP am ws.sum ws).take (leftP am ws.sum ws).toNat) (A:=D) (x:=i) (B:=R) hD Aa ?_
        |(refine dX6 (l:=bump (quos am ws.sum ws) D) rfl (fun h=>Ad) rfl ?_ ?_;focus (constructor<;>omega))
        |refine dB8 rfl rfl ?_
        |refine eH4 (by have:=hbB _ (List.mem_of_getElem? hx);omega) ?_
        |refine eY7 ?_
        |refine eZ1 Ac ?_
        |refine eH4 Aa ?_
        |refine fU (p:=(T.row _).eq=true) Ac ?_
        |refine fU Aa ?_
        |refine eZ2 ?_
        |refine eZ0 (fun hd=>?_) (fun hd=>?_)
        |refine br_lt (fun hlt=>?_) (fun hlt=>?_)
        |refine br_le (fun hle=>?_) (fun hle=>?_)
        |refine eV7 (fun heq=>?_) (fun heq=>?_)
        |refine eQ9 Aa (fun x hx=>?_)
        |refine eY0 rfl (fun h=>Ad) ?_
        |refine jU (fun hbb=>?_) (fun hbb=>?_)
        |refine ret_i ?_
        |refine fA7 ?_)
       conv=>whnf
       refine⟨(D++[i],R),?_,?_,?_⟩
       ·refine dV ?_ ?_ ?_ ?_
        all_goals repeat' (first|exact trivial|refine And.intro ?_ ?_|with_reducible rfl|exact(fun h=>Ad)|exact Nat.le_refl _|omega|exact rfl)
        ·rename_i x0 hx0
         show List.set (List.map I (bump (quos am ws.sum ws) D)) i.toNat (I (x0+1))=List.map I (bump (quos am ws.sum ws) (D++[i]));rw[bump_snoc,List.map_set,List.getD_eq_getElem?_getD,hx0];rfl
        ·show(D.length:Int)+1=(D++[i]).length
         simp
       ·show _=D++[i] ++R
        rw[hD];simp
       ·show R.length< (i::R).length
        simp
    |cons x R=>
     have hx0:=h2 x Bj;rw[List.length_cons]at hlen;have hz1:(quos am ws.sum D++List.replicate (x::R).length 0).length=ws.length:=by rw[List.length_append,quos_len,List.length_replicate,List.length_cons];omega
     have hz2:(idxs D.length++List.replicate (x::R).length (0:Int)).length=ws.length:=by rw[List.length_append,idxs_len,List.length_replicate,List.length_cons];omega
     have hmx:=mulB (a:=am) (b:=x) ⟨hlt2,hlt3⟩ hx0;have hdx:=tdivB (a:=am*x) (b:=ws.sum) (A:=1000000000*1000000) hmx hs0
     repeat' ((conv=>whnf);first
      |refine arith_half Aa ?_
      |refine arith_u Aa ?_
      |(exfalso;omega)
      |refine aF (l:=ws) (A:=D) (x:=x) (B:=R) h1 Aa ?_
      |refine eH4 Aa ?_
      |refine arith_tdiv hmx hs0 Ak ?_
      |refine dB8 rfl rfl ?_
      |(refine dX6 (l:=quos am ws.sum D++List.replicate (x::R).length 0) rfl (fun h=>Ad) rfl ?_ ?_;focus (constructor<;>omega))
      |(refine dX6 (l:=idxs D.length++List.replicate (x::R).length 0) rfl (fun h=>Ad) rfl ?_ ?_;focus (constructor<;>omega))
      |(refine dY5 (l:=quos am ws.sum D++List.replicate (x::R).length 0) rfl (fun h=>Ad) rfl ?_ ?_;focus (constructor<;>omega))
      |refine aF (l:=quos am ws.sum D++List.replicate (x::R).length 0) (A:=quos am ws.sum D) (x:=0) (B:=List.replicate R.length 0) rfl (by rw[quos_len];omega) ?_
      |refine aF (l:=idxs D.length++List.replicate (x::R).length 0) (A:=idxs D.length) (x:=0) (B:=List.replicate R.length 0) rfl (by rw[idxs_len];omega) ?_
      |refine idx_set_same FM ?_
      |refine eY7 ?_
      |refine eZ1 Ac ?_
      |refine eH4 Aa ?_
      |refine fU (p:=(T.row _).eq=true) Ac ?_
      |refine fU Aa ?_
      |refine eZ2 ?_
      |refine eZ0 (fun hd=>?_) (fun hd=>?_)
      |refine br_lt (fun hlt=>?_) (fun hlt=>?_)
      |refine br_le (fun hle=>?_) (fun hle=>?_)
      |refine eV7 (fun heq=>?_) (fun heq=>?_)
      |refine eQ9 Aa (fun x hx=>?_)
      |refine eY0 rfl (fun h=>Ad) ?_
      |refine jU (fun hbb=>?_) (fun hbb=>?_)
      |refine ret_i ?_
      |refine fA7 ?_)
     conv=>whnf
     refine⟨(D++[x],R),?_,?_,?_⟩
     ·refine dV ?_ ?_ ?_ ?_
      all_goals repeat' (first|exact trivial|refine And.intro ?_ ?_|with_reducible rfl|exact(fun h=>Ad)|exact Nat.le_refl _|omega|exact rfl)
      ·show List.set (List.map I (quos am ws.sum D++0::List.replicate R.length 0)) D.length (I ((am*x).tdiv ws.sum))=List.map I (quos am ws.sum (D++[x])++List.replicate R.length 0)
       rw[List.map_append,List.map_cons,set_mid (by rw[List.length_map,quos_len]),quos_snoc];simp
      ·show List.set (List.map I (idxs D.length++0::List.replicate R.length 0)) D.length (I D.length)=List.map I (idxs (D++[x]).length++List.replicate R.length 0)
       rw[List.map_append,List.map_cons,set_mid (by rw[List.length_map,idxs_len]),List.length_append,List.length_singleton,idxs_succ];simp
      ·show am- (quos am ws.sum D).sum- (am*x).tdiv ws.sum=am- (quos am ws.sum (D++[x])).sum
       rw[quos_snoc,List.sum_append];simp;omega
      ·show(D.length:Int)+1=(D++[x]).length
       simp
     ·show ws=D++[x] ++R
      rw[h1];simp
     ·show R.length< (x::R).length
      simp
  |cons x R=>
   rw[List.length_cons]at hlen
   repeat' ((conv=>whnf);first
    |refine arith_half Aa ?_
    |refine arith_u Aa ?_
    |(exfalso;omega)
    |refine aF (l:=ws) (A:=D) (x:=x) (B:=R) h1 Aa ?_
    |refine eY7 ?_
    |refine eZ1 Ac ?_
    |refine eH4 Aa ?_
    |refine fU (p:=(T.row _).eq=true) Ac ?_
    |refine fU Aa ?_
    |refine eZ2 ?_
    |refine eZ0 (fun hd=>?_) (fun hd=>?_)
    |refine br_lt (fun hlt=>?_) (fun hlt=>?_)
    |refine br_le (fun hle=>?_) (fun hle=>?_)
    |refine eV7 (fun heq=>?_) (fun heq=>?_)
    |refine eQ9 Aa (fun x hx=>?_)
    |refine eY0 rfl (fun h=>Ad) ?_
    |refine jU (fun hbb=>?_) (fun hbb=>?_)
    |refine ret_i ?_
    |refine fA7 ?_)
   ·conv=>whnf
    exact ret0 (fun h=>Gw)
   ·conv=>whnf
    exact ret0 (fun h=>Gw)
   ·conv=>whnf
    refine⟨(D++[x],R),?_,⟨?_,?_⟩,?_⟩
    ·refine dV ?_ ?_ ?_ ?_
     all_goals repeat' (first|exact trivial|refine And.intro ?_ ?_|with_reducible rfl|exact(fun h=>Ad)|exact Nat.le_refl _|omega|exact rfl)
     ·show(D.sum:Int)+x=(D++[x]).sum
      simp
     ·show(D.length:Int)+1=(D++[x]).length
      simp
    ·rw[h1];simp
    ·intro w hw
     rcases List.mem_append.1 hw with hw|hw
     ·exact h2 w hw
     ·rw[List.mem_singleton.1 hw];omega
    ·show R.length< (x::R).length
     simp
theorem share_spec(am:Int)(ws:List Int)(hl:ws.length<=1000):Sp 17 [I am, .sl (ws.map I)] (.tup [.own 3 ((shareR am ws).1.map I),I (shareR am ws).2]):=
 zsp Tryz.func17 (share_vc am ws hl)
end Go.Proofs.Cost58
