/-
  Sorting few rings, walked.
-/
import Derived.Test.YtkhhdojgbkophaaGreatB24
set_option linter.unusedVariables false
set_option linter.unusedSimpArgs false
namespace Go.Proofs.Led
open Go Go.Proofs Go.Ab
set_option maxRecDepth 100000
set_option maxHeartbeats 4000000
def U64(n:Int):V:= .lit (.int .u64 n)
def lenT(n:Nat):Int:=match n with
 |0=>0
 |1=>1
 |2=>2
 |3=>2
 |_=>3
theorem eP4:Sp 335 [U64 0] (I 0):=by
 refine zsp Tryz.func335 ?_
 repeat' ((conv=>whnf);first|(exfalso;omega)|refine fK (k:= .u8) (n:=0) (m:=0) (by decide) ?_|refine fU (of_decide_eq_true (by kernel_rfl)) ?_|refine fK (k:= .i64) (m:=0) (by kernel_rfl) ?_|refine zg ?_|refine zz (fun _=>?_) fun _=>?_|refine zr ?_)
 all_goals conv=>whnf
 all_goals exact aG (by kernel_rfl)
theorem eU1:Sp 280 [U64 0] (I 0):=by
 refine zsp Tryz.func280 ?_
 repeat' ((conv=>whnf);first|refine zc eP4 ?_|refine zg ?_|refine zr ?_)
 all_goals conv=>whnf
 all_goals exact aG rfl
theorem eM6:Sp 335 [U64 1] (I 1):=by
 refine zsp Tryz.func335 ?_
 repeat' ((conv=>whnf);first|(exfalso;omega)|refine fK (k:= .u8) (n:=1) (m:=1) (by decide) ?_|refine fU (of_decide_eq_true (by kernel_rfl)) ?_|refine fK (k:= .i64) (m:=1) (by kernel_rfl) ?_|refine zg ?_|refine zz (fun _=>?_) fun _=>?_|refine zr ?_)
 all_goals conv=>whnf
 all_goals exact aG (by kernel_rfl)
theorem len_1:Sp 280 [U64 1] (I 1):=by
 refine zsp Tryz.func280 ?_
 repeat' ((conv=>whnf);first|refine zc eM6 ?_|refine zg ?_|refine zr ?_)
 all_goals conv=>whnf
 all_goals exact aG rfl
theorem eR3:Sp 335 [U64 2] (I 2):=by
 refine zsp Tryz.func335 ?_
 repeat' ((conv=>whnf);first|(exfalso;omega)|refine fK (k:= .u8) (n:=2) (m:=2) (by decide) ?_|refine fU (of_decide_eq_true (by kernel_rfl)) ?_|refine fK (k:= .i64) (m:=2) (by kernel_rfl) ?_|refine zg ?_|refine zz (fun _=>?_) fun _=>?_|refine zr ?_)
 all_goals conv=>whnf
 all_goals exact aG (by kernel_rfl)
theorem len_2:Sp 280 [U64 2] (I 2):=by
 refine zsp Tryz.func280 ?_
 repeat' ((conv=>whnf);first|refine zc eR3 ?_|refine zg ?_|refine zr ?_)
 all_goals conv=>whnf
 all_goals exact aG rfl
theorem eT4:Sp 335 [U64 3] (I 2):=by
 refine zsp Tryz.func335 ?_
 repeat' ((conv=>whnf);first|(exfalso;omega)|refine fK (k:= .u8) (n:=3) (m:=3) (by decide) ?_|refine fU (of_decide_eq_true (by kernel_rfl)) ?_|refine fK (k:= .i64) (m:=2) (by kernel_rfl) ?_|refine zg ?_|refine zz (fun _=>?_) fun _=>?_|refine zr ?_)
 all_goals conv=>whnf
 all_goals exact aG (by kernel_rfl)
theorem len_3:Sp 280 [U64 3] (I 2):=by
 refine zsp Tryz.func280 ?_
 repeat' ((conv=>whnf);first|refine zc eT4 ?_|refine zg ?_|refine zr ?_)
 all_goals conv=>whnf
 all_goals exact aG rfl
theorem eN1:Sp 335 [U64 4] (I 3):=by
 refine zsp Tryz.func335 ?_
 repeat' ((conv=>whnf);first|(exfalso;omega)|refine fK (k:= .u8) (n:=4) (m:=4) (by decide) ?_|refine fU (of_decide_eq_true (by kernel_rfl)) ?_|refine fK (k:= .i64) (m:=3) (by kernel_rfl) ?_|refine zg ?_|refine zz (fun _=>?_) fun _=>?_|refine zr ?_)
 all_goals conv=>whnf
 all_goals exact aG (by kernel_rfl)
theorem len_4:Sp 280 [U64 4] (I 3):=by
 refine zsp Tryz.func280 ?_
 repeat' ((conv=>whnf);first|refine zc eN1 ?_|refine zg ?_|refine zr ?_)
 all_goals conv=>whnf
 all_goals exact aG rfl
theorem eM8:Sp 335 [U64 5] (I 3):=by
 refine zsp Tryz.func335 ?_
 repeat' ((conv=>whnf);first|(exfalso;omega)|refine fK (k:= .u8) (n:=5) (m:=5) (by decide) ?_|refine fU (of_decide_eq_true (by kernel_rfl)) ?_|refine fK (k:= .i64) (m:=3) (by kernel_rfl) ?_|refine zg ?_|refine zz (fun _=>?_) fun _=>?_|refine zr ?_)
 all_goals conv=>whnf
 all_goals exact aG (by kernel_rfl)
theorem len_5:Sp 280 [U64 5] (I 3):=by
 refine zsp Tryz.func280 ?_
 repeat' ((conv=>whnf);first|refine zc eM8 ?_|refine zg ?_|refine zr ?_)
 all_goals conv=>whnf
 all_goals exact aG rfl
theorem eP5:Sp 335 [U64 6] (I 3):=by
 refine zsp Tryz.func335 ?_
 repeat' ((conv=>whnf);first|(exfalso;omega)|refine fK (k:= .u8) (n:=6) (m:=6) (by decide) ?_|refine fU (of_decide_eq_true (by kernel_rfl)) ?_|refine fK (k:= .i64) (m:=3) (by kernel_rfl) ?_|refine zg ?_|refine zz (fun _=>?_) fun _=>?_|refine zr ?_)
 all_goals conv=>whnf
 all_goals exact aG (by kernel_rfl)
theorem len_6:Sp 280 [U64 6] (I 3):=by
 refine zsp Tryz.func280 ?_
 repeat' ((conv=>whnf);first|refine zc eP5 ?_|refine zg ?_|refine zr ?_)
 all_goals conv=>whnf
 all_goals exact aG rfl
theorem len_any(n:Nat)(h:n<=6):∃b,Sp 280 [U64 (n:Int)] (I b):=by
 match n,h with
 |0,_=>exact⟨_,eU1⟩
 |1,_=>exact⟨_,len_1⟩
 |2,_=>exact⟨_,len_2⟩
 |3,_=>exact⟨_,len_3⟩
 |4,_=>exact⟨_,len_4⟩
 |5,_=>exact⟨_,len_5⟩
 |6,_=>exact⟨_,len_6⟩
theorem dY6{g:FuncId}{c:Rg->Rg->Int}{Q:Rg->Prop}(hc:cF2 g c Q)(xs:List Rg)(hq:∀x∈xs,Q x)(hl:xs.length<=12)(lim:Int):
 SpIO 279 [.own 39 (xs.map rgV),I 0,I xs.length,I lim, .fn g []] (.tup []) 39 ((qA c xs).map rgV):=by
 refine eH7 rfl Tryz.func279 (by kernel_rfl) (by kernel_rfl) ?_
 have hi:=eI2 hc xs hq (by omega)
 repeat' ((conv=>whnf);first|refine zg ?_)
 refine lD (A:=Unit) (fun _=>mkSt [(0, .arr 0 0),(1,I 0),(2,I xs.length),(3,I lim),(4, .fn g []),(10, .lit (.bool true)),(11, .lit (.bool true))] [] [(0,⟨0, .own,39,xs.map rgV⟩)]) (fun _=>True) (fun _=>0) () ?_ trivial (fun _ _=>?_)
 ·exact zj
 repeat' ((conv=>whnf);first|(exfalso;omega)|(refine aQ2 (hi) rfl rfl ?_ rfl rfl ?_;focus ((repeat' (first|exact trivial|refine And.intro ?_ ?_|with_reducible rfl|exact(fun h=>by cases h)|exact rfl));done))|refine zg ?_|refine za ?_|refine zz (fun _=>?_) fun _=>?_)
 all_goals conv=>whnf
 refine cA7 ?_
 conv=>whnf
 exact⟨[],rfl,⟨⟨rfl,rfl,rfl,rfl⟩,trivial⟩,rfl⟩
theorem u64_in{n:Int}(h:0<=n/\n<=1000000):IntKind.u64.wrap n=n:=by
 simp[IntKind.wrap,IntKind.signed,IntKind.bits]
 omega
theorem cR4{g:FuncId}{c:Rg->Rg->Int}{Q:Rg->Prop}(hc:cF2 g c Q)(xs:List Rg)(hq:∀x∈xs,Q x)(hl:xs.length<=6):
 SpIO 217 [.own 39 (xs.map rgV), .fn g []] (.tup []) 39 ((qA c xs).map rgV):=by
 refine eH7 rfl Tryz.func217 (by kernel_rfl) (by kernel_rfl) ?_
 have hmm:(xs.map rgV).length=xs.length:=by simp
 obtain⟨b,hb⟩:=len_any xs.length hl
 have hp:=dY6 hc xs hq (by omega) b
 rw[<-hmm]at hb hp
 repeat' ((conv=>whnf);first|refine fK (k:= .u64) (n:=((xs.map rgV).length:Int)) (m:=((xs.map rgV).length:Int)) (u64_in (by omega)) ?_|refine zc hb ?_|(refine aQ2 (hp) rfl rfl ?_ rfl rfl ?_;focus ((repeat' (first|exact trivial|refine And.intro ?_ ?_|with_reducible rfl|exact(fun h=>by cases h)|exact rfl));done))|refine zg ?_|refine zv ?_)
 all_goals conv=>whnf
 refine cA7 ?_
 conv=>whnf
 exact⟨[],rfl,⟨⟨rfl,rfl,rfl,rfl⟩,trivial⟩,rfl⟩
theorem dT5(g:FuncId):Sp 326 [nilV,I 0,I 0, .fn g []] (.tup []):=by
 refine zsp Tryz.func326 ?_
 repeat' ((conv=>whnf);first|refine zg ?_|refine za ?_)
 refine lD (A:=Unit) (fun _=>mkSt [(1,I 0),(2,I 0),(8,I 1)] [] []) (fun _=>True) (fun _=>0) () ?_ trivial (fun _ _=>?_)
 ·exact zj
 repeat' ((conv=>whnf);first|(exfalso;omega)|refine zg ?_|refine zz (fun _=>?_) fun _=>?_|refine zr ?_)
 all_goals conv=>whnf
 all_goals exact⟨[],rfl,trivial,rfl⟩
theorem dK0(g:FuncId)(lim:Int):Sp 279 [nilV,I 0,I 0,I lim, .fn g []] (.tup []):=by
 refine zsp Tryz.func279 ?_
 repeat' ((conv=>whnf);first|refine zg ?_)
 refine lD (A:=Unit) (fun _=>mkSt [(0,nilV),(1,I 0),(2,I 0),(3,I lim),(4, .fn g [])] [] []) (fun _=>True) (fun _=>0) () ?_ trivial (fun _ _=>?_)
 ·exact zj
 repeat' ((conv=>whnf);first|(exfalso;omega)|refine zc (dT5 g) ?_|refine zg ?_|refine za ?_|refine zz (fun _=>?_) fun _=>?_|refine zr ?_)
 all_goals conv=>whnf
 all_goals exact⟨[],rfl,trivial,rfl⟩
theorem cZ9(g:FuncId):Sp 217 [nilV, .fn g []] (.tup []):=by
 refine zsp Tryz.func217 ?_
 repeat' ((conv=>whnf);first|refine fK (k:= .u64) (n:=0) (m:=0) (by decide) ?_|refine zc eU1 ?_|refine zc (dK0 g 0) ?_|refine zg ?_|refine zr ?_)
 all_goals conv=>whnf
 all_goals exact⟨[],rfl,trivial,rfl⟩
theorem dW3{r:Rg}(h:dM r)(hl:r.length<=1000000):Qr (gQ r):=by
 rw[bJ7 h]
 have h3:=h.1
 have e:(wL r).length=r.length:=by unfold wL;rw[List.length_append,List.length_drop,List.length_take];omega
 refine⟨fun q=>?_,by omega⟩
 rw[q]at e
 simp at e
 omega
noncomputable def wW(s:Sh):List Rg:=qA cR (s.holes.map gQ)
noncomputable def qO(s:Sh):Sh:=open Classical in if bG s then⟨gQ s.outer,wW s⟩else sh0
theorem aN9{s:Sh}(h:bG s):qO s=⟨gQ s.outer,wW s⟩:=if_pos h
theorem bH5{s:Sh}(h:¬bG s):qO s=sh0:=if_neg h
noncomputable def canSt(s:Sh)(D:List Rg):St:=match D with
 | [] =>mkSt [(1, .box 1 0),(2, .box 2 0),(3, .box 3 0),(15, .sl (s.holes.map rgV)),(16,I s.holes.length),(17,I 0)] [(1,(shV s).cells),(2,(shV sh0).cells),(3,[rgV (gQ s.outer),nilV])] []
 |d::D=>mkSt [(1, .box 1 0),(2, .box 2 0),(3, .box 3 0),(15, .sl (s.holes.map rgV)),(16,I s.holes.length),(17,I ((D.length:Int)+1))] [(1,(shV s).cells),(2,(shV sh0).cells),(3,[rgV (gQ s.outer), .arr 26 D.length])] [(26,⟨D.length, .own,39,((d::D).map gQ).map rgV⟩)]
theorem aU9(s:Sh)(hs:gV s):Sp 160 [shV s] (shV (qO s)):=by
 refine zsp Tryz.func160 ?_
 have h1:=aN9 (s:=s)
 have h2:=bH5 (s:=s)
 generalize qO s=A at*
 have hmm:(s.holes.map rgV).length=s.holes.length:=by simp
 repeat' ((conv=>whnf);first|refine zc (kK s hs) ?_|refine zc (aU6 s.outer hs.1) ?_|refine zg ?_|refine zn ?_|refine zd (fun hd=>?_) (fun hd=>?_)|refine zr ?_)
 all_goals conv=>whnf
 ·rw[h1 hd]
  have hok:=hd
  unfold bG at hok
  obtain⟨h6,hro,_,_⟩:=hok
  have hQ:∀x∈s.holes.map gQ,Qr x:=fun x hx=>by
   obtain⟨r,hr,rfl⟩:=List.mem_map.1 hx
   exact dW3 (hro r (List.mem_cons_of_mem _ hr)) (hs.2.2 r hr)
  have hcl:(s.holes.map gQ).length=s.holes.length:=by simp
  refine aU (A:=List Rg) (B:=List Rg) (fun D R=>canSt s D) (fun D R=>s.holes=D++R) (fun D R=>R.length) [] s.holes ?_ rfl (fun D R hp=>?_)
  ·refine dV ?_ ?_ ?_ ?_
   all_goals repeat' (first|exact trivial|refine And.intro ?_ ?_|with_reducible rfl|exact(fun h=>by cases h)|exact Nat.le_refl _|omega|exact rfl)
   all_goals (try rw[List.length_map])
  cases R with
  |nil=>
   have e:D=s.holes:=by rw[hp];simp
   subst e
   clear hp
   cases hh:s.holes with
   |nil=>
    have hcn:wW s=[] :=by unfold wW;rw[hh];rfl
    rw[hcn]
    have hz:s.holes.length=0:=by rw[hh];rfl
    repeat' ((conv=>whnf);first|(exfalso;omega)|refine zc (cZ9 218) ?_|refine zg ?_|refine zl (fun hlt=>?_) (fun hlt=>?_)|refine zr ?_)
    all_goals conv=>whnf
    refine⟨?_,rfl,fun rs h=>V.noConfusion h⟩
    (repeat' (first|exact trivial|refine And.intro ?_ ?_|with_reducible rfl|exact(fun h=>by cases h)|exact rfl));done
   |cons d D=>
    have hcl2:(d::D).length=D.length+1:=rfl
    have hso:=cR4 cR_ok ((d::D).map gQ) (by rw[<-hh];exact hQ) (by rw[<-hh];omega)
    have hcn:wW s=qA cR ((d::D).map gQ):=by unfold wW;rw[hh]
    rw[hcn]
    generalize qA cR ((d::D).map gQ)=Z at hso
    have hhl:s.holes.length=D.length+1:=by rw[hh];rfl
    repeat' ((conv=>whnf);first|(exfalso;omega)|(refine aQ2 (hso) rfl rfl ?_ rfl rfl ?_;focus ((repeat' (first|exact trivial|refine And.intro ?_ ?_|with_reducible rfl|exact(fun h=>by cases h)|exact rfl));done))|refine zg ?_|refine zl (fun hlt=>?_) (fun hlt=>?_)|refine zr ?_)
    all_goals conv=>whnf
    refine⟨?_,rfl,fun rs h=>V.noConfusion h⟩
    (repeat' (first|exact trivial|refine And.intro ?_ ?_|with_reducible rfl|exact(fun h=>by cases h)|exact rfl));done
  |cons h R=>
   have hlen:=aO hp
   have hl:h.length<=1000000:=hs.2.2 h (by rw[hp];simp)
   have hcs:=aU6 h hl
   cases D with
   |nil=>
    have h0:([] :List Rg).length=0:=rfl
    repeat' ((conv=>whnf);first|(exfalso;omega)|refine aF (l:=s.holes) (A:=[]) (x:=h) (B:=R) hp (by omega) ?_|refine zc hcs ?_|refine gX (of_decide_eq_true rfl) (dA rfl) (of_decide_eq_true rfl) ?_|refine zg ?_|refine zi ?_|refine za ?_|refine zo ?_|refine zl (fun hlt=>?_) (fun hlt=>?_)|refine zv ?_)
    all_goals conv=>whnf
    refine⟨([h],R),?_,hp,by simp⟩
    show Le T _ (mkSt [(1, .box 1 0),(2, .box 2 0),(3, .box 3 0),(15, .sl (s.holes.map rgV)),(16,I s.holes.length),(17,I (0+1))] [(1,(shV s).cells),(2,(shV sh0).cells),(3,[rgV (gQ s.outer), .arr 26 0])] [(26,⟨0, .own,39,[rgV (gQ h)]⟩)])
    exact zj
   |cons d D=>
    have h0:(d::D).length=D.length+1:=rfl
    have hfl:(((d::D).map gQ).map rgV).length=D.length+1:=by simp
    repeat' ((conv=>whnf);first|(exfalso;omega)|refine aF (l:=s.holes) (A:=d::D) (x:=h) (B:=R) hp (by omega) ?_|refine zc hcs ?_|refine iH rfl (.inl rfl) rfl (of_decide_eq_true rfl) (dA rfl) (show(((d::D).map gQ).map rgV).length+1<=1000000000 by omega) ?_|refine zg ?_|refine zi ?_|refine za ?_|refine zo ?_|refine zl (fun hlt=>?_) (fun hlt=>?_)|refine zv ?_)
    all_goals conv=>whnf
    refine⟨(d::D++[h],R),?_,by rw[hp];simp,by simp⟩
    show Le T _ (mkSt [(1, .box 1 0),(2, .box 2 0),(3, .box 3 0),(15, .sl (s.holes.map rgV)),(16,I s.holes.length),(17,I (((D++[h]).length:Int)+1))] [(1,(shV s).cells),(2,(shV sh0).cells),(3,[rgV (gQ s.outer), .arr 26 (D++[h]).length])] [(26,⟨(D++[h]).length, .own,39,(((d::D)++[h]).map gQ).map rgV⟩)])
    rw[show(((d::D)++[h]).map gQ).map rgV=((d::D).map gQ).map rgV++[rgV (gQ h)] by simp,List.length_append,List.length_singleton]
    exact zj
 ·rw[h2 hd]
  refine⟨?_,rfl,fun rs h=>V.noConfusion h⟩
  (repeat' (first|exact trivial|refine And.intro ?_ ?_|with_reducible rfl|exact(fun h=>by cases h)|exact rfl));done
theorem fst_eq{n:Int}{D R:List Int}(h:∀y∈D,¬n=y):fst (fun y=>n=y) (D++n::R)=D.length:=wH (fun y hy=>by rw[dW.2 (h y hy)];rfl) (by rw[dH.2 rfl];rfl)
theorem bM4(l:List Int)(n:Int)(hl:l.length<=1000000):Sp 336 [.sl (l.map I),I n] (I (fstI (fun y=>n=y) l)):=by
 refine zsp Tryz.func336 ?_
 have hll:(l.map I).length=l.length:=by simp
 repeat' ((conv=>whnf);first|refine zg ?_)
 refine aU (A:=List Int) (B:=List Int) (fun D R=>mkSt [(0, .sl (l.map I)),(1,I n),(6, .sl (l.map I)),(7,I l.length),(8,I D.length)] [] []) (fun D R=>l=D++R/\∀y∈D,¬n=y) (fun D R=>R.length) [] l ?_ ⟨rfl,by simp⟩ (fun D R hp=>?_)
 ·exact zj
 obtain⟨hp,hD⟩:=hp
 cases R with
 |nil=>
  have hlen:l.length=D.length:=by rw[hp];simp
  repeat' ((conv=>whnf);first|(exfalso;omega)|refine zg ?_|refine zl (fun hlt=>?_) (fun hlt=>?_)|refine zr ?_)
  all_goals conv=>whnf
  refine aG ?_
  unfold fstI
  rw[if_neg (iO.2 (by rw[hp,List.append_nil];exact hD))]
 |cons y R=>
  have hlen:=aO hp
  repeat' ((conv=>whnf);first|(exfalso;omega)|refine aB (l:=l) (by omega) ?_|refine aF (l:=l) (A:=D) (x:=y) (B:=R) hp (by omega) ?_|refine zg ?_|refine za ?_|refine zl (fun hlt=>?_) (fun hlt=>?_)|refine ze (fun heq=>?_) (fun heq=>?_)|refine zr ?_)
  all_goals conv=>whnf
  ·subst heq
   refine aG ?_
   unfold fstI
   rw[hp,fst_eq hD,if_pos (by simp)]
  ·refine⟨(D++[y],R),?_,⟨by rw[hp];simp,fun z hz=>?_⟩,by simp⟩
   ·simp only[List.length_append,List.length_singleton]
    exact zj
   ·rcases List.mem_append.1 hz with hz|hz
    ·exact hD z hz
    ·rw[List.mem_singleton.1 hz];assumption
theorem dK5(l:List Int)(n:Int)(hl:l.length<=1000000):Sp 283 [.sl (l.map I),I n] (DB (n∈l)):=by
 refine zsp Tryz.func283 ?_
 repeat' ((conv=>whnf);first|refine zc (bM4 l n hl) ?_|refine zg ?_|refine zr ?_)
 all_goals conv=>whnf
 all_goals refine aA (le_dec ?_)
 have h:=iO (Q:=fun y=>n=y) (l:=l)
 unfold fstI
 constructor
 ·intro h0
  split at h0
  ·rename_i hlt
   exact Classical.byContradiction fun hn=>(h.2 (fun m hm hq=>hn (by rw[hq];exact hm))) hlt
  ·omega
 ·intro hm
  split
  ·omega
  ·rename_i hlt
   exact(h.1 hlt n hm rfl).elim
theorem bV2{s:Sh}(hs:gV s)(h7:s.holes.length<=6):(aC0 s).length<=7000000:=bC1 hs h7 (D:=rings s) (R:=[]) (by simp)
def rJ(a b:Sh)(ways:List Int):Prop:=∃x∈aC0 a,∃y∈aC0 b,dG x y∈ways
theorem bX6(a b:Sh)(ways:List Int)(ha:gV a)(ha7:a.holes.length<=6)(hb:gV b)(hb7:b.holes.length<=6)(hw:ways.length<=1000000):Sp 221 [shV a,shV b, .sl (ways.map I)] (DB (rJ a b ways)):=by
 refine zsp Tryz.func221 ?_
 have hea:=aV8 a ha ha7
 have heb:=aV8 b hb hb7
 have hla:=bV2 ha ha7
 have hlb:=bV2 hb hb7
 generalize hP:rJ a b ways=P
 have hr:P↔rJ a b ways:=by rw[hP]
 clear hP
 unfold rJ at hr
 generalize aC0 a=A at*
 generalize aC0 b=B at*
 repeat' ((conv=>whnf);first|refine zc heb ?_|refine zc hea ?_|refine zg ?_|refine zv ?_)
 conv=>whnf
 refine aU (A:=List Sg) (B:=List Sg) (fun D R=>mkSt [(2, .sl (ways.map I)),(7, .lit (.bool false)),(8, .arr 14 0),(16, .arr 16 0),(17,I A.length),(18,I D.length)] [] [(14,⟨0, .own,298,B.map sgV⟩),(16,⟨0, .own,298,A.map sgV⟩)]) (fun D R=>A=D++R/\∀x∈D,∀y∈B,¬dG x y∈ways) (fun D R=>R.length) [] A ?_ ⟨rfl,by simp⟩ (fun D R hp=>?_)
 ·refine dV ?_ ?_ ?_ ?_
  all_goals repeat' (first|exact trivial|refine And.intro ?_ ?_|with_reducible rfl|exact(fun h=>by cases h)|exact Nat.le_refl _|omega|exact rfl)
  all_goals (rw[List.length_map])
 obtain⟨hp,hD⟩:=hp
 cases R with
 |nil=>
  have hlen:A.length=D.length:=by rw[hp];simp
  repeat' ((conv=>whnf);first|(exfalso;omega)|refine zg ?_|refine zz (fun _=>?_) fun _=>?_|refine zr ?_)
  all_goals conv=>whnf
  refine aA (aC ?_)
  rw[hr,hp,List.append_nil]
  rintro⟨x,hx,y,hy,hm⟩
  exact hD x hx y hy hm
 |cons x R=>
  have hlen:=aO hp
  repeat' ((conv=>whnf);first|(exfalso;omega)|refine dS rfl rfl (by show 0<=_/\_< ((A.map sgV).length:Int);rw[List.length_map];omega) ?_|refine aF (l:=A) (A:=D) (x:=x) (B:=R) hp (by omega) ?_|refine zg ?_|refine zv ?_|refine zz (fun _=>?_) fun _=>?_)
  refine aU (A:=List Sg) (B:=List Sg) (fun E S=>mkSt [(2, .sl (ways.map I)),(7, .lit (.bool false)),(8, .arr 14 0),(10, .box 10 0),(16, .arr 16 0),(17,I A.length),(18,I D.length),(22, .arr 14 0),(23,I B.length),(24,I E.length)] [(10,(sgV x).cells)] [(14,⟨0, .own,298,B.map sgV⟩),(16,⟨0, .own,298,A.map sgV⟩)]) (fun E S=>B=E++S/\∀y∈E,¬dG x y∈ways) (fun E S=>S.length) [] B ?_ ⟨rfl,by simp⟩ (fun E S hq=>?_)
  ·refine dV ?_ ?_ ?_ ?_
   all_goals repeat' (first|exact trivial|refine And.intro ?_ ?_|with_reducible rfl|exact(fun h=>by cases h)|exact Nat.le_refl _|omega|exact rfl)
   all_goals (rw[List.length_map])
  obtain⟨hq,hE⟩:=hq
  cases S with
  |nil=>
   have hlen2:B.length=E.length:=by rw[hq];simp
   have hBE:B=E:=by rw[hq];simp
   repeat' ((conv=>whnf);first|(exfalso;omega)|refine zg ?_|refine za ?_|refine zz (fun _=>?_) fun _=>?_)
   all_goals conv=>whnf
   refine⟨(D++[x],R),?_,⟨by rw[hp];simp,fun z hz=>?_⟩,by simp⟩
   ·simp only[List.length_append,List.length_singleton]
    exact zj
   ·rcases List.mem_append.1 hz with hz|hz
    ·exact hD z hz
    ·rw[List.mem_singleton.1 hz,hBE]
     exact hE
  |cons y S=>
   have hlen2:=aO hq
   repeat' ((conv=>whnf);first|(exfalso;omega)|refine dS rfl rfl (by show 0<=_/\_< ((B.map sgV).length:Int);rw[List.length_map];omega) ?_|refine aF (l:=B) (A:=E) (x:=y) (B:=S) hq (by omega) ?_|refine zc (aS9 x y) ?_|refine zc (dK5 ways (dG x y) hw) ?_|refine zg ?_|refine za ?_|refine zv ?_|refine zz (fun _=>?_) fun _=>?_|refine zr ?_)
   all_goals conv=>whnf
   all_goals first
    |exact aA (fE (hr.2 ⟨x,by rw[hp];simp,y,by rw[hq];simp,by assumption⟩))
    |skip
   refine⟨(E++[y],S),?_,⟨by rw[hq];simp,fun z hz=>?_⟩,by simp⟩
   ·simp only[List.length_append,List.length_singleton]
    exact zj
   ·rcases List.mem_append.1 hz with hz|hz
    ·exact hE z hz
    ·rw[List.mem_singleton.1 hz]
     assumption
def arN(i:Nat)(r:Rg)(k:Nat):Vc:=if 0<i then mY r k else iU r k
def arL(i:Nat)(r:Rg)(k:Nat):Vc:=if 0<i then iU r k else mY r k
noncomputable def dJ(i:Nat)(r:Rg)(p:Vc)(k:Nat):Option Sg:=
 open Classical in if r.getD k z0=p then some (vsub (arN i r k) p,vsub (arL i r k) p)
 else if arN i r k≠p/\eX (r.getD k z0,arN i r k) p then some (vsub (arN i r k) p,vsub (r.getD k z0) p)else none
noncomputable def qY(i:Nat)(r:Rg)(p:Vc):Option Sg:=(List.range r.length).findSome? (dJ i r p)
noncomputable def nR(p:Vc):Nat->List Rg->Option Sg
 |_,[] =>none
 |i,r::R=>(qY i r p).or (nR p (i+1) R)
noncomputable def jE(s:Sh)(p:Vc):Sg:=(nR p 0 (rings s)).getD ((0,0),(0,0))
theorem bZ2{i:Nat}{r:Rg}{p:Vc}(h:∀k,k<r.length->dJ i r p k=none):qY i r p=none:=by
 unfold qY
 rw[List.findSome?_eq_none_iff]
 intro k hk
 exact h k (List.mem_range.1 hk)
theorem range_split{n k:Nat}(h:k<n):List.range n=List.range k++k::(List.range n).drop (k+1):=by
 apply List.ext_getElem?
 intro j
 by_cases h1:j<k
 ·rw[List.getElem?_append_left (by simpa using h1),List.getElem?_range (by omega),List.getElem?_range h1]
 ·rw[List.getElem?_append_right (by simp;omega),List.length_range]
  by_cases h2:j=k
  ·subst h2;simp[h]
  ·obtain⟨t,ht⟩:∃t,j-k=t+1:=⟨j-k-1,by omega⟩
   rw[ht,List.getElem?_cons_succ,List.getElem?_drop]
   congr 1
   omega
theorem bZ8{i:Nat}{r:Rg}{p:Vc}{k:Nat}{x:Sg}(hk:k<r.length)(h:∀j,j<k->dJ i r p j=none)(hx:dJ i r p k=some x):qY i r p=some x:=by
 unfold qY
 rw[range_split hk,List.findSome?_append,List.findSome?_eq_none_iff.2 (fun j hj=>h j (List.mem_range.1 hj)),List.findSome?_cons,hx]
 rfl
theorem cU6{p:Vc}{i:Nat}{r:Rg}{R:List Rg}{x:Sg}(h:qY i r p=some x):nR p i (r::R)=some x:=by
 rw[nR,h];rfl
theorem cR6{p:Vc}{i:Nat}{r:Rg}{R:List Rg}(h:qY i r p=none):nR p i (r::R)=nR p (i+1) R:=by
 rw[nR,h];rfl
theorem aW8(s:Sh)(p:Vc)(hs:gV s)(h7:s.holes.length<=6):Sp 288 [shV s,vcV p] (sgV (jE s p)):=by
 refine zsp Tryz.func288 ?_
 have hrs:=aW6 s hs
 have hmem:∀r∈rings s,r.length<=1000000:=fun r hr=>hs.mem hr
 have hlr:(rings s).length<=7:=by unfold rings;simp;omega
 have hX:∀x:Sg,nR p 0 (rings s)=some x->sgV (jE s p)=sgV x:=fun x h=>by unfold jE;rw[h];rfl
 have hX0:nR p 0 (rings s)=none->sgV (jE s p)=sgV ((0,0),(0,0)):=fun h=>by unfold jE;rw[h];rfl
 generalize sgV (jE s p)=X at*
 generalize rings s=rs at*
 have hmm:(rs.map rgV).length=rs.length:=by simp
 repeat' ((conv=>whnf);first|refine zc hrs ?_|refine zg ?_|refine zv ?_)
 refine aU (A:=List Rg) (B:=List Rg) (fun D R=>mkSt [(2, .box 2 0),(3, .box 3 0),(4, .box 4 0),(13, .arr 13 0),(14,I rs.length),(15,I D.length)] [(2,(shV s).cells),(3,(vcV p).cells),(4,[I 0,I 0,I 0,I 0])] [(13,⟨0, .own,39,rs.map rgV⟩)]) (fun D R=>rs=D++R/\nR p 0 rs=nR p D.length R) (fun D R=>R.length) [] rs ?_ ⟨rfl,rfl⟩ (fun D R hp=>?_)
 ·refine dV ?_ ?_ ?_ ?_
  all_goals repeat' (first|exact trivial|refine And.intro ?_ ?_|with_reducible rfl|exact(fun h=>by cases h)|exact Nat.le_refl _|omega|exact rfl)
  all_goals (try rw[List.length_map])
 obtain⟨hp,hL⟩:=hp
 cases R with
 |nil=>
  have hlen:rs.length=D.length:=by rw[hp];simp
  have hx:=hX0 (by rw[hL];rfl)
  subst hx
  repeat' ((conv=>whnf);first|(exfalso;omega)|refine zg ?_|refine zz (fun _=>?_) fun _=>?_|refine zr ?_)
  all_goals conv=>whnf
  all_goals conv=>whnf
  all_goals first|exact aG rfl|exact aK rfl|exact aP rfl|exact zt|exact zu
 |cons r R=>
  have hlen:=aO hp
  have hrl:=hmem r (by rw[hp];simp)
  have hrm:(r.map vcV).length=r.length:=by simp
  repeat' ((conv=>whnf);first|(exfalso;omega)|refine dS rfl rfl (by show 0<=_/\_< ((rs.map rgV).length:Int);omega) ?_|refine aF (l:=rs) (A:=D) (x:=r) (B:=R) hp (by omega) ?_|refine zg ?_|refine zv ?_|refine zz (fun _=>?_) fun _=>?_)
  refine lD (A:=Nat) (fun k=>mkSt [(2, .box 2 0),(3, .box 3 0),(4, .box 4 0),(5,I D.length),(6,rgV r),(13, .arr 13 0),(14,I rs.length),(15,I D.length),(20,rgV r),(21,I r.length),(22,I k)] [(2,(shV s).cells),(3,(vcV p).cells),(4,[I 0,I 0,I 0,I 0])] [(13,⟨0, .own,39,rs.map rgV⟩)]) (fun k=>k<=r.length/\∀j,j<k->dJ D.length r p j=none) (fun k=>r.length-k) 0 ?_ ⟨by omega,fun j hj=>absurd hj (by omega)⟩ (fun k hk=>?_)
  ·exact zj
  obtain⟨hk,hN⟩:=hk
  by_cases hkr:k<r.length
  ·have hm1:(k+1)% r.length<r.length:=Nat.mod_lt _ (by omega)
   have hm2:(k+r.length-1)% r.length<r.length:=Nat.mod_lt _ (by omega)
   have hF:∀x,dJ D.length r p k=some x->nR p 0 rs=some x:=fun x hx=>by rw[hL];exact cU6 (bZ8 hkr hN hx)
   by_cases h0:0<D.length
   ·have eN:arN D.length r k=mY r k:=if_pos h0
    have eL:arL D.length r k=iU r k:=if_pos h0
    repeat' ((conv=>whnf);first|(exfalso;omega)|refine cC0 [(6,999),(27,999),(30,999),(32,999),(33,999),(35,999),(37,999),(41,999),(43,999),(44,999),(9,9),(10,10)] (by repeat' (first|exact trivial|exact rfl|refine And.intro ?_ ?_)) (by kernel_rfl) ?_|refine uM (by omega) ?_|refine aB (l:=r) (by rw[kS (a:=k+1) (by omega)];omega) ?_|refine aB (l:=r) (by rw[kS (a:=k+r.length-1) (by omega)];omega) ?_|refine aB (l:=r) (by omega) ?_|refine sW (k:=(k+1)% r.length) (kS (by omega)) hm1 ?_|refine sW (k:=(k+r.length-1)% r.length) (kS (by omega)) hm2 ?_|refine sW (k:=k) (by omega) hkr ?_|refine aT1 ?_|refine aB4 (fun hv=>?_) (fun hv=>?_)|refine zc (fF (mY r k) p) ?_|refine zc (fF (iU r k) p) ?_|refine zc (fF (r.getD k z0) p) ?_|refine zc (yS (r.getD k z0,mY r k) p) ?_|refine zg ?_|refine za ?_|refine zy ?_|refine zn ?_|refine zz (fun _=>?_) fun _=>?_|refine zr ?_)
    all_goals conv=>whnf
    ·have hx:=hX (vsub (mY r k) p,vsub (iU r k) p) (hF _ (by unfold dJ;rw[if_pos ‹r.getD k z0=p›,eN,eL]))
     subst hx
     all_goals conv=>whnf
     all_goals first|exact aG rfl|exact aK rfl|exact aP rfl|exact zt|exact zu
    ·refine⟨k+1,?_,⟨by omega,fun j hj=>?_⟩,by omega⟩
     ·exact zj
     ·rcases Nat.lt_or_ge j k with h|h
      ·exact hN j h
      ·have:j=k:=by omega
       subst this
       unfold dJ
       rw[if_neg ‹¬r.getD j z0=p›,eN,if_neg (fun h=>h.1 (by assumption))]
    ·have hx:=hX (vsub (mY r k) p,vsub (r.getD k z0) p) (hF _ (by unfold dJ;rw[if_neg ‹¬r.getD k z0=p›,eN,if_pos ⟨by assumption,by assumption⟩]))
     subst hx
     all_goals conv=>whnf
     all_goals first|exact aG rfl|exact aK rfl|exact aP rfl|exact zt|exact zu
    ·refine⟨k+1,?_,⟨by omega,fun j hj=>?_⟩,by omega⟩
     ·exact zj
     ·rcases Nat.lt_or_ge j k with h|h
      ·exact hN j h
      ·have:j=k:=by omega
       subst this
       unfold dJ
       rw[if_neg ‹¬r.getD j z0=p›,eN,if_neg (fun h=>absurd h.2 (by assumption))]
   ·have eN:arN D.length r k=iU r k:=if_neg h0
    have eL:arL D.length r k=mY r k:=if_neg h0
    repeat' ((conv=>whnf);first|(exfalso;omega)|refine cC0 [(6,999),(27,999),(30,999),(32,999),(33,999),(35,999),(37,999),(41,999),(43,999),(44,999),(9,9),(10,10)] (by repeat' (first|exact trivial|exact rfl|refine And.intro ?_ ?_)) (by kernel_rfl) ?_|refine uM (by omega) ?_|refine aB (l:=r) (by rw[kS (a:=k+1) (by omega)];omega) ?_|refine aB (l:=r) (by rw[kS (a:=k+r.length-1) (by omega)];omega) ?_|refine aB (l:=r) (by omega) ?_|refine sW (k:=(k+1)% r.length) (kS (by omega)) hm1 ?_|refine sW (k:=(k+r.length-1)% r.length) (kS (by omega)) hm2 ?_|refine sW (k:=k) (by omega) hkr ?_|refine aT1 ?_|refine aB4 (fun hv=>?_) (fun hv=>?_)|refine zc (fF (iU r k) p) ?_|refine zc (fF (mY r k) p) ?_|refine zc (fF (r.getD k z0) p) ?_|refine zc (yS (r.getD k z0,iU r k) p) ?_|refine zg ?_|refine za ?_|refine zy ?_|refine zn ?_|refine zz (fun _=>?_) fun _=>?_|refine zr ?_)
    all_goals conv=>whnf
    ·have hx:=hX (vsub (iU r k) p,vsub (mY r k) p) (hF _ (by unfold dJ;rw[if_pos ‹r.getD k z0=p›,eN,eL]))
     subst hx
     all_goals conv=>whnf
     all_goals first|exact aG rfl|exact aK rfl|exact aP rfl|exact zt|exact zu
    ·refine⟨k+1,?_,⟨by omega,fun j hj=>?_⟩,by omega⟩
     ·exact zj
     ·rcases Nat.lt_or_ge j k with h|h
      ·exact hN j h
      ·have:j=k:=by omega
       subst this
       unfold dJ
       rw[if_neg ‹¬r.getD j z0=p›,eN,if_neg (fun h=>h.1 (by assumption))]
    ·have hx:=hX (vsub (iU r k) p,vsub (r.getD k z0) p) (hF _ (by unfold dJ;rw[if_neg ‹¬r.getD k z0=p›,eN,if_pos ⟨by assumption,by assumption⟩]))
     subst hx
     all_goals conv=>whnf
     all_goals first|exact aG rfl|exact aK rfl|exact aP rfl|exact zt|exact zu
    ·refine⟨k+1,?_,⟨by omega,fun j hj=>?_⟩,by omega⟩
     ·exact zj
     ·rcases Nat.lt_or_ge j k with h|h
      ·exact hN j h
      ·have:j=k:=by omega
       subst this
       unfold dJ
       rw[if_neg ‹¬r.getD j z0=p›,eN,if_neg (fun h=>absurd h.2 (by assumption))]
  ·have e:k=r.length:=by omega
   subst e
   repeat' ((conv=>whnf);first|(exfalso;omega)|refine zg ?_|refine za ?_|refine zz (fun _=>?_) fun _=>?_)
   all_goals conv=>whnf
   refine⟨(D++[r],R),?_,⟨by rw[hp];simp,by rw[hL,cR6 (bZ2 hN)];simp⟩,by simp⟩
   simp only[List.length_append,List.length_singleton]
   exact zj
abbrev eU0(g:FuncId)(Q:Sg->Sg->Prop):Prop:=∀x y,Sp g [sgV x,sgV y] (DB (Q x y))
def touchAt(a b:Sh)(Q:Sg->Sg->Prop)(p:Vc):Prop:=lJ a p=1->lJ b p=1->Q (jE a p) (jE b p)
def bD2(a b:Sh)(Q:Sg->Sg->Prop):Prop:=∀p∈rV a++rV b,touchAt a b Q p
theorem cZ6{g:FuncId}{Q:Sg->Sg->Prop}(hg:eU0 g Q)(a b:Sh)(ha:gV a)(ha7:a.holes.length<=6)(hb:gV b)(hb7:b.holes.length<=6):Sp 223 [shV a,shV b, .fn g []] (DB (bD2 a b Q)):=by
 refine zsp Tryz.func223 ?_
 have hva:=aJ3 a ha ha7
 have hvb:=aJ3 b hb hb7
 have hla:=cH3 ha ha7
 have hlb:=cH3 hb hb7
 change Sp _ _ (.own 76 ((rV a).map vcV))at hva
 change Sp _ _ (.own 76 ((rV b).map vcV))at hvb
 generalize hP:bD2 a b Q=P
 have hr:P↔∀p∈rV a++rV b,touchAt a b Q p:=by rw[<-hP];exact Iff.rfl
 clear hP
 generalize rV a=A at*
 generalize rV b=B at*
 have hAm:(A.map vcV).length=A.length:=by simp
 have hBm:(B.map vcV).length=B.length:=by simp
 repeat' ((conv=>whnf);first|refine zc hva ?_|refine zc hvb ?_|refine iH rfl (.inl rfl) rfl (of_decide_eq_true rfl) (aM5 _) (show(A.map vcV).length+(B.map vcV).length<=1000000000 by omega) ?_|refine zg ?_|refine zi ?_|refine zv ?_)
 all_goals conv=>whnf
 have hCm:(A++B).length=A.length+B.length:=List.length_append
 have hmap:A.map vcV++B.map vcV=(A++B).map vcV:=by simp
 generalize hC:A++B=C at*
 have hCl:(C.map vcV).length=C.length:=by simp
 refine aU (A:=List Vc) (B:=List Vc) (fun D R=>mkSt [(2, .fn g []),(3, .box 3 0),(4, .box 4 0),(13, .arr 10 1),(14,I C.length),(15,I D.length)] [(3,(shV a).cells),(4,(shV b).cells)] [(10,⟨1, .own,76,C.map vcV⟩)]) (fun D R=>C=D++R/\∀q∈D,touchAt a b Q q) (fun D R=>R.length) [] C ?_ ⟨rfl,by simp⟩ (fun D R hp=>?_)
 ·rw[<-hmap]
  refine dV ?_ ?_ ?_ ?_
  all_goals repeat' (first|exact trivial|refine And.intro ?_ ?_|with_reducible rfl|exact(fun h=>by cases h)|exact Nat.le_refl _|omega|exact rfl)
  all_goals (try rw[hmap,List.length_map])
 obtain⟨hp,hD⟩:=hp
 cases R with
 |nil=>
  have hlen:C.length=D.length:=by rw[hp];simp
  repeat' ((conv=>whnf);first|(exfalso;omega)|refine zg ?_|refine zz (fun _=>?_) fun _=>?_|refine zr ?_)
  all_goals conv=>whnf
  refine aA (fE (hr.2 fun q hq=>?_))
  rw[hp,List.append_nil]at hq
  exact hD q hq
 |cons q R=>
  have hlen:=aO hp
  have ha1:=aD4 a q ha
  have hb1:=aD4 b q hb
  have ha2:=aW8 a q ha ha7
  have hb2:=aW8 b q hb hb7
  have hgg:=hg (jE a q) (jE b q)
  have hT:touchAt a b Q q↔(lJ a q=1->lJ b q=1->Q (jE a q) (jE b q)):=Iff.rfl
  have hqC:q∈C:=by rw[hp];simp
  repeat' ((conv=>whnf);first|(exfalso;omega)|refine dS rfl rfl (by show 0<=_/\_< ((C.map vcV).length:Int);omega) ?_|refine aF (l:=C) (A:=D) (x:=q) (B:=R) hp (by omega) ?_|refine zc ha1 ?_|refine zc hb1 ?_|refine zc ha2 ?_|refine zc hb2 ?_|refine zc hgg ?_|refine zg ?_|refine zi ?_|refine za ?_|refine zn ?_|refine zv ?_|refine zz (fun _=>?_) fun _=>?_|refine zr ?_)
  all_goals conv=>whnf
  all_goals first
   |exact aA (aC (fun h=>absurd ((hr.1 h) q hqC (by assumption) (by assumption)) (by assumption)))
   |skip
  all_goals refine⟨(D++[q],R),?_,⟨by rw[hp];simp,fun z hz=>?_⟩,by simp⟩
  all_goals first
   |(rcases List.mem_append.1 hz with hz|hz
     ·exact hD z hz
     ·rw[List.mem_singleton.1 hz]
      exact fun h1 h2=>by first|assumption|exact absurd h1 (by assumption)|exact absurd h2 (by assumption))
   |skip
  all_goals simp only[List.length_append,List.length_singleton]
  ·exact zj
  ·exact zj
  ·exact zj
def aO3(c s:Sh):Prop:=¬rJ c s [2]/\¬bL9 s c 0/\¬bL9 c s 2/\bD2 c s (fun x y=>¬jH y (x.2,x.1))
theorem dP2(x y:Sg):Sp 224 [sgV x,sgV y] (DB (¬jH y (x.2,x.1))):=by
 refine zsp Tryz.func224 ?_
 have h1:=bX9 x
 have h2:=cT5 y (x.2,x.1)
 repeat' ((conv=>whnf);first|refine zc h1 ?_|refine zc h2 ?_|refine zg ?_|refine zi ?_|refine zr ?_)
 all_goals conv=>whnf
 all_goals exact aA (aF6 dW)
theorem eS8:eU0 224 (fun x y=>¬jH y (x.2,x.1)):=fun x y=>dP2 x y
theorem cG3{s:Sh}(h:bG s):(rV s).length<=80:=by
 unfold rV
 rw[List.length_flatten]
 exact h.2.2.1
theorem yB{s:Sh}(h:bG s):s.holes.length<=6:=h.1
theorem iT{s:Sh}(h:bG s):gV s:=by
 have h1:∀r∈rings s,r.length<=40:=fun r hr=>(h.2.1 r hr).2.1
 refine⟨?_,?_,fun r hr=>?_⟩
 ·have:=h1 s.outer (by unfold rings;simp)
  omega
 ·have:=h.1
  omega
 ·have:=h1 r (by unfold rings;simp[hr])
  omega
theorem cO1(c s:Sh)(hc:bG c)(hs:bG s):Sp 162 [shV c,shV s] (DB (aO3 c s)):=by
 refine zsp Tryz.func162 ?_
 have v1:=cG3 hc
 have v2:=cG3 hs
 have m1:=bX6 c s [2] (iT hc) (yB hc) (iT hs) (yB hs) (by decide)
 have m2:=bK5 s c 0 (iT hs) (yB hs) (iT hc) (by omega)
 have m3:=bK5 c s 2 (iT hc) (yB hc) (iT hs) (by omega)
 have m4:=cZ6 eS8 c s (iT hc) (yB hc) (iT hs) (yB hs)
 have hr:aO3 c s↔¬rJ c s [2]/\¬bL9 s c 0/\¬bL9 c s 2/\bD2 c s (fun x y=>¬jH y (x.2,x.1)):=Iff.rfl
 generalize aO3 c s=P at*
 generalize rJ c s [2] =p1 at*
 generalize bL9 s c 0=p2 at*
 generalize bL9 c s 2=p3 at*
 generalize bD2 c s (fun x y=>¬jH y (x.2,x.1))=p4 at*
 repeat' ((conv=>whnf);first|refine zc m1 ?_|refine zc m2 ?_|refine zc m3 ?_|refine zc m4 ?_|refine zg ?_|refine zn ?_|refine zz (fun _=>?_) fun _=>?_|refine zr ?_)
 all_goals conv=>whnf
 all_goals first
  |exact aA (aC (fun h=>absurd (by assumption) (hr.1 h).1))
  |exact aA (aC (fun h=>absurd (by assumption) (hr.1 h).2.1))
  |exact aA (aC (fun h=>absurd (by assumption) (hr.1 h).2.2.1))
  |exact aA (fQ ⟨fun h=>hr.2 ⟨by assumption,by assumption,by assumption,h⟩,fun h=>(hr.1 h).2.2.2⟩)
  |skip
noncomputable def lI(c s:Sh):Prop:=bG c/\bG s/\aO3 c s
noncomputable def pO(c s:Sh):Int:=open Classical in if bG c/\bG s then 0 else 11
theorem aA6(c s:Sh)(hc:gV c)(hs:gV s):Sp 96 [shV c,shV s] (.tup [DB (lI c s),I (pO c s)]):=by
 refine zsp Tryz.func96 ?_
 have m1:=kK c hc
 have m2:=kK s hs
 by_cases h1:bG c
 ·by_cases h2:bG s
  ·have e1:DB (lI c s)=DB (aO3 c s):=congrArg (fun b=>V.lit (.bool b)) (fQ ⟨fun h=>h.2.2,fun h=>⟨h1,h2,h⟩⟩)
   have e2:pO c s=0:=if_pos ⟨h1,h2⟩
   have m3:=cO1 c s h1 h2
   rw[e1,e2]
   repeat' ((conv=>whnf);first|(exfalso;contradiction)|refine zc m1 ?_|refine zc m2 ?_|refine zc m3 ?_|refine zg ?_|refine zn ?_|refine zz (fun _=>?_) fun _=>?_|refine zr ?_)
   all_goals conv=>whnf
   all_goals first|exact aG rfl|exact aK rfl|exact aP rfl|exact zt|exact zu
  ·have e1:DB (lI c s)= .lit (.bool false):=congrArg (fun b=>V.lit (.bool b)) (dW.2 (fun h=>h2 h.2.1))
   have e2:pO c s=11:=if_neg (fun h=>h2 h.2)
   rw[e1,e2]
   repeat' ((conv=>whnf);first|(exfalso;contradiction)|refine zc m1 ?_|refine zc m2 ?_|refine zg ?_|refine zn ?_|refine zz (fun _=>?_) fun _=>?_|refine zr ?_)
   all_goals conv=>whnf
   all_goals first|exact aG rfl|exact aK rfl|exact aP rfl|exact zt|exact zu
 ·have e1:DB (lI c s)= .lit (.bool false):=congrArg (fun b=>V.lit (.bool b)) (dW.2 (fun h=>h1 h.1))
  have e2:pO c s=11:=if_neg (fun h=>h1 h.1)
  rw[e1,e2]
  repeat' ((conv=>whnf);first|(exfalso;contradiction)|refine zc m1 ?_|refine zg ?_|refine zn ?_|refine zz (fun _=>?_) fun _=>?_|refine zr ?_)
  all_goals conv=>whnf
  all_goals first|exact aG rfl|exact aK rfl|exact aP rfl|exact zt|exact zu
end Go.Proofs.Led
