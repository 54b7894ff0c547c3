/-
  A bar that is cut into pieces, a rest and scrap.
-/
import Derived.Test.YtkhhdojgbkophaaGreatB41
import Derived.Test.YtkhhdojgbkophaaGreatN6
set_option linter.unusedVariables false
set_option linter.unusedSimpArgs false
namespace Go.Proofs.Led
open Go Go.Proofs Go.Ab
set_option maxRecDepth 100000
set_option maxHeartbeats 8000000
theorem bH1{x:V}(h:∃xs,x= .agg xs):(nilC x).cells=x.cells.map nil1:=by
 obtain⟨xs,rfl⟩:=h
 show(V.agg (mapR nil1 xs)).cells=_
 rw[dU]
 rfl
theorem flat_nil{l:List V}(ha:∀x∈l,∃xs,x= .agg xs):(l.map nilC).flatMap V.cells=(l.flatMap V.cells).map nil1:=by
 induction l with
 |nil=>rfl
 |cons x l ih=>
  rw[List.map_cons,List.flatMap_cons,List.flatMap_cons,List.map_append,bH1 (ha x (by simp)),ih (fun y hy=>ha y (by simp[hy]))]
theorem eZ6{w:World}{G:Gh}{v:Value}{l:List V}(ha:∀x∈l,∃xs,x= .agg xs)(h:Rv w G v (.sl l)):Rv w G v (.sl (l.map nilC)):=by
 cases h with
 |slN=>exact .slN
 |slS a c _ sz cc hc hm hf hz hcell h=>
  have e:l.length=(l.map nilC).length:=by simp
  rw[e]
  refine .slS a c (l.map nilC) sz cc (by rw[<-e];exact hc) hm (fun h0=>hf (by rw[e];exact h0)) ?_ ?_ ?_
  ·intro x hx
   obtain⟨y,hy,rfl⟩:=List.mem_map.1 hx
   rw[bH1 (ha y hy),List.length_map]
   exact hz y hy
  ·intro j y hy
   rw[flat_nil ha,List.getElem?_map]at hy
   cases hq:(l.flatMap V.cells)[j]? with
   |none=>rw[hq]at hy;cases hy
   |some z=>exact hcell j z hq
  ·intro j y hy
   rw[flat_nil ha,List.getElem?_map]at hy
   cases hq:(l.flatMap V.cells)[j]? with
   |none=>rw[hq]at hy;cases hy
   |some z=>
    rw[hq]at hy
    cases hy
    exact dC4 (h j z hq)
theorem yE{f:FuncId}{l:List V}{l':List V}{r:V}(ha:∀x∈l,∃xs,x= .agg xs)(e:l.map nilC=l')(h:Sp f [.sl l'] r):Sp f [.sl l] r:=by
 subst e
 refine⟨h.1,fun w G cs h1 h2 h3 h4 h5=>h.2 w G cs h1 h2 h3 (fun j v y q1 q2=>?_) h5⟩
 cases j with
 |zero=>
  have hy:y= .sl (l.map nilC):=(Option.some.inj q2).symm
  subst hy
  have h6:(V.sl l).pure/\Rv w G v (.sl l):=h4 0 v (.sl l) q1 rfl
  refine⟨?_,eZ6 ha h6.2⟩
  have h7:=h6.1
  simp only[V.pure,V.ok]at h7⊢
  refine aH.2 fun z hz=>?_
  obtain⟨u,hu,rfl⟩:=List.mem_map.1 hz
  exact dG1 (aH.1 h7 u hu)
 |succ j=>simp at q2
theorem wX{k g:Nat}{l:List V}:aL5 k g l (.arr k g)= .sl l:=by simp[aL5]
def cbC(b:Bar)(c r:V)(z:Int):List V:=[I 5,I b.id,S aI,I 0,S aI,S aI,I 0,nilV,nilV,nilV,I 0,S aI,S aI,I 0,nilV,c,r,I z]
def cbN(b:Bar)(c r:V)(z:Int):List V:=[.agg [I 2,I 0,S aI,I 0,S aI,S aI,I 0,nilV,nilV,nilV,I b.id,S b.grade,S b.heat,I b.length, .sl (b.defects.map ivV),nilV,nilV,I 0],
 .agg [I 3,I b.id,S (chB 112),I 0,S aI,S aI,I 0,nilV,nilV,nilV,I 0,S aI,S aI,I 0,nilV,nilV,nilV,I 0], .agg (cbC b c r z)]
theorem aQ8{b:Bar}{c:List Made}{r:List Rest}{cv rv:V}{z:Int}(hc:nil1 cv= .sl (c.map dK))(hr:nil1 rv= .sl (r.map bY)):(cbN b cv rv z).map nilC=[nD b,uX b.id (chB 112),xC b.id c r z].map aS:=by
 have h3:nilC (.agg (cbC b cv rv z))= .agg (cbC b cv rv z|>.map nil1):=by
  show V.agg (mapR nil1 _)=_
  rw[dU]
 show [nilC _,nilC _,nilC (.agg (cbC b cv rv z))] =_
 rw[h3]
 unfold cbC
 simp only[List.map_cons,List.map_nil]
 rw[hc,hr]
 rfl
theorem aF3{b:Bar}{cv rv:V}{z:Int}:∀x∈cbN b cv rv z,∃xs,x= .agg xs:=by
 intro x hx
 simp only[cbN,List.mem_cons,List.not_mem_nil,or_false]at hx
 rcases hx with rfl|rfl|rfl<;>exact⟨_,rfl⟩
theorem eD3{b:Bar}{k g:Nat}{l:List V}{r:V}{z:Int}:MeltL k g l (cbC b (.arr k g) r z) (cbC b (.sl l) r z):=by
 unfold cbC
 simp[MeltL]
noncomputable def cbS(sz:List Int)(b:Bar)(R:V)(A:List (Nat×AE))(i:Nat):List Made×Int->St
 |([],lf)=>mkSt [(1, .sl (sz.map U)),(3, .box 3 0),(7, .box 7 0),(8,I lf),(10,I i)] [(3,barC b),(7,cbC b nilV R 0)] A
 |(c::C,lf)=>mkSt [(1, .sl (sz.map U)),(3, .box 3 0),(7, .box 7 0),(8,I lf),(10,I i)] [(3,barC b),(7,cbC b (.arr 85 C.length) R 0)] ((85,⟨C.length, .own,82,(c::C).map dK⟩)::A)
theorem cZ5{n:Int}(h:0<=n):n.tmod 40=n% 40:=Int.tmod_eq_emod_of_nonneg h
theorem cC9{n:Int}{i:Nat}{q:List Made×Int}(h:CbOk n i q):q.2<=n:=by
 have key:∀(l:List Made),(∀x∈l,1<=x.size)->0<=(l.map Made.size).sum:=by
  intro l
  induction l with
  |nil=>simp
  |cons x l ih=>
   intro h
   have h1:=ih (fun y hy=>h y (by simp[hy]))
   have h2:=h x (by simp)
   rw[List.map_cons,List.sum_cons];omega
 have:=key q.1 (fun x hx=>(h.each x hx).2.2.2)
 have:=h.sum
 omega
theorem lawCutBar_spec(b:Bar)(sz:List Int)(at_:Int)(hbl:Len6 b.defects)(hsl:Len6 sz)(hz:∀n∈sz,0<=n/\n<=255)(hat:0<=at_/\at_<=255):Sp 6 [barV b, .sl (sz.map U),U at_] (.lit (.bool true)):=by
 refine zsp Tryz.func6 ?_
 have hm:(sz.map U).length=sz.length:=by simp
 have g0:=zB
 have g1:=aT9 b
 have g2:=rvalidBar_spec b hbl
 by_cases hg:aJ9 b/\fM b/\b.id<=900/\sz.length<=8
 rotate_left
 ·repeat' ((conv=>whnf);first|(exfalso;exact hg ⟨by assumption,by assumption,by omega,by omega⟩)|refine zc g0 ?_|refine zc g1 ?_|refine zc g2 ?_|refine zg ?_|refine zi ?_|refine za ?_|refine zw ?_|refine zy ?_|refine zo ?_|refine zn ?_|refine zd (fun hd=>?_) (fun hd=>?_)|refine zl (fun hlt=>?_) (fun hlt=>?_)|refine zk (fun hle=>?_) (fun hle=>?_)|refine ze (fun heq=>?_) (fun heq=>?_)|refine zm (fun x hx=>?_)|refine zv ?_|refine zb (fun hbb=>?_) (fun hbb=>?_)|refine zr ?_|refine zq ?_)
  all_goals conv=>whnf
  all_goals first|exact aG rfl|exact aK rfl|exact aP rfl|exact zt|exact zu
 obtain⟨hfew,hval,hid,hsz⟩:=hg
 rw[DB_t hfew]at g1
 rw[DB_t hval]at g2
 have hlen1:=hval.2.1
 have hlen2:=hval.2.2.1
 by_cases ha:0<at_/\at_<b.length
 ·have hlf:0<=at_:=by omega
  repeat' ((conv=>whnf);first|(exfalso;omega)|refine gX (of_decide_eq_true rfl) (dA rfl) (show(1:Nat)<=1000000000 from by decide) ?_|refine zc g0 ?_|refine zc g1 ?_|refine zc g2 ?_|refine zg ?_|refine zi ?_|refine za ?_|refine zw ?_|refine zy ?_|refine zo ?_|refine zn ?_|refine zd (fun hd=>?_) (fun hd=>?_)|refine zl (fun hlt=>?_) (fun hlt=>?_)|refine zk (fun hle=>?_) (fun hle=>?_)|refine ze (fun heq=>?_) (fun heq=>?_)|refine zm (fun x hx=>?_)|refine zv ?_|refine zb (fun hbb=>?_) (fun hbb=>?_)|refine zr ?_|refine zq ?_)
  refine aU (A:=List Int) (B:=List Int) (fun D R=>cbS sz b (.arr 59 0) [(59,⟨0, .own,80,[bY ⟨1000,bx0,at_,b.length⟩]⟩)] D.length (cbL D 0 ([],at_))) (fun D R=>sz=D++R) (fun D R=>R.length) [] sz ?_ rfl (fun D R hp=>?_)
  ·show Le T _ (mkSt [(1, .sl (sz.map U)),(3, .box 3 0),(7, .box 7 0),(8,I at_),(10,I 0)] [(3,barC b),(7,cbC b nilV (.arr 59 0) 0)] [(59,⟨0, .own,80,[bY ⟨1000,bx0,at_,b.length⟩]⟩)])
   exact zj
  cases R with
  |cons n R=>
   have hlen:=aO hp
   have hn:=hz n (by rw[hp];simp)
   have hsn:=aA9 D n 0 ([],at_)
   rw[Nat.zero_add]at hsn
   have hok:=bG0 hlf D
   have hleft:=hok.left
   have hsum:=cC9 hok
   have hmod:=cZ5 hn.1
   have hlD:((D++[n]).length:Int)=(D.length:Int)+1:=by simp
   generalize cbL D 0 ([],at_)=q at*
   obtain⟨C,lf⟩:=q
   simp only at hleft hsum
   have hst:uT (C,lf) D.length n=if 1+n% 40<=lf then(C++[⟨1001+D.length,chB 97,1+n% 40⟩],lf- (1+n% 40))else(C,lf):=rfl
   rw[hst]at hsn
   by_cases hc:1+n% 40<=lf
   ·rw[if_pos hc]at hsn
    cases C with
    |nil=>
     repeat' ((conv=>whnf);first|(exfalso;omega)|refine aB (l:=sz) (by omega) ?_|refine aF (l:=sz) (A:=D) (x:=n) (B:=R) hp (by omega) ?_|refine gX (of_decide_eq_true rfl) (dA rfl) (show(1:Nat)<=1000000000 from by decide) ?_|refine zg ?_|refine zi ?_|refine za ?_|refine zw ?_|refine zy ?_|refine zo ?_|refine zn ?_|refine zd (fun hd=>?_) (fun hd=>?_)|refine zl (fun hlt=>?_) (fun hlt=>?_)|refine zk (fun hle=>?_) (fun hle=>?_)|refine ze (fun heq=>?_) (fun heq=>?_)|refine zm (fun x hx=>?_)|refine zv ?_|refine zb (fun hbb=>?_) (fun hbb=>?_)|refine zr ?_|refine zq ?_)
     all_goals conv=>whnf
     refine⟨(D++[n],R),?_,by rw[hp];simp,by simp⟩
     show Le T _ (cbS sz b (.arr 59 0) [(59,⟨0, .own,80,[bY ⟨1000,bx0,at_,b.length⟩]⟩)] (D++[n]).length (cbL (D++[n]) 0 ([],at_)))
     rw[hsn]
     show Le T _ (mkSt [(1, .sl (sz.map U)),(3, .box 3 0),(7, .box 7 0),(8,I (lf- (1+n% 40))),(10,I ((D++[n]).length:Nat))] [(3,barC b),(7,cbC b (.arr 85 0) (.arr 59 0) 0)] ((85,⟨0, .own,82,[dK ⟨1001+D.length,chB 97,1+n% 40⟩]⟩):: [(59,⟨0, .own,80,[bY ⟨1000,bx0,at_,b.length⟩]⟩)]))
     rw[hlD,<-hmod]
     exact zj
    |cons c C=>
     have h00:(c::C).length=C.length+1:=rfl
     have hCl:(c::C).length<=D.length:=hok.len
     repeat' ((conv=>whnf);first|(exfalso;omega)|refine aB (l:=sz) (by omega) ?_|refine aF (l:=sz) (A:=D) (x:=n) (B:=R) hp (by omega) ?_|refine mX (l:=c::C) rfl rfl (.inl rfl) rfl (of_decide_eq_true rfl) rfl (by omega) ?_|refine zg ?_|refine zi ?_|refine za ?_|refine zw ?_|refine zy ?_|refine zo ?_|refine zn ?_|refine zd (fun hd=>?_) (fun hd=>?_)|refine zl (fun hlt=>?_) (fun hlt=>?_)|refine zk (fun hle=>?_) (fun hle=>?_)|refine ze (fun heq=>?_) (fun heq=>?_)|refine zm (fun x hx=>?_)|refine zv ?_|refine zb (fun hbb=>?_) (fun hbb=>?_)|refine zr ?_|refine zq ?_)
     all_goals conv=>whnf
     refine⟨(D++[n],R),?_,by rw[hp];simp,by simp⟩
     show Le T _ (cbS sz b (.arr 59 0) [(59,⟨0, .own,80,[bY ⟨1000,bx0,at_,b.length⟩]⟩)] (D++[n]).length (cbL (D++[n]) 0 ([],at_)))
     rw[hsn]
     have e1:((c::C)++[(⟨1001+D.length,chB 97,1+n% 40⟩:Made)]).map dK=(c::C).map dK++[dK ⟨1001+D.length,chB 97,1+n% 40⟩] :=by simp
     have e2:(C++[(⟨1001+D.length,chB 97,1+n% 40⟩:Made)]).length=C.length+1:=by simp
     show Le T _ (mkSt [(1, .sl (sz.map U)),(3, .box 3 0),(7, .box 7 0),(8,I (lf- (1+n% 40))),(10,I ((D++[n]).length:Nat))] [(3,barC b),(7,cbC b (.arr 85 (C++[(⟨1001+D.length,chB 97,1+n% 40⟩:Made)]).length) (.arr 59 0) 0)] ((85,⟨(C++[(⟨1001+D.length,chB 97,1+n% 40⟩:Made)]).length, .own,82,((c::C)++[(⟨1001+D.length,chB 97,1+n% 40⟩:Made)]).map dK⟩):: [(59,⟨0, .own,80,[bY ⟨1000,bx0,at_,b.length⟩]⟩)]))
     rw[e1,e2,hlD,<-hmod]
     exact zj
   ·rw[if_neg hc]at hsn
    cases C with
    |nil=>
     repeat' ((conv=>whnf);first|(exfalso;omega)|refine aB (l:=sz) (by omega) ?_|refine aF (l:=sz) (A:=D) (x:=n) (B:=R) hp (by omega) ?_|refine zg ?_|refine zi ?_|refine za ?_|refine zw ?_|refine zy ?_|refine zo ?_|refine zn ?_|refine zd (fun hd=>?_) (fun hd=>?_)|refine zl (fun hlt=>?_) (fun hlt=>?_)|refine zk (fun hle=>?_) (fun hle=>?_)|refine ze (fun heq=>?_) (fun heq=>?_)|refine zm (fun x hx=>?_)|refine zv ?_|refine zb (fun hbb=>?_) (fun hbb=>?_)|refine zr ?_|refine zq ?_)
     all_goals conv=>whnf
     refine⟨(D++[n],R),?_,by rw[hp];simp,by simp⟩
     show Le T _ (cbS sz b (.arr 59 0) [(59,⟨0, .own,80,[bY ⟨1000,bx0,at_,b.length⟩]⟩)] (D++[n]).length (cbL (D++[n]) 0 ([],at_)))
     rw[hsn]
     show Le T _ (mkSt [(1, .sl (sz.map U)),(3, .box 3 0),(7, .box 7 0),(8,I lf),(10,I ((D++[n]).length:Nat))] [(3,barC b),(7,cbC b nilV (.arr 59 0) 0)] [(59,⟨0, .own,80,[bY ⟨1000,bx0,at_,b.length⟩]⟩)])
     rw[hlD]
     exact zj
    |cons c C=>
     repeat' ((conv=>whnf);first|(exfalso;omega)|refine aB (l:=sz) (by omega) ?_|refine aF (l:=sz) (A:=D) (x:=n) (B:=R) hp (by omega) ?_|refine zg ?_|refine zi ?_|refine za ?_|refine zw ?_|refine zy ?_|refine zo ?_|refine zn ?_|refine zd (fun hd=>?_) (fun hd=>?_)|refine zl (fun hlt=>?_) (fun hlt=>?_)|refine zk (fun hle=>?_) (fun hle=>?_)|refine ze (fun heq=>?_) (fun heq=>?_)|refine zm (fun x hx=>?_)|refine zv ?_|refine zb (fun hbb=>?_) (fun hbb=>?_)|refine zr ?_|refine zq ?_)
     all_goals conv=>whnf
     refine⟨(D++[n],R),?_,by rw[hp];simp,by simp⟩
     show Le T _ (cbS sz b (.arr 59 0) [(59,⟨0, .own,80,[bY ⟨1000,bx0,at_,b.length⟩]⟩)] (D++[n]).length (cbL (D++[n]) 0 ([],at_)))
     rw[hsn]
     show Le T _ (mkSt [(1, .sl (sz.map U)),(3, .box 3 0),(7, .box 7 0),(8,I lf),(10,I ((D++[n]).length:Nat))] [(3,barC b),(7,cbC b (.arr 85 C.length) (.arr 59 0) 0)] ((85,⟨C.length, .own,82,(c::C).map dK⟩):: [(59,⟨0, .own,80,[bY ⟨1000,bx0,at_,b.length⟩]⟩)]))
     rw[hlD]
     exact zj
  |nil=>
   have hlen:sz.length=D.length:=by rw[hp];simp
   have e:D=sz:=by rw[hp];simp
   subst e
   have hq0:∃q,cbL D 0 ([],at_)=q:=⟨_,rfl⟩
   obtain⟨⟨C,lf⟩,hq⟩:=hq0
   have hok:=bG0 hlf D
   rw[hq]at hok
   have hCl:C.length<=D.length:=hok.len
   have hev:cbEv b D at_=xC b.id C ([⟨1000,bx0,at_,b.length⟩]) lf:=by
    unfold cbEv nI oC
    rw[if_pos ha,if_pos ha,hq]
   obtain⟨s,e1,e2,e3,e4,e5,e6⟩:=cR2 (at_:=at_) hval hid hsz
   rw[hev]at e1 e3 e4 e6
   change s.pieces.length=C.length at e3
   change s.scrap.2=lf at e4
   have hr1:([⟨1000,bx0,at_,b.length⟩] :List Rest).length<=1:=by simp
   have f0:tN dN:=⟨⟨Nat.zero_le _,Nat.zero_le _,fun h hh=>by cases hh⟩,Nat.zero_le _,fun h hh=>by cases hh⟩
   have k0:=vX [nD b,uX b.id (chB 112),xC b.id C ([⟨1000,bx0,at_,b.length⟩]) lf] (fun e he=>by
    simp only[List.mem_cons,List.not_mem_nil,or_false]at he
    rcases he with rfl|rfl|rfl
    ·exact⟨f0,Nat.le_trans hval.2.2.2.1 (by decide),Nat.zero_le _,Nat.zero_le _⟩
    ·exact⟨f0,Nat.zero_le _,Nat.zero_le _,Nat.zero_le _⟩
    ·exact⟨f0,Nat.zero_le _,by show C.length<=_;omega,by show([⟨1000,bx0,at_,b.length⟩] :List Rest).length<=_;omega⟩) (by show 1+(1+(1+C.length+([⟨1000,bx0,at_,b.length⟩] :List Rest).length+0))<=1000000;omega) (by show 3<=1000000;decide)
   rw[e1]at k0
   change Sp _ _ (.tup [invV s,I 3,I 0])at k0
   have k2:=aL9 e2 (by decide)
   have hsp:=e2.ok.lp
   have hpm:(s.pieces.map aZ).length=s.pieces.length:=by simp
   have k3:=(kG e2.ok (e:=xC b.id C ([⟨1000,bx0,at_,b.length⟩]) lf) (by show 1000+(1+C.length+([⟨1000,bx0,at_,b.length⟩] :List Rest).length)<=1000000;omega) ⟨f0,Nat.zero_le _,by show C.length<=_;omega,by show([⟨1000,bx0,at_,b.length⟩] :List Rest).length<=_;omega⟩).1
   cases C with
   |nil=>
    rw[hq]
    have k1:=yE aF3 (aQ8 (b:=b) (c:=[]) (r:=[⟨1000,bx0,at_,b.length⟩]) (cv:=nilV) (rv:=(.sl [bY ⟨1000,bx0,at_,b.length⟩])) (z:=lf) rfl rfl) k0
    have hpl:s.pieces.length=0:=e3
    have hcm:(List.map dK []).length=0:=by simp
    rcases e6 with h7|⟨h8,hc0,hr0⟩
    ·rw[h7]at k3
     clear k0 hev hq e1 e2
     repeat' ((conv=>whnf);first|(exfalso;omega)|(exfalso;contradiction)|rw[wX]|refine bB4 (aZ8 59 rfl (.inl rfl)) ?_|refine zc k1 ?_|refine zc k2 ?_|refine zc k3 ?_|refine zg ?_|refine zi ?_|refine za ?_|refine zw ?_|refine zy ?_|refine zo ?_|refine zn ?_|refine zd (fun hd=>?_) (fun hd=>?_)|refine zl (fun hlt=>?_) (fun hlt=>?_)|refine zk (fun hle=>?_) (fun hle=>?_)|refine ze (fun heq=>?_) (fun heq=>?_)|refine zm (fun x hx=>?_)|refine zv ?_|refine zb (fun hbb=>?_) (fun hbb=>?_)|refine zr ?_|refine zq ?_)
     all_goals conv=>whnf
     all_goals first
      |exact aK rfl
      |skip
    ·cases hr0
   |cons c C=>
    rw[hq]
    have k1:=yE aF3 (aQ8 (b:=b) (c:=(c::C)) (r:=[⟨1000,bx0,at_,b.length⟩]) (cv:=(.sl ((c::C).map dK))) (rv:=(.sl [bY ⟨1000,bx0,at_,b.length⟩])) (z:=lf) rfl rfl) k0
    have hpl:s.pieces.length=C.length+1:=e3
    have hcm:(List.map dK (c::C)).length=C.length+1:=by simp
    rcases e6 with h7|⟨h8,hc0,hr0⟩
    ·rw[h7]at k3
     clear k0 hev hq e1 e2
     repeat' ((conv=>whnf);first|(exfalso;omega)|(exfalso;contradiction)|(exfalso;refine heq ?_;show((List.map aZ s.pieces).length:Int)=((List.map dK (c::C)).length:Int);omega)|rw[wX]|refine bB4 (Le.trans (le_meltAt 98 85 (xs:=cbC b (.arr 85 C.length) (.arr 59 0) lf) (cbC b (.sl ((c::C).map dK)) (.arr 59 0) lf) rfl (.inl rfl) rfl eD3) (aZ8 59 rfl (.inl rfl))) ?_|refine zc k1 ?_|refine zc k2 ?_|refine zc k3 ?_|refine zg ?_|refine zi ?_|refine za ?_|refine zw ?_|refine zy ?_|refine zo ?_|refine zn ?_|refine zd (fun hd=>?_) (fun hd=>?_)|refine zl (fun hlt=>?_) (fun hlt=>?_)|refine zk (fun hle=>?_) (fun hle=>?_)|refine ze (fun heq=>?_) (fun heq=>?_)|refine zm (fun x hx=>?_)|refine zv ?_|refine zb (fun hbb=>?_) (fun hbb=>?_)|refine zr ?_|refine zq ?_)
     all_goals conv=>whnf
     all_goals first
      |exact aK rfl
      |skip
    ·cases hc0
 ·have hlf:0<=b.length:=by omega
  by_cases h0:0<at_
  ·skip
   repeat' ((conv=>whnf);first|(exfalso;omega)|refine zc g0 ?_|refine zc g1 ?_|refine zc g2 ?_|refine zg ?_|refine zi ?_|refine za ?_|refine zw ?_|refine zy ?_|refine zo ?_|refine zn ?_|refine zd (fun hd=>?_) (fun hd=>?_)|refine zl (fun hlt=>?_) (fun hlt=>?_)|refine zk (fun hle=>?_) (fun hle=>?_)|refine ze (fun heq=>?_) (fun heq=>?_)|refine zm (fun x hx=>?_)|refine zv ?_|refine zb (fun hbb=>?_) (fun hbb=>?_)|refine zr ?_|refine zq ?_)
   refine aU (A:=List Int) (B:=List Int) (fun D R=>cbS sz b nilV [] D.length (cbL D 0 ([],b.length))) (fun D R=>sz=D++R) (fun D R=>R.length) [] sz ?_ rfl (fun D R hp=>?_)
   ·show Le T _ (mkSt [(1, .sl (sz.map U)),(3, .box 3 0),(7, .box 7 0),(8,I b.length),(10,I 0)] [(3,barC b),(7,cbC b nilV nilV 0)] [])
    exact zj
   cases R with
   |cons n R=>
    have hlen:=aO hp
    have hn:=hz n (by rw[hp];simp)
    have hsn:=aA9 D n 0 ([],b.length)
    rw[Nat.zero_add]at hsn
    have hok:=bG0 hlf D
    have hleft:=hok.left
    have hsum:=cC9 hok
    have hmod:=cZ5 hn.1
    have hlD:((D++[n]).length:Int)=(D.length:Int)+1:=by simp
    generalize cbL D 0 ([],b.length)=q at*
    obtain⟨C,lf⟩:=q
    simp only at hleft hsum
    have hst:uT (C,lf) D.length n=if 1+n% 40<=lf then(C++[⟨1001+D.length,chB 97,1+n% 40⟩],lf- (1+n% 40))else(C,lf):=rfl
    rw[hst]at hsn
    by_cases hc:1+n% 40<=lf
    ·rw[if_pos hc]at hsn
     cases C with
     |nil=>
      repeat' ((conv=>whnf);first|(exfalso;omega)|refine aB (l:=sz) (by omega) ?_|refine aF (l:=sz) (A:=D) (x:=n) (B:=R) hp (by omega) ?_|refine gX (of_decide_eq_true rfl) (dA rfl) (show(1:Nat)<=1000000000 from by decide) ?_|refine zg ?_|refine zi ?_|refine za ?_|refine zw ?_|refine zy ?_|refine zo ?_|refine zn ?_|refine zd (fun hd=>?_) (fun hd=>?_)|refine zl (fun hlt=>?_) (fun hlt=>?_)|refine zk (fun hle=>?_) (fun hle=>?_)|refine ze (fun heq=>?_) (fun heq=>?_)|refine zm (fun x hx=>?_)|refine zv ?_|refine zb (fun hbb=>?_) (fun hbb=>?_)|refine zr ?_|refine zq ?_)
      all_goals conv=>whnf
      refine⟨(D++[n],R),?_,by rw[hp];simp,by simp⟩
      show Le T _ (cbS sz b nilV [] (D++[n]).length (cbL (D++[n]) 0 ([],b.length)))
      rw[hsn]
      show Le T _ (mkSt [(1, .sl (sz.map U)),(3, .box 3 0),(7, .box 7 0),(8,I (lf- (1+n% 40))),(10,I ((D++[n]).length:Nat))] [(3,barC b),(7,cbC b (.arr 85 0) nilV 0)] ((85,⟨0, .own,82,[dK ⟨1001+D.length,chB 97,1+n% 40⟩]⟩):: []))
      rw[hlD,<-hmod]
      exact zj
     |cons c C=>
      have h00:(c::C).length=C.length+1:=rfl
      have hCl:(c::C).length<=D.length:=hok.len
      repeat' ((conv=>whnf);first|(exfalso;omega)|refine aB (l:=sz) (by omega) ?_|refine aF (l:=sz) (A:=D) (x:=n) (B:=R) hp (by omega) ?_|refine mX (l:=c::C) rfl rfl (.inl rfl) rfl (of_decide_eq_true rfl) rfl (by omega) ?_|refine zg ?_|refine zi ?_|refine za ?_|refine zw ?_|refine zy ?_|refine zo ?_|refine zn ?_|refine zd (fun hd=>?_) (fun hd=>?_)|refine zl (fun hlt=>?_) (fun hlt=>?_)|refine zk (fun hle=>?_) (fun hle=>?_)|refine ze (fun heq=>?_) (fun heq=>?_)|refine zm (fun x hx=>?_)|refine zv ?_|refine zb (fun hbb=>?_) (fun hbb=>?_)|refine zr ?_|refine zq ?_)
      all_goals conv=>whnf
      refine⟨(D++[n],R),?_,by rw[hp];simp,by simp⟩
      show Le T _ (cbS sz b nilV [] (D++[n]).length (cbL (D++[n]) 0 ([],b.length)))
      rw[hsn]
      have e1:((c::C)++[(⟨1001+D.length,chB 97,1+n% 40⟩:Made)]).map dK=(c::C).map dK++[dK ⟨1001+D.length,chB 97,1+n% 40⟩] :=by simp
      have e2:(C++[(⟨1001+D.length,chB 97,1+n% 40⟩:Made)]).length=C.length+1:=by simp
      show Le T _ (mkSt [(1, .sl (sz.map U)),(3, .box 3 0),(7, .box 7 0),(8,I (lf- (1+n% 40))),(10,I ((D++[n]).length:Nat))] [(3,barC b),(7,cbC b (.arr 85 (C++[(⟨1001+D.length,chB 97,1+n% 40⟩:Made)]).length) nilV 0)] ((85,⟨(C++[(⟨1001+D.length,chB 97,1+n% 40⟩:Made)]).length, .own,82,((c::C)++[(⟨1001+D.length,chB 97,1+n% 40⟩:Made)]).map dK⟩):: []))
      rw[e1,e2,hlD,<-hmod]
      exact zj
    ·rw[if_neg hc]at hsn
     cases C with
     |nil=>
      repeat' ((conv=>whnf);first|(exfalso;omega)|refine aB (l:=sz) (by omega) ?_|refine aF (l:=sz) (A:=D) (x:=n) (B:=R) hp (by omega) ?_|refine zg ?_|refine zi ?_|refine za ?_|refine zw ?_|refine zy ?_|refine zo ?_|refine zn ?_|refine zd (fun hd=>?_) (fun hd=>?_)|refine zl (fun hlt=>?_) (fun hlt=>?_)|refine zk (fun hle=>?_) (fun hle=>?_)|refine ze (fun heq=>?_) (fun heq=>?_)|refine zm (fun x hx=>?_)|refine zv ?_|refine zb (fun hbb=>?_) (fun hbb=>?_)|refine zr ?_|refine zq ?_)
      all_goals conv=>whnf
      refine⟨(D++[n],R),?_,by rw[hp];simp,by simp⟩
      show Le T _ (cbS sz b nilV [] (D++[n]).length (cbL (D++[n]) 0 ([],b.length)))
      rw[hsn]
      show Le T _ (mkSt [(1, .sl (sz.map U)),(3, .box 3 0),(7, .box 7 0),(8,I lf),(10,I ((D++[n]).length:Nat))] [(3,barC b),(7,cbC b nilV nilV 0)] [])
      rw[hlD]
      exact zj
     |cons c C=>
      repeat' ((conv=>whnf);first|(exfalso;omega)|refine aB (l:=sz) (by omega) ?_|refine aF (l:=sz) (A:=D) (x:=n) (B:=R) hp (by omega) ?_|refine zg ?_|refine zi ?_|refine za ?_|refine zw ?_|refine zy ?_|refine zo ?_|refine zn ?_|refine zd (fun hd=>?_) (fun hd=>?_)|refine zl (fun hlt=>?_) (fun hlt=>?_)|refine zk (fun hle=>?_) (fun hle=>?_)|refine ze (fun heq=>?_) (fun heq=>?_)|refine zm (fun x hx=>?_)|refine zv ?_|refine zb (fun hbb=>?_) (fun hbb=>?_)|refine zr ?_|refine zq ?_)
      all_goals conv=>whnf
      refine⟨(D++[n],R),?_,by rw[hp];simp,by simp⟩
      show Le T _ (cbS sz b nilV [] (D++[n]).length (cbL (D++[n]) 0 ([],b.length)))
      rw[hsn]
      show Le T _ (mkSt [(1, .sl (sz.map U)),(3, .box 3 0),(7, .box 7 0),(8,I lf),(10,I ((D++[n]).length:Nat))] [(3,barC b),(7,cbC b (.arr 85 C.length) nilV 0)] ((85,⟨C.length, .own,82,(c::C).map dK⟩):: []))
      rw[hlD]
      exact zj
   |nil=>
    have hlen:sz.length=D.length:=by rw[hp];simp
    have e:D=sz:=by rw[hp];simp
    subst e
    have hq0:∃q,cbL D 0 ([],b.length)=q:=⟨_,rfl⟩
    obtain⟨⟨C,lf⟩,hq⟩:=hq0
    have hok:=bG0 hlf D
    rw[hq]at hok
    have hCl:C.length<=D.length:=hok.len
    have hev:cbEv b D at_=xC b.id C ([]) lf:=by
     unfold cbEv nI oC
     rw[if_neg ha,if_neg ha,hq]
    obtain⟨s,e1,e2,e3,e4,e5,e6⟩:=cR2 (at_:=at_) hval hid hsz
    rw[hev]at e1 e3 e4 e6
    change s.pieces.length=C.length at e3
    change s.scrap.2=lf at e4
    have hr1:([] :List Rest).length<=1:=by simp
    have f0:tN dN:=⟨⟨Nat.zero_le _,Nat.zero_le _,fun h hh=>by cases hh⟩,Nat.zero_le _,fun h hh=>by cases hh⟩
    have k0:=vX [nD b,uX b.id (chB 112),xC b.id C ([]) lf] (fun e he=>by
     simp only[List.mem_cons,List.not_mem_nil,or_false]at he
     rcases he with rfl|rfl|rfl
     ·exact⟨f0,Nat.le_trans hval.2.2.2.1 (by decide),Nat.zero_le _,Nat.zero_le _⟩
     ·exact⟨f0,Nat.zero_le _,Nat.zero_le _,Nat.zero_le _⟩
     ·exact⟨f0,Nat.zero_le _,by show C.length<=_;omega,by show([] :List Rest).length<=_;omega⟩) (by show 1+(1+(1+C.length+([] :List Rest).length+0))<=1000000;omega) (by show 3<=1000000;decide)
    rw[e1]at k0
    change Sp _ _ (.tup [invV s,I 3,I 0])at k0
    have k2:=aL9 e2 (by decide)
    have hsp:=e2.ok.lp
    have hpm:(s.pieces.map aZ).length=s.pieces.length:=by simp
    have k3:=(kG e2.ok (e:=xC b.id C ([]) lf) (by show 1000+(1+C.length+([] :List Rest).length)<=1000000;omega) ⟨f0,Nat.zero_le _,by show C.length<=_;omega,by show([] :List Rest).length<=_;omega⟩).1
    cases C with
    |nil=>
     rw[hq]
     have k1:=yE aF3 (aQ8 (b:=b) (c:=[]) (r:=[]) (cv:=nilV) (rv:=nilV) (z:=lf) rfl rfl) k0
     have hpl:s.pieces.length=0:=e3
     have hcm:(List.map dK []).length=0:=by simp
     rcases e6 with h7|⟨h8,hc0,hr0⟩
     ·rw[h7]at k3
      clear k0 hev hq e1 e2
      repeat' ((conv=>whnf);first|(exfalso;omega)|(exfalso;contradiction)|rw[wX]|refine zc k1 ?_|refine zc k2 ?_|refine zc k3 ?_|refine zg ?_|refine zi ?_|refine za ?_|refine zw ?_|refine zy ?_|refine zo ?_|refine zn ?_|refine zd (fun hd=>?_) (fun hd=>?_)|refine zl (fun hlt=>?_) (fun hlt=>?_)|refine zk (fun hle=>?_) (fun hle=>?_)|refine ze (fun heq=>?_) (fun heq=>?_)|refine zm (fun x hx=>?_)|refine zv ?_|refine zb (fun hbb=>?_) (fun hbb=>?_)|refine zr ?_|refine zq ?_)
      all_goals conv=>whnf
      all_goals first
       |exact aK rfl
       |skip
     ·rw[h8]at k3
      clear k0 hev hq e1 e2
      repeat' ((conv=>whnf);first|(exfalso;omega)|(exfalso;contradiction)|refine zc k1 ?_|refine zc k2 ?_|refine zc k3 ?_|refine zg ?_|refine zi ?_|refine za ?_|refine zw ?_|refine zy ?_|refine zo ?_|refine zn ?_|refine zd (fun hd=>?_) (fun hd=>?_)|refine zl (fun hlt=>?_) (fun hlt=>?_)|refine zk (fun hle=>?_) (fun hle=>?_)|refine ze (fun heq=>?_) (fun heq=>?_)|refine zm (fun x hx=>?_)|refine zv ?_|refine zb (fun hbb=>?_) (fun hbb=>?_)|refine zr ?_|refine zq ?_)
      all_goals conv=>whnf
      all_goals first
       |exact aK rfl
       |exact aK (aA1.2 rfl)
    |cons c C=>
     rw[hq]
     have k1:=yE aF3 (aQ8 (b:=b) (c:=(c::C)) (r:=[]) (cv:=(.sl ((c::C).map dK))) (rv:=nilV) (z:=lf) rfl rfl) k0
     have hpl:s.pieces.length=C.length+1:=e3
     have hcm:(List.map dK (c::C)).length=C.length+1:=by simp
     rcases e6 with h7|⟨h8,hc0,hr0⟩
     ·rw[h7]at k3
      clear k0 hev hq e1 e2
      repeat' ((conv=>whnf);first|(exfalso;omega)|(exfalso;contradiction)|(exfalso;refine heq ?_;show((List.map aZ s.pieces).length:Int)=((List.map dK (c::C)).length:Int);omega)|rw[wX]|refine bB4 (le_meltAt 98 85 (xs:=cbC b (.arr 85 C.length) nilV lf) (cbC b (.sl ((c::C).map dK)) nilV lf) rfl (.inl rfl) rfl eD3) ?_|refine zc k1 ?_|refine zc k2 ?_|refine zc k3 ?_|refine zg ?_|refine zi ?_|refine za ?_|refine zw ?_|refine zy ?_|refine zo ?_|refine zn ?_|refine zd (fun hd=>?_) (fun hd=>?_)|refine zl (fun hlt=>?_) (fun hlt=>?_)|refine zk (fun hle=>?_) (fun hle=>?_)|refine ze (fun heq=>?_) (fun heq=>?_)|refine zm (fun x hx=>?_)|refine zv ?_|refine zb (fun hbb=>?_) (fun hbb=>?_)|refine zr ?_|refine zq ?_)
      all_goals conv=>whnf
      all_goals first
       |exact aK rfl
       |skip
     ·cases hc0
  ·skip
   repeat' ((conv=>whnf);first|(exfalso;omega)|refine zc g0 ?_|refine zc g1 ?_|refine zc g2 ?_|refine zg ?_|refine zi ?_|refine za ?_|refine zw ?_|refine zy ?_|refine zo ?_|refine zn ?_|refine zd (fun hd=>?_) (fun hd=>?_)|refine zl (fun hlt=>?_) (fun hlt=>?_)|refine zk (fun hle=>?_) (fun hle=>?_)|refine ze (fun heq=>?_) (fun heq=>?_)|refine zm (fun x hx=>?_)|refine zv ?_|refine zb (fun hbb=>?_) (fun hbb=>?_)|refine zr ?_|refine zq ?_)
   refine aU (A:=List Int) (B:=List Int) (fun D R=>cbS sz b nilV [] D.length (cbL D 0 ([],b.length))) (fun D R=>sz=D++R) (fun D R=>R.length) [] sz ?_ rfl (fun D R hp=>?_)
   ·show Le T _ (mkSt [(1, .sl (sz.map U)),(3, .box 3 0),(7, .box 7 0),(8,I b.length),(10,I 0)] [(3,barC b),(7,cbC b nilV nilV 0)] [])
    exact zj
   cases R with
   |cons n R=>
    have hlen:=aO hp
    have hn:=hz n (by rw[hp];simp)
    have hsn:=aA9 D n 0 ([],b.length)
    rw[Nat.zero_add]at hsn
    have hok:=bG0 hlf D
    have hleft:=hok.left
    have hsum:=cC9 hok
    have hmod:=cZ5 hn.1
    have hlD:((D++[n]).length:Int)=(D.length:Int)+1:=by simp
    generalize cbL D 0 ([],b.length)=q at*
    obtain⟨C,lf⟩:=q
    simp only at hleft hsum
    have hst:uT (C,lf) D.length n=if 1+n% 40<=lf then(C++[⟨1001+D.length,chB 97,1+n% 40⟩],lf- (1+n% 40))else(C,lf):=rfl
    rw[hst]at hsn
    by_cases hc:1+n% 40<=lf
    ·rw[if_pos hc]at hsn
     cases C with
     |nil=>
      repeat' ((conv=>whnf);first|(exfalso;omega)|refine aB (l:=sz) (by omega) ?_|refine aF (l:=sz) (A:=D) (x:=n) (B:=R) hp (by omega) ?_|refine gX (of_decide_eq_true rfl) (dA rfl) (show(1:Nat)<=1000000000 from by decide) ?_|refine zg ?_|refine zi ?_|refine za ?_|refine zw ?_|refine zy ?_|refine zo ?_|refine zn ?_|refine zd (fun hd=>?_) (fun hd=>?_)|refine zl (fun hlt=>?_) (fun hlt=>?_)|refine zk (fun hle=>?_) (fun hle=>?_)|refine ze (fun heq=>?_) (fun heq=>?_)|refine zm (fun x hx=>?_)|refine zv ?_|refine zb (fun hbb=>?_) (fun hbb=>?_)|refine zr ?_|refine zq ?_)
      all_goals conv=>whnf
      refine⟨(D++[n],R),?_,by rw[hp];simp,by simp⟩
      show Le T _ (cbS sz b nilV [] (D++[n]).length (cbL (D++[n]) 0 ([],b.length)))
      rw[hsn]
      show Le T _ (mkSt [(1, .sl (sz.map U)),(3, .box 3 0),(7, .box 7 0),(8,I (lf- (1+n% 40))),(10,I ((D++[n]).length:Nat))] [(3,barC b),(7,cbC b (.arr 85 0) nilV 0)] ((85,⟨0, .own,82,[dK ⟨1001+D.length,chB 97,1+n% 40⟩]⟩):: []))
      rw[hlD,<-hmod]
      exact zj
     |cons c C=>
      have h00:(c::C).length=C.length+1:=rfl
      have hCl:(c::C).length<=D.length:=hok.len
      repeat' ((conv=>whnf);first|(exfalso;omega)|refine aB (l:=sz) (by omega) ?_|refine aF (l:=sz) (A:=D) (x:=n) (B:=R) hp (by omega) ?_|refine mX (l:=c::C) rfl rfl (.inl rfl) rfl (of_decide_eq_true rfl) rfl (by omega) ?_|refine zg ?_|refine zi ?_|refine za ?_|refine zw ?_|refine zy ?_|refine zo ?_|refine zn ?_|refine zd (fun hd=>?_) (fun hd=>?_)|refine zl (fun hlt=>?_) (fun hlt=>?_)|refine zk (fun hle=>?_) (fun hle=>?_)|refine ze (fun heq=>?_) (fun heq=>?_)|refine zm (fun x hx=>?_)|refine zv ?_|refine zb (fun hbb=>?_) (fun hbb=>?_)|refine zr ?_|refine zq ?_)
      all_goals conv=>whnf
      refine⟨(D++[n],R),?_,by rw[hp];simp,by simp⟩
      show Le T _ (cbS sz b nilV [] (D++[n]).length (cbL (D++[n]) 0 ([],b.length)))
      rw[hsn]
      have e1:((c::C)++[(⟨1001+D.length,chB 97,1+n% 40⟩:Made)]).map dK=(c::C).map dK++[dK ⟨1001+D.length,chB 97,1+n% 40⟩] :=by simp
      have e2:(C++[(⟨1001+D.length,chB 97,1+n% 40⟩:Made)]).length=C.length+1:=by simp
      show Le T _ (mkSt [(1, .sl (sz.map U)),(3, .box 3 0),(7, .box 7 0),(8,I (lf- (1+n% 40))),(10,I ((D++[n]).length:Nat))] [(3,barC b),(7,cbC b (.arr 85 (C++[(⟨1001+D.length,chB 97,1+n% 40⟩:Made)]).length) nilV 0)] ((85,⟨(C++[(⟨1001+D.length,chB 97,1+n% 40⟩:Made)]).length, .own,82,((c::C)++[(⟨1001+D.length,chB 97,1+n% 40⟩:Made)]).map dK⟩):: []))
      rw[e1,e2,hlD,<-hmod]
      exact zj
    ·rw[if_neg hc]at hsn
     cases C with
     |nil=>
      repeat' ((conv=>whnf);first|(exfalso;omega)|refine aB (l:=sz) (by omega) ?_|refine aF (l:=sz) (A:=D) (x:=n) (B:=R) hp (by omega) ?_|refine zg ?_|refine zi ?_|refine za ?_|refine zw ?_|refine zy ?_|refine zo ?_|refine zn ?_|refine zd (fun hd=>?_) (fun hd=>?_)|refine zl (fun hlt=>?_) (fun hlt=>?_)|refine zk (fun hle=>?_) (fun hle=>?_)|refine ze (fun heq=>?_) (fun heq=>?_)|refine zm (fun x hx=>?_)|refine zv ?_|refine zb (fun hbb=>?_) (fun hbb=>?_)|refine zr ?_|refine zq ?_)
      all_goals conv=>whnf
      refine⟨(D++[n],R),?_,by rw[hp];simp,by simp⟩
      show Le T _ (cbS sz b nilV [] (D++[n]).length (cbL (D++[n]) 0 ([],b.length)))
      rw[hsn]
      show Le T _ (mkSt [(1, .sl (sz.map U)),(3, .box 3 0),(7, .box 7 0),(8,I lf),(10,I ((D++[n]).length:Nat))] [(3,barC b),(7,cbC b nilV nilV 0)] [])
      rw[hlD]
      exact zj
     |cons c C=>
      repeat' ((conv=>whnf);first|(exfalso;omega)|refine aB (l:=sz) (by omega) ?_|refine aF (l:=sz) (A:=D) (x:=n) (B:=R) hp (by omega) ?_|refine zg ?_|refine zi ?_|refine za ?_|refine zw ?_|refine zy ?_|refine zo ?_|refine zn ?_|refine zd (fun hd=>?_) (fun hd=>?_)|refine zl (fun hlt=>?_) (fun hlt=>?_)|refine zk (fun hle=>?_) (fun hle=>?_)|refine ze (fun heq=>?_) (fun heq=>?_)|refine zm (fun x hx=>?_)|refine zv ?_|refine zb (fun hbb=>?_) (fun hbb=>?_)|refine zr ?_|refine zq ?_)
      all_goals conv=>whnf
      refine⟨(D++[n],R),?_,by rw[hp];simp,by simp⟩
      show Le T _ (cbS sz b nilV [] (D++[n]).length (cbL (D++[n]) 0 ([],b.length)))
      rw[hsn]
      show Le T _ (mkSt [(1, .sl (sz.map U)),(3, .box 3 0),(7, .box 7 0),(8,I lf),(10,I ((D++[n]).length:Nat))] [(3,barC b),(7,cbC b (.arr 85 C.length) nilV 0)] ((85,⟨C.length, .own,82,(c::C).map dK⟩):: []))
      rw[hlD]
      exact zj
   |nil=>
    have hlen:sz.length=D.length:=by rw[hp];simp
    have e:D=sz:=by rw[hp];simp
    subst e
    have hq0:∃q,cbL D 0 ([],b.length)=q:=⟨_,rfl⟩
    obtain⟨⟨C,lf⟩,hq⟩:=hq0
    have hok:=bG0 hlf D
    rw[hq]at hok
    have hCl:C.length<=D.length:=hok.len
    have hev:cbEv b D at_=xC b.id C ([]) lf:=by
     unfold cbEv nI oC
     rw[if_neg ha,if_neg ha,hq]
    obtain⟨s,e1,e2,e3,e4,e5,e6⟩:=cR2 (at_:=at_) hval hid hsz
    rw[hev]at e1 e3 e4 e6
    change s.pieces.length=C.length at e3
    change s.scrap.2=lf at e4
    have hr1:([] :List Rest).length<=1:=by simp
    have f0:tN dN:=⟨⟨Nat.zero_le _,Nat.zero_le _,fun h hh=>by cases hh⟩,Nat.zero_le _,fun h hh=>by cases hh⟩
    have k0:=vX [nD b,uX b.id (chB 112),xC b.id C ([]) lf] (fun e he=>by
     simp only[List.mem_cons,List.not_mem_nil,or_false]at he
     rcases he with rfl|rfl|rfl
     ·exact⟨f0,Nat.le_trans hval.2.2.2.1 (by decide),Nat.zero_le _,Nat.zero_le _⟩
     ·exact⟨f0,Nat.zero_le _,Nat.zero_le _,Nat.zero_le _⟩
     ·exact⟨f0,Nat.zero_le _,by show C.length<=_;omega,by show([] :List Rest).length<=_;omega⟩) (by show 1+(1+(1+C.length+([] :List Rest).length+0))<=1000000;omega) (by show 3<=1000000;decide)
    rw[e1]at k0
    change Sp _ _ (.tup [invV s,I 3,I 0])at k0
    have k2:=aL9 e2 (by decide)
    have hsp:=e2.ok.lp
    have hpm:(s.pieces.map aZ).length=s.pieces.length:=by simp
    have k3:=(kG e2.ok (e:=xC b.id C ([]) lf) (by show 1000+(1+C.length+([] :List Rest).length)<=1000000;omega) ⟨f0,Nat.zero_le _,by show C.length<=_;omega,by show([] :List Rest).length<=_;omega⟩).1
    cases C with
    |nil=>
     rw[hq]
     have k1:=yE aF3 (aQ8 (b:=b) (c:=[]) (r:=[]) (cv:=nilV) (rv:=nilV) (z:=lf) rfl rfl) k0
     have hpl:s.pieces.length=0:=e3
     have hcm:(List.map dK []).length=0:=by simp
     rcases e6 with h7|⟨h8,hc0,hr0⟩
     ·rw[h7]at k3
      clear k0 hev hq e1 e2
      repeat' ((conv=>whnf);first|(exfalso;omega)|(exfalso;contradiction)|rw[wX]|refine zc k1 ?_|refine zc k2 ?_|refine zc k3 ?_|refine zg ?_|refine zi ?_|refine za ?_|refine zw ?_|refine zy ?_|refine zo ?_|refine zn ?_|refine zd (fun hd=>?_) (fun hd=>?_)|refine zl (fun hlt=>?_) (fun hlt=>?_)|refine zk (fun hle=>?_) (fun hle=>?_)|refine ze (fun heq=>?_) (fun heq=>?_)|refine zm (fun x hx=>?_)|refine zv ?_|refine zb (fun hbb=>?_) (fun hbb=>?_)|refine zr ?_|refine zq ?_)
      all_goals conv=>whnf
      all_goals first
       |exact aK rfl
       |skip
     ·rw[h8]at k3
      clear k0 hev hq e1 e2
      repeat' ((conv=>whnf);first|(exfalso;omega)|(exfalso;contradiction)|refine zc k1 ?_|refine zc k2 ?_|refine zc k3 ?_|refine zg ?_|refine zi ?_|refine za ?_|refine zw ?_|refine zy ?_|refine zo ?_|refine zn ?_|refine zd (fun hd=>?_) (fun hd=>?_)|refine zl (fun hlt=>?_) (fun hlt=>?_)|refine zk (fun hle=>?_) (fun hle=>?_)|refine ze (fun heq=>?_) (fun heq=>?_)|refine zm (fun x hx=>?_)|refine zv ?_|refine zb (fun hbb=>?_) (fun hbb=>?_)|refine zr ?_|refine zq ?_)
      all_goals conv=>whnf
      all_goals first
       |exact aK rfl
       |exact aK (aA1.2 rfl)
    |cons c C=>
     rw[hq]
     have k1:=yE aF3 (aQ8 (b:=b) (c:=(c::C)) (r:=[]) (cv:=(.sl ((c::C).map dK))) (rv:=nilV) (z:=lf) rfl rfl) k0
     have hpl:s.pieces.length=C.length+1:=e3
     have hcm:(List.map dK (c::C)).length=C.length+1:=by simp
     rcases e6 with h7|⟨h8,hc0,hr0⟩
     ·rw[h7]at k3
      clear k0 hev hq e1 e2
      repeat' ((conv=>whnf);first|(exfalso;omega)|(exfalso;contradiction)|(exfalso;refine heq ?_;show((List.map aZ s.pieces).length:Int)=((List.map dK (c::C)).length:Int);omega)|rw[wX]|refine bB4 (le_meltAt 98 85 (xs:=cbC b (.arr 85 C.length) nilV lf) (cbC b (.sl ((c::C).map dK)) nilV lf) rfl (.inl rfl) rfl eD3) ?_|refine zc k1 ?_|refine zc k2 ?_|refine zc k3 ?_|refine zg ?_|refine zi ?_|refine za ?_|refine zw ?_|refine zy ?_|refine zo ?_|refine zn ?_|refine zd (fun hd=>?_) (fun hd=>?_)|refine zl (fun hlt=>?_) (fun hlt=>?_)|refine zk (fun hle=>?_) (fun hle=>?_)|refine ze (fun heq=>?_) (fun heq=>?_)|refine zm (fun x hx=>?_)|refine zv ?_|refine zb (fun hbb=>?_) (fun hbb=>?_)|refine zr ?_|refine zq ?_)
      all_goals conv=>whnf
      all_goals first
       |exact aK rfl
       |skip
     ·cases hc0
end Go.Proofs.Led
