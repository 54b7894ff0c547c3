/-
  The inventory behind an event.
-/
import Derived.Test.YtkhhdojgbkophaaGreatDoorBSV48
set_option linter.unusedVariables false
set_option linter.unusedSimpArgs false
set_option maxRecDepth 100000
set_option maxHeartbeats 8000000
noncomputable section
namespace Go.Proofs.Led
open Go Go.Proofs Go.Ab
def MethOk(s:aJ)(e:Event)(k:Int)(f:FuncId)(r:Int)(bs':List (List V)):Prop:=e.kind=k/\SpB f [.box 100000 0,aS e] [stC s] (I r) bs'
def uP:List V:=[.tup [.lit (.int .i64 8), .fn 43 []], .tup [.lit (.int .i64 7), .fn 42 []], .tup [.lit (.int .i64 6), .fn 41 []], .tup [.lit (.int .i64 5), .fn 40 []],
 .tup [.lit (.int .i64 4), .fn 39 []], .tup [.lit (.int .i64 3), .fn 38 []], .tup [.lit (.int .i64 2), .fn 37 []], .tup [.lit (.int .i64 1), .fn 36 []]]
theorem dM0(s:aJ)(e:Event)(he:iY e)(hf:¬iD e):fnVC T Tryz.prog Tryz.f15 [invV s,aS e] (.tup [invV inv0,I 1]):=by
 have h1:=aE0 e he;exact zF
theorem dL3(s s':aJ)(e:Event)(hs:Gd s)(he:iY e)(hf:iD e){f:FuncId}(hg:jG (.int .i64 e.kind) uP=some (.fn f []))(hm:SpB f [.box 100000 0,aS e] [stC s] (I 0) [stC s']):
 fnVC T Tryz.prog Tryz.f15 [invV s,aS e] (.tup [invV s',I 0]):=by
 exact Nq
theorem dR7(s:aJ)(e:Event)(hs:Gd s)(he:iY e)(hf:iD e){f:FuncId}{r:Int}(hg:jG (.int .i64 e.kind) uP=some (.fn f []))(hr:r≠0)(hm:SpB f [.box 100000 0,aS e] [stC s] (I r) [bots]):
 fnVC T Tryz.prog Tryz.f15 [invV s,aS e] (.tup [invV inv0,I r]):=by
 exact Nq
open Classical in
def aD6(s:aJ)(n:Int)(f:aN->aJ×Int):aJ×Int:=
 if(∃m∈s.stocks,sid m=n)then(match s.stocks[bs sid s.stocks n]? with|some m=>f m|none=>(inv0,8))else(inv0,8)
open Classical in
def nM(s:aJ)(x:aN):aJ×Int:=if sid x∈s.used then(inv0,7)else(aX7 s x,0)
open Classical in
def relR(s:aJ)(e:Event):aJ×Int:=aD6 s e.id fun m=>if m.program=aI then(setK s (bs sid s.stocks e.id) (prog m e.text),0)else(inv0,27)
open Classical in
def bP3(s:aJ)(e:Event):aJ×Int:=aD6 s e.id fun m=>if m.program≠aI then(setK s (bs sid s.stocks e.id) (prog m aI),0)else(inv0,10)
open Classical in
def bQ0(s:aJ)(e:Event):aJ×Int:=aD6 s e.id fun m=>if m.program=aI then(aX4 s (bs sid s.stocks e.id) m,0)else(inv0,27)
open Classical in
def nK(s:aJ)(n st:Int)(o:ByteArray):aJ×Int:=
 if(∃m∈s.pieces,m.id=n)then(match s.pieces[bs Piece.id s.pieces n]? with|some m=>(if m.status=1 then(setP s (bs Piece.id s.pieces n) (marked m st o),0)else(inv0,10))|none=>(inv0,8))else(inv0,8)
open Classical in
def cutR(s:aJ)(e:Event):aJ×Int:=
 if¬dP s.used (fO e)then(inv0,7)else aD6 s e.id fun m=>if m.program=aI then(inv0,10)else
  if cZ m [] e.rests≠0 then(inv0,cZ m [] e.rests)else if nJ m e≠e.scrap then(inv0,29)else(cut5 s e (bs sid s.stocks e.id) m,0)
def bP2(s:aJ)(e:Event):aJ×Int:=
 if e.kind=1 then nM s ⟨false,e.sheet,bar0,aI⟩else if e.kind=2 then nM s ⟨true,dN,e.bar,aI⟩else if e.kind=3 then relR s e else if e.kind=4 then bP3 s e
 else if e.kind=5 then cutR s e else if e.kind=6 then nK s e.id 2 aI else if e.kind=7 then nK s e.id 3 e.text else bQ0 s e
open Classical in
def appR(s:aJ)(e:Event):aJ×Int:=if iD e then bP2 s e else(inv0,1)
def putK{α:Type}(key:α->Int)(l:List α)(x:α):List α:=putAt l (bs key l (key x)) x
theorem bE9{α:Type}{key:α->Int}:∀ {xs l:List α},(l.map key).Pairwise (·<·)->(∀x∈xs,∀y∈l,key y≠key x)->(xs.map key).Pairwise (·≠·)->
 ((xs.foldl (putK key) l).map key).Pairwise (·<·)/\(∀y,y∈xs.foldl (putK key) l↔y∈l\/y∈xs)/\(xs.foldl (putK key) l).length=l.length+xs.length
 | [],l,hs,_,_=>⟨hs,Ae,Ae⟩
 |x::xs,l,hs,hn,hd=>by
  obtain⟨hd1,hd2⟩:=List.pairwise_cons.1 hd;have h1:((putK key l x).map key).Pairwise (·<·):=yR hs (fun m hm=>hn x Ae m hm)
  obtain⟨q1,q2,q3⟩:=bE9 (xs:=xs) (l:=putK key l x) h1 (fun z hz y hy=>by
   rcases fH.1 hy with rfl|hy
   ·exact hd1 _ (List.mem_map_of_mem hz)
   ·exact hn z (by simp[hz]) y hy) hd2
  refine⟨q1,fun y=>?_,?_⟩
  ·rw[List.foldl_cons,q2,show(y∈putK key l x↔y=x\/y∈l)from fH,List.mem_cons]
   constructor
   ·rintro((h|h)|h)
    ·exact .inr (.inl h)
    ·exact .inl h
    ·exact .inr (.inr h)
   ·rintro(h|h|h)
    ·exact .inl (.inr h)
    ·exact .inl (.inl h)
    ·exact .inr h
  ·rw[List.foldl_cons,q3,show(putK key l x).length=l.length+1 from mQ,List.length_cons]
   omega
theorem qJ:∀ {ids used:List Int},dP used ids↔(∀n∈ids,n∉used)/\ids.Pairwise (·≠·)
 | [],used=>⟨fun _=>⟨Ae,List.Pairwise.nil⟩,fun _=>trivial⟩
 |n::ids,used=>by
  show(n∉used/\dP (putN used n) ids)↔_;rw[qJ,List.pairwise_cons];constructor
  ·rintro⟨h1,h2,h3⟩
   refine⟨fun m hm=>?_,fun m hm e=>?_,h3⟩
   ·rcases List.mem_cons.1 hm with rfl|hm
    ·exact h1
    ·exact fun h=>h2 m hm (fH.2 (.inr h))
   ·exact h2 m hm (fH.2 (.inl e.symm))
  ·rintro⟨h1,h2,h3⟩
   refine⟨h1 n Ae,fun m hm h=>?_,h3⟩;rcases fH.1 h with e|h
   ·exact h2 m hm e.symm
   ·exact h1 m (by simp[hm]) h
theorem tY{y:Int}:∀ {ids used:List Int},y∈cO used ids↔y∈used\/y∈ids
 | [],used=>by simp[cO]
 |n::ids,used=>by
  show y∈cO (putN used n) ids↔_;rw[tY,show(y∈putN used n↔y=n\/y∈used)from fH,List.mem_cons];constructor
  ·rintro((h|h)|h)
   ·exact .inr (.inl h)
   ·exact .inl h
   ·exact .inr (.inr h)
  ·rintro(h|h|h)
   ·exact .inl (.inr h)
   ·exact .inl (.inl h)
   ·exact .inr h
theorem kM{α:Type}(l:List α)(i:Nat):(nN l i).Sublist l:=by
 unfold nN
 have h:(l.take i++l.drop (i+1)).Sublist (l.take i++l.drop i):=List.Sublist.append (List.Sublist.refl _) (by
  rw[<-List.drop_drop];exact List.drop_sublist _ _)
 rwa [List.take_append_drop]at h
theorem bB0{α:Type}{key:α->Int}{l:List α}(h:(l.map key).Pairwise (·<·))(i:Nat):((nN l i).map key).Pairwise (·<·):=h.sublist ((kM l i).map key)
theorem bY6{α:Type}{key:α->Int}{l:List α}{k:Nat}{m x:α}(hm:l[k]? =some m)(hx:key x=key m):(l.set k x).map key=l.map key:=by
 apply List.ext_getElem?;intro i;rw[List.getElem?_map,List.getElem?_map,List.getElem?_set];split
 ·rename_i h
  subst h;split
  ·rw[hm];simp[hx]
  ·rename_i h2
   rw[List.getElem?_eq_none Aa]
 ·rfl
theorem tZ{x:aN}:∀ {R D:List Rest},cZ x D R=0->∀r∈R,iG x r=0
 | [],D,_=>Ae
 |r::R,D,h=>by
  unfold cZ at h;split at h
  ·rename_i h1;exact absurd h h1
  ·rename_i h1
   split at h
   ·cases h
   ·intro q hq
    rcases List.mem_cons.1 hq with rfl|hq
    ·exact Classical.not_not.1 h1
    ·exact tZ h q hq
theorem cL1{x:aN}{r:Rest}(h:iG x r=0):sid (dZ x r)=r.id:=by
 unfold dZ;unfold iG at h;by_cases hb:x.isBar=false
 ·rw[if_pos hb]at h⊢
  by_cases h1:r.lo≠0\/r.hi≠0
  ·rw[if_pos h1]at h;cases h
  ·rw[if_neg h1]at h⊢
   show(remS x.sheet r.box r.id).id=_;unfold remS;rw[if_pos h]
 ·rw[if_neg hb]
  have h':iG x r=0:=by unfold iG;rw[if_neg hb];rw[if_neg hb]at h;exact h
  rw[if_pos h'];rfl
theorem dL4{s:jL}{b:Bx}{id:Int}(hs:lK s):lK (remS s b id):=by
 unfold remS;split
 ·refine⟨aD2 _ _,Nat.le_trans (yK b s.defects) hs.2.1,fun d hd=>?_⟩
  obtain⟨q,hq,hd⟩:=List.mem_flatMap.1 hd;unfold aK2 at hd;split at hd
  ·rw[List.mem_singleton.1 hd]
   exact aD2 _ _
  ·cases hd
 ·exact⟨⟨Ii,Ii,fun r hr=>by simp[dN,sh0]at hr⟩,by simp[dN],fun d hd=>by simp[dN]at hd⟩
theorem xZ:lK dN:=⟨⟨Ii,Ii,fun r hr=>by simp[dN,sh0]at hr⟩,by simp[dN],fun d hd=>by simp[dN]at hd⟩
theorem aX5{x:aN}{r:Rest}(hx:eY x):eY (dZ x r):=by
 unfold dZ;split
 ·split
  ·exact⟨xZ,by simp[wS,bar0]⟩
  ·exact⟨dL4 hx.1,by simp[bar0]⟩
 ·split
  ·exact⟨xZ,Nat.le_trans (aG5 r _) hx.2⟩
  ·exact⟨xZ,by simp[wS,bar0]⟩
theorem mV{x:aN}{l:List Rest}(h:cZ x [] l=0):eG x l=l.map (dZ x):=by unfold eG;rw[if_pos h]
theorem aG9{x:aN}{l:List Rest}(h:cZ x [] l=0):(eG x l).map sid=l.map Rest.id:=by
 rw[mV h,List.map_map];exact List.map_congr_left fun r hr=>cL1 (tZ h r hr)
structure Ok(s:aJ)(n:Nat):Prop where
 ss:(s.stocks.map sid).Pairwise (·<·)
 sp:(s.pieces.map Piece.id).Pairwise (·<·)
 su:(s.used.map id).Pairwise (·<·)
 ls:s.stocks.length<=n
 lp:s.pieces.length<=n
 lu:s.used.length<=n
 us:∀x∈s.stocks,sid x∈s.used
 up:∀p∈s.pieces,p.id∈s.used
 sz:∀x∈s.stocks,eY x
theorem Ok.gd{s:aJ}{n:Nat}(h:Ok s n)(hn:n<=1000000):Gd s:=⟨Nat.le_trans h.ls hn,Nat.le_trans h.lp hn,Nat.le_trans h.lu hn,h.ss,h.sp,h.su⟩
theorem Ok.mono{s:aJ}{n m:Nat}(h:Ok s n)(hn:n<=m):Ok s m:=⟨h.ss,h.sp,h.su,Nat.le_trans h.ls hn,Nat.le_trans h.lp hn,Nat.le_trans h.lu hn,h.us,h.up,h.sz⟩
theorem ok0:Ok inv0 0:=⟨.nil, .nil, .nil,Nat.le_refl _,Nat.le_refl _,Nat.le_refl _,F6,F6,F6⟩
def more(e:Event):Nat:=1+e.cuts.length+e.rests.length
theorem dG9(e:Event):(fO e).length=e.cuts.length+e.rests.length:=by unfold fO;simp
theorem dD4{s:aJ}{n:Nat}(h:Ok s n){x:aN}(hx:eY x)(hn:sid x∉s.used):Ok (aX7 s x) (n+1)where
 ss:=yR h.ss (fun m hm e=>hn (by rw[<-e];exact h.us m hm))
 sp:=h.sp
 su:=rF h.su hn
 ls:=by show(putAt _ _ _).length<=_;rw[mQ];have:=h.ls;omega
 lp:=Nat.le_succ_of_le h.lp
 lu:=by show(putAt _ _ _).length<=_;rw[mQ];have:=h.lu;omega
 us:=fun y hy=>by
  rcases fH.1 hy with rfl|hy
  ·exact fH.2 (.inl rfl)
  ·exact fH.2 (.inr (h.us y hy))
 up:=fun p hp=>fH.2 (.inr (h.up p hp))
 sz:=fun y hy=>by
  rcases fH.1 hy with rfl|hy
  ·exact hx
  ·exact h.sz y hy
theorem mem_set{α:Type}{l:List α}{k:Nat}{x y:α}(h:y∈l.set k x):y=x\/y∈l:=(List.mem_or_eq_of_mem_set h).symm
theorem fC{α:Type}{l:List α}{k:Nat}{x:α}(h:l[k]? =some x):x∈l:=List.mem_of_getElem? h
theorem bW3{s:aJ}{n:Nat}(h:Ok s n){k:Nat}{m:aN}(hm:s.stocks[k]? =some m)(p:ByteArray):Ok (setK s k (prog m p)) n where
 ss:=by show((s.stocks.set k (prog m p)).map sid).Pairwise _;rw[bY6 hm (rfl:sid (prog m p)=sid m)];exact h.ss
 sp:=h.sp
 su:=h.su
 ls:=by show(s.stocks.set _ _).length<=_;rw[List.length_set];exact h.ls
 lp:=h.lp
 lu:=h.lu
 us:=fun y hy=>by
  rcases mem_set hy with rfl|hy
  ·exact h.us m (fC hm)
  ·exact h.us y hy
 up:=h.up
 sz:=fun y hy=>by
  rcases mem_set hy with rfl|hy
  ·exact h.sz m (fC hm)
  ·exact h.sz y hy
theorem dE1{s:aJ}{n:Nat}(h:Ok s n){k:Nat}{m:Piece}(hm:s.pieces[k]? =some m)(st:Int)(o:ByteArray):Ok (setP s k (marked m st o)) n where
 ss:=h.ss
 sp:=by show((s.pieces.set k (marked m st o)).map Piece.id).Pairwise _;rw[bY6 hm (rfl:(marked m st o).id=m.id)];exact h.sp
 su:=h.su
 ls:=h.ls
 lp:=by show(s.pieces.set _ _).length<=_;rw[List.length_set];exact h.lp
 lu:=h.lu
 us:=h.us
 up:=fun y hy=>by
  rcases mem_set hy with rfl|hy
  ·exact h.up m (fC hm)
  ·exact h.up y hy
 sz:=h.sz
theorem dD6{s:aJ}{n:Nat}(h:Ok s n)(k:Nat)(m:aN):Ok (aX4 s k m) n where
 ss:=bB0 h.ss k
 sp:=h.sp
 su:=h.su
 ls:=Nat.le_trans (kM _ _).length_le h.ls
 lp:=h.lp
 lu:=h.lu
 us:=fun y hy=>h.us y ((kM _ _).subset hy)
 up:=h.up
 sz:=fun y hy=>h.sz y ((kM _ _).subset hy)
theorem bJ9{s:aJ}{n:Nat}(h:Ok s n){e:Event}{k:Nat}{m:aN}(hf:dP s.used (fO e))(hr:cZ m [] e.rests=0){D R:List aN}(hD:eG m e.rests=D++R):
 ((D.foldl putS (nN s.stocks k)).map sid).Pairwise (·<·)/\(∀y,y∈D.foldl putS (nN s.stocks k)↔y∈nN s.stocks k\/y∈D)/\(D.foldl putS (nN s.stocks k)).length=(nN s.stocks k).length+D.length:=by
 have hid:=aG9 hr;rw[hD,List.map_append]at hid;obtain⟨f1,f2⟩:=qJ.1 hf;unfold fO at f1 f2;rw[List.pairwise_append]at f2;obtain⟨_,f3,_⟩:=f2;rw[<-hid]at f1 f3;rw[List.pairwise_append]at f3;refine bE9 (key:=sid) (bB0 h.ss k) (fun x hx y hy e=>?_) f3.1;exact f1 (sid x) (by simp only[List.mem_append];exact .inr (.inl (List.mem_map_of_mem hx))) (by rw[<-e];exact h.us y ((kM _ _).subset hy))
theorem bC5{s:aJ}{n:Nat}(h:Ok s n){e:Event}{m:aN}(hf:dP s.used (fO e)){D R:List Made}(hD:e.cuts=D++R):
 ((D.foldl (fun p x=>putP p (fZ e m x)) s.pieces).map Piece.id).Pairwise (·<·)/\(∀y,y∈D.foldl (fun p x=>putP p (fZ e m x)) s.pieces↔y∈s.pieces\/y∈D.map (fZ e m))/\(D.foldl (fun p x=>putP p (fZ e m x)) s.pieces).length=s.pieces.length+D.length:=by
 obtain⟨f1,f2⟩:=qJ.1 hf;unfold fO at f1 f2;rw[List.pairwise_append]at f2;obtain⟨f3,_,_⟩:=f2;rw[hD,List.map_append]at f1 f3;rw[List.pairwise_append]at f3;have e1:D.foldl (fun p x=>putP p (fZ e m x)) s.pieces=(D.map (fZ e m)).foldl (putK Piece.id) s.pieces:=by rw[List.foldl_map];rfl
 have e2:(D.map (fZ e m)).map Piece.id=D.map Made.id:=by rw[List.map_map];rfl
 rw[e1]
 have q:=bE9 (key:=Piece.id) (xs:=D.map (fZ e m)) h.sp (fun x hx y hy e'=>by
  obtain⟨c,hc,rfl⟩:=List.mem_map.1 hx;exact f1 c.id (by simp only[List.mem_append];exact .inl (.inl (List.mem_map_of_mem hc))) (by have:=h.up y hy;rw[e']at this;exact this)) (by rw[e2];exact f3.1)
 rw[List.length_map]at q;exact q
theorem aZ7{s:aJ}{n:Nat}(h:Ok s n){e:Event}{k:Nat}{m:aN}(hm:s.stocks[k]? =some m)(hf:dP s.used (fO e))(hr:cZ m [] e.rests=0){D R:List aN}(hD:eG m e.rests=D++R){C Q:List Made}(hC:e.cuts=C++Q):
 Ok (cut4 s e k m D C) (n+e.cuts.length+e.rests.length):=by
 obtain⟨a1,a2,a3⟩:=bJ9 (k:=k) h hf hr hD;obtain⟨b1,b2,b3⟩:=bC5 (m:=m) h hf hC;obtain⟨c1,c2⟩:=aA8 _ _ h.su hf;rw[dG9]at c2;have hl3:=congrArg List.length (aG9 hr);rw[hD]at hl3;simp only[List.length_map,List.length_append]at hl3;have hl4:=congrArg List.length hC
 rw[List.length_append]at hl4;have l1:=(kM s.stocks k).length_le;have l2:=h.ls
 have l3:=h.lp;have l4:=h.lu
 refine⟨a1,b1,c1,?_,?_,?_,fun y hy=>?_,fun y hy=>?_,fun y hy=>?_⟩
 ·show(D.foldl putS (nN s.stocks k)).length<=_
  rw[a3];omega
 ·show(C.foldl (fun p x=>putP p (fZ e m x)) s.pieces).length<=_
  rw[b3];omega
 ·show(cO s.used (fO e)).length<=_
  rw[c2];omega
 ·refine tY.2 ?_
  rcases(a2 y).1 hy with hy|hy
  ·exact .inl (h.us y ((kM _ _).subset hy))
  ·refine .inr ?_
   have:sid y∈(eG m e.rests).map sid:=by rw[hD];exact List.mem_map_of_mem (by simp[hy])
   rw[aG9 hr]at this;unfold fO;simp only[List.mem_append];exact .inr this
 ·refine tY.2 ?_
  rcases(b2 y).1 hy with hy|hy
  ·exact .inl (h.up y hy)
  ·refine .inr ?_
   obtain⟨c,hc,rfl⟩:=List.mem_map.1 hy;unfold fO;simp only[List.mem_append];exact .inl (List.mem_map_of_mem (by rw[hC];simp[hc]))
 ·rcases(a2 y).1 hy with hy|hy
  ·exact h.sz y ((kM _ _).subset hy)
  ·have:y∈eG m e.rests:=by rw[hD];simp[hy]
   rw[mV hr]at this;obtain⟨r,_,rfl⟩:=List.mem_map.1 this;exact aX5 (h.sz m (fC hm))
theorem cP7{s:aJ}{n:Nat}(h:Ok s n)(v:Iv):Ok {s with scrap:=v} n:=⟨h.ss,h.sp,h.su,h.ls,h.lp,h.lu,h.us,h.up,h.sz⟩
theorem kE{s:aJ}{n:Int}{f:aN->aJ×Int}(hs:(s.stocks.map sid).Pairwise (·<·)):
 ((¬∃m∈s.stocks,sid m=n)/\aD6 s n f=(inv0,8))\/∃m,(∃m∈s.stocks,sid m=n)/\s.stocks[bs sid s.stocks n]? =some m/\sid m=n/\aD6 s n f=f m:=by
 unfold aD6;by_cases h:∃m∈s.stocks,sid m=n
 ·obtain⟨m,h1,h2⟩:=aB8 hs h
  refine .inr ⟨m,h,h1,h2,?_⟩;rw[if_pos h,h1]
 ·exact .inl ⟨h,if_neg h⟩
def zM(f:FuncId)(s:aJ)(e:Event)(q:aJ×Int):Prop:=(q.2=0/\SpB f [.box 100000 0,aS e] [stC s] (I 0) [stC q.1])\/(q.2≠0/\q.1=inv0/\SpB f [.box 100000 0,aS e] [stC s] (I q.2) [bots])
theorem eN8{s:aJ}{e:Event}{n:Nat}(h:Ok s n)(hn:n<=1000000):zM 38 s e (relR s e)/\((relR s e).2=0->Ok (relR s e).1 n):=by
 unfold relR;rcases kE (n:=e.id) (f:=fun m=>open Classical in if m.program=aI then(setK s (bs sid s.stocks e.id) (prog m e.text),0)else(inv0,27)) h.ss with⟨h1,h2⟩|⟨m,h1,h2,h3,h4⟩
 ·rw[h2]
  exact⟨.inr ⟨Ak,rfl,bN7 s e (h.gd hn) h1⟩,fun h=>Ad⟩
 ·rw[h4]
  by_cases c:m.program=aI
  ·rw[if_pos c]
   exact⟨.inl ⟨rfl,bM2 s e m (h.gd hn) h1 h2 c⟩,fun _=>bW3 h h2 _⟩
  ·rw[if_neg c]
   exact⟨.inr ⟨Ak,rfl,bM0 s e m (h.gd hn) h1 h2 c⟩,fun h=>Ad⟩
theorem eM9{s:aJ}{e:Event}{n:Nat}(h:Ok s n)(hn:n<=1000000):zM 39 s e (bP3 s e)/\((bP3 s e).2=0->Ok (bP3 s e).1 n):=by
 unfold bP3;rcases kE (n:=e.id) (f:=fun m=>open Classical in if m.program≠aI then(setK s (bs sid s.stocks e.id) (prog m aI),0)else(inv0,10)) h.ss with⟨h1,h2⟩|⟨m,h1,h2,h3,h4⟩
 ·rw[h2]
  exact⟨.inr ⟨Ak,rfl,cA0 s e (h.gd hn) h1⟩,fun h=>Ad⟩
 ·rw[h4]
  by_cases c:m.program≠aI
  ·rw[if_pos c]
   exact⟨.inl ⟨rfl,bZ5 s e m (h.gd hn) h1 h2 c⟩,fun _=>bW3 h h2 _⟩
  ·rw[if_neg c]
   exact⟨.inr ⟨Ak,rfl,cB5 s e m (h.gd hn) h1 h2 c⟩,fun h=>Ad⟩
theorem eN4{s:aJ}{e:Event}{n:Nat}(h:Ok s n)(hn:n<=1000000):zM 43 s e (bQ0 s e)/\((bQ0 s e).2=0->Ok (bQ0 s e).1 n):=by
 unfold bQ0;rcases kE (n:=e.id) (f:=fun m=>open Classical in if m.program=aI then(aX4 s (bs sid s.stocks e.id) m,0)else(inv0,27)) h.ss with⟨h1,h2⟩|⟨m,h1,h2,h3,h4⟩
 ·rw[h2]
  exact⟨.inr ⟨Ak,rfl,bO2 s e (h.gd hn) h1⟩,fun h=>Ad⟩
 ·rw[h4]
  by_cases c:m.program=aI
  ·rw[if_pos c]
   exact⟨.inl ⟨rfl,bM1 s e m (h.gd hn) h1 h2 c (h.sz m (fC h2))⟩,fun _=>dD6 h _ m⟩
  ·rw[if_neg c]
   exact⟨.inr ⟨Ak,rfl,bO0 s e m (h.gd hn) h1 h2 c⟩,fun h=>Ad⟩
theorem aV1{s:aJ}{k st:Int}{o:ByteArray}{n:Nat}(h:Ok s n)(hn:n<=1000000):(((nK s k st o).2=0/\SpB 77 [.box 100000 0,I k,I st,S o] [stC s] (I 0) [stC (nK s k st o).1])\/
 ((nK s k st o).2≠0/\(nK s k st o).1=inv0/\SpB 77 [.box 100000 0,I k,I st,S o] [stC s] (I (nK s k st o).2) [bots]))/\((nK s k st o).2=0->Ok (nK s k st o).1 n):=by
 by_cases h1:∃m∈s.pieces,m.id=k
 ·obtain⟨m,h2,h3⟩:=aB8 h.sp h1
  have e:nK s k st o=open Classical in if m.status=1 then(setP s (bs Piece.id s.pieces k) (marked m st o),0)else(inv0,10):=by
   unfold nK;rw[if_pos h1,h2]
  rw[e];by_cases c:m.status=1
  ·rw[if_pos c]
   exact⟨.inl ⟨rfl,cU5 s k st o m (h.gd hn) h1 h2 c⟩,fun _=>dE1 h h2 st o⟩
  ·rw[if_neg c]
   exact⟨.inr ⟨(by decide:(10:Int)≠0),rfl,cR1 s k st o m (h.gd hn) h1 h2 c⟩,fun h=>Ad⟩
 ·unfold nK
  rw[if_neg h1];exact⟨.inr ⟨(by decide:(8:Int)≠0),rfl,cX9 s k st o (h.gd hn) h1⟩,fun h=>Ad⟩
theorem eR8{s:aJ}{e:Event}{n:Nat}(h:Ok s n)(hn:n<=1000000):zM 41 s e (nK s e.id 2 aI)/\((nK s e.id 2 aI).2=0->Ok (nK s e.id 2 aI).1 n):=by
 obtain⟨h1,h2⟩:=aV1 (k:=e.id) (st:=2) (o:=aI) h hn;refine⟨?_,h2⟩;rcases h1 with⟨q1,q2⟩|⟨q1,q2,q3⟩
 ·exact .inl ⟨q1,aU1 s e (.inr ⟨_,rfl⟩) q2⟩
 ·exact .inr ⟨q1,q2,aU1 s e (.inl rfl) q3⟩
theorem eK3{s:aJ}{e:Event}{n:Nat}(h:Ok s n)(hn:n<=1000000):zM 42 s e (nK s e.id 3 e.text)/\((nK s e.id 3 e.text).2=0->Ok (nK s e.id 3 e.text).1 n):=by
 obtain⟨h1,h2⟩:=aV1 (k:=e.id) (st:=3) (o:=e.text) h hn;refine⟨?_,h2⟩;rcases h1 with⟨q1,q2⟩|⟨q1,q2,q3⟩
 ·exact .inl ⟨q1,bS3 s e (.inr ⟨_,rfl⟩) q2⟩
 ·exact .inr ⟨q1,q2,bS3 s e (.inl rfl) q3⟩
theorem aY1{s:aJ}{x:aN}{n:Nat}(h:Ok s n)(hn:n+1<=1000000)(hx:eY x):(((nM s x).2=0/\SpB 68 [.box 100000 0,aQ x] [stC s] (I 0) [stC (nM s x).1])\/
 ((nM s x).2≠0/\(nM s x).1=inv0/\SpB 68 [.box 100000 0,aQ x] [stC s] (I (nM s x).2) [bots]))/\((nM s x).2=0->Ok (nM s x).1 (n+1)):=by
 unfold nM;have hl:s.used.length+1<=1000000:=by have:=h.lu;omega
 by_cases c:sid x∈s.used
 ·rw[if_pos c]
  exact⟨.inr ⟨(by decide:(7:Int)≠0),rfl,bM7 s x (h.gd Aa) hl c⟩,fun h=>Ad⟩
 ·rw[if_neg c]
  exact⟨.inl ⟨rfl,bN1 s x (h.gd Aa) hx hl c⟩,fun _=>dD4 h hx c⟩
theorem eY6{s:aJ}{e:Event}{n:Nat}(h:Ok s n)(hn:n+1<=1000000)(he:lK e.sheet):zM 36 s e (nM s ⟨false,e.sheet,bar0,aI⟩)/\((nM s ⟨false,e.sheet,bar0,aI⟩).2=0->Ok (nM s ⟨false,e.sheet,bar0,aI⟩).1 (n+1)):=by
 obtain⟨h1,h2⟩:=aY1 (x:=⟨false,e.sheet,bar0,aI⟩) h hn ⟨he,by simp[bar0]⟩
 refine⟨?_,h2⟩;rcases h1 with⟨q1,q2⟩|⟨q1,q2,q3⟩
 ·exact .inl ⟨q1,aW2 s e (.inr ⟨_,rfl⟩) q2⟩
 ·exact .inr ⟨q1,q2,aW2 s e (.inl rfl) q3⟩
theorem eW9{s:aJ}{e:Event}{n:Nat}(h:Ok s n)(hn:n+1<=1000000)(he:iY e):zM 37 s e (nM s ⟨true,dN,e.bar,aI⟩)/\((nM s ⟨true,dN,e.bar,aI⟩).2=0->Ok (nM s ⟨true,dN,e.bar,aI⟩).1 (n+1)):=by
 obtain⟨h1,h2⟩:=aY1 (x:=⟨true,dN,e.bar,aI⟩) h hn ⟨xZ,he.br⟩;refine⟨?_,h2⟩;rcases h1 with⟨q1,q2⟩|⟨q1,q2,q3⟩
 ·exact .inl ⟨q1,bJ1 s e (.inr ⟨_,rfl⟩) q2⟩
 ·exact .inr ⟨q1,q2,bJ1 s e (.inl rfl) q3⟩
theorem eP9{s:aJ}{e:Event}{n:Nat}(h:Ok s n)(hn:n+more e<=1000000)(he:iY e):zM 40 s e (cutR s e)/\((cutR s e).2=0->Ok (cutR s e).1 (n+more e)):=by
 unfold more at hn⊢;have hg:=h.gd Aa;have hl:s.used.length+(fO e).length<=1000000:=by rw[dG9];have:=h.lu;omega
 unfold cutR;by_cases c1:dP s.used (fO e)
 ·rw[if_neg (Classical.not_not.2 c1)]
  rcases kE (n:=e.id) (f:=fun m=>open Classical in if m.program=aI then(inv0,10)else
   if cZ m [] e.rests≠0 then(inv0,cZ m [] e.rests)else if nJ m e≠e.scrap then(inv0,29)else(cut5 s e (bs sid s.stocks e.id) m,0)) h.ss with⟨h1,h2⟩|⟨m,h1,h2,h3,h4⟩
  ·rw[h2]
   exact⟨.inr ⟨(by decide:(8:Int)≠0),rfl,xP s e hg he hl (.inr ⟨c1, .inl ⟨h1,rfl,rfl⟩⟩) (.inl rfl)⟩,fun h=>Ad⟩
  ·rw[h4]
   have hms:=h.sz m (fC h2);by_cases c2:m.program=aI
   ·rw[if_pos c2]
    exact⟨.inr ⟨(by decide:(10:Int)≠0),rfl,xP s e hg he hl (.inr ⟨c1, .inr ⟨m,h1,h2, .inl ⟨c2,rfl,rfl⟩⟩⟩) (.inl rfl)⟩,fun h=>Ad⟩
   ·rw[if_neg c2]
    by_cases c3:cZ m [] e.rests≠0
    ·rw[if_pos c3]
     exact⟨.inr ⟨c3,rfl,xP s e hg he hl (.inr ⟨c1, .inr ⟨m,h1,h2, .inr ⟨c2,hms, .inl ⟨c3,rfl,rfl⟩⟩⟩⟩) (.inl rfl)⟩,fun h=>absurd h c3⟩
    ·rw[if_neg c3]
     have c3':=Classical.not_not.1 c3
     have hz:∀x∈eG m e.rests,eY x:=fun x hx=>by
      rw[mV c3']at hx;obtain⟨r,_,rfl⟩:=List.mem_map.1 hx;exact aX5 hms
     have hlz:(eG m e.rests).length<=1000000:=by rw[mV c3',List.length_map];exact he.rs
     by_cases c4:nJ m e≠e.scrap
     ·rw[if_pos c4]
      exact⟨.inr ⟨(by decide:(29:Int)≠0),rfl,xP s e hg he hl (.inr ⟨c1, .inr ⟨m,h1,h2, .inr ⟨c2,hms, .inr ⟨c3',hz,hlz, .inl ⟨c4,rfl,rfl⟩⟩⟩⟩⟩) (.inl rfl)⟩,fun h=>Ad⟩
     ·rw[if_neg c4]
      refine⟨.inl ⟨rfl,xP s e hg he hl (.inr ⟨c1, .inr ⟨m,h1,h2, .inr ⟨c2,hms, .inr ⟨c3',hz,hlz, .inr ⟨Classical.not_not.1 c4,fun D R hD=>?_,fun D R hD=>?_,rfl,rfl⟩⟩⟩⟩⟩) (.inr ⟨_,rfl⟩)⟩,fun _=>?_⟩
      ·have q:=(aZ7 (C:=[]) (Q:=e.cuts) h h2 c1 c3' hD rfl).gd Aa
       exact⟨q.ls,q.lp,q.lu,q.ss,q.sp,q.su⟩
      ·exact(aZ7 (R:=[]) h h2 c1 c3' (List.append_nil _).symm hD).gd Aa
      ·exact cP7 ((aZ7 (R:=[]) (Q:=[]) h h2 c1 c3' (List.append_nil _).symm (List.append_nil _).symm).mono Aa) _
 ·rw[if_pos c1]
  exact⟨.inr ⟨(by decide:(7:Int)≠0),rfl,xP s e hg he hl (.inl ⟨c1,rfl,rfl⟩) (.inl rfl)⟩,fun h=>Ad⟩
theorem sG{s:aJ}{e:Event}{f:FuncId}{q:aJ×Int}(hs:Gd s)(he:iY e)(hf:iD e)(hg:jG (.int .i64 e.kind) uP=some (.fn f []))(hm:zM f s e q):
 Sp 15 [invV s,aS e] (.tup [invV q.1,I q.2]):=by
 refine zsp Tryz.func15 ?_;rcases hm with⟨h1,h2⟩|⟨h1,h2,h3⟩
 ·rw[h1]
  exact dL3 s q.1 e hs he hf hg h2
 ·rw[h2]
  exact dR7 s e hs he hf hg h1 h3
theorem kG{s:aJ}{e:Event}{n:Nat}(h:Ok s n)(hn:n+more e<=1000000)(he:iY e):Sp 15 [invV s,aS e] (.tup [invV (appR s e).1,I (appR s e).2])/\((appR s e).2=0->Ok (appR s e).1 (n+more e)):=by
 unfold appR;have hm:1<=more e:=Gq;by_cases hf:iD e
 ·rw[if_pos hf]
  have hk:e.kind=1\/e.kind=2\/e.kind=3\/e.kind=4\/e.kind=5\/e.kind=6\/e.kind=7\/e.kind=8:=by have:=hf.2.2.2.2.2.2.2.2;omega
  unfold bP2;have hs:=h.gd Aa;rcases hk with hk|hk|hk|hk|hk|hk|hk|hk
  ·simp only[hk,reduceIte,reduceCtorEq,Int.reduceEq]
   obtain⟨q1,q2⟩:=eY6 (e:=e) h Aa (aX9 (hf.2.2.2.1 hk).2);exact Nw
  ·simp only[hk,reduceIte,reduceCtorEq,Int.reduceEq]
   obtain⟨q1,q2⟩:=eW9 (e:=e) h Aa he;exact Nw
  ·simp only[hk,reduceIte,reduceCtorEq,Int.reduceEq]
   obtain⟨q1,q2⟩:=eN8 (e:=e) h Aa;exact Nw
  ·simp only[hk,reduceIte,reduceCtorEq,Int.reduceEq]
   obtain⟨q1,q2⟩:=eM9 (e:=e) h Aa;exact Nw
  ·simp only[hk,reduceIte,reduceCtorEq,Int.reduceEq]
   obtain⟨q1,q2⟩:=eP9 (e:=e) h hn he;exact⟨sG hs he hf BX q1,q2⟩
  ·simp only[hk,reduceIte,reduceCtorEq,Int.reduceEq]
   obtain⟨q1,q2⟩:=eR8 (e:=e) h Aa;exact Nw
  ·simp only[hk,reduceIte,reduceCtorEq,Int.reduceEq]
   obtain⟨q1,q2⟩:=eK3 (e:=e) h Aa;exact Nw
  ·simp only[hk,reduceIte,reduceCtorEq,Int.reduceEq]
   obtain⟨q1,q2⟩:=eN4 (e:=e) h Aa;exact Nw
 ·rw[if_neg hf]
  exact⟨zsp Tryz.func15 (dM0 s e he hf),fun h=>Ad⟩
inductive Step(s:aJ)(e:Event):aJ->Prop
 |recv (x:aN) (hx:(e.kind=1/\x=⟨false,e.sheet,bar0,aI⟩/\dB e.sheet)\/(e.kind=2/\x=⟨true,dN,e.bar,aI⟩/\fM e.bar)) (hn:sid x∉s.used):Step s e (aX7 s x)
 |setK (k:Nat) (m:aN) (p:ByteArray) (hk:e.kind=3\/e.kind=4) (hm:s.stocks[k]? =some m) (hid:sid m=e.id):Step s e (setK s k (prog m p))
 |disc (k:Nat) (m:aN) (hk:e.kind=8) (hm:s.stocks[k]? =some m) (hid:sid m=e.id):Step s e (aX4 s k m)
 |setP (k:Nat) (m:Piece) (st:Int) (o:ByteArray) (hk:(e.kind=6/\st=2/\o=aI)\/(e.kind=7/\st=3/\o=e.text)) (hm:s.pieces[k]? =some m) (hs:m.status=1) (hid:m.id=e.id):Step s e (setP s k (marked m st o))
 |cut (k:Nat) (m:aN) (hk:e.kind=5) (hf:nY e) (hfr:dP s.used (fO e)) (hm:s.stocks[k]? =some m) (hid:sid m=e.id) (hp:m.program≠aI) (hr:cZ m [] e.rests=0) (hl:nJ m e=e.scrap):Step s e (cut5 s e k m)
theorem bE7{s:aJ}{k st:Int}{o:ByteArray}{n:Nat}(h:Ok s n)(h0:(nK s k st o).2=0):∃m,s.pieces[bs Piece.id s.pieces k]? =some m/\m.status=1/\m.id=k/\(nK s k st o).1=setP s (bs Piece.id s.pieces k) (marked m st o):=by
 unfold nK at h0⊢;by_cases h1:∃m∈s.pieces,m.id=k
 ·obtain⟨m,h2,h3⟩:=aB8 h.sp h1
  rw[if_pos h1,h2]at h0⊢;by_cases c:m.status=1
  ·exact⟨m,rfl,c,h3,by show(ite _ _ _:aJ×Int).1=_;rw[if_pos c]⟩
  ·have h0:(ite (m.status=1) (setP s (bs Piece.id s.pieces k) (marked m st o),(0:Int)) (inv0,10)).2=0:=h0
   rw[if_neg c]at h0;cases h0
 ·rw[if_neg h1]at h0
  cases h0
theorem aZ6{s:aJ}{e:Event}{n:Nat}(h:Ok s n)(h0:(appR s e).2=0):iD e/\Step s e (appR s e).1:=by
 unfold appR at h0⊢;by_cases hf:iD e;rotate_left
 ·rw[if_neg hf]at h0;cases h0
 refine⟨hf,?_⟩;rw[if_pos hf]at h0⊢;unfold bP2 at h0⊢;have hk:e.kind=1\/e.kind=2\/e.kind=3\/e.kind=4\/e.kind=5\/e.kind=6\/e.kind=7\/e.kind=8:=by have:=hf.2.2.2.2.2.2.2.2;omega
 rcases hk with hk|hk|hk|hk|hk|hk|hk|hk
 all_goals simp only[hk,reduceIte,reduceCtorEq,Int.reduceEq]at h0⊢
 ·unfold nM at h0⊢
  split at h0
  ·cases h0
  ·rename_i c
   rw[if_neg c];exact .recv _ (.inl ⟨hk,rfl,(hf.2.2.2.1 hk).2⟩) c
 ·unfold nM at h0⊢
  split at h0
  ·cases h0
  ·rename_i c
   rw[if_neg c];exact .recv _ (.inr ⟨hk,rfl,(hf.2.2.2.2.1 hk).2⟩) c
 ·unfold relR at h0⊢
  rcases kE (n:=e.id) (f:=fun m=>open Classical in if m.program=aI then(Led.setK s (bs sid s.stocks e.id) (prog m e.text),0)else(inv0,27)) h.ss with⟨h1,h2⟩|⟨m,h1,h2,h3,h4⟩
  ·rw[h2]at h0;cases h0
  ·rw[h4]at h0⊢
   by_cases c:m.program=aI
   ·rw[if_pos c];exact .setK _ m _ (.inl hk) h2 h3
   ·rw[if_neg c]at h0;cases h0
 ·unfold bP3 at h0⊢
  rcases kE (n:=e.id) (f:=fun m=>open Classical in if m.program≠aI then(Led.setK s (bs sid s.stocks e.id) (prog m aI),0)else(inv0,10)) h.ss with⟨h1,h2⟩|⟨m,h1,h2,h3,h4⟩
  ·rw[h2]at h0;cases h0
  ·rw[h4]at h0⊢
   by_cases c:m.program≠aI
   ·rw[if_pos c];exact .setK _ m _ (.inr hk) h2 h3
   ·rw[if_neg c]at h0;cases h0
 ·unfold cutR at h0⊢
  by_cases c1:dP s.used (fO e);rotate_left
  ·rw[if_pos c1]at h0;cases h0
  rw[if_neg (Classical.not_not.2 c1)]at h0⊢
  rcases kE (n:=e.id) (f:=fun m=>open Classical in if m.program=aI then(inv0,10)else
   if cZ m [] e.rests≠0 then(inv0,cZ m [] e.rests)else if nJ m e≠e.scrap then(inv0,29)else(cut5 s e (bs sid s.stocks e.id) m,0)) h.ss with⟨h1,h2⟩|⟨m,h1,h2,h3,h4⟩
  ·rw[h2]at h0;cases h0
  ·rw[h4]at h0⊢
   by_cases c2:m.program=aI
   ·rw[if_pos c2]at h0;cases h0
   ·rw[if_neg c2]at h0⊢
    by_cases c3:cZ m [] e.rests≠0
    ·rw[if_pos c3]at h0;exact absurd h0 c3
    ·rw[if_neg c3]at h0⊢
     by_cases c4:nJ m e≠e.scrap
     ·rw[if_pos c4]at h0;cases h0
     ·rw[if_neg c4]
      exact .cut _ m hk (hf.2.2.2.2.2.2.2.1 hk) c1 h2 h3 c2 (Classical.not_not.1 c3) (Classical.not_not.1 c4)
 ·obtain⟨m,h1,h2,h3,h4⟩:=bE7 h h0
  rw[h4];exact .setP _ m _ _ (.inl ⟨hk,rfl,rfl⟩) h1 h2 h3
 ·obtain⟨m,h1,h2,h3,h4⟩:=bE7 h h0
  rw[h4];exact .setP _ m _ _ (.inr ⟨hk,rfl,rfl⟩) h1 h2 h3
 ·unfold bQ0 at h0⊢
  rcases kE (n:=e.id) (f:=fun m=>open Classical in if m.program=aI then(aX4 s (bs sid s.stocks e.id) m,0)else(inv0,27)) h.ss with⟨h1,h2⟩|⟨m,h1,h2,h3,h4⟩
  ·rw[h2]at h0;cases h0
  ·rw[h4]at h0⊢
   by_cases c:m.program=aI
   ·rw[if_pos c];exact .disc _ m hk h2 h3
   ·rw[if_neg c]at h0;cases h0
theorem dC2(n:Int):∃k:Int,W n=n+k*18446744073709551616:=JJ
theorem fC5{a b:Int}(k:Int)(h:a=b+k*18446744073709551616):W a=W b:=by
 obtain⟨p,hp⟩:=dC2 a;obtain⟨q,hq⟩:=dC2 b;have h1:=nT a;have h2:=nT b
 omega
theorem bF8(a b:Int):W (W a+b)=W (a+b):=by
 obtain⟨p,hp⟩:=dC2 a;exact fC5 p Aa
theorem bX3(a:Int):W (W a)=W a:=w_in (nT a)
def cls(b:Bool)(r:Iv):Int:=if b then r.2 else r.1
theorem rX(b c:Bool)(r:Iv)(n:Int):cls b (plus c r n)=if c=b then W (cls b r+n)else cls b r:=by
 unfold cls plus;cases b<;>cases c<;>simp
def totS(b:Bool)(l:List aN):Int:=(l.map fun x=>if x.isBar=b then gG x else 0).sum
def totP(b:Bool)(l:List Piece):Int:=(l.map fun x=>if x.isBar=b then x.size else 0).sum
def inR(r:Iv):Prop:=∀b,W (cls b r)=cls b r
theorem cK5{r:Iv}{c:Bool}{n:Int}(h:inR r):inR (plus c r n):=fun b=>by rw[rX];split;exact bX3 _;exact h b
theorem bU2{α:Type}(f:α->Int)(l:List α)(i:Nat)(x:α):((putAt l i x).map f).sum=(l.map f).sum+f x:=by
 have h:(l.map f).sum=((l.take i).map f).sum+((l.drop i).map f).sum:=Dk;unfold putAt;rw[h,List.map_append,List.sum_append,List.map_cons,List.sum_cons];omega
theorem bP1{α:Type}(f:α->Int){l:List α}{i:Nat}{x:α}(hx:l[i]? =some x):((nN l i).map f).sum=(l.map f).sum-f x:=by
 obtain⟨hi,hx⟩:=List.getElem?_eq_some_iff.1 hx;have h:(l.map f).sum=((l.take i).map f).sum+((l.drop i).map f).sum:=Dk;rw[List.drop_eq_getElem_cons hi,hx,List.map_cons,List.sum_cons]at h;unfold nN;rw[h,List.map_append,List.sum_append];omega
theorem dF7{α:Type}(f:α->Int){l:List α}{i:Nat}{x y:α}(hx:l[i]? =some x)(hy:f y=f x):((l.set i y).map f).sum=(l.map f).sum:=by
 rw[bY6 (key:=f) hx hy]
theorem bB7{α:Type}(f:α->Int)(key:α->Int):∀(xs l:List α),((xs.foldl (putK key) l).map f).sum=(l.map f).sum+(xs.map f).sum
 | [],l=>Ae
 |x::xs,l=>by
  rw[List.foldl_cons,bB7 f key xs,show putK key l x=putAt l (bs key l (key x)) x from rfl,bU2,List.map_cons,List.sum_cons];omega
def R6(n:Int):Prop:= -9223372036854775808<=n/\n<=9223372036854775807
theorem eQ4{n c:Int}(hn:R6 n)(hc:0<=c)(h:0<=sub1 n c):sub1 n c=n-c/\c<=n:=by
 unfold sub1 at h⊢;unfold R6 at hn;rw[lH]at h⊢;by_cases h1:n=9223372036854775807
 ·subst h1
  have e:W (9223372036854775807+1)= -9223372036854775808:=Ak;rw[e,Int.min_eq_right Aa]at h;exact absurd h Ak
 ·rw[w_in (n:=n+1) Aa]at h⊢
  by_cases h2:c<=n+1
  ·rw[Int.min_eq_left h2]at h⊢
   rw[w_in Aa]at h⊢;omega
  ·rw[Int.min_eq_right Aa,w_in Aa]at h
   omega
theorem bK0(n c:Int):R6 (sub1 n c):=nT _
theorem bY2:∀(l:List Int) (n:Int),R6 n->(∀c∈l,0<=c)->0<=subL n l->subL n l=n-l.sum/\0<=n/\∀c∈l,c<=n
 | [],n,hn,_,h=>⟨by show n=n-0;omega,h,Ae⟩
 |c::l,n,hn,hc,h=>by
  have e:subL n (c::l)=subL (sub1 n c) l:=rfl;rw[e]at h⊢;have hc0:=hc c Ae
  obtain⟨q1,q2,q3⟩:=bY2 l (sub1 n c) (bK0 n c) (fun x hx=>hc x BO) h;obtain⟨q4,q5⟩:=eQ4 hn hc0 q2;refine⟨?_,Aa,fun x hx=>?_⟩
  ·rw[q1,q4,List.sum_cons];omega
  ·rcases List.mem_cons.1 hx with rfl|hx
   ·exact q5
   ·have:=q3 x hx;omega
theorem cE6(o:Rg):0<=uK ⟨o,[]⟩:=by
 unfold uK;split
 ·rename_i h
  have ho:dM o:=h.2.1 o (by simp[rings])
  have ha:0<zY o:=ho.2.2.2.1;have e:nG o=zY o:=if_pos ho
  show 0<=W (W (2*nG o)-nG o);rw[e,Int.sub_eq_add_neg,bF8]
  have hr: -9223372036854775808<=zY o/\zY o<=9223372036854775807:=by
   unfold zY
   cases hn:o.length with
   |zero=>have:=ho.1;omega
   |succ n=>rw[bC2];exact nT _
  rw[w_in Aa];omega
 ·exact Int.le_refl 0
theorem aJ5(s:Sh):R6 (uK s):=by
 unfold uK;split
 ·unfold qH rings
  have key:∀(l:List Rg) (a:Int),R6 a->R6 (l.foldl (fun a r=>W (a-nG r)) a):=by
   intro l
   induction l with
   |nil=>exact fun a h=>h
   |cons x l ih=>exact fun a _=>ih _ (nT _)
  exact key _ _ (nT _)
 ·exact⟨Ak,Ak⟩
theorem cY9(b:Bx)(v:Vc):(jT b v).holes=[] :=by
 have key:(qO (sV (vsub b.1 v) (vsub b.2 v))).holes=[] :=by
  have hr:(sV (vsub b.1 v) (vsub b.2 v)).holes=[] :=by
   unfold sV;split<;>rfl
  by_cases h:bG (sV (vsub b.1 v) (vsub b.2 v))
  ·rw[aN9 h]
   show wW _=[];unfold wW;rw[hr];rfl
  ·rw[bH5 h];rfl
 exact key
theorem yP{x:aN}{r:Rest}(h:iG x r=0)(hb:x.isBar=true->R6 x.bar.length):0<=gG (dZ x r)/\(dZ x r).isBar=x.isBar:=by
 unfold dZ;by_cases hx:x.isBar=false
 ·rw[if_pos hx]
  unfold iG at h;rw[if_pos hx]at h;by_cases h1:r.lo≠0\/r.hi≠0
  ·rw[if_pos h1]at h;cases h
  ·rw[if_neg h1]at h⊢
   refine⟨?_,hx.symm⟩;show 0<=uK (remS x.sheet r.box r.id).shape;unfold remS;rw[if_pos h];show 0<=uK (jT r.box r.box.1)
   have e:jT r.box r.box.1=⟨(jT r.box r.box.1).outer,[]⟩:=by
    have:=cY9 r.box r.box.1
    cases hq:jT r.box r.box.1 with
    |mk o hs=>rw[hq]at this;show Sh.mk o hs=⟨o,[]⟩;rw[show hs=[]from this]
   rw[e];exact cE6 _
 ·rw[if_neg hx,if_pos h]
  have hx':x.isBar=true:=by cases hq:x.isBar with
   |true=>rfl
   |false=>exact absurd hq hx
  refine⟨?_,hx'.symm⟩;show 0<=W (r.hi-r.lo);unfold iG at h;rw[if_neg hx]at h;split at h
  ·cases h
  ·split at h
   ·cases h
   ·rename_i h2
    have:=hb hx';unfold R6 at this;rw[w_in Aa];omega
end Go.Proofs.Led
