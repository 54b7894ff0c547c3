/-
  The library's Delete at stocks: one element taken out.
-/
import Derived.Test.YtdjgbagnajikeaaGreatDoorB6
set_option linter.unusedVariables false
set_option linter.unusedSimpArgs false
set_option maxRecDepth 1000000
set_option maxHeartbeats 8000000
noncomputable section
namespace Go.Proofs.Led
open Go Go.Proofs Go.Ab Go.RowKit Go.Lib
theorem yA{P:Program}{ops:Array Oper}{o:Oper}{a:Act}{w:World}{K:Act->World->Prop}{Q:Exit->Act->World->Prop}{E:Prop}
 (hg:o.guard=none)(d x:Operand)(c e:TypeId)(b:o.op=Op.call {callee:=Callee.builtin Builtin.append,args:= #[d,x],argTypes:= #[c,e]})
 (v u:Value)(i:a.eval d=v)(g:a.eval x=u){v':Value}{w':World}(j:(Builtin.append_ #[c,e] o.type #[v,u]).run P w= .ok v' w')(hK:K (a.put o.dst v') w'):
 if Region.wanted o (yielded ops a.tmps)=true then Oper.wp P o a w K Q else E:=by
 have f:Region.wanted o (yielded ops a.tmps)=true:=CW;rw[Q9 f];unfold Oper.wp;simp[execOp,b,resolve,invoke,builtin,i,g,j,Result.andThen];exact hK
theorem dQ4(b m c i:Nat)(cur:Array Value)(w:World)(hi:i<=m)(ah:m+1<=c)(W:c<=9223372036854775807)
 (R:w.heap[b]? =some (.cells cur 86 (0,0)))(r:cur.size=c*14)(h1:∀v∈cur.toList.take ((m+1)*14),v.oneCell'=true):
 Calls Tryz.prog 121 #[.slice (some ⟨b,0,none⟩) (m+1) c, .int .i64 i, .int .i64 ((i:Int)+1)] w λe w'=>
  ∃D:List Value,D.length=14/\e= .returned (.slice (some ⟨b,0,none⟩) m c)/\w'=(w.drew.setRow b (lay cur (i*14) ((cur.toList.drop ((i+1)*14)).take ((m-i)*14)))).setRow b (lay (lay cur (i*14) ((cur.toList.drop ((i+1)*14)).take ((m-i)*14))) (m*14) D):=by
 obtain⟨V,u,g,S,z,Y,C,s,F,-,-⟩:=(uG 86 (QC Ac)).info;have e1:(T.row 86).size=14:=Ac;rw[e1]at g F;have I:z.cells.size=14:=by rw[<-RD,C,F]
 have y:cur.toList.length=c*14:=by rw[<-r];exact RD
 obtain⟨a,d⟩:∃a,a=(cur.toList.drop ((i+1)*14)).take ((m-i)*14):=⟨_,rfl⟩;have l:a.length=(m-i)*14:=by rw[d,QL,Rz,y];omega
 obtain⟨f,n⟩:∃f,f=lay cur (i*14) a:=⟨_,rfl⟩;have L:f.size=c*14:=by rw[n,lay_size (by rw[l,r];omega),r]
 rw[<-d,<-n]
 have Q:∀v∈a,v.oneCell'=true:=λv hv=>h1 v (by
  rw[d]at hv;have:(cur.toList.drop ((i+1)*14)).take ((m-i)*14)=(cur.toList.take ((m+1)*14)).drop ((i+1)*14):=by rw[UG];congr 1;omega
  rw[this]at hv;exact Rj hv)
 obtain⟨A,q,O⟩:∃A:Addr,(if c=i+1 then(⟨b,0,none⟩:Addr)else⟨b,(i+1)*14,none⟩)=A/\∀j v,a[j]? =some v->w.drew.cell? (A.add j)=some v:=by
  by_cases h:c=i+1
  ·refine⟨_,Q9 h,λj v o=>?_⟩
   have:a=[] :=Rn.1 (by rw[l];omega)
   rw[this]at o;simp at o
  ·refine⟨_,Q5 h,λj v o=>?_⟩
   rw[Addr.add_lit];rw[d,TI]at o;split at o
   ·rw[RI,TD]at o
    have U:w.drew.heap[b]? =some (.cells cur 86 (0,0)):=R;simp only[World.cell?,U];simpa using o
   ·cases o
 have J:∀ty,(Builtin.append_ #[46,46] ty #[.slice (some ⟨b,0,none⟩) i c, .slice (some A) (m-i) (c- (i+1))]).run Tryz.prog w.drew= .ok (.slice (some ⟨b,0,none⟩) m c) (w.drew.setRow b f):=λty=>by
  have h:=run_append_room (P:=Tryz.prog) w.drew 46 ty 86 V Ui u b i c cur R A (m-i) (c- (i+1)) a (by rw[g];exact l) O Q Aa (by rw[l,g,r];omega)
  rw[g,show i+(m-i)=m from Aa]at h;rw[n];exact h
 have k:(Builtin.zeroCells z.cells 1).toList.length=14:=by rw[RD];simp[Builtin.zeroCells,I]
 have G:∀v∈(Builtin.zeroCells z.cells 1).toList,v.oneCell'=true:=λv hv=>s v (by
  rw[<-C];unfold Builtin.zeroCells at hv;simp at hv;obtain⟨j,o,rfl⟩:=hv;rw[getElem!_pos z.cells _ (RV _ Aa)];exact Array.getElem_mem_toList _)
 have t:(Builtin.clear_ #[46] 0 #[.slice (some ⟨b,m*14,none⟩) 1 (c-m)]).run Tryz.prog (w.drew.setRow b f)= .ok (.tuple #[]) ((w.drew.setRow b f).setRow b (lay f (m*14) (Builtin.zeroCells z.cells 1).toList)):=by
  have N:=run_storeCells_at Tryz.prog b (m*14) 86 (Builtin.zeroCells z.cells 1).toList 0 f (w.drew.setRow b f) (SY w.drew b cur f _ _ R) (by rw[k,L];omega) G
  have K:∀w',(zeroValue 86).run Tryz.prog w'= .ok z w':=λw'=>by simp[zeroValue,typeInfo,u,Y]
  unfold lay;simp[Builtin.clear_,Rf Ui,K,N]
 obtain⟨D,x,E⟩:∃D:List Value,D.length=14/\(Builtin.clear_ #[46] 0 #[.slice (some ⟨b,m*14,none⟩) 1 (c-m)]).run Tryz.prog (w.drew.setRow b f)= .ok (.tuple #[]) ((w.drew.setRow b f).setRow b (lay f (m*14) D)):=⟨_,k,t⟩;clear t G k I F s C Y S g u z V;have aa:IntKind.i64.wrap ((i:Int)+1)=(i:Int)+1:=Aw;have ac:¬((i:Int)=(i:Int)+1):=Aa
 have ae:(0:Int)<=(i:Int)+1:=Aa;have ad:((i:Int)+1).toNat=i+1:=Aa
 have ab:(i:Int)<=(i:Int)+1:=Aa;have Z:(i:Int)+1<=(m:Int)+1:=Aa
 have aj:(m:Int)+1<=(c:Int):=Aa;have ag:¬(c=m):=Aa
 have ak:¬(c=i):=Aa;have af:(i:Int)<=(c:Int):=Aa
 have ai:(i:Int)<=(m:Int)+1:=Aa;have X:(m:Int)<=(m:Int)+1:=Aa
 have t3:=RU;have t4:=SN;have u3:=Rf RU;have u4:=Rf SN;have uS:=Rf Ui
 have zE:=Tryz.sizeOf86;have mixed:=mixed
 clear n d
 have key:Calls Tryz.prog 121 #[.slice (some ⟨b,0,none⟩) (m+1) c, .int .i64 i, .int .i64 ((i:Int)+1)] w λe w'=>e= .returned (.slice (some ⟨b,0,none⟩) m c)/\w'=(w.drew.setRow b f).setRow b (lay f (m*14) D):=by
  by_cases B:c=i+1
  ·rw[Q9 B]at q
   subst q;have M:m=i:=Aa;subst M;subst B
   have H:∀ty,(Builtin.append_ #[46,46] ty #[.slice (some ⟨b,0,none⟩) m (m+1), .slice (some ⟨b,0,none⟩) 0 0]).run Tryz.prog w.drew= .ok (.slice (some ⟨b,0,none⟩) m (m+1)) (w.drew.setRow b f):=by
    intro ty;have h:=J ty;rw[Nat.sub_self,Nat.sub_self]at h;exact h
   rw[show m+1-m=1 from Aa]at E
   go_enter Tryz.func121,Tryz.ntmps121
   go_wp2_with fail
   go_region_law_o (refine yA rfl (.tmp 22) (.tmp 25) 46 46 rfl (.slice (some ⟨b,0,none⟩) m (m+1)) (.slice (some ⟨b,0,none⟩) 0 0) Az Az (H _) ?_)
   go_wp2_with (simp only[E,QX])
   go_ret
   exact⟨rfl,rfl⟩
  ·rw[Q5 B]at q
   subst q
   go_enter Tryz.func121,Tryz.ntmps121
   go_wp2_with fail
   go_region_law_o (refine yA rfl (.tmp 22) (.tmp 25) 46 46 rfl (.slice (some ⟨b,0,none⟩) i c) (.slice (some ⟨b,(i+1)*14,none⟩) (m-i) (c- (i+1))) Az Az (J _) ?_)
   go_wp2_with (simp only[E,QX])
   go_ret
   exact⟨rfl,rfl⟩
 refine key.mono ?_;rintro e w' ⟨rfl,rfl⟩;exact⟨_,x,rfl,rfl⟩
theorem dL5(l:List V)(i:Nat)(hi:i<l.length)(hl:l.length<=1000000000):Sp 121 [.own 86 l,I i,I ((i:Int)+1)] (.own 86 (l.take i++l.drop (i+1))):=by
 have u:(T.row 86).size=14:=Ac;refine⟨Ac,λw G cs Q Z S x h5=>?_⟩;obtain⟨D,J,E,rfl⟩:=arr3 Q;have M:Rb T w G 0 D (.own 86 l):=x 0 D _ rfl rfl
 have U:J= .int .i64 i:=aN3 (x 1 J (I i) rfl rfl);have L:E= .int .i64 ((i:Int)+1):=aN3 (x 2 E (I ((i:Int)+1)) rfl rfl)
 subst U L;obtain⟨R,r,ho⟩:=M;rcases ho with⟨_,rfl⟩|⟨b,c,cur,rfl,N,K,aa,hcm,hcs,j,d⟩
 ·simp at hi
 rw[u]at hcs d;have a:=j;rw[u]at a;obtain⟨m,H⟩:∃m,l.length=m+1:=⟨l.length-1,Aa⟩;have g:cur.toList.length=c*14:=GV
 have s:c<=9223372036854775807:=Gn;have t:((cur.toList.drop ((i+1)*14)).take ((m-i)*14)).length=(m-i)*14:=by rw[QL,Rz,g];omega
 have A:bM (l.take i++l.drop (i+1)):=aH.2 λy v=>by
  rcases QJ.1 v with h|h
  ·exact aH.1 r y (Ri h)
  ·exact aH.1 r y (Rj h)
 have k:(l.take i++l.drop (i+1)).length=m:=AU
 have C:∀y∈l.take i++l.drop (i+1),y.cells.length=(T.row 86).size:=λy v=>by
  rcases QJ.1 v with h|h
  ·exact j y (Ri h)
  ·exact j y (Rj h)
 obtain⟨P,_⟩:=xW (i:=i) a Aa;obtain⟨_,f2⟩:=xW (i:=i+1) a Aa
 have W:RvL w G (cur.toList.take (i*14)) ((l.take i).flatMap V.cells):=by
  have:=aM1 d (i*14);rw[U4,Ux Aa,P]at this;exact this
 have O:RvL w G ((cur.toList.drop ((i+1)*14)).take ((m-i)*14)) ((l.drop (i+1)).flatMap V.cells):=by
  have:=aL4 d ((i+1)*14);rw[f2,UG,show l.length*14- (i+1)*14=(m-i)*14 from Aa]at this;exact this
 rw[H];refine(dQ4 b m c i cur w Aa Aa s K hcs (by rw[<-H];exact d.one)).mono ?_
 rintro e w' ⟨Y,B,rfl,rfl⟩;have f:=lay_size (cur:=cur) (o:=i*14) (vs:=(cur.toList.drop ((i+1)*14)).take ((m-i)*14)) (by rw[t,hcs];omega)
 refine jM R A k C (X:=lay (lay cur (i*14) ((cur.toList.drop ((i+1)*14)).take ((m-i)*14))) (m*14) Y) ?_ (SY _ b _ _ _ _ (SY w.drew b cur _ _ _ K)) ?_ Aa hcm Z S (.inl N) (λq hq n=>?_) ?_ rfl rfl rfl
 ·rw[u,xJ,Si]
  have z:(lay cur (i*14) ((cur.toList.drop ((i+1)*14)).take ((m-i)*14))).toList.length=c*14:=by rw[RD,f,hcs]
  rw[List.take_append_of_le_length (by rw[QL,z];omega),U4,Nat.min_self]
  have F:m*14=i*14+((cur.toList.drop ((i+1)*14)).take ((m-i)*14)).length:=by rw[t];omega
  rw[F,layC (by rw[<-F,hcs];omega),TA]
  exact oH W O
 ·rw[lay_size (by rw[B,f,hcs];omega),f,hcs,u]
 ·rw[SI _ b q _ n,SI _ b q _ n];rfl
 ·rw[size_setRow,size_setRow];exact QH _
end Go.Proofs.Led
namespace Go.Proofs.Led
open Go Go.Proofs Go.Ab
def nN{α:Type}(l:List α)(i:Nat):List α:=l.take i++l.drop (i+1)
theorem bK1(l:List aN)(i:Nat)(hi:i<l.length)(hl:l.length<=1000000000):Sp 121 [.own 86 (l.map aQ),I i,I ((i:Int)+1)] (.own 86 ((nN l i).map aQ)):=by
 have h:=dL5 (l.map aQ) i H7 BD;unfold nN;rw[Rl,List.map_take,List.map_drop];exact h
def aX4(s:aJ)(k:Nat)(m:aN):aJ:={stocks:=nN s.stocks k,pieces:=s.pieces,used:=s.used,received:=s.received,scrap:=plus m.isBar s.scrap (gG m)}
theorem cG4(s:aJ)(e:Event)(m:aN)(c:Gd s)(n:∃m∈s.stocks,sid m=e.id)(d:s.stocks[bs sid s.stocks e.id]? =some m)(j:m.program=aI)(f:eY m):
 jR T Tryz.prog Tryz.f82 [.box 100000 0,aS e] [stC s] (I 0) [stC (aX4 s (bs sid s.stocks e.id) m)] :=by
 have h1:=find_spec s e.id c;have a:=(QD.1 d).1
 have g:(s.stocks.map aQ).length=s.stocks.length:=Ae;have q:=c.ls
 have r:=bK1 s.stocks (bs sid s.stocks e.id) a Aa;have l:=oL m.isBar
 have t:=vF m f;unfold aX4;generalize bs sid s.stocks e.id=k at*;generalize (∃m∈s.stocks,sid m=e.id)=P at*;generalize nN s.stocks k=L at*;generalize gG m=z at*;unfold plus;obtain⟨b,i,o,p⟩:=m;cases b
 ·exact Js
 ·exact Js
theorem bM1(s:aJ)(e:Event)(m:aN)(d:Gd s)(f:∃m∈s.stocks,sid m=e.id)(a:s.stocks[bs sid s.stocks e.id]? =some m)(b:m.program=aI)(c:eY m):
 SpB 82 [.box 100000 0,aS e] [stC s] (I 0) [stC (aX4 s (bs sid s.stocks e.id) m)] :=
 b_of Tryz.func82 Ac Ac rfl rfl (cG4 s e m d f a b c)
theorem cN0(s:aJ)(e:Event)(m:aN)(b:Gd s)(g:∃m∈s.stocks,sid m=e.id)(a:s.stocks[bs sid s.stocks e.id]? =some m)(f:m.program≠aI):
 jR T Tryz.prog Tryz.f82 [.box 100000 0,aS e] [stC s] (I 27) [bots] :=by
 have h1:=find_spec s e.id b;have c:=(QD.1 a).1
 have d:(s.stocks.map aQ).length=s.stocks.length:=Ae;exact Nh
theorem bO0(s:aJ)(e:Event)(m:aN)(a:Gd s)(d:∃m∈s.stocks,sid m=e.id)(b:s.stocks[bs sid s.stocks e.id]? =some m)(c:m.program≠aI):
 SpB 82 [.box 100000 0,aS e] [stC s] (I 27) [bots] :=
 b_of Tryz.func82 Ac Ac rfl rfl (cN0 s e m a d b c)
theorem cE2(s:aJ)(e:Event)(hs:Gd s)(a:¬∃m∈s.stocks,sid m=e.id):
 jR T Tryz.prog Tryz.f82 [.box 100000 0,aS e] [stC s] (I 8) [bots] :=by
 exact Np
theorem bO2(s:aJ)(e:Event)(a:Gd s)(b:¬∃m∈s.stocks,sid m=e.id):
 SpB 82 [.box 100000 0,aS e] [stC s] (I 8) [bots] :=
 b_of Tryz.func82 Ac Ac rfl rfl (cE2 s e a b)
theorem bM6(s:jL):Sp 112 [zJ s] (DB (pJ s)):=by
 refine zsp Tryz.func112 ?_;have a:pJ s↔s.id=0/\s.grade=aI/\s.heat=aI/\s.grain=0/\s.shape.outer.length=0/\s.shape.holes.length=0/\s.defects.length=0:=Rt;generalize pJ s=P at*;have c:(s.shape.outer.map vcV).length=s.shape.outer.length:=Ae
 have f:(s.shape.holes.map rgV).length=s.shape.holes.length:=Ae;have d:(s.defects.map shV).length=s.defects.length:=Ae
 repeat' ((conv=>whnf);first|refine jI (λb=>?_) (λb=>?_)|refine zS ?_|refine zm (λx e=>?_)|refine zT ?_ ?_<;>intro _|fail)
 all_goals conv=>whnf
 all_goals first
  |exact aA (sK ⟨λh=>a.2 ⟨Aa,Ag,Ag,Aa,Aa,Aa,Aa⟩,λh=>by have:=(a.1 h).2.2.2.2.2.2;omega⟩)
  |exact aA (aC (λh=>by have:=(a.1 h);omega))
  |exact aA (aC (λh=>absurd (a.1 h).2.1 Ag))
  |exact aA (aC (λh=>absurd (a.1 h).2.2.1 Ag))
theorem aX9{s:jL}(h:dB s):lK s:=⟨iT h.2.2.2.1.1,by have:=h.2.2.2.2.1;omega,λd a=>iT (h.2.2.2.2.2.2.2 d a).1.1⟩
def bU7(c:Made):Prop:=nC c.id/\iM c.part/\1<=c.size
def bR4(r:Rest):Prop:=nC r.id/\(r.box=bx0\/(r.lo=0/\r.hi=0))
def nY(e:Event):Prop:=(∀c∈e.cuts,bU7 c)/\(∀r∈e.rests,bR4 r)/\e.cuts.length<=60/\e.rests.length<=6/\0<=e.scrap/\e.text=aI
structure iY(e:Event):Prop where
 sh:tN e.sheet
 br:e.bar.defects.length<=1000000
 ct:e.cuts.length<=1000000
 rs:e.rests.length<=1000000
theorem bL8(e:Event)(q:iY e):Sp 116 [aS e] (DB (nY e)):=by
 refine zsp Tryz.func116 ?_;have l:(e.cuts.map dK).length=e.cuts.length:=Ae;have n:(e.rests.map bY).length=e.rests.length:=Ae
 have x:=q.ct;have t:=q.rs
 have j:nY e↔(∀c∈e.cuts,bU7 c)/\(∀r∈e.rests,bR4 r)/\e.cuts.length<=60/\e.rests.length<=6/\0<=e.scrap/\e.text=aI:=Rt;generalize nY e=P at*
 repeat' ((conv=>whnf);first|refine zS ?_|fail)
 refine aU (A:=List Made) (B:=List Made) (λD R=>mkSt [(1, .box 1 0),(8, .sl (e.cuts.map dK)),(9,I e.cuts.length),(10,I D.length)] [(1,iJ e)] []) (λD R=>e.cuts=D++R/\∀c∈D,bU7 c) (λD R=>R.length) [] e.cuts ?_ ⟨rfl,Ae⟩ (λD R hp=>?_)
 ·refine dV ?_ ?_ ?_ ?_
  all_goals repeat' (first|exact trivial|refine And.intro ?_ ?_|with_reducible rfl|exact(λh=>Ah)|exact QH _|omega|exact rfl)
  all_goals (try rw[l])
 obtain⟨hp,k⟩:=hp
 cases R with
 |cons c R=>
  have i:=aO hp;have s:=aW0 c.id
  have y:=aG6 c.part;have d:c∈e.cuts:=Ad
  have g:bU7 c↔nC c.id/\iM c.part/\1<=c.size:=Rt;generalize nC c.id=w at*;generalize iM c.part=C at*
  repeat' ((conv=>whnf);first|omega|refine zS ?_|refine zT ?_ ?_<;>intro _|fail)
  all_goals conv=>whnf
  all_goals first
   |exact aA (aC (λh=>absurd (g.1 ((j.1 h).1 c d)).1 Ag))
   |exact aA (aC (λh=>absurd (g.1 ((j.1 h).1 c d)).2.1 Ag))
   |exact aA (aC (λh=>by have:=(g.1 ((j.1 h).1 c d)).2.2;omega))
   |skip
  refine⟨(D++[c],R),?_,⟨Ad,λz f=>?_⟩,Ae⟩
  ·exact I8
  ·rcases QJ.1 f with f|f
   ·exact k z f
   ·rw[QI.1 f]
    exact g.2 ⟨Ag,Ag,Aa⟩
 |nil=>
  have i:e.cuts.length=D.length:=Ad;have v:∀c∈e.cuts,bU7 c:=λc h=>k c BF
  clear k hp
  repeat' ((conv=>whnf);first|omega|refine zS ?_|refine zT ?_ ?_<;>intro _|fail)
  refine aU (A:=List Rest) (B:=List Rest) (λD R=>mkSt [(1, .box 1 0),(31, .sl (e.rests.map bY)),(32,I e.rests.length),(33,I D.length)] [(1,iJ e)] []) (λD R=>e.rests=D++R/\∀c∈D,bR4 c) (λD R=>R.length) [] e.rests ?_ ⟨rfl,Ae⟩ (λD R hp=>?_)
  ·refine dV ?_ ?_ ?_ ?_
   all_goals repeat' (first|exact trivial|refine And.intro ?_ ?_|with_reducible rfl|exact(λh=>Ah)|exact QH _|omega|exact rfl)
   all_goals (try rw[n])
  obtain⟨hp,k⟩:=hp
  cases R with
  |cons c R=>
   have i:=aO hp;have s:=aW0 c.id
   have d:c∈e.rests:=Ad;have g:bR4 c↔nC c.id/\(c.box=bx0\/(c.lo=0/\c.hi=0)):=Rt
   generalize nC c.id=w at*
   repeat' ((conv=>whnf);first|omega|refine cC5 ?_|refine cA4 (a:=c.box) (b:=bx0) (λhv=>?_) (λhv=>?_)|refine zS ?_|refine zT ?_ ?_<;>intro _|fail)
   all_goals conv=>whnf
   all_goals first
    |exact aA (aC (λh=>absurd (g.1 ((j.1 h).2.1 c d)).1 Ag))
    |exact aA (aC (λh=>by rcases(g.1 ((j.1 h).2.1 c d)).2 with o|o;exact absurd o (by assumption);omega))
    |skip
   all_goals refine⟨(D++[c],R),?_,⟨Ad,λz f=>?_⟩,Ae⟩
   all_goals first
    |(rcases QJ.1 f with f|f
      ·exact k z f
      ·rw[QI.1 f]
       first
        |exact g.2 ⟨Ag, .inl Ag⟩
        |exact g.2 ⟨Ag, .inr ⟨Aa,Aa⟩⟩)
    |skip
   all_goals simp only[QG,QK]
   ·exact zj
   ·exact zj
  |nil=>
   have m:e.rests.length=D.length:=Ad;have u:∀c∈e.rests,bR4 c:=λc h=>k c BF
   clear k hp
   repeat' ((conv=>whnf);first|omega|refine zS ?_|refine zT ?_ ?_<;>intro _|fail)
   all_goals conv=>whnf
   all_goals first
    |exact aA (aC (λh=>by have:=j.1 h;omega))
    |exact aA (qV ⟨λh=>j.2 ⟨v,u,Aa,Aa,Aa,h⟩,λh=>(j.1 h).2.2.2.2.2⟩)
def iD(e:Event):Prop:=
 ((e.kind=1\/e.kind=2)->e.id=0/\e.text=aI)/\(¬(e.kind=1\/e.kind=2)->pJ e.sheet/\yT e.bar)/\(e.kind≠5->e.cuts.length=0/\e.rests.length=0/\e.scrap=0)/\
 (e.kind=1->yT e.bar/\dB e.sheet)/\(e.kind=2->pJ e.sheet/\fM e.bar)/\(e.kind=3\/e.kind=7->iM e.text)/\(e.kind=4\/e.kind=6\/e.kind=8->e.text=aI)/\
 (e.kind=5->nY e)/\1<=e.kind/\e.kind<=8
theorem aE0(e:Event)(b:iY e):Sp 71 [aS e] (DB (iD e)):=by
 refine zsp Tryz.func71 ?_;have s:=bM6 e.sheet;have r:=cV3 e.bar
 have m:=aR2 e.sheet b.sh;have k:=qP e.bar b.br
 have f:=aG6 e.text;have g:=bL8 e b
 have c:(e.cuts.map dK).length=e.cuts.length:=Ae;have d:(e.rests.map bY).length=e.rests.length:=Ae
 have hr:iD e↔((e.kind=1\/e.kind=2)->e.id=0/\e.text=aI)/\(¬(e.kind=1\/e.kind=2)->pJ e.sheet/\yT e.bar)/\(e.kind≠5->e.cuts.length=0/\e.rests.length=0/\e.scrap=0)/\
  (e.kind=1->yT e.bar/\dB e.sheet)/\(e.kind=2->pJ e.sheet/\fM e.bar)/\(e.kind=3\/e.kind=7->iM e.text)/\(e.kind=4\/e.kind=6\/e.kind=8->e.text=aI)/\
  (e.kind=5->nY e)/\1<=e.kind/\e.kind<=8:=Rt
 generalize iD e=P at*;generalize pJ e.sheet=n at*;generalize yT e.bar=q at*;generalize dB e.sheet=j at*;generalize fM e.bar=l at*;generalize iM e.text=i at*;generalize nY e=o at*;have a:e.kind=1\/e.kind=2\/e.kind=3\/e.kind=4\/e.kind=5\/e.kind=6\/e.kind=7\/e.kind=8\/(e.kind<1\/8<e.kind):=Aa;rcases a with a|a|a|a|a|a|a|a|a
 ·exact J3
 ·exact J3
 ·exact I9
 ·exact I9
 ·exact I9
 ·exact I9
 ·exact I9
 ·exact I9
 ·exact I9
def upS(r:Iv)(l:List aN):Iv:=l.foldl (λr x=>plus x.isBar r (gG x)) r
def upP(r:Iv)(l:List Piece):Iv:=l.foldl (λr x=>plus x.isBar r x.size) r
def tK(s:aJ):Prop:=upP (upS s.scrap s.stocks) s.pieces=s.received
def fO(e:Event):List Int:=e.cuts.map Made.id++e.rests.map Rest.id
def sub1(n c:Int):Int:=W (n-minI c (W (n+1)))
def subL(n:Int)(l:List Int):Int:=l.foldl sub1 n
theorem bQ6(n:Int)(D:List Int)(c:Int):subL n (D++[c])=sub1 (subL n D) c:=by unfold subL;simp
def nJ(old:aN)(e:Event):Int:=subL (subL (gG old) (e.cuts.map Made.size)) ((eG old e.rests).map gG)
def fZ(e:Event)(old:aN)(c:Made):Piece:=⟨c.id,e.id,c.part,if old.isBar then old.bar.grade else old.sheet.grade,if old.isBar then old.bar.heat else old.sheet.heat,c.size,old.isBar,1,aI⟩
def putP(l:List Piece)(x:Piece):List Piece:=putAt l (bs Piece.id l x.id) x
def cut1(s:aJ)(e:Event):aJ:={s with used:=cO s.used (fO e)}
def cut2(s:aJ)(e:Event)(k:Nat):aJ:={cut1 s e with stocks:=nN s.stocks k}
def cut3(s:aJ)(e:Event)(k:Nat)(l:List aN):aJ:={cut2 s e k with stocks:=l.foldl putS (nN s.stocks k)}
def cut4(s:aJ)(e:Event)(k:Nat)(old:aN)(l:List aN)(c:List Made):aJ:={cut3 s e k l with pieces:=c.foldl (λp x=>putP p (fZ e old x)) s.pieces}
def cut5(s:aJ)(e:Event)(k:Nat)(old:aN):aJ:={cut4 s e k old (eG old e.rests) e.cuts with scrap:=plus old.isBar s.scrap e.scrap}
def eL3(s:aJ)(e:Event)(k:Nat)(r:Int)(bs':List (List V)):Prop:=
 (¬dP s.used (fO e)/\r=7/\bs'=[bots])\/
 (dP s.used (fO e)/\((¬(∃m∈s.stocks,sid m=e.id)/\r=8/\bs'=[bots])\/
  ∃m,(∃m∈s.stocks,sid m=e.id)/\s.stocks[k]? =some m/\((m.program=aI/\r=10/\bs'=[bots])\/
   (m.program≠aI/\eY m/\((cZ m [] e.rests≠0/\r=cZ m [] e.rests/\bs'=[bots])\/
     (cZ m [] e.rests=0/\(∀x∈eG m e.rests,eY x)/\(eG m e.rests).length<=1000000/\((nJ m e≠e.scrap/\r=29/\bs'=[bots])\/
      (nJ m e=e.scrap/\(∀D R,eG m e.rests=D++R->Gd (cut3 s e k D))/\(∀D R,e.cuts=D++R->Gd (cut4 s e k m (eG m e.rests) D))/\r=0/\bs'=[stC (cut5 s e k m)]))))))))
theorem aA8:∀(ids used:List Int),(used.map id).Pairwise (·<·)->dP used ids->((cO used ids).map id).Pairwise (·<·)/\(cO used ids).length=used.length+ids.length
 | [],used,h,_=>⟨h,rfl⟩
 |n::r,used,h,⟨c,b⟩=>by
  obtain⟨a,d⟩:=aA8 r (putN used n) (rF h c) b;refine⟨a,?_⟩;show(cO (putN used n) r).length=_;grind [mQ,QM,putN]
theorem eQ6{s:aJ}{e:Event}(a:Gd s)(d:s.used.length+(fO e).length<=1000000)(h:dP s.used (fO e)):Gd (cut1 s e):=by
 obtain⟨b,c⟩:=aA8 _ _ a.su h;exact⟨a.ls,a.lp,by show(cO s.used (fO e)).length<=_;rw[c];exact d,a.ss,a.sp,b⟩
def stB3(s:aJ)(a b c:Nat):List V:=[.arr 100000 a, .arr 100001 b, .arr 100002 c,I s.received.1,I s.received.2,I s.scrap.1,I s.scrap.2]
def stA3(s:aJ)(a b c:Nat):List (Nat×AE):=[(100000,⟨a, .own,86,s.stocks.map aQ⟩),(100001,⟨b, .own,71,s.pieces.map aZ⟩),(100002,⟨c, .own,3,s.used.map I⟩)]
theorem eX3(s:aJ)(e:Event){r:Int}{y:List (List V)}(N:Gd s)(he:iY e)(Z:s.used.length+(fO e).length<=1000000)(g:eL3 s e (bs sid s.stocks e.id) r y):
 jR T Tryz.prog Tryz.f79 [.box 100000 0,aS e] [stC s] (I r) y:=by
 have hc:=he.ct;have X:=he.rs
 have hm1:(e.cuts.map dK).length=e.cuts.length:=Ae;have ab:(e.rests.map bY).length=e.rests.length:=Ae
 repeat' ((conv=>whnf);first|refine zS ?_|fail)
 refine aU (A:=List Made) (B:=List Made) (λD R=>mkSt [(0, .box 100000 0),(3, .box 3 0),(5, .arr 40 D.length),(30, .sl (e.cuts.map dK)),(31,I e.cuts.length),(32,I D.length)] [(100000,stB s 0),(3,iJ e)] ((40,⟨D.length, .own,3,(D.map Made.id).map I⟩)::stA s s.used 0)) (λD R=>e.cuts=D++R) (λD R=>R.length) [] e.cuts ?_ rfl (λD R hp=>?_)
 ·exact JO
 cases R with
 |cons c R=>
  have v:=aO hp;have ah:((D++[c]).length:Int)=(D.length:Int)+1:=Ae
  have ac:((D.map Made.id).map I).length=D.length:=Ae
  repeat' ((conv=>whnf);first|omega|refine iH rfl (.inl rfl) rfl (QC rfl) (dA rfl) (show((D.map Made.id).map I).length+1<=1000000000 from Aa) ?_|refine zS ?_|refine zT ?_ ?_<;>intro _|fail)
  all_goals conv=>whnf
  refine⟨(D++[c],R),?_,Ad,Ae⟩;simp only[QG,QK,Rl,QW,RY];exact zj
 |nil=>
  have v:e.cuts.length=D.length:=Ad;have eD:e.cuts=D:=Ad
  have ac:((D.map Made.id).map I).length=D.length:=Ae;have j:fO e=D.map Made.id++e.rests.map Rest.id:=by unfold fO;rw[eD]
  clear hp
  repeat' ((conv=>whnf);first|omega|refine zS ?_|refine zT ?_ ?_<;>intro _|fail)
  refine aU (A:=List Rest) (B:=List Rest) (λE R=>mkSt [(0, .box 100000 0),(3, .box 3 0),(5, .arr 40 (D.length+E.length)),(43, .sl (e.rests.map bY)),(44,I e.rests.length),(45,I E.length)] [(100000,stB s 0),(3,iJ e)] ((40,⟨D.length+E.length, .own,3,(D.map Made.id++E.map Rest.id).map I⟩)::stA s s.used 0)) (λE R=>e.rests=E++R) (λE R=>R.length) [] e.rests ?_ rfl (λE R hp=>?_)
  ·simp only[RY,QU,S9,Tq]
   refine dV ?_ ?_ ?_ ?_;all_goals repeat' (first|exact trivial|refine And.intro ?_ ?_|with_reducible rfl|exact(λh=>Ah)|exact QH _|omega|exact rfl)
   all_goals (try rw[ab])
  cases R with
  |cons c R=>
   have l:=aO hp;have aj:((E++[c]).length:Int)=(E.length:Int)+1:=Ae
   have ae:((D.map Made.id++E.map Rest.id).map I).length=D.length+E.length:=Ae
   repeat' ((conv=>whnf);first|omega|refine iH rfl (.inl rfl) rfl (QC rfl) (dA rfl) (show((D.map Made.id++E.map Rest.id).map I).length+1<=1000000000 from Aa) ?_|refine zS ?_|refine zT ?_ ?_<;>intro _|fail)
   all_goals conv=>whnf
   refine⟨(E++[c],R),?_,Ad,Ae⟩;simp only[QG,QK,Rl,QW,RY,<-Si];exact zj
  |nil=>
   have l:e.rests.length=E.length:=Ad;have eE:e.rests=E:=Ad
   rw[eE]at j;rw[<-j];have hk:=bQ8 sid s.stocks e.id;have ag:(s.stocks.map aQ).length=s.stocks.length:=Ae
   have af:=N.ls;rcases g with⟨z,rfl,rfl⟩|⟨w,g⟩
   ·have n:=aU4 s (fO e) N Z z
    repeat' ((conv=>whnf);first|omega|refine zh (n) [100000] ?_|refine zS ?_|refine zT ?_ ?_<;>intro _|fail)
    all_goals conv=>whnf
    all_goals first|exact⟨_,rfl,zc1⟩|exact zc1
   have n:=aT7 s (fO e) N Z w;have M:=find_spec (cut1 s e) e.id (eQ6 N Z w)
   change SpB _ _ _ _ [stC (cut1 s e)]at n;change SpB _ _ [stC (cut1 s e)] (.tup [I (bs sid s.stocks e.id),DB (∃m∈s.stocks,sid m=e.id)]) [stC (cut1 s e)]at M;generalize bs sid s.stocks e.id=k at*;generalize (∃m∈s.stocks,sid m=e.id)=P at*;rcases g with⟨z,rfl,rfl⟩|⟨m,hP,hm,g⟩
   ·repeat' ((conv=>whnf);first|(exfalso;contradiction)|omega|refine zh (n) [100000] ?_|refine zh (M) [100000] ?_|refine zS ?_|refine zT ?_ ?_<;>intro _|fail)
    all_goals conv=>whnf
    all_goals first|exact⟨_,rfl,zc1⟩|exact zc1
   have ad:=(QD.1 hm).1;rcases g with⟨aa,rfl,rfl⟩|⟨aa,K,g⟩
   ·repeat' ((conv=>whnf);first|(exfalso;contradiction)|omega|refine jI (λf=>?_) (λf=>?_)|refine zh (n) [100000] ?_|refine zh (M) [100000] ?_|refine dS rfl rfl Au ?_|refine zS ?_|refine zT ?_ ?_<;>intro _|fail)
    all_goals conv=>whnf
    all_goals first|exact⟨_,rfl,zc1⟩|exact zc1
   have f3:=cU2 m e K X;have f4:=vF m K
   rcases g with⟨C,rfl,rfl⟩|⟨C,U,ai,g⟩
   ·generalize cZ m [] e.rests=RE at*
    generalize eG m e.rests=RL at*
    repeat' ((conv=>whnf);first|(exfalso;contradiction)|omega|refine jI (λf=>?_) (λf=>?_)|refine zh (n) [100000] ?_|refine zh (M) [100000] ?_|refine dS rfl rfl Au ?_|refine zS ?_|refine zT ?_ ?_<;>intro _|fail)
    all_goals conv=>whnf
    all_goals first|exact⟨_,rfl,zc1⟩|exact zc1
   rw[C]at f3;have L:((eG m e.rests).map aQ).length=(eG m e.rests).length:=Ae;generalize u:eG m e.rests=RL at*
   repeat' ((conv=>whnf);first|(exfalso;contradiction)|omega|refine jI (λf=>?_) (λf=>?_)|refine zh (n) [100000] ?_|refine zh (M) [100000] ?_|refine dS rfl rfl Au ?_|refine zS ?_|refine zT ?_ ?_<;>intro _|fail)
   all_goals conv=>whnf
   have G:nJ m e=subL (subL (gG m) (e.cuts.map Made.size)) (RL.map gG):=by unfold nJ;rw[u]
   generalize gG m=n0 at*;refine aU (A:=List Made) (B:=List Made) (λF R=>mkSt [(0, .box 100000 0),(3, .box 3 0),(11,I k),(13, .box 13 0),(14, .arr 91 0),(16,I (subL n0 (F.map Made.size))),(100, .sl (e.cuts.map dK)),(101,I e.cuts.length),(102,I F.length)] [(100000,stB3 (cut1 s e) 2 2 2),(3,iJ e),(13,gB m)] ((91,⟨0, .own,86,RL.map aQ⟩)::stA3 (cut1 s e) 2 2 2)) (λF R=>e.cuts=F++R) (λF R=>R.length) [] e.cuts ?_ rfl (λF R hp=>?_)
   ·exact JO
   cases R with
   |cons c R=>
    have q:=aO hp;have hsn:=bQ6 n0 (F.map Made.size) c.size
    repeat' ((conv=>whnf);first|omega|refine zS ?_|refine zT ?_ ?_<;>intro _|fail)
    all_goals conv=>whnf
    refine⟨(F++[c],R),?_,Ad,Ae⟩;simp only[QG,QK,Rl,QW,RY,hsn];exact zj
   |nil=>
    have q:e.cuts.length=F.length:=Ad;have eF:e.cuts=F:=Ad
    rw[eF]at G;generalize subL n0 (F.map Made.size)=n1 at*
    repeat' ((conv=>whnf);first|omega|refine zS ?_|refine zT ?_ ?_<;>intro _|fail)
    clear hp;refine aU (A:=List aN) (B:=List aN) (λH R=>mkSt [(0, .box 100000 0),(3, .box 3 0),(11,I k),(13, .box 13 0),(14, .arr 91 0),(16,I (subL n1 (H.map gG))),(114, .arr 91 0),(115,I RL.length),(116,I H.length)] [(100000,stB3 (cut1 s e) 2 2 2),(3,iJ e),(13,gB m)] ((91,⟨0, .own,86,RL.map aQ⟩)::stA3 (cut1 s e) 2 2 2)) (λH R=>RL=H++R) (λH R=>R.length) [] RL ?_ rfl (λH R hp=>?_)
    ·refine dV ?_ ?_ ?_ ?_
     all_goals repeat' (first|exact trivial|refine And.intro ?_ ?_|with_reducible rfl|exact(λh=>Ah)|exact QH _|omega|exact rfl)
     all_goals (try rw[L])
    cases R with
    |cons x R=>
     have o:=aO hp;have g1:=vF x (U x Ad)
     have hsn:=bQ6 n1 (H.map gG) (gG x);generalize Y:gG x=zx at*
     repeat' ((conv=>whnf);first|omega|refine dS rfl rfl FB ?_|refine zS ?_|refine zT ?_ ?_<;>intro _|fail)
     all_goals conv=>whnf
     refine⟨(H++[x],R),?_,Ad,Ae⟩;simp only[QG,QK,Rl,QW,RY,Y,hsn];exact zj
    |nil=>
     have o:RL.length=H.length:=Ad;have eH:RL=H:=Ad
     rw[<-eH];rw[<-G];clear hp;rcases g with⟨O,rfl,rfl⟩|⟨O,W,i,rfl,rfl⟩
     ·generalize nJ m e=n2 at*
      exact O0
     generalize nJ m e=n2 at*;have f5:=bK1 s.stocks k ad Aa
     repeat' ((conv=>whnf);first|omega|refine zS ?_|refine zT ?_ ?_<;>intro _|fail)
     all_goals conv=>whnf
     have h5:cut5 s e k m={cut4 s e k m RL e.cuts with scrap:=plus m.isBar s.scrap e.scrap}:=by unfold cut5;rw[u]
     rw[h5];refine aU (A:=List aN) (B:=List aN) (λJ R=>mkSt [(0, .box 100000 0),(3, .box 3 0),(13, .box 13 0),(143, .arr 91 0),(144,I RL.length),(145,I J.length)] [(100000,stB3 (cut3 s e k J) (3+J.length) (2+J.length) (2+J.length)),(3,iJ e),(13,gB m)] ((91,⟨0, .own,86,RL.map aQ⟩)::stA3 (cut3 s e k J) (3+J.length) (2+J.length) (2+J.length))) (λJ R=>RL=J++R) (λJ R=>R.length) [] RL ?_ rfl (λJ R hp=>?_)
     ·show Le T _ (mkSt [(0, .box 100000 0),(3, .box 3 0),(13, .box 13 0),(143, .arr 91 0),(144,I RL.length),(145,I 0)] [(100000,stB3 (cut2 s e k) 3 2 2),(3,iJ e),(13,gB m)] ((91,⟨0, .own,86,RL.map aQ⟩)::stA3 (cut2 s e k) 3 2 2))
      refine dV ?_ ?_ ?_ ?_;all_goals repeat' (first|exact trivial|refine And.intro ?_ ?_|with_reducible rfl|exact(λh=>Ah)|exact QH _|omega|exact rfl)
      all_goals (try rw[L])
     cases R with
     |cons x R=>
      have t:=aO hp;have g1:=cF7 (cut3 s e k J) x (W J (x::R) hp)
      have hsn:addS (cut3 s e k J) x=cut3 s e k (J++[x]):=by unfold addS cut3;simp only[Tz,RF,List.foldl_nil]
      rw[hsn]at g1
      repeat' ((conv=>whnf);first|omega|refine dS rfl rfl FB ?_|refine zh (g1) [100000] ?_|refine zS ?_|refine zT ?_ ?_<;>intro _|fail)
      all_goals conv=>whnf
      refine⟨(J++[x],R),?_,Ad,Ae⟩;exact MQ
     |nil=>
      have t:RL.length=J.length:=Ad;have eJ:RL=J:=Ad
      rw[<-eJ];clear hp;obtain⟨b,a,d,p⟩:=m;cases b
      ·have f6:=oL false
       repeat' ((conv=>whnf);first|omega|refine zS ?_|refine zT ?_ ?_<;>intro _|fail)
       refine aU (A:=List Made) (B:=List Made) (λQ R=>mkSt [(0, .box 100000 0),(3, .box 3 0),(13, .box 13 0),(23,S a.grade),(24,S a.heat),(168, .sl (e.cuts.map dK)),(169,I e.cuts.length),(170,I Q.length)] [(100000,stB3 (cut4 s e k ⟨false,a,d,p⟩ RL Q) (3+RL.length+Q.length) (2+RL.length+2*Q.length) (2+RL.length+Q.length)),(3,iJ e),(13,gB ⟨false,a,d,p⟩)] (stA3 (cut4 s e k ⟨false,a,d,p⟩ RL Q) (3+RL.length+Q.length) (2+RL.length+2*Q.length) (2+RL.length+Q.length))) (λQ R=>e.cuts=Q++R) (λQ R=>R.length) [] e.cuts ?_ rfl (λQ R hp=>?_)
       ·show Le T _ (mkSt [(0, .box 100000 0),(3, .box 3 0),(13, .box 13 0),(23,S a.grade),(24,S a.heat),(168, .sl (e.cuts.map dK)),(169,I e.cuts.length),(170,I 0)] [(100000,stB3 (cut3 s e k RL) (3+RL.length) (2+RL.length) (2+RL.length)),(3,iJ e),(13,gB ⟨false,a,d,p⟩)] (stA3 (cut3 s e k RL) (3+RL.length) (2+RL.length) (2+RL.length)))
        exact Ou
       cases R with
       |cons c R=>
        have hlen6:=aO hp;have g1:=uQ (cut4 s e k ⟨false,a,d,p⟩ RL Q) c.id (i Q (c::R) hp)
        have g2:=bU8 (cut4 s e k ⟨false,a,d,p⟩ RL Q).pieces (bs Piece.id (cut4 s e k ⟨false,a,d,p⟩ RL Q).pieces c.id) (fZ e ⟨false,a,d,p⟩ c) (bQ8 _ _ _) (by have:=(i Q (c::R) hp).lp;omega)
        have hsn:(cut4 s e k ⟨false,a,d,p⟩ RL (Q++[c])).pieces=putAt (cut4 s e k ⟨false,a,d,p⟩ RL Q).pieces (bs Piece.id (cut4 s e k ⟨false,a,d,p⟩ RL Q).pieces c.id) (fZ e ⟨false,a,d,p⟩ c):=Dc;generalize bs Piece.id (cut4 s e k ⟨false,a,d,p⟩ RL Q).pieces c.id=kk at*;generalize (∃m∈(cut4 s e k ⟨false,a,d,p⟩ RL Q).pieces,m.id=c.id)=PP at*;exact NH
       |nil=>exact J7
      ·have f6:=oL true
       repeat' ((conv=>whnf);first|omega|refine zS ?_|refine zT ?_ ?_<;>intro _|fail)
       refine aU (A:=List Made) (B:=List Made) (λQ R=>mkSt [(0, .box 100000 0),(3, .box 3 0),(13, .box 13 0),(23,S d.grade),(24,S d.heat),(168, .sl (e.cuts.map dK)),(169,I e.cuts.length),(170,I Q.length)] [(100000,stB3 (cut4 s e k ⟨true,a,d,p⟩ RL Q) (3+RL.length+Q.length) (2+RL.length+2*Q.length) (2+RL.length+Q.length)),(3,iJ e),(13,gB ⟨true,a,d,p⟩)] (stA3 (cut4 s e k ⟨true,a,d,p⟩ RL Q) (3+RL.length+Q.length) (2+RL.length+2*Q.length) (2+RL.length+Q.length))) (λQ R=>e.cuts=Q++R) (λQ R=>R.length) [] e.cuts ?_ rfl (λQ R hp=>?_)
       ·show Le T _ (mkSt [(0, .box 100000 0),(3, .box 3 0),(13, .box 13 0),(23,S d.grade),(24,S d.heat),(168, .sl (e.cuts.map dK)),(169,I e.cuts.length),(170,I 0)] [(100000,stB3 (cut3 s e k RL) (3+RL.length) (2+RL.length) (2+RL.length)),(3,iJ e),(13,gB ⟨true,a,d,p⟩)] (stA3 (cut3 s e k RL) (3+RL.length) (2+RL.length) (2+RL.length)))
        exact Ou
       cases R with
       |cons c R=>
        have hlen6:=aO hp;have g1:=uQ (cut4 s e k ⟨true,a,d,p⟩ RL Q) c.id (i Q (c::R) hp)
        have g2:=bU8 (cut4 s e k ⟨true,a,d,p⟩ RL Q).pieces (bs Piece.id (cut4 s e k ⟨true,a,d,p⟩ RL Q).pieces c.id) (fZ e ⟨true,a,d,p⟩ c) (bQ8 _ _ _) (by have:=(i Q (c::R) hp).lp;omega)
        have hsn:(cut4 s e k ⟨true,a,d,p⟩ RL (Q++[c])).pieces=putAt (cut4 s e k ⟨true,a,d,p⟩ RL Q).pieces (bs Piece.id (cut4 s e k ⟨true,a,d,p⟩ RL Q).pieces c.id) (fZ e ⟨true,a,d,p⟩ c):=Dc;generalize bs Piece.id (cut4 s e k ⟨true,a,d,p⟩ RL Q).pieces c.id=kk at*;generalize (∃m∈(cut4 s e k ⟨true,a,d,p⟩ RL Q).pieces,m.id=c.id)=PP at*;exact NH
       |nil=>exact J7
theorem xP(s:aJ)(e:Event){r:Int}{a:List (List V)}(c:Gd s)(g:iY e)(i:s.used.length+(fO e).length<=1000000)(f:eL3 s e (bs sid s.stocks e.id) r a)(d:a=[bots]\/∃b,a=[stC b]):
 SpB 79 [.box 100000 0,aS e] [stC s] (I r) a:=
 b_of Tryz.func79 Ac Ac rfl (by rcases d with rfl|⟨b,rfl⟩<;>rfl) (eX3 s e c g i f)
def MethOk(s:aJ)(e:Event)(k:Int)(f:FuncId)(r:Int)(bs':List (List V)):Prop:=e.kind=k/\SpB f [.box 100000 0,aS e] [stC s] (I r) bs'
theorem assoc_hit{k:Value}{x:V}{r:List V}:jG k (.tup [.lit k,x] ::r)=some x:=by simp[jG]
theorem assoc_miss{k a:Value}{x:V}{r:List V}(h:a≠k):jG k (.tup [.lit a,x] ::r)=jG k r:=by simp[jG,h]
def uP:List V:=[.tup [.lit (.int .i64 8), .fn 82 []], .tup [.lit (.int .i64 7), .fn 81 []], .tup [.lit (.int .i64 6), .fn 80 []], .tup [.lit (.int .i64 5), .fn 79 []],
 .tup [.lit (.int .i64 4), .fn 78 []], .tup [.lit (.int .i64 3), .fn 77 []], .tup [.lit (.int .i64 2), .fn 76 []], .tup [.lit (.int .i64 1), .fn 75 []]]
theorem dM0(s:aJ)(e:Event)(a:iY e)(b:¬iD e):fnVC T Tryz.prog Tryz.f39 [invV s,aS e] (.tup [invV inv0,I 1]):=by
 have c:=aE0 e a;exact zF
theorem dL3(s a:aJ)(e:Event)(hs:Gd s)(he:iY e)(b:iD e){f:FuncId}(hg:jG (.int .i64 e.kind) uP=some (.fn f []))(hm:SpB f [.box 100000 0,aS e] [stC s] (I 0) [stC a]):
 fnVC T Tryz.prog Tryz.f39 [invV s,aS e] (.tup [invV a,I 0]):=by
 exact NI
theorem dR7(s:aJ)(e:Event)(hs:Gd s)(he:iY e)(b:iD e){f:FuncId}{r:Int}(hg:jG (.int .i64 e.kind) uP=some (.fn f []))(a:r≠0)(hm:SpB f [.box 100000 0,aS e] [stC s] (I r) [bots]):
 fnVC T Tryz.prog Tryz.f39 [invV s,aS e] (.tup [invV inv0,I r]):=by
 exact NI
open Classical in
def aD6(s:aJ)(n:Int)(f:aN->aJ×Int):aJ×Int:=
 if(∃m∈s.stocks,sid m=n)then(match s.stocks[bs sid s.stocks n]? with|some m=>f m|none=>(inv0,8))else(inv0,8)
open Classical in
def nM(s:aJ)(x:aN):aJ×Int:=if sid x∈s.used then(inv0,7)else(aX7 s x,0)
open Classical in
def relR(s:aJ)(e:Event):aJ×Int:=aD6 s e.id λm=>if m.program=aI then(setK s (bs sid s.stocks e.id) (prog m e.text),0)else(inv0,27)
open Classical in
def bP3(s:aJ)(e:Event):aJ×Int:=aD6 s e.id λm=>if m.program≠aI then(setK s (bs sid s.stocks e.id) (prog m aI),0)else(inv0,10)
open Classical in
def bQ0(s:aJ)(e:Event):aJ×Int:=aD6 s e.id λm=>if m.program=aI then(aX4 s (bs sid s.stocks e.id) m,0)else(inv0,27)
open Classical in
def nK(s:aJ)(n st:Int)(o:ByteArray):aJ×Int:=
 if(∃m∈s.pieces,m.id=n)then(match s.pieces[bs Piece.id s.pieces n]? with|some m=>(if m.status=1 then(setP s (bs Piece.id s.pieces n) (marked m st o),0)else(inv0,10))|none=>(inv0,8))else(inv0,8)
open Classical in
def cutR(s:aJ)(e:Event):aJ×Int:=
 if¬dP s.used (fO e)then(inv0,7)else aD6 s e.id λm=>if m.program=aI then(inv0,10)else
  if cZ m [] e.rests≠0 then(inv0,cZ m [] e.rests)else if nJ m e≠e.scrap then(inv0,29)else(cut5 s e (bs sid s.stocks e.id) m,0)
def bP2(s:aJ)(e:Event):aJ×Int:=
 if e.kind=1 then nM s ⟨false,e.sheet,bar0,aI⟩else if e.kind=2 then nM s ⟨true,dN,e.bar,aI⟩else if e.kind=3 then relR s e else if e.kind=4 then bP3 s e
 else if e.kind=5 then cutR s e else if e.kind=6 then nK s e.id 2 aI else if e.kind=7 then nK s e.id 3 e.text else bQ0 s e
open Classical in
def appR(s:aJ)(e:Event):aJ×Int:=if iD e then bP2 s e else(inv0,1)
def putK{α:Type}(key:α->Int)(l:List α)(x:α):List α:=putAt l (bs key l (key x)) x
theorem bE9{e:Type}{key:e->Int}:∀ {xs l:List e},(l.map key).Pairwise (·<·)->(∀x∈xs,∀y∈l,key y≠key x)->(xs.map key).Pairwise (·≠·)->
 ((xs.foldl (putK key) l).map key).Pairwise (·<·)/\(∀y,y∈xs.foldl (putK key) l↔y∈l\/y∈xs)/\(xs.foldl (putK key) l).length=l.length+xs.length
 | [],l,c,_,_=>⟨c,Ae,Ae⟩
 |x::xs,l,c,f,k=>by
  obtain⟨a,d⟩:=RH.1 k;have o:((putK key l x).map key).Pairwise (·<·):=yR c (λm g=>f x Ae m g)
  obtain⟨n,j,i⟩:=bE9 (xs:=xs) (l:=putK key l x) o (λz hz y b=>by
   rcases fH.1 b with rfl|b
   ·exact a _ (Rq hz)
   ·exact f z Ip y b) d
  refine⟨n,λy=>?_,?_⟩
  ·rw[RF,j,show(y∈putK key l x↔y=x\/y∈l)from fH,QO]
   constructor
   ·rintro((h|h)|h)
    ·exact .inr (.inl h)
    ·exact .inl h
    ·exact .inr (.inr h)
   ·rintro(h|h|h)
    ·exact .inl (.inr h)
    ·exact .inl (.inl h)
    ·exact .inr h
  ·rw[RF,i,show(putK key l x).length=l.length+1 from mQ,QM]
   omega
theorem qJ:∀ {ids used:List Int},dP used ids↔(∀n∈ids,n∉used)/\ids.Pairwise (·≠·)
 | [],used=>⟨λ_=>⟨Ae,List.Pairwise.nil⟩,λ_=>trivial⟩
 |n::ids,used=>by
  show(n∉used/\dP (putN used n) ids)↔_;rw[qJ,RH];constructor
  ·rintro⟨c,b,d⟩
   refine⟨λm a=>?_,λm a e=>?_,d⟩
   ·rcases QO.1 a with rfl|a
    ·exact c
    ·exact λh=>b m a (fH.2 (.inr h))
   ·exact b m a (fH.2 (.inl e.symm))
  ·rintro⟨c,b,d⟩
   refine⟨c n Ae,λm a h=>?_,d⟩;rcases fH.1 h with e|h
   ·exact b m a e.symm
   ·exact c m (by simp[a]) h
theorem tY{y:Int}:∀ {ids used:List Int},y∈cO used ids↔y∈used\/y∈ids
 | [],used=>by simp[cO]
 |n::ids,used=>by
  show y∈cO (putN used n) ids↔_;rw[tY,show(y∈putN used n↔y=n\/y∈used)from fH,QO];constructor
  ·rintro((h|h)|h)
   ·exact .inr (.inl h)
   ·exact .inl h
   ·exact .inr (.inr h)
  ·rintro(h|h|h)
   ·exact .inl (.inr h)
   ·exact .inl (.inl h)
   ·exact .inr h
theorem kM{a:Type}(l:List a)(i:Nat):(nN l i).Sublist l:=by
 grind [List.Sublist.append,List.drop_drop,List.drop_sublist,RQ,nN]
theorem bB0{a:Type}{key:a->Int}{l:List a}(h:(l.map key).Pairwise (·<·))(i:Nat):((nN l i).map key).Pairwise (·<·):=h.sublist ((kM l i).map key)
theorem bY6{a:Type}{key:a->Int}{l:List a}{k:Nat}{m x:a}(b:l[k]? =some m)(c:key x=key m):(l.set k x).map key=l.map key:=by
 apply List.ext_getElem?;grind
theorem tZ{x:aN}:∀ {R D:List Rest},cZ x D R=0->∀r∈R,iG x r=0
 | [],D,_=>Ae
 |r::R,D,h=>by
  unfold cZ at h;split at h
  ·rename_i b;exact absurd h b
  ·rename_i b
   split at h
   ·cases h
   ·intro q a
    rcases QO.1 a with rfl|a
    ·exact Sv.1 b
    ·exact tZ h q a
theorem cL1{x:aN}{r:Rest}(h:iG x r=0):sid (dZ x r)=r.id:=by
 unfold dZ;unfold iG at h;by_cases a:x.isBar=false
 ·rw[Q9 a]at h⊢
  by_cases b:r.lo≠0\/r.hi≠0
  ·rw[Q9 b]at h;cases h
  ·rw[Q5 b]at h⊢
   show(remS x.sheet r.box r.id).id=_;unfold remS;rw[Q9 h]
 ·rw[Q5 a]
  have c:iG x r=0:=by unfold iG;rw[Q5 a];rw[Q5 a]at h;exact h
  rw[Q9 c];rfl
theorem dL4{s:jL}{b:Bx}{id:Int}(c:lK s):lK (remS s b id):=by
 unfold remS;split
 ·refine⟨aD2 _ _,QV (yK b s.defects) c.2.1,λd a=>?_⟩
  obtain⟨q,f,a⟩:=List.mem_flatMap.1 a;grind [QI,aD2,aK2,QI.1]
 ·exact⟨⟨Ir,Ir,λr e=>by simp[dN,sh0]at e⟩,by simp[dN],λd a=>by simp[dN]at a⟩
theorem xZ:lK dN:=⟨⟨Ir,Ir,λr b=>by simp[dN,sh0]at b⟩,by simp[dN],λd a=>by simp[dN]at a⟩
theorem aX5{x:aN}{r:Rest}(a:eY x):eY (dZ x r):=by
 unfold dZ;split
 ·split
  ·exact⟨xZ,by simp[wS,bar0]⟩
  ·exact⟨dL4 a.1,by simp[bar0]⟩
 ·split
  ·exact⟨xZ,QV (aG5 r _) a.2⟩
  ·exact⟨xZ,by simp[wS,bar0]⟩
theorem mV{x:aN}{l:List Rest}(h:cZ x [] l=0):eG x l=l.map (dZ x):=by unfold eG;rw[Q9 h]
theorem aG9{x:aN}{l:List Rest}(h:cZ x [] l=0):(eG x l).map sid=l.map Rest.id:=by
 grind [mV,Uc,SE,cL1,tZ]
end Go.Proofs.Led
