/- Lemmas. -/
import Derived.Test.YtcmgfjaiegpddaaGreatB12
set_option linter.all false
set_option maxRecDepth 1000000
set_option maxHeartbeats 4000000
noncomputable section
namespace Go.Proofs.Led
open Go Go.Proofs Go.Ab Go.RowKit Go.Lib Tryz
def yA{P:Program}{ops:Array Oper}{o:Oper}{a:Act}{w:World}{K:Act->World->Prop}{Q:Exit->Act->World->Prop}{E:Prop}
 (hg:o.guard=none)(d x:Operand)(c e:TypeId)(b:o.op=Op.call {callee:=Callee.builtin Builtin.append,args:= #[d,x],argTypes:= #[c,e]})
 (v u:Value)(f:a.eval d=v)(j:a.eval x=u){v':Value}{w':World}(g:(Builtin.append_ #[c,e] o.type #[v,u]).run P w= .ok v' w')(hK:K (a.put o.dst v') w'):
 if Region.wanted o (yielded ops a.tmps)=true then Oper.wp P o a w K Q else E:=by
 have i:Region.wanted o (yielded ops a.tmps)=true:=Dw;rw[Pm i];unfold Oper.wp;simp[execOp,b,resolve,invoke,builtin,f,j,g,Result.andThen];exact hK
def dQ4(b m c i:Nat)(cur:Array Value)(w:World)(hi:i<=m)(ai:m+1<=c)(W:c<=9223372036854775807)
 (L:w.heap[b]? =some (.cells cur 90 (0,0)))(o:cur.size=c*14)(h1:∀v∈cur.toList.take ((m+1)*14),v.oneCell'=true):
 Calls Tryz.prog 123 #[.slice (some ⟨b,0,none⟩) (m+1) c, .int .i64 i, .int .i64 ((i:Int)+1)] w λe w'=>
  ∃F:List Value,F.length=14/\e= .returned (.slice (some ⟨b,0,none⟩) m c)/\w'=(w.drew.setRow b (lay cur (i*14) ((cur.toList.drop ((i+1)*14)).take ((m-i)*14)))).setRow b (lay (lay cur (i*14) ((cur.toList.drop ((i+1)*14)).take ((m-i)*14))) (m*14) F):=by
 obtain⟨Y,B,g,S,z,X,C,t,D,-,-⟩:=(uG 90 (OZ Ac)).info;have Z:(T.row 90).size=14:=Ac;rw[Z]at g D;have J:z.cells.size=14:=by rw[<-PX,C,D]
 have y:cur.toList.length=c*14:=by rw[<-o];exact PX
 obtain⟨a,d⟩:∃a,a=(cur.toList.drop ((i+1)*14)).take ((m-i)*14):=⟨_,rfl⟩;have r:a.length=(m-i)*14:=by rw[d,PG,Qm,y];omega
 obtain⟨f,n⟩:∃f,f=lay cur (i*14) a:=⟨_,rfl⟩;have Q:f.size=c*14:=by rw[n,lay_size (by rw[r,o];omega),o]
 rw[<-d,<-n]
 have O:∀v∈a,v.oneCell'=true:=λv hv=>h1 v (by
  rw[d]at hv;have:(cur.toList.drop ((i+1)*14)).take ((m-i)*14)=(cur.toList.take ((m+1)*14)).drop ((i+1)*14):=by rw[Rz];congr 1;omega
  rw[this]at hv;exact PU hv)
 obtain⟨A,l,K⟩:∃A:Addr,(if c=i+1 then(⟨b,0,none⟩:Addr)else⟨b,(i+1)*14,none⟩)=A/\∀j v,a[j]? =some v->w.drew.cell? (A.add j)=some v:=by
  by_cases h:c=i+1;refine⟨_,Pm h,λj v q=>?_⟩;have:a=[] :=PV.1 (by rw[r];omega);rw[this]at q;simp at q;refine⟨_,Ph h,λj v q=>?_⟩;rw[Addr.add_lit];rw[d,RU]at q;split at q;rw[Qe,Sl]at q;have M:w.drew.heap[b]? =some (.cells cur 90 (0,0)):=L;simp only[World.cell?,M];simpa using q;cases q
 have G:∀ty,(Builtin.append_ #[61,61] ty #[.slice (some ⟨b,0,none⟩) i c, .slice (some A) (m-i) (c- (i+1))]).run Tryz.prog w.drew= .ok (.slice (some ⟨b,0,none⟩) m c) (w.drew.setRow b f):=λty=>by
  have h:=run_append_room (P:=Tryz.prog) w.drew 61 ty 90 Y underlying61 B b i c cur L A (m-i) (c- (i+1)) a (by rw[g];exact r) K O Aa (by rw[r,g,o];omega);rw[g,show i+(m-i)=m from Aa]at h;rw[n];exact h
 have k:(Builtin.zeroCells z.cells 1).toList.length=14:=by rw[PX];simp[Builtin.zeroCells,J]
 have I:∀v∈(Builtin.zeroCells z.cells 1).toList,v.oneCell'=true:=λv hv=>t v (by
  rw[<-C];unfold Builtin.zeroCells at hv;simp at hv;obtain⟨j,q,rfl⟩:=hv;rw[getElem!_pos z.cells _ (QE _ Aa)];exact Array.getElem_mem_toList _)
 have s:(Builtin.clear_ #[61] 0 #[.slice (some ⟨b,m*14,none⟩) 1 (c-m)]).run Tryz.prog (w.drew.setRow b f)= .ok (.tuple #[]) ((w.drew.setRow b f).setRow b (lay f (m*14) (Builtin.zeroCells z.cells 1).toList)):=by
  have R:=run_storeCells_at Tryz.prog b (m*14) 90 (Builtin.zeroCells z.cells 1).toList 0 f (w.drew.setRow b f) (QH w.drew b cur f _ _ L) (by rw[k,Q];omega) I;have U:∀w',(zeroValue 90).run Tryz.prog w'= .ok z w':=λw'=>by simp[zeroValue,typeInfo,B,X]
  unfold lay;simp[Builtin.clear_,Qb underlying61,U,R]
 obtain⟨F,E,x⟩:∃F:List Value,F.length=14/\(Builtin.clear_ #[61] 0 #[.slice (some ⟨b,m*14,none⟩) 1 (c-m)]).run Tryz.prog (w.drew.setRow b f)= .ok (.tuple #[]) ((w.drew.setRow b f).setRow b (lay f (m*14) F)):=⟨_,k,s⟩;clear s I k J D t C X S g B z Y;have ak:IntKind.i64.wrap ((i:Int)+1)=(i:Int)+1:=Ap;have al:¬((i:Int)=(i:Int)+1):=Aa;have aa:(0:Int)<=(i:Int)+1:=Aa;have aj:((i:Int)+1).toNat=i+1:=Aa;have ab:(i:Int)<=(i:Int)+1:=Aa;have ac:(i:Int)+1<=(m:Int)+1:=Aa;have ad:(m:Int)+1<=(c:Int):=Aa;have ae:¬(c=m):=Aa;have af:¬(c=i):=Aa;have ag:(i:Int)<=(c:Int):=Aa;have ah:(i:Int)<=(m:Int)+1:=Aa;have V:(m:Int)<=(m:Int)+1:=Aa;have t3:=QK;have t4:=QX;have u3:=Qb QK;have u4:=Qb QX;have uS:=Qb underlying61;have zE:=sizeOf90;have mixed:=mixed;clear n d
 have key:Calls Tryz.prog 123 #[.slice (some ⟨b,0,none⟩) (m+1) c, .int .i64 i, .int .i64 ((i:Int)+1)] w λe w'=>e= .returned (.slice (some ⟨b,0,none⟩) m c)/\w'=(w.drew.setRow b f).setRow b (lay f (m*14) F):=by
  by_cases u:c=i+1
  ·rw[Pm u]at l
   subst l;have N:m=i:=Aa;subst N;subst u
   have H:∀ty,(Builtin.append_ #[61,61] ty #[.slice (some ⟨b,0,none⟩) m (m+1), .slice (some ⟨b,0,none⟩) 0 0]).run Tryz.prog w.drew= .ok (.slice (some ⟨b,0,none⟩) m (m+1)) (w.drew.setRow b f):=by
    intro ty;have h:=G ty;rw[Nat.sub_self,Nat.sub_self]at h;exact h
   rw[show m+1-m=1 from Aa]at x
   go_enter func123,ntmps123
   go_wp2_with fail
   go_region_law_o (refine yA rfl (.tmp 22) (.tmp 25) 61 61 rfl (.slice (some ⟨b,0,none⟩) m (m+1)) (.slice (some ⟨b,0,none⟩) 0 0) Au Au (H _) ?_)
   go_wp2_with (simp only[x,P9])
   go_ret
   exact⟨rfl,rfl⟩
  rw[Ph u]at l;subst l
  go_enter func123,ntmps123
  go_wp2_with fail
  go_region_law_o (refine yA rfl (.tmp 22) (.tmp 25) 61 61 rfl (.slice (some ⟨b,0,none⟩) i c) (.slice (some ⟨b,(i+1)*14,none⟩) (m-i) (c- (i+1))) Au Au (G _) ?_)
  go_wp2_with (simp only[x,P9])
  go_ret
  exact⟨rfl,rfl⟩
 refine key.mono ?_;rintro e w' ⟨rfl,rfl⟩;exact⟨_,E,rfl,rfl⟩
def dL5(l:List V)(i:Nat)(hi:i<l.length)(hl:l.length<=1000000000):Sp 123 [.own 90 l,I i,I ((i:Int)+1)] (.own 90 (l.take i++l.drop (i+1))):=by
 have v:(T.row 90).size=14:=Ac;refine⟨Ac,λw G cs O P Q x h5=>?_⟩;obtain⟨J,K,L,rfl⟩:=arr3 O;have r0:Rb T w G 0 J (.own 90 l):=x 0 J _ rfl rfl;have r1:K= .int .i64 i:=aN3 (x 1 K (I i) rfl rfl);have r2:L= .int .i64 ((i:Int)+1):=aN3 (x 2 L (I ((i:Int)+1)) rfl rfl);subst r1 r2;obtain⟨S,t,Z⟩:=r0;rcases Z with⟨_,rfl⟩|⟨b,c,cur,rfl,W,F,Y,n,hcs,j,d⟩;simp at hi;rw[v]at hcs d;have a:=j;rw[v]at a;obtain⟨m,H⟩:∃m,l.length=m+1:=⟨l.length-1,Aa⟩;have f:cur.toList.length=c*14:=FI;have k:c<=9223372036854775807:=by unfold maxLen at n;omega
 have s:((cur.toList.drop ((i+1)*14)).take ((m-i)*14)).length=(m-i)*14:=by rw[PG,Qm,f];omega
 have z:bM (l.take i++l.drop (i+1)):=aH.2 λy B=>by
  rcases Pv.1 B with h|h;exact aH.1 t y (PO h);exact aH.1 t y (PU h)
 have r:(l.take i++l.drop (i+1)).length=m:=Be
 have C:∀y∈l.take i++l.drop (i+1),y.cells.length=(T.row 90).size:=λy B=>by
  rcases Pv.1 B with h|h;exact j y (PO h);exact j y (PU h)
 obtain⟨M,_⟩:=xW (i:=i) a Aa;obtain⟨_,N⟩:=xW (i:=i+1) a Aa
 have R:RvL w G (cur.toList.take (i*14)) ((l.take i).flatMap V.cells):=by
  have:=aM1 d (i*14);rw[SH,RY Aa,M]at this;exact this
 have U:RvL w G ((cur.toList.drop ((i+1)*14)).take ((m-i)*14)) ((l.drop (i+1)).flatMap V.cells):=by
  have:=aL4 d ((i+1)*14);rw[N,Rz,show l.length*14- (i+1)*14=(m-i)*14 from Aa]at this;exact this
 rw[H];refine(dQ4 b m c i cur w Aa Aa k F hcs (by rw[<-H];exact d.one)).mono ?_;rintro e w' ⟨zs,D,rfl,rfl⟩;have g:=lay_size (cur:=cur) (o:=i*14) (vs:=(cur.toList.drop ((i+1)*14)).take ((m-i)*14)) (by rw[s,hcs];omega);refine jM S z r C (X:=lay (lay cur (i*14) ((cur.toList.drop ((i+1)*14)).take ((m-i)*14))) (m*14) zs) ?_ (QH _ b _ _ _ _ (QH w.drew b cur _ _ _ F)) ?_ Aa n P Q (.inl W) (λq hq u=>?_) ?_ rfl rfl rfl;rw[v,xJ,Pq];have A:(lay cur (i*14) ((cur.toList.drop ((i+1)*14)).take ((m-i)*14))).toList.length=c*14:=by rw[PX,g,hcs]
 rw[List.take_append_of_le_length (by rw[PG,A];omega),SH,Nat.min_self];have E:m*14=i*14+((cur.toList.drop ((i+1)*14)).take ((m-i)*14)).length:=by rw[s];omega
 rw[E,layC (by rw[<-E,hcs];omega),QF];exact oH R U;rw[lay_size (by rw[D,g,hcs];omega),g,hcs,v];rw[Q9 _ b q _ u,Q9 _ b q _ u];rfl;rw[size_setRow,size_setRow];exact Po _
end Go.Proofs.Led
