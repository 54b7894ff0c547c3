/-
  The library's Delete at stocks: one element taken out.
-/
import Derived.Test.YtdjgbagnajikeaaGreatDoorB8
import Derived.Shelf.Spec.SlicesInsert
set_option linter.unusedVariables false
set_option linter.unusedSimpArgs false
set_option maxRecDepth 1000000
set_option maxHeartbeats 4000000
noncomputable section
namespace Go.Proofs.Led
open Go Go.Proofs Go.Ab Go.RowKit Go.Lib
theorem yA{P:Program}{ops:Array Oper}{o:Oper}{a:Act}{w:World}{K:Act->World->Prop}{Q:Exit->Act->World->Prop}{E:Prop}
 (hg:o.guard=none)(d x:Operand)(dT sT:TypeId)(hop:o.op=Op.call {callee:=Callee.builtin Builtin.append,args:= #[d,x],argTypes:= #[dT,sT]})
 (v u:Value)(hd:a.eval d=v)(hx:a.eval x=u){v':Value}{w':World}(hr:(Builtin.append_ #[dT,sT] o.type #[v,u]).run P w= .ok v' w')(hK:K (a.put o.dst v') w'):
 if Region.wanted o (yielded ops a.tmps)=true then Oper.wp P o a w K Q else E:=by
 have hw:Region.wanted o (yielded ops a.tmps)=true:=BM;rw[if_pos hw];unfold Oper.wp;simp[execOp,hop,resolve,invoke,builtin,hd,hx,hr,Result.andThen];exact hK
theorem dQ4(b m c i:Nat)(cur:Array Value)(w:World)(hi:i<=m)(hmc:m+1<=c)(hc63:c<=9223372036854775807)
 (hb:w.heap[b]? =some (.cells cur 86 (0,0)))(hbs:cur.size=c*14)(h1:∀v∈cur.toList.take ((m+1)*14),v.oneCell'=true):
 Calls Tryz.prog 121 #[.slice (some ⟨b,0,none⟩) (m+1) c, .int .i64 i, .int .i64 ((i:Int)+1)] w fun e w'=>
  ∃zs:List Value,zs.length=14/\e= .returned (.slice (some ⟨b,0,none⟩) m c)/\w'=(w.drew.setRow b (lay cur (i*14) ((cur.toList.drop ((i+1)*14)).take ((m-i)*14)))).setRow b (lay (lay cur (i*14) ((cur.toList.drop ((i+1)*14)).take ((m-i)*14))) (m*14) zs):=by
 obtain⟨i0,hi0,hz0,hy0,z,hz,hzc,hz1c,hzl,-,-⟩:=(uG 86 (of_decide_eq_true Ac)).info;have e1:(T.row 86).size=14:=Ac;rw[e1]at hz0 hzl;have hzs:z.cells.size=14:=by rw[<-Array.length_toList,hzc,hzl]
 have hcur0:cur.toList.length=c*14:=by rw[<-hbs];exact Array.length_toList
 obtain⟨news,hnews⟩:∃news,news=(cur.toList.drop ((i+1)*14)).take ((m-i)*14):=⟨_,rfl⟩;have hnl:news.length=(m-i)*14:=by rw[hnews,List.length_take,List.length_drop,hcur0];omega
 obtain⟨X1,hX1⟩:∃X1,X1=lay cur (i*14) news:=⟨_,rfl⟩;have hs1:X1.size=c*14:=by rw[hX1,lay_size (by rw[hnl,hbs];omega),hbs]
 rw[<-hnews,<-hX1]
 have hn1:∀v∈news,v.oneCell'=true:=fun v hv=>h1 v (by
  rw[hnews]at hv;have:(cur.toList.drop ((i+1)*14)).take ((m-i)*14)=(cur.toList.take ((m+1)*14)).drop ((i+1)*14):=by rw[List.drop_take];congr 1;omega
  rw[this]at hv;exact List.mem_of_mem_drop hv)
 obtain⟨A,hA1,hA2⟩:∃A:Addr,(if c=i+1 then(⟨b,0,none⟩:Addr)else⟨b,(i+1)*14,none⟩)=A/\∀j v,news[j]? =some v->w.drew.cell? (A.add j)=some v:=by
  by_cases h:c=i+1
  ·refine⟨_,if_pos h,fun j v hj=>?_⟩
   have:news=[] :=List.length_eq_zero_iff.1 (by rw[hnl];omega)
   rw[this]at hj;simp at hj
  ·refine⟨_,if_neg h,fun j v hj=>?_⟩
   rw[Addr.add_lit];rw[hnews,List.getElem?_take]at hj;split at hj
   ·rw[List.getElem?_drop,Array.getElem?_toList]at hj
    have hb':w.drew.heap[b]? =some (.cells cur 86 (0,0)):=hb;simp only[World.cell?,hb'];simpa using hj
   ·cases hj
 have hap:∀ty,(Builtin.append_ #[46,46] ty #[.slice (some ⟨b,0,none⟩) i c, .slice (some A) (m-i) (c- (i+1))]).run Tryz.prog w.drew= .ok (.slice (some ⟨b,0,none⟩) m c) (w.drew.setRow b X1):=fun ty=>by
  have h:=run_append_room (P:=Tryz.prog) w.drew 46 ty 86 i0 Tryz.underlying46 hi0 b i c cur hb A (m-i) (c- (i+1)) news (by rw[hz0];exact hnl) hA2 hn1 Aa (by rw[hnl,hz0,hbs];omega)
  rw[hz0,show i+(m-i)=m from Aa]at h;rw[hX1];exact h
 have hz14:(Builtin.zeroCells z.cells 1).toList.length=14:=by rw[Array.length_toList];simp[Builtin.zeroCells,hzs]
 have hz1:∀v∈(Builtin.zeroCells z.cells 1).toList,v.oneCell'=true:=fun v hv=>hz1c v (by
  rw[<-hzc];unfold Builtin.zeroCells at hv;simp at hv;obtain⟨j,hj,rfl⟩:=hv;rw[getElem!_pos z.cells _ (Nat.mod_lt _ Aa)];exact Array.getElem_mem_toList _)
 have hcl0:(Builtin.clear_ #[46] 0 #[.slice (some ⟨b,m*14,none⟩) 1 (c-m)]).run Tryz.prog (w.drew.setRow b X1)= .ok (.tuple #[]) ((w.drew.setRow b X1).setRow b (lay X1 (m*14) (Builtin.zeroCells z.cells 1).toList)):=by
  have hst:=run_storeCells_at Tryz.prog b (m*14) 86 (Builtin.zeroCells z.cells 1).toList 0 X1 (w.drew.setRow b X1) (setRow_heap w.drew b cur X1 _ _ hb) (by rw[hz14,hs1];omega) hz1
  have hzv:∀w',(zeroValue 86).run Tryz.prog w'= .ok z w':=fun w'=>by simp[zeroValue,typeInfo,hi0,hz]
  unfold lay;simp[Builtin.clear_,run_underlying Tryz.underlying46,hzv,hst]
 obtain⟨zs,hzl14,hcl⟩:∃zs:List Value,zs.length=14/\(Builtin.clear_ #[46] 0 #[.slice (some ⟨b,m*14,none⟩) 1 (c-m)]).run Tryz.prog (w.drew.setRow b X1)= .ok (.tuple #[]) ((w.drew.setRow b X1).setRow b (lay X1 (m*14) zs)):=⟨_,hz14,hcl0⟩;clear hcl0 hz1 hz14 hzs hzl hz1c hzc hz hy0 hz0 hi0 z i0;have hw1:IntKind.i64.wrap ((i:Int)+1)=(i:Int)+1:=Am;have hz2:¬((i:Int)=(i:Int)+1):=Aa
 have hb1:(0:Int)<=(i:Int)+1:=Aa;have htn:((i:Int)+1).toNat=i+1:=Aa
 have hb3:(i:Int)<=(i:Int)+1:=Aa;have hb4:(i:Int)+1<=(m:Int)+1:=Aa
 have hb5:(m:Int)+1<=(c:Int):=Aa;have hb6:¬(c=m):=Aa
 have hb7:¬(c=i):=Aa;have hb8:(i:Int)<=(c:Int):=Aa
 have hb9:(i:Int)<=(m:Int)+1:=Aa;have hb10:(m:Int)<=(m:Int)+1:=Aa
 have t3:=Tryz.underlying3;have t4:=Tryz.underlying4;have u3:=run_underlying Tryz.underlying3;have u4:=run_underlying Tryz.underlying4;have uS:=run_underlying Tryz.underlying46
 have zE:=Tryz.sizeOf86;have mixed:=mixed
 clear hX1 hnews
 have key:Calls Tryz.prog 121 #[.slice (some ⟨b,0,none⟩) (m+1) c, .int .i64 i, .int .i64 ((i:Int)+1)] w fun e w'=>e= .returned (.slice (some ⟨b,0,none⟩) m c)/\w'=(w.drew.setRow b X1).setRow b (lay X1 (m*14) zs):=by
  by_cases hci:c=i+1
  ·rw[if_pos hci]at hA1
   subst hA1;have hmi:m=i:=Aa;subst hmi;subst hci
   have hap0:∀ty,(Builtin.append_ #[46,46] ty #[.slice (some ⟨b,0,none⟩) m (m+1), .slice (some ⟨b,0,none⟩) 0 0]).run Tryz.prog w.drew= .ok (.slice (some ⟨b,0,none⟩) m (m+1)) (w.drew.setRow b X1):=by
    intro ty;have h:=hap ty;rw[Nat.sub_self,Nat.sub_self]at h;exact h
   rw[show m+1-m=1 from Aa]at hcl
   go_enter Tryz.func121,Tryz.ntmps121
   go_wp2_with fail
   go_region_law_o (refine yA rfl (.tmp 22) (.tmp 25) 46 46 rfl (.slice (some ⟨b,0,none⟩) m (m+1)) (.slice (some ⟨b,0,none⟩) 0 0) Aw Aw (hap0 _) ?_)
   go_wp2_with (simp only[hcl,Result.andThen_ok])
   go_ret
   exact⟨rfl,rfl⟩
  ·rw[if_neg hci]at hA1
   subst hA1
   go_enter Tryz.func121,Tryz.ntmps121
   go_wp2_with fail
   go_region_law_o (refine yA rfl (.tmp 22) (.tmp 25) 46 46 rfl (.slice (some ⟨b,0,none⟩) i c) (.slice (some ⟨b,(i+1)*14,none⟩) (m-i) (c- (i+1))) Aw Aw (hap _) ?_)
   go_wp2_with (simp only[hcl,Result.andThen_ok])
   go_ret
   exact⟨rfl,rfl⟩
 refine key.mono ?_;rintro e w' ⟨rfl,rfl⟩;exact⟨_,hzl14,rfl,rfl⟩
theorem dL5(l:List V)(i:Nat)(hi:i<l.length)(hl:l.length<=1000000000):Sp 121 [.own 86 l,I i,I ((i:Int)+1)] (.own 86 (l.take i++l.drop (i+1))):=by
 have eZ:(T.row 86).size=14:=Ac;refine⟨Ac,fun w G cs h1 h2 h3 h4 h5=>?_⟩;obtain⟨v0,v1,v2,rfl⟩:=arr3 h1;have r0:Rb T w G 0 v0 (.own 86 l):=h4 0 v0 _ rfl rfl
 have r1:v1= .int .i64 i:=aN3 (h4 1 v1 (I i) rfl rfl);have r2:v2= .int .i64 ((i:Int)+1):=aN3 (h4 2 v2 (I ((i:Int)+1)) rfl rfl)
 subst r1 r2;obtain⟨hE,hpl,ho⟩:=r0;rcases ho with⟨_,rfl⟩|⟨b,c,cur,rfl,hO,hb,hlc,hcm,hcs,hzl,hrl⟩
 ·simp at hi
 rw[eZ]at hcs hrl;have hzl':=hzl;rw[eZ]at hzl';obtain⟨m,hm⟩:∃m,l.length=m+1:=⟨l.length-1,Aa⟩;have hcur0:cur.toList.length=c*14:=FD
 have hc63:c<=9223372036854775807:=Fa;have hml:((cur.toList.drop ((i+1)*14)).take ((m-i)*14)).length=(m-i)*14:=by rw[List.length_take,List.length_drop,hcur0];omega
 have hpL:bM (l.take i++l.drop (i+1)):=aH.2 fun y hy=>by
  rcases List.mem_append.1 hy with h|h
  ·exact aH.1 hpl y (List.mem_of_mem_take h)
  ·exact aH.1 hpl y (List.mem_of_mem_drop h)
 have hlen:(l.take i++l.drop (i+1)).length=m:=A8
 have hz':∀y∈l.take i++l.drop (i+1),y.cells.length=(T.row 86).size:=fun y hy=>by
  rcases List.mem_append.1 hy with h|h
  ·exact hzl y (List.mem_of_mem_take h)
  ·exact hzl y (List.mem_of_mem_drop h)
 obtain⟨f1,_⟩:=xW (i:=i) hzl' Aa;obtain⟨_,f2⟩:=xW (i:=i+1) hzl' Aa
 have hA:RvL w G (cur.toList.take (i*14)) ((l.take i).flatMap V.cells):=by
  have:=aM1 hrl (i*14);rw[List.take_take,Nat.min_eq_left Aa,f1]at this;exact this
 have hM:RvL w G ((cur.toList.drop ((i+1)*14)).take ((m-i)*14)) ((l.drop (i+1)).flatMap V.cells):=by
  have:=aL4 hrl ((i+1)*14);rw[f2,List.drop_take,show l.length*14- (i+1)*14=(m-i)*14 from Aa]at this;exact this
 rw[hm];refine(dQ4 b m c i cur w Aa Aa hc63 hb hcs (by rw[<-hm];exact hrl.one)).mono ?_
 rintro e w' ⟨zs,hzs,rfl,rfl⟩;have hs1:=lay_size (cur:=cur) (o:=i*14) (vs:=(cur.toList.drop ((i+1)*14)).take ((m-i)*14)) (by rw[hml,hcs];omega)
 refine jM hE hpL hlen hz' (X:=lay (lay cur (i*14) ((cur.toList.drop ((i+1)*14)).take ((m-i)*14))) (m*14) zs) ?_ (setRow_heap _ b _ _ _ _ (setRow_heap w.drew b cur _ _ _ hb)) ?_ Aa hcm h2 h3 (.inl hO) (fun q hq hqb=>?_) ?_ rfl rfl rfl
 ·rw[eZ,xJ,List.append_assoc]
  have hxl:(lay cur (i*14) ((cur.toList.drop ((i+1)*14)).take ((m-i)*14))).toList.length=c*14:=by rw[Array.length_toList,hs1,hcs]
  rw[List.take_append_of_le_length (by rw[List.length_take,hxl];omega),List.take_take,Nat.min_self]
  have em:m*14=i*14+((cur.toList.drop ((i+1)*14)).take ((m-i)*14)).length:=by rw[hml];omega
  rw[em,layC (by rw[<-em,hcs];omega),List.flatMap_append]
  exact oH hA hM
 ·rw[lay_size (by rw[hzs,hs1,hcs];omega),hs1,hcs,eZ]
 ·rw[setRow_other _ b q _ hqb,setRow_other _ b q _ hqb];rfl
 ·rw[size_setRow,size_setRow];exact Nat.le_refl _
end Go.Proofs.Led
