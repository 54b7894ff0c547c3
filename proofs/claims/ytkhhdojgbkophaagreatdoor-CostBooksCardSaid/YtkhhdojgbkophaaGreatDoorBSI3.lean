/-
  The library's Insert at one type of elements: what it makes of the cells.
-/
import Derived.Test.YtkhhdojgbkophaaGreatDoorBB6
import Derived.Shelf.Spec.SlicesInsert
set_option linter.unusedVariables false
set_option linter.unusedSimpArgs false
set_option maxRecDepth 1000000
set_option maxHeartbeats 4000000
noncomputable section
namespace Go.Proofs.Led
open Go Go.Proofs Go.Ab Go.RowKit Go.Lib
theorem bU3:∃i,Tryz.prog.info? 87=some i/\i.size=14/\i.bytes=216:=by
 obtain⟨i,h1,h2,h3,_⟩:=(uG 87 (of_decide_eq_true Ac)).info;exact⟨i,h1,h2.trans Ac,h3.trans Ac⟩
theorem aZ4:(Tryz.prog.info? 87).map (·.size)=some 14:=by
 obtain⟨i,h1,h2,_⟩:=bU3;rw[h1];simp[h2]
theorem dA1(b n c i vb vc:Nat)(cur vcur:Array Value)(w:World)(hi:i<n)(hroom:n+1<=c)(hc63:c<=9223372036854775807)(hvb:vb≠b)
 (hb:w.heap[b]? =some (.cells cur 87 (0,0)))(hv:w.heap[vb]? =some (.cells vcur 87 (0,0)))(hbs:cur.size=c*14)(hvs:14<=vcur.size)
 (h1:∀v∈cur.toList.take (n*14),v.oneCell'=true)(h2:∀v∈vcur.toList.take 14,v.oneCell'=true):
 Calls Tryz.prog 120 #[.slice (some ⟨b,0,none⟩) n c, .int .i64 i, .slice (some ⟨vb,0,none⟩) 1 vc] w fun e w'=>
  e= .returned (.slice (some ⟨b,0,none⟩) (n+1) c)/\w'=(w.drew.setRow b (lay cur ((i+1)*14) ((cur.toList.drop (i*14)).take ((n-i)*14)))).setRow b (lay (lay cur ((i+1)*14) ((cur.toList.drop (i*14)).take ((n-i)*14))) (i*14) (vcur.toList.take 14)):=by
 have hov:∀ob lb cb,(callFunc 158 #[.slice (some ⟨vb,0,none⟩) 1 vc, .slice (some ⟨b,ob,none⟩) lb cb]).run Tryz.prog w= .ok (.value (.bool false)) w:=fun ob lb cb=>by
  rw[run_callFunc_extern Tryz.func158 Ac Ac Ac (e:=Extern.SlicesOverlaps.overlaps #[38,38] #[4]) Ac,
   Lib.run_overlaps_apart w 38 4 87 Tryz.underlying38 14 Tryz.sizeOf87 ⟨vb,0,none⟩ ⟨b,ob,none⟩ 1 vc lb cb hvb 87 87 vcur.size cur.size G9 GH Aa CJ CJ]
  rfl
 have hl1:((cur.toList.drop (i*14)).take ((n-i)*14)).length=(n-i)*14:=EK;have hs1:=lay_size (cur:=cur) (o:=(i+1)*14) (vs:=(cur.toList.drop (i*14)).take ((n-i)*14)) DY
 have hcp1:∀(W:World) (o1 o2 l1 l2:Nat) ty dc sc,W.heap[b]? =some (.cells cur 87 (0,0))->o1=(i+1)*14->o2=i*14->Nat.min l2 l1=n-i->
  (Builtin.copy_ #[38,38] ty #[.slice (some ⟨b,o1,none⟩) l1 dc, .slice (some ⟨b,o2,none⟩) l2 sc]).run Tryz.prog W= .ok (goInt (n-i:Nat)) (W.setRow b (lay cur ((i+1)*14) ((cur.toList.drop (i*14)).take ((n-i)*14)))):=by
  intro W o1 o2 l1 l2 ty dc sc hW e1 e2 hm;subst e1 e2;refine iW W 38 38 ty 87 b _ l1 dc ⟨b,i*14,none⟩ l2 sc 14 (n-i) cur 87 _ Tryz.underlying38 aZ4 hW hm hl1 (fun j v hj=>?_) DY (fun v hv=>h1 v ?_)
  ·exact IY
  ·exact JC
 obtain⟨X1,hX1⟩:∃X1,X1=lay cur ((i+1)*14) ((cur.toList.drop (i*14)).take ((n-i)*14)):=⟨_,rfl⟩;rw[<-hX1]at hcp1 hs1⊢;clear hX1;have hl2:(vcur.toList.take 14).length=1*14:=Ai
 have hcp2:∀(W:World) (o1 l1:Nat) ty dc,W.heap[b]? =some (.cells X1 87 (0,0))->W.heap[vb]? =some (.cells vcur 87 (0,0))->o1=i*14->1<=l1->
  (Builtin.copy_ #[38,38] ty #[.slice (some ⟨b,o1,none⟩) l1 dc, .slice (some ⟨vb,0,none⟩) 1 vc]).run Tryz.prog W= .ok (goInt (1:Nat)) (W.setRow b (lay X1 (i*14) (vcur.toList.take 14))):=by
  intro W o1 l1 ty dc hW hW2 e1 hm;subst e1;refine iW W 38 38 ty 87 b _ l1 dc ⟨vb,0,none⟩ 1 vc 14 1 X1 87 _ Tryz.underlying38 aZ4 hW (Nat.min_eq_left hm) hl2 (fun j v hj=>?_) GI h2;exact Nj
 have hw1:IntKind.i64.wrap ((i:Int)+1)=(i:Int)+1:=Am;have hw2:IntKind.i64.wrap ((n:Int)+1)=(n:Int)+1:=Am
 have hz1:¬((i:Int)=(n:Int)):=Aa;have hb1:(0:Int)<=(i:Int)+1:=Aa
 have htn:((i:Int)+1).toNat=i+1:=Aa;have htn2:((n:Int)+1).toNat=n+1:=Aa
 have hin:i<=n:=Aa;have hb2:¬(c=i+1):=Aa
 have hb3:(i:Int)<=(n:Int)+1:=Aa;have hb4:¬(c=i):=Aa
 have hb5:¬((c:Int)< (n:Int)+1):=Aa;have t3:=Tryz.underlying3;have t4:=Tryz.underlying4;have u3:=run_underlying Tryz.underlying3;have u4:=run_underlying Tryz.underlying4;have uS:=run_underlying Tryz.underlying38
 have zE:=Tryz.sizeOf87;have mixed:=mixed
 go_enter Tryz.func120,Tryz.ntmps120
 go_wp2_with (simp only[hov])
 have hA1:=hcp1 w.drew ((i+1)*14) (i*14) (n-i) (n+1-i) 3 (c- (i+1)) (c-i) hb Aa Aa D9
 go_region_law_o (refine step_copy_runI rfl _ _ 38 38 rfl (.slice (some ⟨b,(i+1)*14,none⟩) (n-i) (c- (i+1))) (.slice (some ⟨b,i*14,none⟩) (n+1-i) (c-i)) Au Au hA1 ?_)
 have hA2:=hcp2 (w.drew.setRow b X1) (i*14) (n+1-i) 3 (c-i) (setRow_heap w.drew b cur X1 _ _ hb) Dy Aa Aa
 go_wp2_with (first|simp only[hA2,Result.andThen_ok] |(at_builtin;refine wpList_copy_runI _ rfl _ _ 38 38 rfl _ _ rfl rfl hA2 ?_))
 go_ret
 first|exact⟨rfl,rfl⟩|exact⟨rfl,Aw⟩
theorem eH9(b n c vb vc:Nat)(cur vcur:Array Value)(w:World)(hroom:n+1<=c)(hc63:c<=9223372036854775807)
 (hb:w.heap[b]? =some (.cells cur 87 (0,0)))(hv:w.heap[vb]? =some (.cells vcur 87 (0,0)))(hbs:cur.size=c*14)(hvs:14<=vcur.size)
 (h2:∀v∈vcur.toList.take 14,v.oneCell'=true):
 Calls Tryz.prog 120 #[.slice (some ⟨b,0,none⟩) n c, .int .i64 n, .slice (some ⟨vb,0,none⟩) 1 vc] w fun e w'=>
  e= .returned (.slice (some ⟨b,0,none⟩) (n+1) c)/\w'=w.setRow b (lay cur (n*14) (vcur.toList.take 14)):=by
 obtain⟨i0,hi0,hz0,hy0⟩:=bU3;have hl2:(vcur.toList.take 14).length=1*i0.size:=Hq;have hl3:(vcur.toList.take 14).length=14:=by rw[hl2,hz0]
 have hA:∀ty,(Builtin.append_ #[38,38] ty #[.slice (some ⟨b,0,none⟩) n c, .slice (some ⟨vb,0,none⟩) 1 vc]).run Tryz.prog w= .ok (.slice (some ⟨b,0,none⟩) (n+1) c) (w.setRow b (lay cur (n*14) (vcur.toList.take 14))):=by
  intro ty
  have h:=run_append_room (P:=Tryz.prog) w 38 ty 87 i0 Tryz.underlying38 hi0 b n c cur hb ⟨vb,0,none⟩ 1 vc (vcur.toList.take 14) hl2 (fun j v hj=>by
   rw[Addr.add_lit];rw[List.getElem?_take]at hj;split at hj
   ·exact Jb
   ·cases hj) h2 hroom GK
  rw[hz0]at h;exact h
 have hbs':True:=trivial;have u3:=run_underlying Tryz.underlying3;have u4:=run_underlying Tryz.underlying4;have uS:=run_underlying Tryz.underlying38
 have t3:=Tryz.underlying3;have t4:=Tryz.underlying4
 have zE:=Tryz.sizeOf87;have mixed:=mixed
 go_enter Tryz.func120,Tryz.ntmps120
 go_wp2_with (at_builtin;refine Lib.wpList_append_run _ rfl _ _ _ _ rfl _ _ rfl rfl _ _ (hA _) ?_)
 all_goals (go_ret;first|exact⟨rfl,rfl⟩|exact⟨rfl,Aw⟩)
theorem cN4(w:World)(n c:Nat)(hroom:c<n)(hbig:n<=1000000001):Builtin.nextslicecap n c*216<=281474976710656/\n<=grownCap w n c 87/\grownCap w n c 87<=maxLen:=by
 have hf:Builtin.nextslicecap n c*216<=281474976710656:=growslice_fits hroom Aa;exact⟨hf,grownCap_ge w n c 87,grownCap_le_maxLen w n c 87 CB⟩
theorem dY2(base:Option Addr)(n c vb vc:Nat)(cs:List Value)(vcur:Array Value)(w:World)(hnc:n<=c)(hroom:c<n+1)(hbig:n<=1000000000)
 (hn:base=none->n=0/\c=0)(hb:∀a,base=some a->∀j v,cs[j]? =some v->w.cell? (a.add j)=some v)(hcl:cs.length=n*14)
 (hv:w.heap[vb]? =some (.cells vcur 87 (0,0)))(hvs:14<=vcur.size):∃(c':Nat) (z:Array Value),n+1<=c'/\c'<=maxLen/\z.size=(c'- (n+1))*14/\∀ty,
 (Builtin.append_ #[38,38] ty #[.slice base n c, .slice (some ⟨vb,0,none⟩) 1 vc]).run Tryz.prog w= .ok (.slice (some ⟨w.heap.size,0,none⟩) (n+1) c') (w.drew.alloc (.cells (cs.toArray++(vcur.toList.take 14).toArray++z) 87)):=by
 obtain⟨i0,hi0,hz0,hy0,z,hz,hzc,_,hzl,_,_⟩:=(uG 87 (of_decide_eq_true Ac)).info;have e1:(T.row 87).size=14:=Ac;have e2:(T.row 87).bytes=216:=Ac
 rw[e1]at hz0 hzl;rw[e2]at hy0;have hzs:z.cells.size=14:=AO;obtain⟨hfit,hge,hle⟩:=cN4 w (n+1) c hroom Aa;have hl2:(vcur.toList.take 14).length=1*i0.size:=BP
 have hnews:∀j v,(vcur.toList.take 14)[j]? =some v->w.cell? ((⟨vb,0,none⟩:Addr).add j)=some v:=fun j v hj=>MN;refine⟨grownCap w (n+1) c 87,Builtin.zeroCells z.cells (grownCap w (n+1) c 87- (n+1)),hge,hle,Fp,fun ty=>?_⟩
 cases base with
 |none=>
  obtain⟨rfl,rfl⟩:=hn rfl;have e0:cs=[] :=List.length_eq_zero_iff.1 (by simp[hcl])
  subst e0;have h:=run_append_nil (P:=Tryz.prog) w 38 ty 87 i0 z Tryz.underlying38 hi0 hz ⟨vb,0,none⟩ 1 vc _ hl2 hnews Aa Aa FC;rw[h];simp
 |some a=>
  exact run_append_grow (P:=Tryz.prog) w 38 ty 87 i0 z Tryz.underlying38 hi0 hz a n c cs Hy (hb a rfl) ⟨vb,0,none⟩ 1 vc _ hl2 hnews hroom Aa Hr
theorem bV1(base:Option Addr)(n c vb vc:Nat)(cs:List Value)(vcur:Array Value)(w:World)(hnc:n<=c)(hroom:c<n+1)(hbig:n<=1000000000)
 (hn:base=none->n=0/\c=0)(hb:∀a,base=some a->∀j v,cs[j]? =some v->w.cell? (a.add j)=some v)(hcl:cs.length=n*14)
 (hv:w.heap[vb]? =some (.cells vcur 87 (0,0)))(hvs:14<=vcur.size):
 Calls Tryz.prog 120 #[.slice base n c, .int .i64 n, .slice (some ⟨vb,0,none⟩) 1 vc] w fun e w'=>
  ∃(c':Nat) (z:Array Value),e= .returned (.slice (some ⟨w.heap.size,0,none⟩) (n+1) c')/\n+1<=c'/\c'<=maxLen/\z.size=(c'- (n+1))*14/\w'=w.drew.alloc (.cells (cs.toArray++(vcur.toList.take 14).toArray++z) 87):=by
 obtain⟨c',z,hc1,hc2,hzz,hA⟩:=dY2 base n c vb vc cs vcur w hnc hroom hbig hn hb hcl hv hvs
 have key:Calls Tryz.prog 120 #[.slice base n c, .int .i64 n, .slice (some ⟨vb,0,none⟩) 1 vc] w fun e w'=>e= .returned (.slice (some ⟨w.heap.size,0,none⟩) (n+1) c')/\w'=w.drew.alloc (.cells (cs.toArray++(vcur.toList.take 14).toArray++z) 87):=by
  have u3:=run_underlying Tryz.underlying3;have u4:=run_underlying Tryz.underlying4;have uS:=run_underlying Tryz.underlying38
  have t3:=Tryz.underlying3;have t4:=Tryz.underlying4
  have zE:=Tryz.sizeOf87;have mixed:=mixed
  go_enter Tryz.func120,Tryz.ntmps120
  cases base with
  |none=>exact II
  |some a=>exact IJ
 exact NQ
theorem dN8(b n c i vb vc:Nat)(cur vcur:Array Value)(w:World)(hi:i<n)(hnc:n<=c)(hroom:c<n+1)(hbig:n<=1000000000)
 (hb:w.heap[b]? =some (.cells cur 87 (0,0)))(hv:w.heap[vb]? =some (.cells vcur 87 (0,0)))(hbs:cur.size=c*14)(hvs:14<=vcur.size)
 (h1:∀v∈cur.toList.take (n*14),v.oneCell'=true)(h2:∀v∈vcur.toList.take 14,v.oneCell'=true):
 Calls Tryz.prog 120 #[.slice (some ⟨b,0,none⟩) n c, .int .i64 i, .slice (some ⟨vb,0,none⟩) 1 vc] w fun e w'=>
  ∃(c':Nat) (R:Array Value),e= .returned (.slice (some ⟨w.heap.size,0,none⟩) (n+1) c')/\n+1<=c'/\c'<=maxLen/\R.size=c'*14/\R.toList.take (i*14)=cur.toList.take (i*14)/\
   w'.heap[w.heap.size]? =some (.cells (lay (lay R (i*14) (vcur.toList.take 14)) ((i+1)*14) ((cur.toList.drop (i*14)).take ((n-i)*14))) 87 (0,0))/\(∀q,q<w.heap.size->w'.heap[q]? =w.heap[q]?)/\w'.heap.size=w.heap.size+1/\w'.os=w.os/\w'.tape=w.tape/\w'.output=w.output:=by
 obtain⟨i0,hi0,hz0,hy0,z,hz,hzc,_,hzl,_,_⟩:=(uG 87 (of_decide_eq_true Ac)).info;have e1:(T.row 87).size=14:=Ac;have e2:(T.row 87).bytes=216:=Ac
 rw[e1]at hz0 hzl;rw[e2]at hy0;have hzs:z.cells.size=14:=AO;obtain⟨hfit,hge,hle⟩:=cN4 w (n+1) c hroom Aa;have hbw:b<w.heap.size:=(Array.getElem?_eq_some_iff.1 hb).1
 have hvw:vb<w.heap.size:=(Array.getElem?_eq_some_iff.1 hv).1;have hkk:(n:Int)+1- (i:Int)=((n+1-i:Nat):Int):=Aa
 have hik:i+(n+1-i)=n+1:=Aa
 have hold:(Builtin.firstCells i0.size i (.slice (some ⟨b,0,none⟩) i c)).run Tryz.prog w.drew= .ok (cur.toList.take (i*14)).toArray w.drew:=by
  rw[hz0];refine run_firstCells_some w.drew 14 i ⟨b,0,none⟩ i c (cur.toList.take (i*14)) BQ (fun j v hj=>?_);rw[Addr.add_lit];rw[List.getElem?_take]at hj;split at hj
  ·rw[Array.getElem?_toList]at hj
   exact O1
  ·cases hj
 obtain⟨c',hc'⟩:∃c',c'=grownCap w (n+1) c 87:=⟨_,rfl⟩;rw[<-hc']at hge hle;obtain⟨R,hR⟩:∃R:Array Value,R=(cur.toList.take (i*14)).toArray++Builtin.zeroCells z.cells (n+1-i)++Builtin.zeroCells z.cells (c'- (n+1)):=⟨_,rfl⟩
 have hrz:∀ty,(Builtin.append_ #[38,3] ty #[.slice (some ⟨b,0,none⟩) i c, .int .i64 ((n:Int)+1- (i:Int))]).run Tryz.prog w= .ok (.slice (some ⟨w.heap.size,0,none⟩) (n+1) c') (w.drew.alloc (.cells R 87)):=fun ty=>by
  have h:=Lib.run_append_grow_zeros w 38 3 ty 87 i0 _ .i64 .i64 Tryz.underlying38 Tryz.underlying3 hi0 hz (some ⟨b,0,none⟩) i c (cur.toList.take (i*14)) hold (n+1-i) Aa Aa Aa Aa FC G6;rw[hik]at h;rw[hkk,h,hR,hc']
 have hRs:R.size=c'*14:=by
  rw[hR];simp[Builtin.zeroCells,hzs,hbs];omega
 have hRt:R.toList.take (i*14)=cur.toList.take (i*14):=JV;clear hR hold hc';have hl1:((cur.toList.drop (i*14)).take ((n-i)*14)).length=(n-i)*14:=Bo
 have hl2:(vcur.toList.take 14).length=1*14:=AA;obtain⟨X1,hX1⟩:∃X1,X1=lay R (i*14) (vcur.toList.take 14):=⟨_,rfl⟩;have hs1:X1.size=c'*14:=CP
 have hcpA:∀(W:World) (o1 l1:Nat) ty dc,W.heap[w.heap.size]? =some (.cells R 87 (0,0))->W.heap[vb]? =some (.cells vcur 87 (0,0))->o1=i*14->1<=l1->
  (Builtin.copy_ #[38,38] ty #[.slice (some ⟨w.heap.size,o1,none⟩) l1 dc, .slice (some ⟨vb,0,none⟩) 1 vc]).run Tryz.prog W= .ok (goInt (1:Nat)) (W.setRow w.heap.size X1):=by
  intro W o1 l1 ty dc hW hW2 e1 hm;subst e1;rw[hX1];refine iW W 38 38 ty 87 w.heap.size _ l1 dc ⟨vb,0,none⟩ 1 vc 14 1 R 87 _ Tryz.underlying38 aZ4 hW (Nat.min_eq_left hm) hl2 (fun j v hj=>?_) Hz h2;exact Nj
 have hcpB:∀(W:World) (o1 o2 l1 l2:Nat) ty dc sc,W.heap[w.heap.size]? =some (.cells X1 87 (0,0))->W.heap[b]? =some (.cells cur 87 (0,0))->o1=(i+1)*14->o2=i*14->Nat.min l2 l1=n-i->
  (Builtin.copy_ #[38,38] ty #[.slice (some ⟨w.heap.size,o1,none⟩) l1 dc, .slice (some ⟨b,o2,none⟩) l2 sc]).run Tryz.prog W= .ok (goInt (n-i:Nat)) (W.setRow w.heap.size (lay X1 ((i+1)*14) ((cur.toList.drop (i*14)).take ((n-i)*14)))):=by
  intro W o1 o2 l1 l2 ty dc sc hW hW2 e1 e2 hm;subst e1 e2;refine iW W 38 38 ty 87 w.heap.size _ l1 dc ⟨b,i*14,none⟩ l2 sc 14 (n-i) X1 87 _ Tryz.underlying38 aZ4 hW hm hl1 (fun j v hj=>?_) H6 (fun v hv=>h1 v ?_)
  ·exact IX
  ·exact JC
 have hN:((w.alloc (.cells R 87)).drew).heap[w.heap.size]? =some (.cells R 87 (0,0)):=Array.getElem?_push_size;have hO:∀q,q<w.heap.size->((w.alloc (.cells R 87)).drew).heap[q]? =w.heap[q]? :=fun q hq=>I7
 have hw1:IntKind.i64.wrap ((i:Int)+1)=(i:Int)+1:=Am;have hw2:IntKind.i64.wrap ((n:Int)+1)=(n:Int)+1:=Am
 have hw3:IntKind.i64.wrap ((n:Int)+1- (i:Int))=(n:Int)+1- (i:Int):=Am;have hz1:¬((i:Int)=(n:Int)):=Aa
 have hb1:(0:Int)<=(i:Int)+1:=Aa;have htn:((i:Int)+1).toNat=i+1:=Aa
 have hin:i<=n:=Aa;have hb2:¬(c'=i+1):=Aa
 have hb3:(i:Int)<=(n:Int)+1:=Aa;have hb4:¬(c=i):=Aa
 have hb5:(c:Int)< (n:Int)+1:=Aa;have hb6:¬(c'=i):=Aa
 have hb7:(i:Int)<=(c:Int):=Aa;have t3:=Tryz.underlying3;have t4:=Tryz.underlying4;have u3:=run_underlying Tryz.underlying3;have u4:=run_underlying Tryz.underlying4;have uS:=run_underlying Tryz.underlying38
 have zE:=Tryz.sizeOf87;have mixed:=mixed
 have hle63:c'<=9223372036854775807:=FD;clear hkk hik hfit
 have key:Calls Tryz.prog 120 #[.slice (some ⟨b,0,none⟩) n c, .int .i64 i, .slice (some ⟨vb,0,none⟩) 1 vc] w fun e w'=>e= .returned (.slice (some ⟨w.heap.size,0,none⟩) (n+1) c')/\
  w'=(((w.alloc (.cells R 87)).drew.setRow w.heap.size X1).drew).setRow w.heap.size (lay X1 ((i+1)*14) ((cur.toList.drop (i*14)).take ((n-i)*14))):=by
  clear hX1;have hA:=hcpA ((w.alloc (.cells R 87)).drew) (i*14) (n+1-i) 3 (c'-i) hN G7 Aa Aa;have hB:=hcpB ((((w.alloc (.cells R 87)).drew).setRow w.heap.size X1).drew) ((i+1)*14) (i*14) (n-i) (n-i) 3 (c'- (i+1)) (c-i) (setRow_heap _ w.heap.size R X1 _ _ hN) ((setRow_other _ w.heap.size b X1 Aa).trans GL) Aa Aa (Nat.min_self _)
  go_enter Tryz.func120,Tryz.ntmps120
  go_wp2_with (first|simp only[hA,Result.andThen_ok] |(at_builtin;refine Lib.wpList_append_run _ rfl _ _ _ _ rfl _ _ rfl rfl _ _ (hrz _) ?_))
  go_region_law_o (refine step_copy_runI rfl _ _ 38 38 rfl (.slice (some ⟨w.heap.size,(i+1)*14,none⟩) (n-i) (c'- (i+1))) (.slice (some ⟨b,i*14,none⟩) (n-i) (c-i)) Au Au hB ?_)
  go_wp2
  go_ret
  first|exact⟨rfl,rfl⟩|exact⟨rfl,Aw⟩
 refine key.mono ?_;rintro e w' ⟨rfl,rfl⟩;have hN2:=setRow_heap (((w.alloc (.cells R 87)).drew).setRow w.heap.size X1).drew w.heap.size X1 (lay X1 ((i+1)*14) ((cur.toList.drop (i*14)).take ((n-i)*14))) _ _ (setRow_heap _ w.heap.size R X1 _ _ hN);exact N9
end Go.Proofs.Led
