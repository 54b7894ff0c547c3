/-
  Slice expressions; structs compared; every operation.
-/
import Derived.Test.YtkhhdojgbkophaaGreatDoorBA4
import Derived.Laws.BytesString
import Derived.Laws.Cells
set_option linter.unusedVariables false
set_option linter.unusedSimpArgs false
noncomputable section
namespace Go.Ab
section
variable{T:Tab}{P:Program}{Φ:Fr}{σ:St}{a:Act}{w:World}{G:Gh}{K:VK}{o:Oper}{d:Nat}
theorem cL9{xs:List V}{sz:Nat}(hz:∀x∈xs,x.cells.length=sz){l h:Nat}(j:Nat){y:V}(hy:(((xs.take h).drop l).flatMap V.cells)[j]? =some y):(xs.flatMap V.cells)[l*sz+j]? =some y:=by
 have e1:xs.take h=(xs.take h).take l++(xs.take h).drop l:=(List.take_append_drop l _).symm;have e2:xs=xs.take h++xs.drop h:=(List.take_append_drop h xs).symm
 by_cases hl:l<=(xs.take h).length
 ·have hlen:(((xs.take h).take l).flatMap V.cells).length=l*sz:=by
   rw[sH (sz:=sz) (fun x hx=>hz x (List.mem_of_mem_take (List.mem_of_mem_take hx))),List.length_take];congr 1;omega
  rw[e2,List.flatMap_append,e1,List.flatMap_append,List.append_assoc,List.getElem?_append_right Aa,hlen,Nat.add_sub_cancel_left];rw[List.getElem?_append_left (List.getElem?_eq_some_iff.1 hy).1];exact hy
 ·rw[List.drop_of_length_le Aa]at hy
  simp at hy
theorem qC(inv:Inv T Φ σ a w G)(x:Option Operand)(dflt:Int){K:Int->Prop}(h:bound (x.map σ.ev) dflt K):(x=none/\K dflt)\/∃y k n,x=some y/\a.eval y= .int k n/\K n:=by
 unfold bound at h;split at h
 ·rename_i hx
  cases x with
  |none=>exact .inl ⟨rfl,h⟩
  |some y=>simp at hx
 ·rename_i k n hx
  cases x with
  |none=>simp at hx
  |some y=>
   simp at hx;have:=(inv.ev y).1;rw[hx]at this;exact .inr ⟨y,k,n,rfl,this.bH,h⟩
 ·exact h.elim
theorem fV(k:IntKind)(n:Int)(y:Nat)(c:BoundsCode)(h0:0<=n)(h1:n<=y):(Instr.sliceBound (.int k n) y c).run P w= .ok n.toNat w:=by
 simp[Instr.sliceBound,asIntOf,h0,h1]
theorem aW3(isS:Bool)(len cap:Nat)(lo hi:Option Value)(l hh:Int)(hl:(lo=none/\l=0)\/∃k,lo=some (.int k l))(hh2:(hi=none/\hh=len)\/∃k,hi=some (.int k hh))(h0:0<=l)(h1:l<=hh)(h2:hh<=cap):
 (Instr.sliceBounds isS len cap lo hi none).run P w= .ok (l.toNat,hh.toNat,cap) w:=by
 rcases hl with⟨rfl,rfl⟩|⟨k,rfl⟩
 ·rcases hh2 with⟨rfl,rfl⟩|⟨k',rfl⟩
  ·simp[Instr.sliceBounds]
  ·simp[Instr.sliceBounds,fV k' hh cap _ Aa h2]
 ·rcases hh2 with⟨rfl,rfl⟩|⟨k',rfl⟩
  ·simp[Instr.sliceBounds,fV k l len _ h0 Aa]
  ·simp[Instr.sliceBounds,fV k' hh cap _ Aa h2,fV k l hh.toNat _ h0 Aa]
theorem cP5(isS:Bool)(len cap:Nat)(lo:Option Value)(l hh:Int)(k1 k2:IntKind)(hl:(lo=none/\l=0)\/∃k,lo=some (.int k l))(h0:0<=l)(h1:l<=hh)(h2:hh<=cap):
 (Instr.sliceBounds isS len cap lo (some (.int k1 hh)) (some (.int k2 hh))).run P w= .ok (l.toNat,hh.toNat,hh.toNat) w:=by
 rcases hl with⟨rfl,rfl⟩|⟨k,rfl⟩
 ·simp[Instr.sliceBounds,fV k2 hh cap _ Aa h2,fV k1 hh hh.toNat _ Aa Aa]
 ·simp[Instr.sliceBounds,fV k2 hh cap _ Aa h2,fV k1 hh hh.toNat _ Aa Aa,fV k l hh.toNat _ h0 Aa]
theorem cH8(hT:bP T P)(inv:Inv T Φ σ a w G)(t:TypeId)(x:Operand)(lo hi mx:Option Operand)(ho:o.op= .slice t x lo hi mx)(ht:t<T.n t)
 (h:sZ T (T.row t) σ (σ.ev x) (lo.map σ.ev) (hi.map σ.ev) (mx.map σ.ev) K):Out T Φ σ a K ((execOp a.eval o).run P w):=by
 obtain⟨x1,x2⟩:=inv.ev x
 have opt:∀(z:Option Operand) (n dflt:Int),((z=none/\n=dflt)\/∃y k,z=some y/\a.eval y= .int k n)->((z.map a.eval=none/\n=dflt)\/∃k,z.map a.eval=some (.int k n)):=by
  rintro z n dflt (⟨rfl,rfl⟩|⟨y,k,rfl,hy⟩)
  ·exact .inl ⟨rfl,rfl⟩
  ·exact .inr ⟨k,FT⟩
 unfold sZ at h;split at h
 ·rename_i s hkd hx
  rw[hx]at x1;have hu:=aF2 (hT t ht) hkd;split at h
  ·rename_i hm
   have hmx:mx=none:=by cases mx<;>simp_all
   subst hmx
   have fin:∀(l hh:Int),((lo=none/\l=0)\/∃y k,lo=some y/\a.eval y= .int k l)->((hi=none/\hh=s.size)\/∃y k,hi=some y/\a.eval y= .int k hh)->need (0<=l/\l<=hh/\hh<=s.size) (K (.lit (.string (s.extract l.toNat hh.toNat))) [])->Out T Φ σ a K ((execOp a.eval o).run P w):=by
    intro l hh hl hh2 hn;obtain⟨⟨q1,q2,q3⟩,hk⟩:=dX hn;have hb:=aW3 (P:=P) (w:=w) false s.size s.size _ _ l hh (opt lo l 0 hl) (opt hi hh s.size hh2) q1 q2 q3;refine .plain inv (v':= .string (s.extract l.toNat hh.toNat)) ?_ hk (.lit _ rfl) dL;simp only[execOp,ho,x1.bH,Instr.sliceAt,Sem.run_bind,dI hu,Result.andThen_ok,Instr.slice,Option.map_none,Option.isSome_none,Bool.false_eq_true,if_false,Sem.run_pure,hb]
   rcases qC inv lo 0 h with⟨e1,h⟩|⟨y,k,n,e1,e2,h⟩
   ·rcases qC inv hi _ h with⟨f1,h⟩|⟨y',k',n',f1,f2,h⟩
    ·exact fin 0 s.size (.inl ⟨e1,rfl⟩) (.inl ⟨f1,rfl⟩) h
    ·exact fin 0 n' (.inl ⟨e1,rfl⟩) (.inr ⟨y',k',f1,f2⟩) h
   ·rcases qC inv hi _ h with⟨f1,h⟩|⟨y',k',n',f1,f2,h⟩
    ·exact fin n s.size (.inr ⟨y,k,e1,e2⟩) (.inl ⟨f1,rfl⟩) h
    ·exact fin n n' (.inr ⟨y,k,e1,e2⟩) (.inr ⟨y',k',f1,f2⟩) h
  ·exact h.elim
 ·rename_i hkd
  have hu:=jW (hT t ht) hkd;obtain⟨hc,h⟩:=aT h;have he:=blt hc
  obtain⟨xs,h,hpx,hfz⟩:∃xs,(bound (lo.map σ.ev) 0 fun l=>bound (hi.map σ.ev) xs.length fun h=>match mx.map σ.ev with
   |none=>need (0<=l/\l<=h/\h<=xs.length/\(l=0\/∀x∈xs,x.cells.length=(T.row (T.row t).elem).size)) (K (.sl ((xs.take h.toNat).drop l.toNat)) [])
   |some m=>match hi.map σ.ev with
    |none=>False
    |some _=>bound (some m) 0 fun m=>need (0<=l/\l<=h/\h<=xs.length/\m=h/\(l=0\/∀x∈xs,x.cells.length=(T.row (T.row t).elem).size)) (K (.cap ((xs.take h.toNat).drop l.toNat)) []))/\bM xs/\Rv w G (a.eval x) (.sl xs):=by
   unfold lV at h;split at h
   ·rename_i l hx
    rw[hx]at x1 x2;simp only[V.ok]at x2;exact⟨l,h,x2,x1⟩
   ·rename_i l hx
    rw[hx]at x1 x2;simp only[V.ok]at x2;exact⟨l,h,x2,x1.wK⟩
   ·rename_i hx
    rw[hx]at x1;exact⟨[],h,BK,by rw[x1.bH];exact .slN⟩
   ·rename_i k g hx
    split at h
    ·rename_i en hen
     obtain⟨⟨hg,hk⟩,h⟩:=dX h;rw[hx]at x1;have hok:=inv.arr k en hen;unfold gW at hok;rw[hk]at hok;exact⟨en.l,h,inv.wfA k en hen,by rw[x1.oQ,<-hg];exact hok⟩
    ·exact h.elim
   ·exact h.elim
  have hsub:∀l hh:Nat,bM ((xs.take hh).drop l):=fun l hh=>aH.2 fun y hy=>aH.1 hpx y (List.mem_of_mem_take (List.mem_of_mem_drop hy))
  obtain⟨b,len,cap,hv,hlen,hbase⟩:∃b len cap,a.eval x= .slice b len cap/\len=xs.length/\((b=none/\len=0/\cap=0)\/∃ad sz cc,b=some ad/\len<=cap/\cap<=maxLen/\(0<len->G.O ad.block= .fz)/\(∀x∈xs,x.cells.length=sz)/\At w ad cc (xs.flatMap V.cells)/\∀(j:Nat) y,(xs.flatMap V.cells)[j]? =some y->Rv w G (cc j) y):=by
   rcases hfz.bK8 with⟨e1,e2⟩|⟨ad,c,sz,cc,e1,e2,e3,e4,e5,e6,e7⟩
   ·exact⟨none,0,0,e1,by rw[e2];rfl, .inl ⟨rfl,rfl,rfl⟩⟩
   ·exact⟨some ad,_,c,e1,rfl, .inr ⟨ad,sz,cc,rfl,e2,e3,e4,e5,e6,e7⟩⟩
  have hlc:len<=cap:=by rcases hbase with⟨_,h1,h2⟩|⟨_,_,_,_,h,_⟩<;>omega
  have newv:∀(l hh m:Nat),l<=hh->hh<=len->hh<=m->m<=cap->(l=0\/∀x∈xs,x.cells.length=(T.row (T.row t).elem).size)->
   Rv w G (.slice (if m=l then b else b.map (·.add (l*(T.row (T.row t).elem).size))) (hh-l) (m-l)) (.sl ((xs.take hh).drop l))/\
   (m=hh->Rv w G (.slice (if m=l then b else b.map (·.add (l*(T.row (T.row t).elem).size))) (hh-l) (m-l)) (.cap ((xs.take hh).drop l))):=by
   intro l hh m q1 q2 q3 q4 q5;have hll:((xs.take hh).drop l).length=hh-l:=by rw[List.length_drop,List.length_take];omega
   rcases hbase with⟨rfl,e2,e3⟩|⟨ad,sz,cc,rfl,e2,e3,e4,e5,e6,e7⟩
   ·have hm0:m=l:=by omega
    have h0:hh-l=0:=Aa;have h1:m-l=0:=Aa
    have hnil:(xs.take hh).drop l=[] :=List.eq_nil_of_length_eq_zero Aa;rw[if_pos hm0,h0,h1,hnil];exact⟨.slN,fun _=> .capN⟩
   ·
    obtain⟨ad',hb',hblk,hat⟩:∃ad',(if m=l then some ad else(some ad).map (·.add (l*(T.row (T.row t).elem).size)))=some ad'/\ad'.block=ad.block/\(l<hh->ad'=ad.add (l*sz)):=by
     by_cases hml:m=l
     ·rw[if_pos hml];exact⟨ad,rfl,rfl,fun h=>Aa⟩
     ·rw[if_neg hml]
      refine⟨_,rfl,add_block _ _,fun hlt=>?_⟩;rcases q5 with rfl|q5
      ·simp
      ·have hx0:xs≠ [] :=by rintro rfl;simp at hlen;omega
       obtain⟨y,ys,rfl⟩:=List.exists_cons_of_ne_nil hx0;rw[<-q5 y Ae,e5 y Ae]
    rw[hb']
    have hcell:At w ad' (fun j=>cc (l*sz+j)) (((xs.take hh).drop l).flatMap V.cells):=by
     intro j y hy
     have hlt:l<hh:=by
      rcases Nat.lt_or_ge l hh with h|h
      ·exact h
      ·rw[List.eq_nil_of_length_eq_zero (by omega:((xs.take hh).drop l).length=0)]at hy;simp at hy
     rw[hat hlt,add_add'];exact e6 _ y (cL9 e5 j hy)
    have hrel:∀(j:Nat) y,(((xs.take hh).drop l).flatMap V.cells)[j]? =some y->Rv w G (cc (l*sz+j)) y:=fun j y hy=>e7 _ y (cL9 e5 j hy);have hfz':0< ((xs.take hh).drop l).length->G.O ad'.block= .fz:=fun h=>by rw[hblk];exact e4 (by omega)
    have hz':∀x∈(xs.take hh).drop l,x.cells.length=sz:=fun x hx=>e5 x (List.mem_of_mem_take (List.mem_of_mem_drop hx));constructor
    ·have:=Rv.slS (w:=w) (G:=G) ad' (m-l) ((xs.take hh).drop l) sz _ Aa Aa hfz' hz' hcell hrel
     rwa [hll]at this
    ·intro hmh
     have:=Rv.capS (w:=w) (G:=G) ad' ((xs.take hh).drop l) sz _ Aa hfz' hz' hcell hrel;rw[hll]at this;rw[hmh];exact this
  have run:∀(l hh m:Nat),(Instr.sliceBounds true len cap (lo.map a.eval) (hi.map a.eval) (mx.map a.eval)).run P w= .ok (l,hh,m) w->
   (execOp a.eval o).run P w= .ok (.value (.slice (if m=l then b else b.map (·.add (l*(T.row (T.row t).elem).size))) (hh-l) (m-l))) w:=by
   intro l hh m hb;simp only[execOp,ho,hv,Instr.sliceAt,Sem.run_bind,dI hu,Result.andThen_ok,Instr.slice,hb,iV hT he,Sem.run_pure]
  have fin:∀(l hh:Int),((lo=none/\l=0)\/∃y k,lo=some y/\a.eval y= .int k l)->((hi=none/\hh=xs.length)\/∃y k,hi=some y/\a.eval y= .int k hh)->
   (match mx.map σ.ev with
   |none=>need (0<=l/\l<=hh/\hh<=xs.length/\(l=0\/∀x∈xs,x.cells.length=(T.row (T.row t).elem).size)) (K (.sl ((xs.take hh.toNat).drop l.toNat)) [])
   |some m=>match hi.map σ.ev with
    |none=>False
    |some _=>bound (some m) 0 fun m=>need (0<=l/\l<=hh/\hh<=xs.length/\m=hh/\(l=0\/∀x∈xs,x.cells.length=(T.row (T.row t).elem).size)) (K (.cap ((xs.take hh.toNat).drop l.toNat)) []))->Out T Φ σ a K ((execOp a.eval o).run P w):=by
   intro l hh hl hh2 hn
   cases mx with
   |none=>
    simp only[Option.map_none]at hn;obtain⟨⟨q1,q2,q3,q4⟩,hk⟩:=dX hn;have hb:=aW3 (P:=P) (w:=w) true len cap _ _ l hh (opt lo l 0 hl) (opt hi hh len (by rw[hlen];exact hh2)) q1 q2 Aa
    have hnv:=(newv l.toNat hh.toNat cap Aa Aa Aa (Nat.le_refl _) (q4.imp (fun h=>by rw[h];rfl) id)).1
    exact OG
   |some my=>
    rcases hh2 with⟨rfl,_⟩|⟨yh,kh,rfl,hyh⟩
    ·exact hn.elim
    simp only[Option.map_some]at hn;rcases qC inv (some my) 0 GY with⟨e1,_⟩|⟨y',k',m,e1,e2,hn⟩
    ·cases e1
    ·cases e1
     obtain⟨⟨q1,q2,q3,q5,q4⟩,hk⟩:=dX hn;subst q5;have hb:=cP5 (P:=P) (w:=w) true len cap (lo.map a.eval) l m kh k' (opt lo l 0 hl) q1 q2 Aa;rw[<-hyh,<-e2]at hb;have hnv:=(newv l.toNat m.toNat m.toNat Aa Aa (Nat.le_refl _) Aa (q4.imp (fun h=>by rw[h];rfl) id)).2 rfl
     exact OG
  rcases qC inv lo 0 h with⟨e1,h⟩|⟨y,k,n,e1,e2,h⟩
  ·rcases qC inv hi _ h with⟨f1,h⟩|⟨y',k',n',f1,f2,h⟩
   ·exact fin 0 xs.length (.inl ⟨e1,rfl⟩) (.inl ⟨f1,rfl⟩) h
   ·exact fin 0 n' (.inl ⟨e1,rfl⟩) (.inr ⟨y',k',f1,f2⟩) h
  ·rcases qC inv hi _ h with⟨f1,h⟩|⟨y',k',n',f1,f2,h⟩
   ·exact fin n xs.length (.inr ⟨y,k,e1,e2⟩) (.inl ⟨f1,rfl⟩) h
   ·exact fin n n' (.inr ⟨y,k,e1,e2⟩) (.inr ⟨y',k',f1,f2⟩) h
 ·exact h.elim
end
section
variable{T:Tab}{P:Program}{Φ:Fr}{σ:St}{a:Act}{w:World}{G:Gh}{K:VK}{o:Oper}{d:Nat}
theorem dT4{d:TypeDesc}{k s:Value}{e:MapEntry}(he:e.key=k)(hk:MapKept.IsKey d k)(hs:MapKept.IsKey d s):∀(l:List MapEntry) (i:Nat),(∀e∈l,MapKept.IsKey d e.key)->Instr.findNow d k l i=some none->
 Instr.findNow d s (l++[e]) i= @ite _ (k=s) (Classical.propDecidable _) (some (some (i+l.length,e.val))) (Instr.findNow d s l i):=by
 intro l
 induction l with
 |nil=>
  intro i _ _;obtain⟨r,h1,h2⟩:=MapKept.sameNow_of_keys hs hk;simp only[List.nil_append,Instr.findNow,he,h1]
  cases r with
  |true=>rw[if_pos (h2.1 rfl).symm];rfl
  |false=>rw[if_neg (fun e=>by have:=h2.2 e.symm;cases this)]
 |cons x r ih=>
  intro i hx hf;have hxk:=hx x Ae;have hr:=ih (i+1) (fun e he=>hx e (by simp[he]))
  obtain⟨b,b1,b2⟩:=MapKept.sameNow_of_keys hk hxk;obtain⟨c,c1,c2⟩:=MapKept.sameNow_of_keys hs hxk;simp only[List.cons_append,Instr.findNow,b1,c1]at hf⊢
  cases b with
  |true=>simp at hf
  |false=>
   simp only at hf;rw[hr hf]
   cases c with
   |true=>exact L8
   |false=>
    simp only;by_cases h:k=s
    ·rw[if_pos h,if_pos h,List.length_cons];congr 3;omega
    ·rw[if_neg h,if_neg h]
theorem cN7{d:TypeDesc}{k s:Value}{v:Value}(hk:MapKept.IsKey d k)(hs:MapKept.IsKey d s):∀(l:List MapEntry) (i j:Nat) (u:Value),(∀e∈l,MapKept.IsKey d e.key)->Instr.findNow d k l i=some (some (j,u))->
 ∃q,j=i+q/\(∃e,l[q]? =some e/\e.key=k)/\Instr.findNow d s (l.modify q fun e=> {e with key:=k,val:=v}) i= @ite _ (k=s) (Classical.propDecidable _) (some (some (j,v))) (Instr.findNow d s l i):=by
 intro l
 induction l with
 |nil=>intro i j u _ h;simp[Instr.findNow]at h
 |cons x r ih=>
  intro i j u hx hf;have hxk:=hx x Ae;obtain⟨b,b1,b2⟩:=MapKept.sameNow_of_keys hk hxk;obtain⟨c,c1,c2⟩:=MapKept.sameNow_of_keys hs hxk;obtain⟨c',d1,d2⟩:=MapKept.sameNow_of_keys hs hk;simp only[Instr.findNow,b1]at hf
  cases b with
  |true=>
   simp only[Option.some.injEq,Prod.mk.injEq]at hf;obtain⟨rfl,rfl⟩:=hf;have hkx:=b2.1 rfl;refine⟨0,rfl,⟨x,rfl,hkx.symm⟩,?_⟩;simp only[List.modify_zero_cons,Instr.findNow,c1,d1]
   have hcc:c=c':=by
    cases c<;>cases c'<;>first|rfl|(exfalso;simp_all)
   subst hcc
   cases c with
   |true=>rw[if_pos (d2.1 rfl).symm]
   |false=>rw[if_neg (fun e=>by have:=d2.2 e.symm;cases this)]
  |false=>
   simp only at hf;obtain⟨q',rfl,⟨e,he1,he2⟩,h3⟩:=ih (i+1) j u (fun e he=>hx e (by simp[he])) hf
   refine⟨q'+1,Aa,⟨e,by simpa using he1,he2⟩,?_⟩
   simp only[List.modify_succ_cons,Instr.findNow,c1];rw[h3]
   cases c with
   |true=>exact L8
   |false=>rfl
theorem eO1{kd:Kd}{dd:TypeDesc}(h:kd=kdOf (some dd))(hk:dY9 kd=true):keyD kd=dd:=by
 subst h;cases dd<;>simp_all [kdOf,dY9,keyD]
theorem dF2{kd:Kd}{s:Value}(h:cD3 kd s=true):MapKept.IsKey (keyD kd) s:=by
 unfold cD3 at h;split at h
 ·split at h
  ·exact trivial
  ·cases h
 ·split at h
  ·have:=of_decide_eq_true h
   subst this;exact rfl
  ·cases h
 ·cases h
theorem aW5(hT:bP T P){t:TypeId}(ht:t<T.n t)(h:bD5 T (T.row t)=true):∃kt et,P.underlying t=some (.map kt et)/\P.underlying kt=some (keyD (T.row (T.row t).alen).kd)/\et=(T.row t).elem/\et<T.n et/\(T.row et).agg=false:=by
 unfold bD5 at h;simp only[Bool.and_eq_true,Bool.not_eq_true']at h;obtain⟨⟨⟨⟨h1,h2⟩,h3⟩,h4⟩,h5⟩:=h
 have hk:(T.row t).kd= .map:=by
  revert h1;cases(T.row t).kd<;>simp
 obtain⟨dd,e1,e2,_⟩:=(hT _ (blt h3)).und;refine⟨_,_,eT8 (hT t ht) hk,?_,rfl,blt h4,h5⟩;rw[eO1 e2 h2];exact e1
theorem bM3(hT:bP T P)(inv:Inv T Φ σ a w G)(t:TypeId)(ho:o.op= .makeMap t none)(ht:t<T.n t)(h:oN T t σ d K):Out T Φ σ a K ((execOp a.eval o).run P w):=by
 unfold oN at h;split at h
 ·rename_i hd
  obtain⟨_,h2⟩:=aT h
  let av':Nat->Nat->Value:=fun k' g=>if k'=d/\g=0 then .map (some w.heap.size)else G.av k' g
  have hav:av' d 0= .map (some w.heap.size):=by simp[av']
  have hold:∀b,b<w.heap.size->(w.alloc (.map #[] 0)).heap[b]? =w.heap[b]? :=fun b hb=>heap_alloc_old w _ hb
  have inv':Inv T Φ (σ.apps [.a d ⟨0, .dead,t,[.bot]⟩]) a (w.alloc (.map #[] 0)) {G with av:=av',O:=upd G.O w.heap.size (.ar d)}:=by
   refine inv.zU (w':=w.alloc (.map #[] 0)) (k:=d) (en:=⟨0, .dead,t,[.bot]⟩) (av':=av') (O':=upd G.O w.heap.size (.ar d)) (fun g hg=>Nat.le_of_lt (zK hd 0 g hg)) (fun k' g hg=>?_) ?_ ?_ ?_ ?_ (fun b hb _=>hold b hb) Ae rfl rfl rfl
   ·have:¬(k'=d/\g=0):=by rintro⟨rfl,rfl⟩;exact absurd (zK hd 0 0 hg) Aa
    simp[av',this]
   ·simp only[bM,V.okL,V.ok,and_self]
   ·exact⟨w.heap.size, #[],0,hav,upd_same _ _ _,heap_alloc_new w _,Ae,fun s _=>rfl⟩
   ·intro b hb _;exact upd_ne _ _ FQ
   ·intro b
    by_cases e1:b=w.heap.size
    ·subst e1;exact .inr (.inr (.inl ⟨upd_same _ _ _,aN0 inv,Ae⟩))
    ·exact .inl (upd_ne _ _ e1)
  refine⟨.map (some w.heap.size),w.alloc (.map #[] 0),_,_,_, .inl ?_,h2,inv',aQ0 (by rw[<-hav]) rfl,?_⟩
  ·simp[execOp,ho,Instr.makeMap,Result.andThen]
  ·exact JM
 ·exact h.elim
theorem eF3(hT:bP T P){t:TypeId}(ht:t<T.n t)(ha:(T.row t).agg=false){z:Value}(hz:(zeroValue t).run P w= .ok z w):(T.row t).zero=[z] :=by
 obtain⟨i,i1,i2,i3,z',i4,i5,i6,i7,i8,i9⟩:=(hT _ ht).info
 have:(zeroValue t).run P w= .ok z' w:=by
  simp[zeroValue,cO9 i1,i4,Result.andThen]
 rw[this]at hz;cases hz;exact i9 ha
theorem bZ4(hT:bP T P)(inv:Inv T Φ σ a w G)(t:TypeId)(x y:Operand)(ho:o.op= .lookup t x y false)(ht:t<T.n t)(h:rG T t σ (σ.ev x) (σ.ev y) K):Out T Φ σ a K ((execOp a.eval o).run P w):=by
 obtain⟨x1,x2⟩:=inv.ev x;obtain⟨y1,y2⟩:=inv.ev y;unfold rG at h;split at h
 ·rename_i k g s hx hy
  rw[hx]at x1;rw[hy]at y1;split at h
  ·rename_i en hen
   split at h
   ·rename_i es hkd hl
    obtain⟨hg,h2⟩:=dX h;obtain⟨hr,h3⟩:=aT h2;simp only[Bool.and_eq_true]at hr;obtain⟨kt,et,u1,u2,rfl,u4,u5⟩:=aW5 hT ht hr.1.1;have hks:=dF2 hr.1.2;have hty:en.ty=t:=Nat.eq_of_beq_eq_true hr.2
    have hok:=inv.arr k en hen;unfold gW at hok;rw[hkd,hl]at hok;obtain⟨b,ents,clock,q1,q2,q3,q4,q5⟩:=(hok:bL6 _ w G k _ es);rw[hty]at q4 q5;have ex:a.eval x= .map (some b):=by rw[x1.oQ,<-hg,q1]
    have ey:a.eval y=s:=y1.bH;obtain⟨z,hz,hzc,hz1,_⟩:=aC3 (w:=w) hT u4;have hzl:(T.row (T.row t).elem).zero=[z] :=eF3 hT u4 u5 hz
    rw[hzl]at h3;have h4:=h3.out;have hc:∀e,(Instr.checkKey e 10000 kt s).run P w= .ok () w:=fun e=>MapKept.run_checkKey u2 hks e 9999
    have q5':=q5 s hks
    cases ha:jG s es with
    |none=>
     rw[ha]at q5' h4;refine .plain inv (v':=z) ?_ h4 (.lit z (hz1 z (by rw[hzl];simp))) (by simp only[Option.getD,V.ok])
     simp[execOp,ho,ex,ey,Instr.lookup,dI u1,MapKept.run_getObj_map q3,hc,MapKept.run_findKey u2 q5',hz,Result.andThen]
    |some vv=>
     rw[ha]at q5' h4;obtain⟨i,v,r1,r2,r3,r4⟩:=q5';refine .plain inv (v':=v) ?_ h4 r3 (r4.ok _ _);simp[execOp,ho,ex,ey,Instr.lookup,dI u1,MapKept.run_getObj_map q3,hc,MapKept.run_findKey u2 r1,Result.andThen]
   ·exact h.elim
  ·exact h.elim
 ·exact h.elim
theorem cQ6{x:V}{p:Nat->Prop}{q:Nat->Nat->Prop}(h:x.atom=true)(hok:x.ok p q):x.pure:=Js
theorem Rv.dV8{w:World}{G:Gh}{v:Value}{x:V}(h:Rv w G v x)(ha:x.atom=true):v.oneCell'=true:=by
 cases h with
 |lit u hu=>exact hu
 |slN=>rfl
 |slS=>rfl
 |capN=>rfl
 |capS=>rfl
 |fn=>rfl
 |_=>simp[V.atom]at ha
theorem aA0(hT:bP T P)(inv:Inv T Φ σ a w G)(t:TypeId)(x y z:Operand)(ho:o.op= .mapUpdate t x y z\/o.op= .insert t x y z)(ht:t<T.n t)(h:iE T t σ (σ.ev x) (σ.ev y) (σ.ev z) K):Out T Φ σ a K ((execOp a.eval o).run P w):=by
 obtain⟨x1,x2⟩:=inv.ev x;obtain⟨y1,y2⟩:=inv.ev y;obtain⟨z1,z2⟩:=inv.ev z;unfold iE at h;split at h
 ·rename_i k g s hx hy
  rw[hx]at x1;rw[hy]at y1;split at h
  ·rename_i en hen
   split at h
   ·rename_i es hkd hl
    obtain⟨hg,h2⟩:=dX h;obtain⟨hr,h3⟩:=aT h2;simp only[Bool.and_eq_true]at hr;obtain⟨kt,et,u1,u2,rfl,u4,u5⟩:=aW5 hT ht hr.1.1.1;have hks:=dF2 hr.1.1.2;have hty:en.ty=t:=Nat.eq_of_beq_eq_true hr.1.2
    have hok:=inv.arr k en hen;unfold gW at hok;rw[hkd,hl]at hok;obtain⟨b,ents,clock,q1,q2,q3,q4,q5⟩:=(hok:bL6 _ w G k _ es);rw[hty]at q4 q5;generalize hdd:keyD (T.row (T.row t).alen).kd=dd at*;have ex:a.eval x= .map (some b):=by rw[x1.oQ,<-hg,q1]
    have ey:a.eval y=s:=y1.bH;have hc:∀e,(Instr.checkKey e 10000 kt s).run P w= .ok () w:=fun e=>MapKept.run_checkKey u2 hks e 9999
    have zp:(σ.ev z).pure:=cQ6 hr.2 z2;have zo:(a.eval z).oneCell'=true:=z1.dV8 hr.2
    have key:∃ents' clock',(Instr.mapUpdate t (.map (some b)) s (a.eval z)).run P w= .ok () {w with heap:=w.heap.setIfInBounds b (.map ents' clock')}/\(∀e∈ents'.toList,MapKept.IsKey dd e.key)/\
     ∀s',MapKept.IsKey dd s'->∃j,Instr.findNow dd s' ents'.toList 0= @ite _ (s=s') (Classical.propDecidable _) (some (some (j,a.eval z))) (Instr.findNow dd s' ents.toList 0):=by
     have hq:=q5 s hks
     cases ha:jG s es with
     |none=>
      rw[ha]at hq;refine⟨ents.push {key:=s,val:=a.eval z,born:=clock},clock+1,?_,?_,fun s' hs'=>?_⟩
      ·simp[Instr.mapUpdate,dI u1,MapKept.run_getObj_map q3,hc,MapKept.run_findKey u2 hq,MapKept.run_setObj_map _ q3,Result.andThen]
      ·intro e he
       simp only[Array.toList_push,List.mem_append,List.mem_singleton]at he;rcases he with he|rfl
       ·exact q4 e he
       ·exact hks
      ·refine⟨0+ents.toList.length,?_⟩
       rw[Array.toList_push];exact dT4 rfl hks hs' _ 0 q4 hq
     |some vv=>
      rw[ha]at hq;obtain⟨i,v,r1,_,_,_⟩:=hq;have hm:=fun s' hs'=>cN7 (d:=dd) (k:=s) (s:=s') (v:=a.eval z) hks hs' ents.toList 0 i v q4 r1;obtain⟨q,hi,⟨e,he1,he2⟩,_⟩:=hm s hks;have hi':i=q:=Aa
      subst hi';have hj:ents[i]? =some e:=by simpa using he1
      refine⟨ents.modify i fun e=> {e with key:=s,val:=a.eval z},clock,?_,?_,fun s' hs'=>?_⟩
      ·simp[Instr.mapUpdate,dI u1,MapKept.run_getObj_map q3,hc,MapKept.run_findKey u2 r1,hj,he2,MapKept.run_keyThatStays hks,MapKept.run_setObj_map _ q3,Result.andThen]
      ·intro e' he'
       rw[Array.toList_modify]at he';obtain⟨j,hj'⟩:=List.getElem?_of_mem he';rw[List.getElem?_modify]at hj'
       cases hl':ents.toList[j]? with
       |none=>rw[hl']at hj';simp at hj'
       |some e0=>
        rw[hl']at hj';have hj2:(if i=j then {key:=s,val:=a.eval z,born:=e0.born} else e0)=e':=Option.some.inj hj'
        by_cases hij:i=j
        ·rw[if_pos hij]at hj2
         rw[<-hj2];exact hks
        ·rw[if_neg hij]at hj2
         rw[<-hj2];exact q4 e0 (List.mem_of_getElem? hl')
      ·obtain⟨q',h1,_,h5⟩:=hm s' hs'
       have:q'=i:=Aa;subst this;exact⟨_,by rw[Array.toList_modify];exact h5⟩
    obtain⟨ents',clock',k1,k2,k3⟩:=key;have hblt:b<w.heap.size:=inv.tag b (by rw[q2];simp)
    have hset:∀b',b'≠b->({w with heap:=w.heap.setIfInBounds b (.map ents' clock')}:World).heap[b']? =w.heap[b']? :=fun b' hb'=>(MapKept.heap_set q3).2 b' hb'
    have hkp:Keep w {w with heap:=w.heap.setIfInBounds b (.map ents' clock')} G {G with av:=G.av,O:=G.O}:=⟨fun _ h=>h,fun b' hb'=>hset b' (by rintro rfl;rw[q2]at hb';cases hb')⟩
    have inv':Inv T Φ (σ.apps [.a k ⟨en.gen, .dead,en.ty, .bot:: .tup [.lit s,σ.ev z] ::es⟩]) a {w with heap:=w.heap.setIfInBounds b (.map ents' clock')} {G with av:=G.av,O:=G.O}:=by
     refine inv.zU (w':={w with heap:=w.heap.setIfInBounds b (.map ents' clock')}) (k:=k) (en:=⟨en.gen, .dead,en.ty, .bot:: .tup [.lit s,σ.ev z] ::es⟩) (av':=G.av) (O':=G.O) ?_ (fun _ _ _=>rfl) ?_ ?_ (fun _ _ _=>rfl) (fun _=> .inl rfl) (fun b' hb' hn=>hset b' (by rintro rfl;exact hn q2)) Ae rfl rfl rfl
     ·rintro g' ⟨en',e1,e2⟩
      rw[hen]at e1;cases e1;exact e2
     ·have:=inv.wfA k en hen
      rw[hl]at this;simp only[bM,V.okL,V.ok,true_and,and_true]at this⊢;exact⟨zp,this⟩
     ·refine⟨b,ents',clock',q1,q2,(MapKept.heap_set q3).1,by rw[hty,hdd];exact k2,fun s' hs'=>?_⟩
      rw[hty,hdd]at hs'⊢;obtain⟨j,hj⟩:=k3 s' hs';by_cases hs:s=s'
      ·subst hs
       rw[if_pos rfl]at hj;simp only[jG,if_true];exact⟨j,_,hj,zo,z1.aW hkp zp,zp⟩
      ·rw[if_neg hs]at hj
       simp only[jG,hs,if_false];have:=q5 s' hs'
       cases ha:jG s' es with
       |none=>rw[ha]at this;rw[hj];exact this
       |some vv=>
        rw[ha]at this;obtain⟨i,v,r1,r2,r3,r4⟩:=this;exact⟨i,v,hj.trans r1,r2,r3.aW hkp r4,r4⟩
    refine⟨undef,_,_,_,_, .inr ⟨?_,rfl⟩,h3,inv', .bot _,Bh⟩;rcases ho with ho|ho<;>simp[execOp,ho,ex,ey,k1,Result.andThen]
   ·exact h.elim
  ·exact h.elim
 ·exact h.elim
end
section
variable{T:Tab}{P:Program}{Φ:Fr}{σ:St}{a:Act}{w:World}{G:Gh}{K:VK}{o:Oper}{d:Nat}
theorem cD9(hT:bP T P)(inv:Inv T Φ σ a w G)(s t:TypeId)(x:Operand)(ho:o.op= .convert s t x)(h:aF1 T σ s t (σ.ev x) K):Out T Φ σ a K ((execOp a.eval o).run P w):=by
 unfold aF1 at h;split at h
 ·rename_i hkd
  obtain⟨hc,h⟩:=aT h;simp only[Bool.and_eq_true]at hc;obtain⟨⟨⟨⟨c1,c2⟩,c3⟩,c4⟩,c5⟩:=hc
  have k3:(T.row t).kd= .str:=by
   generalize (T.row t).kd=kd at c3;cases kd<;>first|rfl|(simp[isStr]at c3)
  have k4:(T.row (T.row s).elem).kd= .int .u8:=by
   generalize (T.row (T.row s).elem).kd=kd at c4
   cases kd with
   |int k=>cases k<;>first|rfl|(simp[isU8]at c4)
   |_=>simp[isU8]at c4
  have u1:=jW (hT s (blt c1)) hkd;have u2:=aF2 (hT t (blt c2)) k3
  have u3:=bY7 (hT _ (blt c5)) k4;obtain⟨xs,hk,hp,hsrc⟩:=aV9 inv x h;obtain⟨ns,hxs,hk2⟩:=cC4 hk;subst hxs
  have flat:∀l:List Int,(l.map (fun n=>V.lit (.int .u8 n))).flatMap V.cells=l.map (fun n=>V.lit (.int .u8 n)):=by
   intro l
   induction l with
   |nil=>rfl
   |cons n l ih=>rw[List.map_cons,List.flatMap_cons,ih];rfl
  have run:(convert s t (a.eval x)).run P w= .ok (.string (strOf ns)) w:=by
   rcases hsrc with⟨e1,e2⟩|⟨ad,c,sz,e1,_,_,_,hh⟩
   ·have hn:ns=[] :=by simpa using e2
    subst hn;rw[e1,run_convert_bytes_string w s t _ none 0 0 u1 u3 u2];rfl
   ·rw[e1,run_convert_bytes_string w s t _ (some ad) _ c u1 u3 u2]
    rw[flat]at hh;obtain⟨cc,hat,hrel⟩:=hh.out;refine run_bytesToString w ad _ c ns ?_;have hl:=run_loadCells_list (P:=P) (w:=w) ad (ns.map (Value.int .u8)) (fun j v hv=>?_)
    ·rw[List.length_map]at hl⊢
     exact hl
    ·rw[List.getElem?_map]at hv
     cases hn:ns[j]? with
     |none=>rw[hn]at hv;cases hv
     |some n=>
      rw[hn]at hv;cases hv;have hy:(ns.map (fun n=>V.lit (.int .u8 n)))[j]? =some (.lit (.int .u8 n)):=by rw[List.getElem?_map,hn];rfl
      have h1:=(hat j _ hy).1;have h2:cc j= .int .u8 n:=(hrel j _ hy).bH
      rw[h1,h2]
  exact .plain inv (v':= .string (strOf ns)) (by simp only[execOp,ho,Sem.run_bind,run,Result.andThen_ok,Sem.run_pure]) hk2 (.lit _ rfl) dL
 ·exact cY0 hT inv s t x ho h
theorem eF4{u:Option TypeDesc}{k:IntKind}(h:kdOf u= .int k):u=some (.int k):=by
 cases u with
 |none=>simp[kdOf]at h
 |some dd=>cases dd<;>simp[kdOf]at h;subst h;rfl
theorem dX0{u:Option TypeDesc}(h:kdOf u= .str):u=some .string:=MC
theorem dS0{u:Option TypeDesc}(h:kdOf u= .bool):u=some .bool:=MC
theorem qF{t:TypeId}{dd:TypeDesc}(hu:P.underlying t=some dd)(ha:aggB (some dd)=false)(xs:Array Value)(off:Nat){v:Value}(hv:xs[off]? =some v):(part t xs off).run P w= .ok v w:=by
 have:(isAgg t).run P w= .ok false w:=by cases dd<;>simp_all [isAgg,dI hu,aggB]
 simp[part,this,hv]
theorem aS4{cs:Array Value}{xs:List V}(hl:cs.size=xs.length)(hr:∀(i:Nat) c x,cs[i]? =some c->xs[i]? =some x->Rv w G c x){i:Nat}{u:Value}(h:nth xs i=some (.lit u)):cs[i]? =some u:=by
 rw[uN]at h;have hi:i<cs.size:=by rw[hl];exact(List.getElem?_eq_some_iff.1 h).1
 have:=hr i cs[i] _ F5 h;rw[<-this.bH];simp[hi]
def bY8(dp:Nat)(xs ys:Array Value)(f:Field):Sem (ForInStep (Option Bool×Unit)):=
 if f.name= "_" then pure (ForInStep.yield (none,()))
 else do
  let u<-part f.type xs f.offset
  let v<-part f.type ys f.offset
  let b<-Op.equalIn dp f.type u v
  if b=false then pure (ForInStep.done (some false,()))else pure (ForInStep.yield (none,()))
theorem cN3(hT:bP T P){t:TypeId}(ht:t<T.n t)(ha:(T.row t).agg=true)(cs:Array Value)(off:Nat):(part t cs off).run P w= .ok (.agg (cs.extract off (off+(T.row t).size))) w:=by
 simp[part,yG hT ht,ha,iV hT ht]
theorem dC5{cs:Array Value}{xs:List V}(hl:cs.size=xs.length)(hr:∀(i:Nat) c x,cs[i]? =some c->xs[i]? =some x->Rv w G c x)(off z:Nat):
 (cs.extract off (off+z)).size=(rO (jX xs off) z).length/\∀(i:Nat) c x,(cs.extract off (off+z))[i]? =some c->(rO (jX xs off) z)[i]? =some x->Rv w G c x:=by
 rw[aD3,lQ];refine⟨by simp[hl];omega,fun i c x hc hx=>?_⟩
 rw[Array.getElem?_extract]at hc;rw[List.getElem?_take]at hx;split at hx
 ·rw[List.getElem?_drop]at hx
  split at hc
  ·exact hr (off+i) c x hc hx
  ·cases hc
 ·cases hx
theorem aX8(hT:bP T P){sub:TypeId->List V->List V->Option Bool}{D:Nat}(hsub:∀(t:TypeId) (cs ds:Array Value) (xs ys:List V) (b:Bool),t<T.n t->cs.size=xs.length->(∀(i:Nat) c x,cs[i]? =some c->xs[i]? =some x->Rv w G c x)->ds.size=ys.length->(∀(i:Nat) c x,ds[i]? =some c->ys[i]? =some x->Rv w G c x)->sub t xs ys=some b->(Op.equalIn (D+1) t (.agg cs) (.agg ds)).run P w= .ok b w)
 {cs ds:Array Value}{xs ys:List V}(hl:cs.size=xs.length)(hr:∀(i:Nat) c x,cs[i]? =some c->xs[i]? =some x->Rv w G c x)(hl':ds.size=ys.length)(hr':∀(i:Nat) c x,ds[i]? =some c->ys[i]? =some x->Rv w G c x)
 {off z:Nat}{t:TypeId}(hz:t<T.n t->z=(T.row t).size){r:List (Nat×Nat×Kd×TypeId)}{b:Bool}(h:kX T sub ((off,z,kdOf (P.underlying t),t)::r) xs ys=some b):
 ∃u v b1 b2,(part t cs off).run P w= .ok u w/\(part t ds off).run P w= .ok v w/\(Op.equalIn (D+1) t u v).run P w= .ok b1 w/\kX T sub r xs ys=some b2/\b=(b1&&b2):=by
 have fin:∀(u v:Value) (b1:Bool),(part t cs off).run P w= .ok u w->(part t ds off).run P w= .ok v w->(Op.equalIn (D+1) t u v).run P w= .ok b1 w->(kX T sub r xs ys).map (andB b1)=some b->
  ∃u v b1 b2,(part t cs off).run P w= .ok u w/\(part t ds off).run P w= .ok v w/\(Op.equalIn (D+1) t u v).run P w= .ok b1 w/\kX T sub r xs ys=some b2/\b=(b1&&b2):=by
  intro u v b1 h1 h2 h3 h4
  cases hb2:kX T sub r xs ys with
  |none=>rw[hb2]at h4;cases h4
  |some b2=>
   rw[hb2]at h4;exact⟨u,v,b1,b2,h1,h2,h3,rfl,by simpa [andB]using h4.symm⟩
 have nested:(T.row t).agg=true->(match Nat.blt t (T.n t),sub t (rO (jX xs off) z) (rO (jX ys off) z)with
  |true,some b1=>(kX T sub r xs ys).map (andB b1)
  |_,_=>none)=some b->∃u v b1 b2,(part t cs off).run P w= .ok u w/\(part t ds off).run P w= .ok v w/\(Op.equalIn (D+1) t u v).run P w= .ok b1 w/\kX T sub r xs ys=some b2/\b=(b1&&b2):=by
  intro ha hm;split at hm
  ·rename_i b1 hb hs
   have ht:=blt hb;have hzz:=hz ht
   subst hzz;obtain⟨q1,q2⟩:=dC5 hl hr off (T.row t).size;obtain⟨q3,q4⟩:=dC5 hl' hr' off (T.row t).size;exact fin _ _ b1 (cN3 hT ht ha cs off) (cN3 hT ht ha ds off) (hsub t _ _ _ _ b1 ht q1 q2 q3 q4 hs) hm
  ·cases hm
 have h':(match kdOf (P.underlying t)with
  | .struct=>match Nat.blt t (T.n t),sub t (rO (jX xs off) z) (rO (jX ys off) z)with
    |true,some b1=>(kX T sub r xs ys).map (andB b1)
    |_,_=>none
  | .array=>match Nat.blt t (T.n t),sub t (rO (jX xs off) z) (rO (jX ys off) z)with
    |true,some b1=>(kX T sub r xs ys).map (andB b1)
    |_,_=>none
  |kd=>match nth xs off,nth ys off,kd with
   |some (.lit (.int k a)),some (.lit (.int k' b)), .int _=>cond (decide (k=k')) ((kX T sub r xs ys).map (andB (eqB a b))) none
   |some (.lit (.string a)),some (.lit (.string b)), .str=>(kX T sub r xs ys).map (andB (eqSB a b))
   |some (.lit (.bool a)),some (.lit (.bool b)), .bool=>(kX T sub r xs ys).map (andB (eqBB a b))
   |_,_,_=>none)=some b:=h
 have aggOf:∀dd,P.underlying t=some dd->aggB (some dd)=true->t<T.n t->(T.row t).agg=true:=by
  intro dd hu ha ht;obtain⟨d2,e1,_,e3,_⟩:=(hT t ht).und;rw[hu]at e1;cases e1;rw[e3];exact ha
 split at h'
 ·exact IC
 ·exact IC
 ·split at h'
  ·rename_i k m k' n kk e1 e2 e3
   cases hkk:decide (k=k')with
   |false=>rw[hkk]at h';cases h'
   |true=>
    have:k=k':=by simpa using hkk
    subst this;rw[hkk]at h';have hu:=eF4 e3;exact fin _ _ (eqB m n) (qF hu rfl cs _ (aS4 hl hr e1)) (qF hu rfl ds _ (aS4 hl' hr' e2)) (by simp[Op.equalIn,dI hu,eqB];exact Bool.eq_iff_iff.2 (by simp)) h'
  ·rename_i m n e1 e2 e3
   have hu:=dX0 e3;exact fin _ _ (eqSB m n) (qF hu rfl cs _ (aS4 hl hr e1)) (qF hu rfl ds _ (aS4 hl' hr' e2)) (by simp[Op.equalIn,dI hu,eqSB]) h'
  ·rename_i m n e1 e2 e3
   have hu:=dS0 e3;exact fin _ _ (eqBB m n) (qF hu rfl cs _ (aS4 hl hr e1)) (qF hu rfl ds _ (aS4 hl' hr' e2)) (by simp[Op.equalIn,dI hu,eqBB]) h'
  ·cases h'
theorem bN5(hT:bP T P){sub:TypeId->List V->List V->Option Bool}{D:Nat}(hsub:∀(t:TypeId) (cs ds:Array Value) (xs ys:List V) (b:Bool),t<T.n t->cs.size=xs.length->(∀(i:Nat) c x,cs[i]? =some c->xs[i]? =some x->Rv w G c x)->ds.size=ys.length->(∀(i:Nat) c x,ds[i]? =some c->ys[i]? =some x->Rv w G c x)->sub t xs ys=some b->(Op.equalIn (D+1) t (.agg cs) (.agg ds)).run P w= .ok b w)
 {cs ds:Array Value}{xs ys:List V}(hl:cs.size=xs.length)(hr:∀(i:Nat) c x,cs[i]? =some c->xs[i]? =some x->Rv w G c x)(hl':ds.size=ys.length)(hr':∀(i:Nat) c x,ds[i]? =some c->ys[i]? =some x->Rv w G c x):
 ∀(l:List Field) (b:Bool),(∀f∈l,f.name≠ "_")->(∀f∈l,f.type<T.n f.type->vI P f.type=(T.row f.type).size)->kX T sub (l.map (fun f=>(f.offset,vI P f.type,kdOf (P.underlying f.type),f.type))) xs ys=some b->
  (forIn l ((none,()):Option Bool×Unit) fun f _=>bY8 (D+1) cs ds f).run P w= .ok (if b then(none,())else(some false,())) w:=by
 intro l
 induction l with
 |nil=>
  intro b _ _ h;exact O8
 |cons f r ih=>
  intro b hn hz h;have hname:=hn f Ae;obtain⟨u,v,b1,b2,q1,q2,q3,q4,rfl⟩:=aX8 hT hsub hl hr hl' hr' (hz f Ae) h;have ih':=ih b2 (fun f hf=>hn f (by simp[hf])) (fun f hf=>hz f (by simp[hf])) q4
  simp only[List.forIn_cons,bY8,hname,if_false,Sem.run_bind,q1,q2,Result.andThen_ok,q3]
  cases b1 with
  |false=>simp
  |true=>exact LQ
def cT9(dp:Nat)(e:TypeId)(n:Nat)(xs ys:Array Value)(i:Nat):Sem (ForInStep (Option Bool×Unit)):=do
 let u<-part e xs (i*n)
 let v<-part e ys (i*n)
 let b<-Op.equalIn dp e u v
 if b=false then pure (ForInStep.done (some false,()))else pure (ForInStep.yield (none,()))
theorem dA7(z:Nat)(kd:Kd)(e:TypeId)(n:Nat):aZ5 z kd e n=(List.range n).map fun i=>(i*z,z,kd,e):=by
 induction n with
 |zero=>rfl
 |succ n ih=>
  show appR (aZ5 z kd e n) [(n*z,z,kd,e)] =_;rw[bT,ih,List.range_succ,List.map_append];rfl
theorem bX8(hT:bP T P){sub:TypeId->List V->List V->Option Bool}{D:Nat}(hsub:∀(t:TypeId) (cs ds:Array Value) (xs ys:List V) (b:Bool),t<T.n t->cs.size=xs.length->(∀(i:Nat) c x,cs[i]? =some c->xs[i]? =some x->Rv w G c x)->ds.size=ys.length->(∀(i:Nat) c x,ds[i]? =some c->ys[i]? =some x->Rv w G c x)->sub t xs ys=some b->(Op.equalIn (D+1) t (.agg cs) (.agg ds)).run P w= .ok b w)
 {cs ds:Array Value}{xs ys:List V}(hl:cs.size=xs.length)(hr:∀(i:Nat) c x,cs[i]? =some c->xs[i]? =some x->Rv w G c x)(hl':ds.size=ys.length)(hr':∀(i:Nat) c x,ds[i]? =some c->ys[i]? =some x->Rv w G c x){e:TypeId}(_:e<T.n e):
 ∀(l:List Nat) (b:Bool),kX T sub (l.map (fun i=>(i*(T.row e).size,(T.row e).size,kdOf (P.underlying e),e))) xs ys=some b->
  (forIn l ((none,()):Option Bool×Unit) fun i _=>cT9 (D+1) e (T.row e).size cs ds i).run P w= .ok (if b then(none,())else(some false,())) w:=by
 intro l
 induction l with
 |nil=>
  intro b h;exact O8
 |cons f r ih=>
  intro b h;obtain⟨u,v,b1,b2,q1,q2,q3,q4,rfl⟩:=aX8 hT hsub hl hr hl' hr' (fun _=>rfl) h;have ih':=ih b2 q4
  simp only[List.forIn_cons,cT9,Sem.run_bind,q1,q2,Result.andThen_ok,q3]
  cases b1 with
  |false=>simp
  |true=>exact LQ
theorem eM4(hT:bP T P):∀(n D:Nat) (t:TypeId) (cs ds:Array Value) (xs ys:List V) (b:Bool),t<T.n t->cs.size=xs.length->(∀(i:Nat) c x,cs[i]? =some c->xs[i]? =some x->Rv w G c x)->ds.size=ys.length->(∀(i:Nat) c x,ds[i]? =some c->ys[i]? =some x->Rv w G c x)->
 eqT T n t xs ys=some b->(Op.equalIn (D+1+n) t (.agg cs) (.agg ds)).run P w= .ok b w:=by
 intro n
 induction n with
 |zero=>intro D t cs ds xs ys b _ _ _ _ _ h;cases(h:none=some b)
 |succ n ih=>
  intro D t cs ds xs ys b ht hl hr hl' hr' h
  have h':cond (T.row t).eq (match(T.row t).kd with
   | .struct=>kX T (eqT T n) (T.row t).flds xs ys
   | .array=>cond (Nat.blt (T.row t).elem (T.n (T.row t).elem)) (kX T (eqT T n) (aZ5 (T.row (T.row t).elem).size (T.row (T.row t).elem).kd (T.row t).elem (T.row t).alen) xs ys) none
   |_=>none) none=some b:=h
  cases heq:(T.row t).eq with
  |false=>rw[heq]at h';cases h'
  |true=>
   rw[heq,cond_true]at h';obtain⟨q1,q2,q3⟩:=(hT t ht).eqs heq
   have hsub:∀(t:TypeId) (cs ds:Array Value) (xs ys:List V) (b:Bool),t<T.n t->cs.size=xs.length->(∀(i:Nat) c x,cs[i]? =some c->xs[i]? =some x->Rv w G c x)->ds.size=ys.length->(∀(i:Nat) c x,ds[i]? =some c->ys[i]? =some x->Rv w G c x)->eqT T n t xs ys=some b->(Op.equalIn (D+n+1) t (.agg cs) (.agg ds)).run P w= .ok b w:=fun t cs ds xs ys b h1 h2 h3 h4 h5 h6=>by
    have:=ih D t cs ds xs ys b h1 h2 h3 h4 h5 h6;rw[show D+n+1=D+1+n from Aa];exact this
   rw[show D+1+(n+1)=(D+n+1)+1 from Aa];split at h'
   ·rename_i hkd
    obtain⟨fs,u1,u2,u3⟩:=yJ (hT t ht) hkd;rw[u2]at h'
    have:=bN5 hT hsub hl hr hl' hr' fs.toList b (fun f hf=>q3 fs u1 f FZ) (fun f hf hlt=>by
     obtain⟨i,i1,i2⟩:=u3 f FZ;obtain⟨j,j1,j2,_⟩:=(hT _ hlt).info;rw[i1]at j1;cases j1;rw[<-i2,j2]) h'
    generalize D+n+1=m at*;simp only[Op.equalIn,Sem.run_bind,dI u1,Result.andThen_ok];simp only[bY8]at this;rw[Array.forIn_toList]at this;simp[q1];rw[this];cases b<;>simp
   ·rename_i hkd
    cases hbe:Nat.blt (T.row t).elem (T.n (T.row t).elem)with
    |false=>rw[hbe]at h';cases h'
    |true=>
     rw[hbe,cond_true,dA7]at h';have he:=blt hbe
     obtain⟨m,u1,u2⟩:∃m,P.underlying t=some (.array m (T.row t).elem)/\(T.row t).alen=m:=by
      obtain⟨dd,e1,e2,f1,f2,e5,f3,f4⟩:=(hT t ht).und;rw[hkd]at e2;cases dd<;>simp[kdOf]at e2;rename_i m e;obtain⟨r1,r2⟩:=e5 m e rfl;exact⟨m,by rw[e1,r1],r2⟩
     have hkde:(T.row (T.row t).elem).kd=kdOf (P.underlying (T.row t).elem):=by
      obtain⟨dd,e1,e2,_⟩:=(hT _ he).und;rw[e1];exact e2
     rw[hkde,u2]at h';have:=bX8 hT hsub hl hr hl' hr' he (List.range m) b h';generalize D+n+1=dd at*;simp only[Op.equalIn,Sem.run_bind,dI u1,Result.andThen_ok,iV hT he];simp only[cT9]at this;rw[Std.Legacy.Range.forIn_eq_forIn_range'];simp[List.range_eq_range']at this⊢;rw[this];cases b<;>simp
   ·cases h'
theorem dN7(hT:bP T P)(inv:Inv T Φ σ a w G)(x y:Operand)(op:BinOp)(t t':TypeId)(ho:o.op= .binOp op t x y t')(ht:t<T.n t)(xs ys:List V)(hx:σ.ev x= .agg xs)(hy:σ.ev y= .agg ys)(h:aL1 T op t xs ys K):Out T Φ σ a K ((execOp a.eval o).run P w):=by
 have x1:=(inv.ev x).1;have y1:=(inv.ev y).1
 rw[hx]at x1;rw[hy]at y1;obtain⟨cs,e1,e2,e3,e4⟩:=x1.zV;obtain⟨ds,f1,f2,f3,f4⟩:=y1.zV
 have hg:(T.row t).eq=true->(eqGuard op t x y (.agg cs) (.agg ds)).run P w= .ok () w:=by
  intro heq;obtain⟨_,q2,_⟩:=(hT t ht).eqs heq;cases op<;>simp[eqGuard,q2]
 have run:∀b,eqT T 4 t xs ys=some b->(Op.equal t (.agg cs) (.agg ds)).run P w= .ok b w:=fun b hb=>eM4 hT 4 9995 t cs ds xs ys b ht e2 e4 f2 f4 hb;unfold aL1 at h;split at h
 ·obtain⟨heq,h⟩:=dX h
  split at h
  ·rename_i b hb
   exact .plain inv (yY x y _ t t' ho _ _ (.bool b) e1 f1 (hg heq) (by simp[binOp,run b hb])) h (B_ok _ _ _) dL
  ·exact h.elim
 ·obtain⟨heq,h⟩:=dX h
  split at h
  ·rename_i b hb
   exact .plain inv (yY x y _ t t' ho _ _ (.bool !b) e1 f1 (hg heq) (by simp[binOp,run b hb])) h (B_ok _ _ _) dL
  ·exact h.elim
 ·exact h.elim
theorem dQ5(hT:bP T P)(inv:Inv T Φ σ a w G)(x y:Operand)(op:BinOp)(t t':TypeId)(ho:o.op= .binOp op t x y t')(h:bD7 T op t (σ.ev x) (σ.ev y) K):Out T Φ σ a K ((execOp a.eval o).run P w):=by
 have x1:=(inv.ev x).1;have y1:=(inv.ev y).1
 unfold bD7 at h;split at h
 ·rename_i k m k' n hx hy
  rw[hx]at x1;rw[hy]at y1;obtain⟨hk,h2⟩:=aT h;have:k=k':=by simpa using hk
  subst this;exact dM7 inv x y op t t' ho k m n x1.bH y1.bH h2
 ·rename_i m n hx hy
  rw[hx]at x1;rw[hy]at y1;exact dM9 inv x y op t t' ho m n x1.bH y1.bH h
 ·rename_i m n hx hy
  rw[hx]at x1;rw[hy]at y1;obtain⟨ht,h⟩:=aT h;exact cV0 hT inv x y op t t' ho m n x1.bH y1.bH (blt ht) h
 ·rename_i xs ys hx hy
  obtain⟨ht,h⟩:=aT h;exact dN7 hT inv x y op t t' ho (blt ht) xs ys hx hy h
 ·exact h.elim
theorem xQ(hT:bP T P)(inv:Inv T Φ σ a w G)(o:Oper)(h:opVC T σ d o.op K):Out T Φ σ a K ((execOp a.eval o).run P w):=by
 generalize ho:o.op=op at h;unfold opVC at h;split at h
 ·exact cZ8 inv _ ho h
 ·exact cB9 inv _ ho h
 ·exact dA3 inv _ _ _ ho h
 ·exact dZ4 inv _ _ _ ho h
 ·exact dQ5 hT inv _ _ _ _ _ ho h
 ·exact dM8 inv _ _ ho h
 ·obtain⟨ht,h⟩:=aT h;exact cJ8 hT inv _ ho (blt ht) h
 ·obtain⟨ht,h⟩:=aT h;exact aY3 hT inv _ _ _ ho (blt ht) h
 ·obtain⟨ht,h⟩:=aT h;exact cL3 hT inv _ _ _ ho (blt ht) h
 ·obtain⟨ht,h⟩:=aT h;exact cZ0 hT inv _ _ ho (blt ht) h
 ·obtain⟨ht,h⟩:=aT h;exact cJ7 hT inv _ _ _ ho (blt ht) h
 ·obtain⟨ht,h⟩:=aT h;exact aY7 hT inv _ _ _ ho (blt ht) h
 ·obtain⟨ht,h⟩:=aT h;exact cK7 hT inv _ _ _ ho (blt ht) h
 ·exact bN4 inv _ _ ho h
 ·exact .plain inv (by simp[execOp,ho,Instr.makeFunc]) h (.fn _ #[] [] rfl (fun i c x hc=>Ib)) DK
 ·obtain⟨ht,h⟩:=aT h;exact cM3 hT inv _ _ ho (blt ht) h
 ·obtain⟨ht,h⟩:=aT h;exact aQ7 hT inv _ _ _ ho (blt ht) h
 ·obtain⟨ht,h⟩:=aT h;exact aY6 hT inv _ _ _ ho (blt ht) h
 ·obtain⟨ht,h⟩:=aT h;exact cH8 hT inv _ _ _ _ _ ho (blt ht) h
 ·exact cD9 hT inv _ _ _ ho h
 ·obtain⟨ht,h⟩:=aT h
  split at h
  ·rename_i hkd;exact dM3 hT inv _ _ ho (blt ht) hkd h
  ·rename_i hkd;exact cR9 hT inv _ _ ho (blt ht) hkd h
  ·exact h.elim
 ·obtain⟨ht,h2⟩:=aT h
  simp only[Bool.and_eq_true]at ht;obtain⟨ht,ht',hk'⟩:=ht;exact cB7 hT inv _ _ _ _ ho (blt ht) (blt ht') (dV0 hk') h2
 ·exact aK6 inv .max maxI (.inl ⟨rfl,rfl⟩) _ _ ho h
 ·exact aK6 inv .min minI (.inr ⟨rfl,rfl⟩) _ _ ho h
 ·obtain⟨ht,h⟩:=aT h;exact bM3 hT inv _ ho (blt ht) h
 ·obtain⟨ht,h⟩:=aT h;exact bZ4 hT inv _ _ _ ho (blt ht) h
 ·obtain⟨ht,h⟩:=aT h;exact aA0 hT inv _ _ _ _ (.inl ho) (blt ht) h
 ·obtain⟨ht,h⟩:=aT h;exact aA0 hT inv _ _ _ _ (.inr ho) (blt ht) h
 ·exact bL7 inv _ ho h
 ·exact h.elim
end
section
variable{T:Tab}{P:Program}{Φ:Fr}{σ:St}{a:Act}{w w':World}{G G':Gh}{K:VK}{o:Oper}{d:Nat}
theorem pM{k:Nat}{l:List Nat}:memR k l=true↔k∈l:=by
 induction l with
 |nil=>simp[memR]
 |cons x r ih=>
  have:memR k (x::r)=cond (Nat.beq k x) true (memR k r):=rfl;rw[this]
  cases h:Nat.beq k x with
  |true=>simp[Nat.beq_eq]at h;simp[h]
  |false=>
   have hne:k≠x:=by rintro rfl;simp at h
   simp[ih,hne]
theorem Inv.freeze(inv:Inv T Φ σ a w G){k:Nat}{en:AE}(hen:σ.ar k=some en)(hk:en.kind= .own\/en.kind= .ap):
 ∃O',Inv T Φ (σ.apps [.a k ⟨en.gen, .frz,en.ty,en.l⟩]) a w {G with O:=O'}/\(∀b,O' b= .fz↔(G.O b= .fz\/G.O b= .ar k))/\(∀b,G.O b≠ .ar k->O' b=G.O b):=by
 let O':Nat->Tag:=fun b=>match G.O b with| .ar j=>if j=k then .fz else .ar j|t=>t
 have hO1:∀b,G.O b≠ .ar k->O' b=G.O b:=by
  intro b hb;show(match G.O b with| .ar j=>if j=k then Tag.fz else .ar j|t=>t)=_
  cases h:G.O b with
  |ar j=>have:j≠k:=by rintro rfl;exact hb h
         simp[this]
  |_=>rfl
 have hO2:∀b,G.O b= .ar k->O' b= .fz:=by
  intro b hb;show(match G.O b with| .ar j=>if j=k then Tag.fz else .ar j|t=>t)=_
  rw[hb];simp
 have hkp:Keep w w G {G with O:=O'}:=⟨fun b hb=>(hO1 b Ar).trans hb,fun _ _=>rfl⟩
 have hp:=inv.wfA k en hen;refine⟨O',?_,?_,hO1⟩
 ·refine inv.zU (w':=w) (k:=k) (en:=⟨en.gen, .frz,en.ty,en.l⟩) (av':=G.av) (O':=O') (fun g ⟨en',q1,q2⟩=>by rw[hen]at q1;cases q1;exact q2) (fun _ _ _=>rfl) hp ?_ (fun b _ hb=>hO1 b hb) ?_ (fun _ _ _=>rfl) (Nat.le_refl _) rfl rfl rfl
  ·have hok:=inv.arr k en hen
   show Rv w {G with O:=O'} (G.av k en.gen) (.sl en.l)
   have own:∀ {ty},gJ T w G k (G.av k en.gen) ty en.l->Rv w {G with O:=O'} (G.av k en.gen) (.sl en.l):=by
    intro ty hown;rcases hown with⟨e1,e2⟩|⟨b,cap,cur,e1,e2,e3,e4,e5,e6,e7,e8⟩
    ·rw[e2];exact bA2 e1
    ·obtain⟨cc,q1,q2⟩:=(e8.here e3).out
     rw[e1];refine .slS _ cap en.l _ cc e4 e5 (fun _=>hO2 b e2) e7 q1 (fun j y hy=>(q2 j y hy).aW hkp (dF hp hy))
   unfold gW at hok;rcases hk with hk|hk
   ·rw[hk]at hok;exact own hok.2
   ·rw[hk]at hok
    rcases hok.2 with hok|hok
    ·exact own hok
    ·exact hok.1.wK.aW hkp Ap
  ·intro b
   by_cases hb:G.O b= .ar k
   ·exact .inr (.inr (.inr ⟨hO2 b hb,hb⟩))
   ·exact .inl (hO1 b hb)
 ·intro b
  by_cases hb:G.O b= .ar k
  ·simp[hO2 b hb,hb]
  ·simp[hO1 b hb,hb]
theorem bA7(inv:Inv T Φ σ a w G)(hkp:Keep w w G G'){v:Value}{x y:V}(h:yH σ.ar x y)(hv:Rv w G v x)(hok:x.ok σ.hasB σ.hasA)(hlent:∀k∈akey x,∀b,G.O b= .ar k->G'.O b= .fz):Rv w G' v y/\y.pure:=by
 have sl:∀ {u:Value} {l:List V},bM l->Rv w G u (.sl l)->Rv w G' u (.sl l)/\(V.sl l).pure:=fun hp h=>⟨h.aW hkp Ap,Ap⟩;unfold yH at h;split at h
 ·rename_i l
  split at h
  ·subst h;simp only[V.ok]at hok;exact sl hok hv
  ·subst h;simp only[V.ok]at hok;exact sl hok hv.wK
  ·subst h;rw[hv.bH];exact⟨.slN,by simp only[V.pure,V.ok,V.okL]⟩
  ·rename_i k g
   split at h
   ·rename_i en hen
    obtain⟨hg,hd,rfl⟩:=h;subst hg;have hp:=inv.wfA k en hen;have hok':=inv.arr k en hen
    rw[hv.oQ];have hl:=hlent k (by simp[akey])
    have own:∀ {ty},gJ T w G k (G.av k en.gen) ty en.l->Rv w G' (G.av k en.gen) (.sl en.l):=by
     intro ty hown;rcases hown with⟨e1,e2⟩|⟨b,cap,cur,e1,e2,e3,e4,e5,e6,e7,e8⟩
     ·rw[e2];exact bA2 e1
     ·obtain⟨cc,q1,q2⟩:=(e8.here e3).out
      rw[e1];exact .slS _ cap en.l _ cc e4 e5 (fun _=>hl b e2) e7 q1 (fun j y hy=>(q2 j y hy).aW hkp (dF hp hy))
    refine⟨?_,Ap⟩;unfold gW at hok';split at hok'
    ·rename_i hk;exact absurd hk hd
    ·exact(sl hp hok').1
    ·exact own hok'.2
    ·rcases hok'.2 with q|q
     ·exact own q
     ·exact(sl hp q.1.wK).1
   ·exact h.elim
  ·exact h.elim
 ·rename_i l
  split at h
  ·subst h
   simp only[V.ok]at hok;exact⟨hv.aW hkp Bz,Bz⟩
  ·subst h;rw[hv.bH];exact⟨.capN,by simp only[V.pure,V.ok,V.okL]⟩
  ·exact h.elim
 ·split at h
  ·subst h
   rw[hv.bH];exact⟨.lit _ hv.aZ3,Gy⟩
  ·exact h.elim
 ·split at h
  ·subst h
   simp only[V.ok]at hok;exact⟨hv.aW hkp Bz,Bz⟩
  ·exact h.elim
 ·split at h
  ·obtain⟨rfl,rfl,hs⟩:=h
   simp only[V.ok]at hok;have hp:=wC hs hok;exact⟨hv.aW hkp Ap,Ap⟩
  ·exact h.elim
 ·exact h.elim
theorem cW4{ar:Nat->Option AE}:∀ {ys xs:List V},cN9 ar ys xs->xs.length=ys.length/\∀(i:Nat) x y,xs[i]? =some x->ys[i]? =some y->yH ar x y:=by
 intro ys
 induction ys with
 |nil=>
  intro xs h;exact N7
 |cons y r ih=>
  intro xs h
  cases xs with
  |nil=>exact(h:False).elim
  |cons x xr=>
   obtain⟨h1,h2⟩:yH ar x y/\cN9 ar r xr:=h;exact Na
theorem qM{ar:Nat->Option AE}:∀ {ys xs:List V},iQ T ar ys xs->xs.length=ys.length/\∀(i:Nat) x y,xs[i]? =some x->ys[i]? =some y->wU T ar x y:=by
 intro ys
 induction ys with
 |nil=>
  intro xs h;exact N7
 |cons y r ih=>
  intro xs h
  cases xs with
  |nil=>exact(h:False).elim
  |cons x xr=>
   obtain⟨h1,h2⟩:wU T ar x y/\iQ T ar r xr:=h;exact Na
theorem dK9(cs:List V):jQ (.agg cs)=cs.flatMap akey:=by
 induction cs with
 |nil=>rfl
 |cons x r ih=>
  have:jQ (.agg (x::r))=appR (akey x) (jQ (.agg r)):=rfl;rw[this,bT,ih,List.flatMap_cons]
theorem oZ:∀ {ys xs:List V} {k:Nat},k∈bD ys xs↔∃(i:Nat) (x y:V),xs[i]? =some x/\ys[i]? =some y/\linear y=true/\k∈jQ x:=by
 intro ys
 induction ys with
 |nil=>
  intro xs k;have:bD [] xs=[] :=rfl;rw[this];simp
 |cons y r ih=>
  intro xs k
  cases xs with
  |nil=>
   have:bD (y::r) [] =[] :=rfl;rw[this];simp
  |cons x xr=>
   have:bD (y::r) (x::xr)=appR (cond (linear y) (jQ x) []) (bD r xr):=rfl;rw[this,bT,List.mem_append,ih];constructor
   ·rintro(h|⟨i,x',y',h1,h2,h3,h4⟩)
    ·cases hl:linear y with
     |true=>rw[hl]at h;exact⟨0,x,y,rfl,rfl,hl,h⟩
     |false=>rw[hl]at h;cases h
    ·exact⟨i+1,x',y',h1,h2,h3,h4⟩
   ·rintro⟨i,x',y',h1,h2,h3,h4⟩
    exact Oj
theorem nP:∀ {ys xs:List V} {k:Nat},k∈bK ys xs↔∃(i:Nat) (x y:V),xs[i]? =some x/\ys[i]? =some y/\linear y=false/\k∈jQ x:=by
 intro ys
 induction ys with
 |nil=>
  intro xs k;have:bK [] xs=[] :=rfl;rw[this];simp
 |cons y r ih=>
  intro xs k
  cases xs with
  |nil=>
   have:bK (y::r) [] =[] :=rfl;rw[this];simp
  |cons x xr=>
   have:bK (y::r) (x::xr)=appR (cond (linear y) [] (jQ x)) (bK r xr):=rfl;rw[this,bT,List.mem_append,ih];constructor
   ·rintro(h|⟨i,x',y',h1,h2,h3,h4⟩)
    ·cases hl:linear y with
     |true=>rw[hl]at h;cases h
     |false=>rw[hl]at h;exact⟨0,x,y,rfl,rfl,hl,h⟩
    ·exact⟨i+1,x',y',h1,h2,h3,h4⟩
   ·rintro⟨i,x',y',h1,h2,h3,h4⟩
    exact Oj
theorem aJ2(inv:Inv T Φ σ a w G)(hkp:Keep w w G G'){v:Value}{x y:V}{j:Nat}(h:wU T σ.ar x y)(hv:Rv w G v x)(hok:x.ok σ.hasB σ.hasA)
 (hlent:linear y=false->∀k∈jQ x,∀b,G.O b= .ar k->G'.O b= .fz)(hgiven:linear y=true->∀k∈jQ x,∀b,G.O b= .ar k->G'.O b= .ar j):Rb T w G' j v y:=by
 have own:∀ {k ty l},bM l->gJ T w G k v ty l->(∀b,G.O b= .ar k->G'.O b= .ar j)->gJ T w G' j v ty l:=by
  intro k ty l hp hown hg;rcases hown with h|⟨b,cap,cur,e1,e2,e3,e4,e5,e6,e7,e8⟩
  ·exact .inl h
  ·refine .inr ⟨b,cap,cur,e1,hg b e2,e3,e4,e5,e6,e7,e8.keep hkp (p:=fun _=>False) (q:=fun _ _=>False) ?_ (fun _ h=>h.elim) (fun _ _ h=>h.elim)⟩
   refine aH.2 fun u hu=>?_;obtain⟨i,hi⟩:=List.getElem?_of_mem hu;exact dF hp hi
 unfold wU at h;split at h
 ·rename_i e l
  split at h
  ·obtain⟨he,rfl⟩:=h
   exact⟨he,BK, .inl ⟨.inl hv.bH,rfl⟩⟩
  ·rename_i k g
   split at h
   ·rename_i en hen
    obtain⟨hg,hk,rfl,rfl⟩:=h;subst hg;have hok':=inv.arr k en hen;unfold gW at hok';rw[hk]at hok';have hp:=inv.wfA k en hen
    rw[<-hv.oQ]at hok';exact⟨hok'.1,hp,own hp hok'.2 (hgiven rfl k (by simp[jQ]))⟩
   ·exact h.elim
  ·exact h.elim
 ·rename_i e l
  split at h
  ·obtain⟨he,rfl⟩:=h
   exact⟨he,BK, .inl (.inl ⟨.inl hv.bH,rfl⟩)⟩
  ·obtain⟨he,hz,rfl⟩:=h
   simp only[V.ok]at hok;exact⟨he,hok, .inr ⟨hv.aW hkp Bz,hz⟩⟩
  ·rename_i k g
   split at h
   ·rename_i en hen
    obtain⟨hg,hk,rfl,rfl⟩:=h;subst hg;have hok':=inv.arr k en hen;have hp:=inv.wfA k en hen
    have hgv:=hgiven rfl k (by simp[jQ])
    unfold gW at hok';rw[<-hv.oQ]at hok';rcases hk with hk|hk
    ·rw[hk]at hok'
     exact⟨hok'.1,hp, .inl (own hp hok'.2 hgv)⟩
    ·rw[hk]at hok'
     refine⟨hok'.1,hp,?_⟩;rcases hok'.2 with q|q
     ·exact .inl (own hp q hgv)
     ·exact .inr ⟨q.1.aW hkp Ap,q.2⟩
   ·exact h.elim
  ·exact h.elim
 ·rename_i ys
  split at h
  ·rename_i xs
   obtain⟨hl,hh⟩:=cW4 h;obtain⟨cs,e1,e2,e3,e4⟩:=hv.zV;simp only[V.ok]at hok
   have each:∀(i:Nat) c y,cs[i]? =some c->ys[i]? =some y->Rv w G' c y/\y.pure:=by
    intro i c y hc hy;have hi:i<xs.length:=E5;have hx:=List.getElem?_eq_getElem hi
    exact bA7 inv hkp (hh i _ y hx hy) (e4 i c _ hc hx) (aH.1 hok _ (List.mem_of_getElem? hx)) (fun k hk=>hlent rfl k (by rw[dK9];exact List.mem_flatMap.2 ⟨_,List.mem_of_getElem? hx,hk⟩))
   refine⟨?_,?_⟩
   ·simp only[V.pure,V.ok]
    refine aH.2 fun y hy=>?_;obtain⟨i,hi⟩:=List.getElem?_of_mem hy;have hic:i<cs.size:=Ei
    exact(each i cs[i] y (by simp[hic]) hi).2
   ·rw[e1]
    exact .agg cs ys (by rw[e2,hl]) e3 (fun i c y hc hy=>(each i c y hc hy).1)
  ·exact h.elim
 ·rename_i h1 h2 h3
  have hlin:linear y=false:=by
   cases y<;>simp_all [linear]
  have hkk:∀k∈akey x,k∈jQ x:=by
   intro k hk;cases x<;>simp_all [akey,jQ]
  obtain⟨q1,q2⟩:=bA7 inv hkp h hv hok (fun k hk=>hlent hlin k (hkk k hk));unfold Rb;split
  ·exact(h1 _ _ rfl).elim
  ·exact(h2 _ _ rfl).elim
  ·exact⟨q2,q1⟩
end
end Go.Ab
