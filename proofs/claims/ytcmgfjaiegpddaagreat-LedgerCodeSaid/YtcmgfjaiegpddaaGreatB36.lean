/- Lemmas. -/
import Derived.Test.YtcmgfjaiegpddaaGreatB21
import Derived.Test.YtcmgfjaiegpddaaGreatB35
set_option linter.all false
set_option maxRecDepth 100000
set_option maxHeartbeats 4000000
noncomputable section
namespace Go.Proofs.Led
open Go Go.Proofs Go.Ab Tryz
def rBytes_spec(x:List Int)(g:x.length<=400000000):Sp 39 [.sl (x.map byV)] (.own 5 ((encI x.length++x).map byV)):=by
 refine zsp func39 ?_;have b:(x.map byV).length=x.length:=Af
 have c:Sp 33 [I (x.map byV).length] (.own 5 ((encI x.length).map byV)):=by
  rw[b];exact rInt_spec x.length (w_len Aa)
 have f:=enc_len9 x.length;have a:=byV_cells x;have e:(encI x.length++x).map byV=(encI x.length).map byV++x.map byV:=Ti;rw[e];have d:((encI x.length).map byV).length=(encI x.length).length:=Af;generalize (encI x.length).map byV=X at*;generalize x.map byV=Y at*;repeat' ((conv=>whnf);first|refine zc c ?_|refine iH rfl (.inl rfl) rfl (Q9 rfl) a BO ?_|refine zS ?_|refine zm (λx i=>?_)|refine zT ?_ ?_<;>intro _|fail)
 all_goals exact zE
def rText_spec(s:ByteArray)(b:s.size<=400000000):Sp 34 [S s] (.own 5 ((encT s).map byV)):=by
 refine zsp func34 ?_;have a:=rBytes_spec (bys s) (by rw[bys_len];omega);rw[bys_len,<-strV_bys]at a;have e:(encT s).map byV=(encI s.size++bys s).map byV:=rfl;rw[e];generalize (encI s.size++bys s).map byV=X at*;repeat' ((conv=>whnf);first|refine fU (by show s.size<=_;omega) ?_|refine zc a ?_|refine zS ?_|refine zm (λx c=>?_)|refine zT ?_ ?_<;>intro _|fail)
 all_goals exact zE
def rVec_spec(v:Vc)(a:R64 v.1)(b:R64 v.2):Sp 40 [vcV v] (.own 5 ((cVec.enc v).map byV)):=by
 refine zsp func40 ?_;have d:=rInt_spec v.1 a;have f:=rInt_spec v.2 b;have i:=enc_len9 v.1;have j:=enc_len9 v.2;have e:(cVec.enc v).map byV=(encI v.1).map byV++(encI v.2).map byV:=by show(encI v.1++encI v.2).map byV=_;rw[Ti]
 rw[e];have k:((encI v.1).map byV).length=(encI v.1).length:=Af;have l:((encI v.2).map byV).length=(encI v.2).length:=Af;have c:=byV_cells (encI v.2);generalize (encI v.1).map byV=X at*;generalize (encI v.2).map byV=Y at*;repeat' ((conv=>whnf);first|refine cC0 [(1,1),(3,1),(6,1)] Ad Ak ?_|refine zc d ?_|refine zc f ?_|refine iH rfl (.inl rfl) rfl (Q9 rfl) c BO ?_|refine zS ?_|refine zm (λx g=>?_)|refine zT ?_ ?_<;>intro _|fail)
 all_goals exact zE
def rRing_spec(r:Rg)(d:(cRing 40).rng r)(c:((cRing 40).enc r).length<=400000000):Sp 135 [rgV r] (.own 5 (((cRing 40).enc r).map byV)):=by
 refine zsp func135 ?_;have a:(r.map vcV).length=r.length:=Af;have n:=many_len cVec (λv=>C9) r;rw[ring_enc]at c⊢;rw[Q5]at c
 have g:Sp 33 [I (r.map vcV).length] (.own 5 ((encI r.length).map byV)):=by
  rw[a];exact rInt_spec r.length (w_len Aa)
 repeat' ((conv=>whnf);first|refine zc g ?_|refine zS ?_|refine zd (λhd=>?_) (λhd=>?_)|refine zl (λhlt=>?_) (λhlt=>?_)|refine zk (λhle=>?_) (λhle=>?_)|refine ze (λheq=>?_) (λheq=>?_)|refine zm (λx hx=>?_)|refine zb (λhbb=>?_) (λhbb=>?_))
 all_goals conv=>whnf
 refine aU (A:=List Vc) (B:=List Vc) (λD R=>mkSt [(0,rgV r),(3, .arr 7 D.length),(4,I D.length)] [] [(7,⟨D.length, .own,5,(encI r.length++cVec.many D).map byV⟩)]) (λD R=>r=D++R) (λD R=>R.length) [] r ?_ rfl (λD R hp=>?_);have e:encI r.length++cVec.many [] =encI r.length:=SB _;rw[e];exact zj;cases R with
 |nil=>
  have i:r.length=D.length:=Ae;have e:encI r.length++cVec.many r=encI r.length++cVec.many D:=Bz;rw[e];exact NK
 |cons x R=>
  have i:=aO hp;have hx:x∈r:=Ae;have e:(encI r.length++cVec.many (D++[x])).map byV=(encI r.length++cVec.many D).map byV++(cVec.enc x).map byV:=Ec;have k:cVec.many r=cVec.many D++(cVec.enc x++cVec.many R):=Fv
  have hbb:((encI r.length++cVec.many D).map byV).length+((cVec.enc x).map byV).length<=400000000:=by
   have b:=SK List.length k;simp only[Q5,SG]at b⊢;omega
  have f:=rVec_spec x (d.2 x hx).1 (d.2 x hx).2;have j:=byV_cells (cVec.enc x);generalize (cVec.enc x).map byV=Y at*;generalize m:(encI r.length++cVec.many D).map byV=X at*;repeat' ((conv=>whnf);first|omega|refine aF (l:=r) (A:=D) (x:=x) (B:=R) hp Aa ?_|refine zc f ?_|refine iH rfl (.inl rfl) rfl (Q9 rfl) j BO ?_|refine zS ?_|refine zd (λhd=>?_) (λhd=>?_)|refine zl (λhlt=>?_) (λhlt=>?_)|refine zk (λhle=>?_) (λhle=>?_)|refine ze (λheq=>?_) (λheq=>?_)|refine zm (λx hx=>?_)|refine zb (λhbb=>?_) (λhbb=>?_))
  all_goals conv=>whnf
  exact OX
def rShape_spec(s:Sh)(f:cShape.rng s)(d:(cShape.enc s).length<=400000000):Sp 90 [shV s] (.own 5 ((cShape.enc s).map byV)):=by
 refine zsp func90 ?_;have b:(s.holes.map rgV).length=s.holes.length:=Af;have r:=many_len (cRing 40) (ring_pos 40) s.holes;have g:cShape.enc s=(cRing 40).enc s.outer++encI s.holes.length++(cRing 40).many s.holes:=by rw[shape_enc,<-Sv];rfl
 rw[g]at d⊢;rw[Q5,Q5]at d;have k:=rRing_spec s.outer f.1 Aa
 have m:Sp 33 [I (s.holes.map rgV).length] (.own 5 ((encI s.holes.length).map byV)):=by
  rw[b];exact rInt_spec s.holes.length (w_len Aa)
 have q:((cRing 40).enc s.outer++encI s.holes.length).length=((cRing 40).enc s.outer).length+(encI s.holes.length).length:=Q5;have i:((cRing 40).enc s.outer++encI s.holes.length).map byV=((cRing 40).enc s.outer).map byV++(encI s.holes.length).map byV:=Ti;have t:(((cRing 40).enc s.outer).map byV).length=((cRing 40).enc s.outer).length:=Af;have u:((encI s.holes.length).map byV).length=(encI s.holes.length).length:=Af;have a:=byV_cells (encI s.holes.length);generalize (cRing 40).enc s.outer++encI s.holes.length=P at*;generalize ((cRing 40).enc s.outer).map byV=X1 at*;generalize (encI s.holes.length).map byV=X2 at*;repeat' ((conv=>whnf);first|refine cC0 [(1,1),(5,1),(8,1)] Ad Ak ?_|refine zc k ?_|refine zc m ?_|refine iH rfl (.inl rfl) rfl (Q9 rfl) a Bf ?_|refine zS ?_|refine zd (λhd=>?_) (λhd=>?_)|refine zl (λhlt=>?_) (λhlt=>?_)|refine zk (λhle=>?_) (λhle=>?_)|refine ze (λheq=>?_) (λheq=>?_)|refine zm (λx hx=>?_)|refine zb (λhbb=>?_) (λhbb=>?_))
 all_goals conv=>whnf
 refine aU (A:=List Rg) (B:=List Rg) (λD R=>mkSt [(1, .box 1 0),(3, .arr 7 (D.length+1)),(4,I D.length)] [(1,shC s)] [(7,⟨D.length+1, .own,5,(P++(cRing 40).many D).map byV⟩)]) (λD R=>s.holes=D++R) (λD R=>R.length) [] s.holes ?_ rfl (λD R hp=>?_);have e:P++(cRing 40).many [] =P:=SB _;rw[e,i];exact zj;cases R with
 |nil=>
  have o:s.holes.length=D.length:=Ae;have e:P++(cRing 40).many s.holes=P++(cRing 40).many D:=Bz;rw[e];exact NK
 |cons x R=>
  have o:=aO hp;have hx:x∈s.holes:=Ae;have e:(P++(cRing 40).many (D++[x])).map byV=(P++(cRing 40).many D).map byV++((cRing 40).enc x).map byV:=Ec;have n:(cRing 40).many s.holes=(cRing 40).many D++((cRing 40).enc x++(cRing 40).many R):=Fv;have c:=SK List.length n;simp only[Q5]at c;have hbb:((P++(cRing 40).many D).map byV).length+(((cRing 40).enc x).map byV).length<=400000000:=MR;have j:=rRing_spec x (f.2.2 x hx) Aa;have a:=byV_cells ((cRing 40).enc x);generalize ((cRing 40).enc x).map byV=Y at*;generalize (P++(cRing 40).many D).map byV=X at*;repeat' ((conv=>whnf);first|omega|refine aF (l:=s.holes) (A:=D) (x:=x) (B:=R) hp Aa ?_|refine zc j ?_|refine iH rfl (.inl rfl) rfl (Q9 rfl) a BO ?_|refine zS ?_|refine zd (λhd=>?_) (λhd=>?_)|refine zl (λhlt=>?_) (λhlt=>?_)|refine zk (λhle=>?_) (λhle=>?_)|refine ze (λheq=>?_) (λheq=>?_)|refine zm (λx hx=>?_)|refine zb (λhbb=>?_) (λhbb=>?_))
  all_goals conv=>whnf
  exact OX
theorem many_next{a:Type}(c:Cod a)(P:List Int)(D:List a)(x:a):(P++c.many (D++[x])).map byV=(P++c.many D).map byV++(c.enc x).map byV:=by
 rw[many_app,many_one,<-Sv,Ti]
def many_split{a:Type}(c:Cod a){l D R:List a}{x:a}(h:l=D++x::R):(c.many l).length=(c.many D).length+((c.enc x).length+(c.many R).length):=by
 have b:c.many l=c.many D++(c.enc x++c.many R):=by rw[h,many_app];rfl
 rw[b,Q5,Q5]
theorem byL_len(l:List Int):(l.map byV).length=l.length:=Af
theorem app2(a b:List Int):(a++b).map byV=a.map byV++b.map byV:=Ti
def rSheet_spec(s:jL)(y:cSheet.rng s)(j:(cSheet.enc s).length<=100000000):Sp 36 [zJ s] (.own 5 ((cSheet.enc s).map byV)):=by
 refine zsp func36 ?_;obtain⟨_,C,⟨_,V7,_⟩,⟨_,W,_⟩,E,F,Z,G⟩:=y;have hll:(s.defects.map shV).length=s.defects.length:=Af;have J:=many_len cShape shape_pos s.defects;have t:cSheet.enc s=encI s.id++encT s.grade++encT s.heat++encI s.grain++cShape.enc s.shape++encI s.defects.length++cShape.many s.defects:=by rw[sheet_enc];simp only[Sv]
 rw[t]at j⊢;have L:(encT s.grade).length=(encI s.grade.size).length+s.grade.size:=AV;have M:(encT s.heat).length=(encI s.heat.size).length+s.heat.size:=AV;simp only[Q5]at j;have a:=rInt_spec s.id C;have b:=rText_spec s.grade Aa;have c:=rText_spec s.heat Aa;have d:=rInt_spec s.grain E;have f:=rShape_spec s.shape F Aa
 have g:Sp 33 [I (s.defects.map shV).length] (.own 5 ((encI s.defects.length).map byV)):=by
  exact RX
 have H:(encI s.id++encT s.grade++encT s.heat++encI s.grain++cShape.enc s.shape++encI s.defects.length).length+(cShape.many s.defects).length<=100000000:=AO;have u:(encI s.id++encT s.grade++encT s.heat++encI s.grain++cShape.enc s.shape++encI s.defects.length).map byV=(encI s.id).map byV++(encT s.grade).map byV++(encT s.heat).map byV++(encI s.grain).map byV++(cShape.enc s.shape).map byV++(encI s.defects.length).map byV:=by simp only[Ti]
 have N:=byL_len (encI s.id);have O:=byL_len (encT s.grade);have Q:=byL_len (encT s.heat);have S:=byL_len (encI s.grain);have T:=byL_len (cShape.enc s.shape);have U:=byL_len (encI s.defects.length);have m:=byV_cells (encT s.grade);have n:=byV_cells (encT s.heat);have o:=byV_cells (encI s.grain);have q:=byV_cells (cShape.enc s.shape);have r:=byV_cells (encI s.defects.length);generalize encI s.id++encT s.grade++encT s.heat++encI s.grain++cShape.enc s.shape++encI s.defects.length=P at*;generalize (encI s.id).map byV=X1 at*;generalize (encT s.grade).map byV=X2 at*;generalize (encT s.heat).map byV=X3 at*;generalize (encI s.grain).map byV=X4 at*;generalize (cShape.enc s.shape).map byV=i at*;generalize (encI s.defects.length).map byV=k at*;repeat' ((conv=>whnf);first|refine zc a ?_|refine zc b ?_|refine zc c ?_|refine zc d ?_|refine zc f ?_|refine zc g ?_|refine iH rfl (.inl rfl) rfl (Q9 rfl) m Bf ?_|refine iH rfl (.inl rfl) rfl (Q9 rfl) n BG ?_|refine iH rfl (.inl rfl) rfl (Q9 rfl) o CV ?_|refine iH rfl (.inl rfl) rfl (Q9 rfl) q (by show(X1++X2++X3++X4).length+i.length<=_;simp only[Q5];omega) ?_|refine iH rfl (.inl rfl) rfl (Q9 rfl) r (by show(X1++X2++X3++X4++i).length+k.length<=_;simp only[Q5];omega) ?_|refine zS ?_|refine zd (λhd=>?_) (λhd=>?_)|refine zl (λhlt=>?_) (λhlt=>?_)|refine zk (λhle=>?_) (λhle=>?_)|refine ze (λheq=>?_) (λheq=>?_)|refine zm (λx hx=>?_)|refine zb (λhbb=>?_) (λhbb=>?_))
 all_goals conv=>whnf
 refine aU (A:=List Sh) (B:=List Sh) (λD R=>mkSt [(1, .box 1 0),(3, .arr 7 (D.length+5)),(4,I D.length)] [(1,aA7 s)] [(7,⟨D.length+5, .own,5,(P++cShape.many D).map byV⟩)]) (λD R=>s.defects=D++R) (λD R=>R.length) [] s.defects ?_ rfl (λD R hp=>?_);have e:P++cShape.many [] =P:=SB _;rw[e,u];exact zj;cases R with
 |nil=>
  have z:s.defects.length=D.length:=Ae;have e:P++cShape.many s.defects=P++cShape.many D:=Bz;rw[e];clear a b c d f g;exact NK
 |cons x R=>
  have z:=aO hp;have hx:x∈s.defects:=Ae;have e:=many_next cShape P D x;have K:=many_split cShape hp;have hbb:((P++cShape.many D).map byV).length+((cShape.enc x).map byV).length<=400000000:=MR;have v:=rShape_spec x (G x hx) Aa;have w:=byV_cells (cShape.enc x);clear a b c d f g;generalize (cShape.enc x).map byV=Y at*;generalize (P++cShape.many D).map byV=X at*;repeat' ((conv=>whnf);first|omega|refine aF (l:=s.defects) (A:=D) (x:=x) (B:=R) hp Aa ?_|refine zc v ?_|refine iH rfl (.inl rfl) rfl (Q9 rfl) w BO ?_|refine zS ?_|refine zd (λhd=>?_) (λhd=>?_)|refine zl (λhlt=>?_) (λhlt=>?_)|refine zk (λhle=>?_) (λhle=>?_)|refine ze (λheq=>?_) (λheq=>?_)|refine zm (λx hx=>?_)|refine zb (λhbb=>?_) (λhbb=>?_))
  all_goals conv=>whnf
  exact OX
def rBar_spec(s:Bar)(z:cBar.rng s)(g:(cBar.enc s).length<=100000000):Sp 38 [barV s] (.own 5 ((cBar.enc s).map byV)):=by
 refine zsp func38 ?_;obtain⟨_,E,⟨_,T,_⟩,⟨_,U,_⟩,F,V7,i⟩:=z;have hll:(s.defects.map ivV).length=s.defects.length:=Af;have H:=many_len (cI.pair cI) iv_pos s.defects;have t:cBar.enc s=encI s.id++encT s.grade++encT s.heat++encI s.length++encI s.defects.length++(cI.pair cI).many s.defects:=by rw[bar_enc2];unfold encLb;simp only[Sv]
 rw[t]at g⊢;have K:(encT s.grade).length=(encI s.grade.size).length+s.grade.size:=AV;have L:(encT s.heat).length=(encI s.heat.size).length+s.heat.size:=AV;simp only[Q5]at g;have a:=rInt_spec s.id E;have b:=rText_spec s.grade Aa;have c:=rText_spec s.heat Aa;have d:=rInt_spec s.length F
 have f:Sp 33 [I (s.defects.map ivV).length] (.own 5 ((encI s.defects.length).map byV)):=by
  exact RX
 have G:(encI s.id++encT s.grade++encT s.heat++encI s.length++encI s.defects.length).length+((cI.pair cI).many s.defects).length<=100000000:=AO;have u:(encI s.id++encT s.grade++encT s.heat++encI s.length++encI s.defects.length).map byV=(encI s.id).map byV++(encT s.grade).map byV++(encT s.heat).map byV++(encI s.length).map byV++(encI s.defects.length).map byV:=by simp only[Ti]
 have M:=byL_len (encI s.id);have N:=byL_len (encT s.grade);have O:=byL_len (encT s.heat);have Q:=byL_len (encI s.length);have S:=byL_len (encI s.defects.length);have k:=byV_cells (encT s.grade);have m:=byV_cells (encT s.heat);have n:=byV_cells (encI s.length);have o:=byV_cells (encI s.defects.length);generalize encI s.id++encT s.grade++encT s.heat++encI s.length++encI s.defects.length=P at*;generalize (encI s.id).map byV=X1 at*;generalize (encT s.grade).map byV=X2 at*;generalize (encT s.heat).map byV=X3 at*;generalize (encI s.length).map byV=X4 at*;generalize (encI s.defects.length).map byV=j at*;repeat' ((conv=>whnf);first|refine zc a ?_|refine zc b ?_|refine zc c ?_|refine zc d ?_|refine zc f ?_|refine iH rfl (.inl rfl) rfl (Q9 rfl) k Bf ?_|refine iH rfl (.inl rfl) rfl (Q9 rfl) m BG ?_|refine iH rfl (.inl rfl) rfl (Q9 rfl) n CV ?_|refine iH rfl (.inl rfl) rfl (Q9 rfl) o (by show(X1++X2++X3++X4).length+j.length<=_;simp only[Q5];omega) ?_|refine zS ?_|refine zd (λhd=>?_) (λhd=>?_)|refine zl (λhlt=>?_) (λhlt=>?_)|refine zk (λhle=>?_) (λhle=>?_)|refine ze (λheq=>?_) (λheq=>?_)|refine zm (λx hx=>?_)|refine zb (λhbb=>?_) (λhbb=>?_))
 all_goals conv=>whnf
 refine aU (A:=List Iv) (B:=List Iv) (λD R=>mkSt [(1, .box 1 0),(3, .arr 7 (2*D.length+4)),(4,I D.length)] [(1,barC s)] [(7,⟨2*D.length+4, .own,5,(P++(cI.pair cI).many D).map byV⟩)]) (λD R=>s.defects=D++R) (λD R=>R.length) [] s.defects ?_ rfl (λD R hp=>?_);have e:P++(cI.pair cI).many [] =P:=SB _;rw[e,u];exact zj;cases R with
 |nil=>
  have C:s.defects.length=D.length:=Ae;have e:P++(cI.pair cI).many s.defects=P++(cI.pair cI).many D:=Bz;rw[e];clear a b c d f;exact NK
 |cons x R=>
  have C:=aO hp;have hx:x∈s.defects:=Ae
  have e:(P++(cI.pair cI).many (D++[x])).map byV=(P++(cI.pair cI).many D).map byV++(encI x.1).map byV++(encI x.2).map byV:=by
   rw[many_next,show(cI.pair cI).enc x=encI x.1++encI x.2 from rfl,app2 (encI x.1),<-Sv]
  have J:=many_split (cI.pair cI) hp;have y:((cI.pair cI).enc x).length=(encI x.1).length+(encI x.2).length:=Q5;have hbb:((P++(cI.pair cI).many D).map byV).length+(((encI x.1).map byV).length+((encI x.2).map byV).length)<=400000000:=MR;have v:=rInt_spec x.1 (i x hx).1;have w:=rInt_spec x.2 (i x hx).2;have q:=byV_cells (encI x.1);have r:=byV_cells (encI x.2);clear a b c d f;have e3:2*(D.length+1)+4=2*D.length+4+1+1:=Aa;generalize (encI x.1).map byV=Y1 at*;generalize (encI x.2).map byV=Y2 at*;generalize (P++(cI.pair cI).many D).map byV=X at*;repeat' ((conv=>whnf);first|omega|refine cC0 [(1,1),(37,1),(45,1)] Ad Ak ?_|refine aF (l:=s.defects) (A:=D) (x:=x) (B:=R) hp Aa ?_|refine zc v ?_|refine zc w ?_|refine iH rfl (.inl rfl) rfl (Q9 rfl) q Fq ?_|refine iH rfl (.inl rfl) rfl (Q9 rfl) r BH ?_|refine zS ?_|refine zd (λhd=>?_) (λhd=>?_)|refine zl (λhlt=>?_) (λhlt=>?_)|refine zk (λhle=>?_) (λhle=>?_)|refine ze (λheq=>?_) (λheq=>?_)|refine zm (λx hx=>?_)|refine zb (λhbb=>?_) (λhbb=>?_))
  all_goals conv=>whnf
  refine⟨(D++[x],R),?_,Ae,Af⟩;exact PN
end Go.Proofs.Led
