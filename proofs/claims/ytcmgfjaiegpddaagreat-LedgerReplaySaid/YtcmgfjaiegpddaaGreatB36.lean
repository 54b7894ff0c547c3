/- Lemmas. -/
import Derived.Test.YtcmgfjaiegpddaaGreatB16
set_option linter.all false
set_option maxRecDepth 100000
set_option maxHeartbeats 4000000
noncomputable section
namespace Go.Proofs.Led
open Go Go.Proofs Go.Ab Tryz
theorem many_app{a:Type}(c:Cod a)(l m:List a):c.many (l++m)=c.many l++c.many m:=by unfold Cod.many;rw[QF]
theorem many_one{a:Type}(c:Cod a)(x:a):c.many [x] =c.enc x:=by unfold Cod.many;simp
theorem ring_enc(m:Int)(r:Rg):(cRing m).enc r=encI r.length++cVec.many r:=rfl
theorem shape_enc(s:Sh):cShape.enc s=(encI s.outer.length++cVec.many s.outer)++(encI s.holes.length++(cRing 40).many s.holes):=rfl
def wRing_spec(b:List Int)(r:Rg)(d:(cRing 40).rng r)(c:b.length+((cRing 40).enc r).length<=400000000):Sp 134 [.own 5 (b.map byV),rgV r] (.own 5 ((b++(cRing 40).enc r).map byV)):=by
 refine zsp func134 ?_;have a:(r.map vcV).length=r.length:=Af
 have k:r.length<=400000000:=by
  have:r.length<=(cVec.many r).length:=by
   clear c d a;induction r with
   |nil=>exact P8 _
   |cons v r l=>
    unfold Cod.many at*;rw[Qk,OY,PE];have:1<=(cVec.enc v).length:=by show 1<=(encI v.1++encI v.2).length;rw[OY,enc_len,enc_len];omega
    omega
  rw[ring_enc,OY]at c;omega
 have j:Sp 30 [.own 5 (b.map byV),I (r.map vcV).length] (.own 5 ((b++encI r.length).map byV)):=by
  rw[a];exact wInt_spec b r.length (w_len Aa) Aa
 rw[ring_enc]at c⊢;repeat' ((conv=>whnf);first|refine zS ?_|refine zd (λhd=>?_) (λhd=>?_)|refine zl (λhlt=>?_) (λhlt=>?_)|refine zk (λhle=>?_) (λhle=>?_)|refine ze (λheq=>?_) (λheq=>?_)|refine zm (λx hx=>?_)|refine zb (λhbb=>?_) (λhbb=>?_))
 all_goals conv=>whnf
 refine aU (A:=List Vc) (B:=List Vc) (λD R=>mkSt [(0, .arr 0 (D.length+1)),(11,rgV r),(12,I r.length),(13,I D.length)] [] [(0,⟨D.length+1, .own,5,(b++encI r.length++cVec.many D).map byV⟩)]) (λD R=>r=D++R) (λD R=>R.length) [] r ?_ rfl (λD R hp=>?_);have e:b++encI r.length++cVec.many [] =b++encI r.length:=Pz _;rw[e,<-a];exact zj;cases R with
 |nil=>
  have g:r.length=D.length:=Ad;have e:b++(encI r.length++cVec.many r)=b++encI r.length++cVec.many D:=by rw[Pq,hp,Pz]
  rw[e];exact Lh
 |cons x R=>
  have g:=aO hp;have hx:x∈r:=Ad;have e:b++encI r.length++cVec.many (D++[x])=b++encI r.length++cVec.many D++cVec.enc x:=by rw[many_app,many_one,Pq,Pq,Pq]
  have hbb:(b++encI r.length++cVec.many D).length<=400000000:=by
   have i:cVec.many r=cVec.many D++cVec.many (x::R):=by rw[hp,many_app]
   rw[i,OY,OY]at c;rw[OY,OY];omega
  have f:=wVec_spec (b++encI r.length++cVec.many D) x (d.2 x hx).1 (d.2 x hx).2 hbb;rw[<-e]at f;repeat' ((conv=>whnf);first|omega|refine zS ?_|refine zd (λhd=>?_) (λhd=>?_)|refine zl (λhlt=>?_) (λhlt=>?_)|refine zk (λhle=>?_) (λhle=>?_)|refine ze (λheq=>?_) (λheq=>?_)|refine zm (λx hx=>?_)|refine zb (λhbb=>?_) (λhbb=>?_))
  all_goals conv=>whnf
  refine⟨(D++[x],R),?_,Ad,Af⟩;exact L8
def many_len{a:Type}(c:Cod a)(h:∀x,1<=(c.enc x).length)(l:List a):l.length<=(c.many l).length:=by
 induction l with
 |nil=>exact P8 _
 |cons v r b=>
  have:=h v;unfold Cod.many at*;exact Oz
def encI_pos(n:Int):1<=(encI n).length:=by rw[enc_len];omega
def ring_pos(m:Int)(r:Rg):1<=((cRing m).enc r).length:=by
 have:=encI_pos r.length;rw[ring_enc,OY];omega
def wShape_spec(b:List Int)(s:Sh)(f:cShape.rng s)(c:b.length+(cShape.enc s).length<=400000000):Sp 85 [.own 5 (b.map byV),shV s] (.own 5 ((b++cShape.enc s).map byV)):=by
 refine zsp func85 ?_;have a:(s.holes.map rgV).length=s.holes.length:=Af;have m:=many_len (cRing 40) (ring_pos 40) s.holes;rw[shape_enc]at c⊢;have k:b.length+(encI s.outer.length++cVec.many s.outer).length<=400000000:=by rw[OY]at c;omega
 have n:(b++(encI s.outer.length++cVec.many s.outer)).length<=400000000:=AA
 have o:s.holes.length<=400000000:=by
  have q:(encI s.holes.length++(cRing 40).many s.holes).length<=400000000:=by rw[OY]at c;omega
  rw[OY]at q;omega
 have d:=wRing_spec b s.outer f.1 k
 have i:Sp 30 [.own 5 ((b++(encI s.outer.length++cVec.many s.outer)).map byV),I (s.holes.map rgV).length] (.own 5 ((b++(encI s.outer.length++cVec.many s.outer)++encI s.holes.length).map byV)):=by
  rw[a];exact wInt_spec _ s.holes.length (w_len Aa) Aa
 rw[ring_enc]at d;generalize encI s.outer.length++cVec.many s.outer=O at*;repeat' ((conv=>whnf);first|refine bW8 [(3,3),(8,3),(11,3)] [(10,[]),(14,[])] Ae Ak ?_|refine zh (xX d) [] ?_|refine zh (xX i) [] ?_|refine zS ?_|refine zd (λhd=>?_) (λhd=>?_)|refine zl (λhlt=>?_) (λhlt=>?_)|refine zk (λhle=>?_) (λhle=>?_)|refine ze (λheq=>?_) (λheq=>?_)|refine zm (λx hx=>?_)|refine zb (λhbb=>?_) (λhbb=>?_))
 all_goals conv=>whnf
 refine aU (A:=List Rg) (B:=List Rg) (λD R=>mkSt [(0, .arr 0 (D.length+2)),(16, .sl (s.holes.map rgV)),(17,I s.holes.length),(18,I D.length)] [] [(0,⟨D.length+2, .own,5,(b++O++encI s.holes.length++(cRing 40).many D).map byV⟩)]) (λD R=>s.holes=D++R) (λD R=>R.length) [] s.holes ?_ rfl (λD R hp=>?_);have e:b++O++encI s.holes.length++(cRing 40).many [] =b++O++encI s.holes.length:=Pz _;rw[e,<-a];exact zj;cases R with
 |nil=>
  have l:s.holes.length=D.length:=Ad;have e:b++(O++(encI s.holes.length++(cRing 40).many s.holes))=b++O++encI s.holes.length++(cRing 40).many D:=by rw[<-Pq,<-Pq,hp,Pz]
  rw[e];exact Lh
 |cons x R=>
  have l:=aO hp;have hx:x∈s.holes:=Ad;have e:b++O++encI s.holes.length++(cRing 40).many (D++[x])=b++O++encI s.holes.length++(cRing 40).many D++(cRing 40).enc x:=by rw[many_app,many_one,Pq (b++O++encI s.holes.length)]
  have hbb:(b++O++encI s.holes.length++(cRing 40).many D).length+((cRing 40).enc x).length<=400000000:=by
   have j:(cRing 40).many s.holes=(cRing 40).many D++((cRing 40).enc x++(cRing 40).many R):=G8;rw[j,OY,OY,OY,OY]at c;rw[OY,OY,OY];omega
  have g:=wRing_spec (b++O++encI s.holes.length++(cRing 40).many D) x (f.2.2 x hx) hbb;rw[<-e]at g;repeat' ((conv=>whnf);first|omega|refine zS ?_|refine zd (λhd=>?_) (λhd=>?_)|refine zl (λhlt=>?_) (λhlt=>?_)|refine zk (λhle=>?_) (λhle=>?_)|refine ze (λheq=>?_) (λheq=>?_)|refine zm (λx hx=>?_)|refine zb (λhbb=>?_) (λhbb=>?_))
  all_goals conv=>whnf
  refine⟨(D++[x],R),?_,Ad,Af⟩;exact L8
def encT(s:ByteArray):List Int:=encI s.size++bys s
def encLb(i:Int)(g h:ByteArray):List Int:=encI i++(encT g++encT h)
theorem sheet_enc(s:jL):cSheet.enc s=encI s.id++(encT s.grade++(encT s.heat++(encI s.grain++(cShape.enc s.shape++(encI s.defects.length++cShape.many s.defects))))):=by
 show encI s.id++((cText 16).enc s.grade++((cText 16).enc s.heat++_))=_;rw[cText_enc,cText_enc];rfl
theorem sheet_enc2(s:jL):cSheet.enc s=encLb s.id s.grade s.heat++encI s.grain++cShape.enc s.shape++encI s.defects.length++cShape.many s.defects:=by
 rw[sheet_enc];unfold encLb;simp only[Pq]
def lbEnc_spec(i:Int)(g h:ByteArray)(hi:R64 i)(d:g.size<=100000000)(f:h.size<=100000000):Sp 87 [.agg [I i,S g,S h]] (.own 5 ((encLb i g h).map byV)):=by
 refine zsp func87 ?_;have a:=wInt_spec [] i hi Af;have k:=enc_len9 i;have l:=enc_len9 g.size;have b:=wText_spec (encI i) g Aa Aa;have c:=wText_spec (encI i++(encI g.size++bys g)) h (by rw[OY,OY,bys_len];omega) Aa;have e:encLb i g h=encI i++(encI g.size++bys g)++(encI h.size++bys h):=by unfold encLb encT;simp only[Pq]
 rw[e];rw[Rh]at a;generalize (encI i++(encI g.size++bys g)++(encI h.size++bys h)).map byV=Z at*;generalize (encI i++(encI g.size++bys g)).map byV=Y at*;generalize (encI i).map byV=X at*;repeat' ((conv=>whnf);first|refine bW8 [(1,1),(3,1),(6,1),(9,1)] [(5,[]),(8,[]),(11,[])] Ae Ak ?_|(refine fC9 (xX a) [] rfl ⟨⟨⟨OZ Ac,rfl⟩,rfl,trivial⟩,trivial⟩ rfl ?_)|refine zh (xX b) [] ?_|refine zh (xX c) [] ?_|refine zS ?_|refine zm (λx j=>?_)|refine zT ?_ ?_<;>intro _|fail)
 all_goals exact zE
def shape_pos(s:Sh):1<=(cShape.enc s).length:=by
 have:=encI_pos s.outer.length;rw[shape_enc,OY,OY];omega
def encSheet_spec(s:jL)(q:cSheet.rng s)(a:(cSheet.enc s).length<=100000000):Sp 26 [zJ s] (.own 5 ((cSheet.enc s).map byV)):=by
 refine zsp func26 ?_;obtain⟨_,t,⟨_,F,_⟩,⟨_,G,_⟩,u,v,H,w⟩:=q;have hll:(s.defects.map shV).length=s.defects.length:=Af;have E:=many_len cShape shape_pos s.defects;have m:s.grade.size=(bys s.grade).length:=(bys_len _).symm;have n:s.heat.size=(bys s.heat).length:=(bys_len _).symm;rw[sheet_enc2]at a⊢
 have j:(encLb s.id s.grade s.heat).length=(encI s.id).length+((encI s.grade.size).length+s.grade.size+((encI s.heat.size).length+s.heat.size)):=by
  exact OJ
 simp only[OY]at a;have c:=aK4 s;have d:=lbEnc_spec s.id s.grade s.heat t Aa Aa;have f:=wInt_spec (encLb s.id s.grade s.heat) s.grain u Aa;have g:=wShape_spec (encLb s.id s.grade s.heat++encI s.grain) s.shape v Bv
 have i:Sp 30 [.own 5 ((encLb s.id s.grade s.heat++encI s.grain++cShape.enc s.shape).map byV),I (s.defects.map shV).length] (.own 5 ((encLb s.id s.grade s.heat++encI s.grain++cShape.enc s.shape++encI s.defects.length).map byV)):=by
  exact OE
 have k:(encLb s.id s.grade s.heat++encI s.grain++cShape.enc s.shape++encI s.defects.length).length+(cShape.many s.defects).length<=100000000:=Bv;generalize encLb s.id s.grade s.heat++encI s.grain++cShape.enc s.shape++encI s.defects.length=P at*;generalize (encLb s.id s.grade s.heat++encI s.grain++cShape.enc s.shape).map byV=C at*;generalize (encLb s.id s.grade s.heat++encI s.grain).map byV=z at*;generalize (encLb s.id s.grade s.heat).map byV=y at*;clear j a;repeat' ((conv=>whnf);first|refine bW8 [(1,1),(10,1),(13,1)] [(12,[]),(15,[])] Ae Ak ?_|refine zc c ?_|refine zc d ?_|refine zh (xX f) [] ?_|refine zh (xX g) [] ?_|refine zc i ?_|refine zS ?_|refine zd (λhd=>?_) (λhd=>?_)|refine zl (λhlt=>?_) (λhlt=>?_)|refine zk (λhle=>?_) (λhle=>?_)|refine ze (λheq=>?_) (λheq=>?_)|refine zm (λx hx=>?_)|refine zb (λhbb=>?_) (λhbb=>?_))
 all_goals conv=>whnf
 refine aU (A:=List Sh) (B:=List Sh) (λD R=>mkSt [(3, .arr 9 (D.length+3)),(22, .sl (s.defects.map shV)),(23,I s.defects.length),(24,I D.length)] [] [(9,⟨D.length+3, .own,5,(P++cShape.many D).map byV⟩)]) (λD R=>s.defects=D++R) (λD R=>R.length) [] s.defects ?_ rfl (λD R hp=>?_);have e:P++cShape.many [] =P:=Pz _;rw[e,<-hll];exact zj;cases R with
 |nil=>
  have r:s.defects.length=D.length:=Ad;have e:P++cShape.many s.defects=P++cShape.many D:=C9;rw[e];exact Lh
 |cons x R=>
  have r:=aO hp;have hx:x∈s.defects:=Ad;have e:P++cShape.many (D++[x])=P++cShape.many D++cShape.enc x:=by rw[many_app,many_one,Pq]
  have hbb:(P++cShape.many D).length+(cShape.enc x).length<=400000000:=by
   have o:cShape.many s.defects=cShape.many D++(cShape.enc x++cShape.many R):=G8;rw[o,OY,OY]at k;rw[OY];omega
  have b:=wShape_spec (P++cShape.many D) x (w x hx) hbb;rw[<-e]at b;clear c d f g i;repeat' ((conv=>whnf);first|omega|refine aF (l:=s.defects) (A:=D) (x:=x) (B:=R) hp Aa ?_|refine zc b ?_|refine zS ?_|refine zd (λhd=>?_) (λhd=>?_)|refine zl (λhlt=>?_) (λhlt=>?_)|refine zk (λhle=>?_) (λhle=>?_)|refine ze (λheq=>?_) (λheq=>?_)|refine zm (λx hx=>?_)|refine zb (λhbb=>?_) (λhbb=>?_))
  all_goals conv=>whnf
  refine⟨(D++[x],R),?_,Ad,Af⟩;exact L8
theorem bar_enc2(s:Bar):cBar.enc s=encLb s.id s.grade s.heat++encI s.length++encI s.defects.length++(cI.pair cI).many s.defects:=by
 have:cBar.enc s=encI s.id++((cText 16).enc s.grade++((cText 16).enc s.heat++(encI s.length++(encI s.defects.length++(cI.pair cI).many s.defects)))):=rfl;rw[this,cText_enc,cText_enc];unfold encLb encT;simp only[Pq]
def iv_pos(s:Iv):1<=((cI.pair cI).enc s).length:=by
 have:=encI_pos s.1;show 1<=(encI s.1++encI s.2).length;rw[OY];omega
def encBar_spec(s:Bar)(o:cBar.rng s)(a:(cBar.enc s).length<=100000000):Sp 28 [barV s] (.own 5 ((cBar.enc s).map byV)):=by
 refine zsp func28 ?_;obtain⟨_,r,⟨_,y,_⟩,⟨_,z,_⟩,t,C,i⟩:=o;have hll:(s.defects.map ivV).length=s.defects.length:=Af;have w:=many_len (cI.pair cI) iv_pos s.defects;rw[bar_enc2]at a⊢
 have k:(encLb s.id s.grade s.heat).length=(encI s.id).length+((encI s.grade.size).length+s.grade.size+((encI s.heat.size).length+s.heat.size)):=by
  exact OJ
 simp only[OY]at a;have c:=cS6 s;have d:=lbEnc_spec s.id s.grade s.heat r Aa Aa;have f:=wInt_spec (encLb s.id s.grade s.heat) s.length t Aa
 have g:Sp 30 [.own 5 ((encLb s.id s.grade s.heat++encI s.length).map byV),I (s.defects.map ivV).length] (.own 5 ((encLb s.id s.grade s.heat++encI s.length++encI s.defects.length).map byV)):=by
  exact OE
 have m:(encLb s.id s.grade s.heat++encI s.length++encI s.defects.length).length+((cI.pair cI).many s.defects).length<=100000000:=Bv;generalize encLb s.id s.grade s.heat++encI s.length++encI s.defects.length=P at*;generalize (encLb s.id s.grade s.heat++encI s.length).map byV=v at*;generalize (encLb s.id s.grade s.heat).map byV=u at*;clear k a;repeat' ((conv=>whnf);first|refine bW8 [(1,1),(10,1),(13,1)] [(12,[]),(16,[])] Ae Ak ?_|refine zc c ?_|refine zc d ?_|refine zh (xX f) [] ?_|refine zh (xX g) [] ?_|refine zS ?_|refine zd (λhd=>?_) (λhd=>?_)|refine zl (λhlt=>?_) (λhlt=>?_)|refine zk (λhle=>?_) (λhle=>?_)|refine ze (λheq=>?_) (λheq=>?_)|refine zm (λx hx=>?_)|refine zb (λhbb=>?_) (λhbb=>?_))
 all_goals conv=>whnf
 refine aU (A:=List Iv) (B:=List Iv) (λD R=>mkSt [(3, .arr 9 (2*D.length+2)),(18, .sl (s.defects.map ivV)),(19,I s.defects.length),(20,I D.length)] [] [(9,⟨2*D.length+2, .own,5,(P++(cI.pair cI).many D).map byV⟩)]) (λD R=>s.defects=D++R) (λD R=>R.length) [] s.defects ?_ rfl (λD R hp=>?_);have e:P++(cI.pair cI).many [] =P:=Pz _;rw[e,<-hll];exact zj;cases R with
 |nil=>
  have q:s.defects.length=D.length:=Ad;have e:P++(cI.pair cI).many s.defects=P++(cI.pair cI).many D:=C9;rw[e];exact Lh
 |cons x R=>
  have q:=aO hp;have hx:x∈s.defects:=Ad;have e:P++(cI.pair cI).many (D++[x])=P++(cI.pair cI).many D++encI x.1++encI x.2:=by rw[many_app,many_one,Pq,Pq];rfl
  have hbb:(P++(cI.pair cI).many D).length+((encI x.1).length+(encI x.2).length)<=400000000:=by
   have n:(cI.pair cI).many s.defects=(cI.pair cI).many D++((encI x.1++encI x.2)++(cI.pair cI).many R):=G8;rw[n,OY,OY,OY]at m;rw[OY];omega
  have j:=wInt_spec (P++(cI.pair cI).many D) x.1 (i x hx).1 Aa;have b:=wInt_spec (P++(cI.pair cI).many D++encI x.1) x.2 (i x hx).2 AA;rw[<-e]at b;generalize (P++(cI.pair cI).many D++encI x.1).map byV=Y at*;have e3:2*(D.length+1)+2=2*D.length+2+1+1:=Aa;clear c d f g;repeat' ((conv=>whnf);first|omega|refine bW8 [(5,5),(25,5),(28,5)] [(27,[]),(30,[])] Ae Ak ?_|refine aF (l:=s.defects) (A:=D) (x:=x) (B:=R) hp Aa ?_|refine zh (xX j) [] ?_|refine zh (xX b) [] ?_|refine zS ?_|refine zd (λhd=>?_) (λhd=>?_)|refine zl (λhlt=>?_) (λhlt=>?_)|refine zk (λhle=>?_) (λhle=>?_)|refine ze (λheq=>?_) (λheq=>?_)|refine zm (λx hx=>?_)|refine zb (λhbb=>?_) (λhbb=>?_))
  all_goals conv=>whnf
  refine⟨(D++[x],R),?_,Ad,Af⟩;exact Ny
end Go.Proofs.Led
