/- Lemmas. -/
import Derived.Test.YtcmgfjaiegpddaaGreatB19
set_option linter.all false
set_option maxRecDepth 100000
set_option maxHeartbeats 4000000
noncomputable section
namespace Go.Proofs.Led
open Go Go.Proofs Go.Ab Tryz
def chnF(b:List Int):Int:=if b.length<8 then 1 else numV (b.drop (b.length-8))
def chn_spec(b:List Int)(a:∀c∈b,isB c)(f:b.length<=100000000):Sp 77 [.sl (b.map byV)] (L64 (chnF b)):=by
 refine zsp func77 ?_;have i:(b.map byV).length=b.length:=Af;by_cases c:b.length<8;rw[show chnF b=1 by unfold chnF;rw[Pm c]];exact MB;rw[show chnF b=numV (b.drop (b.length-8)) by unfold chnF;rw[Ph c]];have g:=num_spec (b.drop (b.length-8)) (λz d=>a z (PU d)) CB
 have e:Sp 129 [.sl (List.drop (((b.map byV).length:Int)-8).toNat (List.take ((b.map byV).length:Int).toNat (b.map byV)))] (L64 (numV (b.drop (b.length-8)))):=by
  rw[show(((b.map byV).length:Int)-8).toNat=b.length-8 from Aa,show((b.map byV).length:Int).toNat=(b.map byV).length from Aa,Rn,<-List.map_drop];exact g
 generalize numV (b.drop (b.length-8))=z at*;clear g;repeat' ((conv=>whnf);first|omega|refine fU ⟨Aa,Aa,Aa, .inr (byV_cells b)⟩ ?_|refine zS ?_|refine zm (λx hx=>?_)|refine zT ?_ ?_<;>intro _|fail)
 all_goals exact zE
def notB{x:Int}(h:isB x):notI .u8 x=255-x:=by
 unfold isB at h;obtain⟨n,rfl⟩:∃n:Nat,x=n:=⟨x.toNat,Aa⟩;have b:n<256:=Aa;unfold notI Go.Ab.xorI;show IntKind.u8.wrap ((BitVec.ofInt 8 255^^^BitVec.ofInt 8 (n:Int)).toNat:Int)=_;rw[show BitVec.ofInt 8 255=BitVec.allOnes 8 from Ai,BitVec.allOnes_xor]
 have a:(~~~ (BitVec.ofInt 8 (n:Int))).toNat=255-n:=by
  rw[BitVec.toNat_not,BitVec.toNat_ofInt];have:((n:Int)% ((2^8:Nat):Int)).toNat=n:=Aa;rw[this]
 show IntKind.u8.wrap ((~~~ (BitVec.ofInt 8 (n:Int))).toNat:Int)=_;rw[a,byte_wrap];omega
def shr_drop{c:Int}(b:0<=c):∀ {i:Nat},i<=7->shrI .u64 c (8*(i:Int))=dropB i c:=by
 intro i hi;have a:i=0\/i=1\/i=2\/i=3\/i=4\/i=5\/i=6\/i=7:=Aa;unfold shrI;rw[Int.fdiv_eq_ediv_of_nonneg _ (Int.le_of_lt (Int.pow_pos Ai))];rcases a with rfl|rfl|rfl|rfl|rfl|rfl|rfl|rfl;show c/1=c;omega;show c/256=c/256;rfl;show c/65536=c/256/256;omega;show c/16777216=c/256/256/256;omega;show c/4294967296=c/256/256/256/256;omega;show c/1099511627776=c/256/256/256/256/256;omega;show c/281474976710656=c/256/256/256/256/256/256;omega;show c/72057594037927936=c/256/256/256/256/256/256/256;omega
def frH(n:Int):List Int:=[245,n/256,n% 256,255-n/256,255-n% 256]
def frB(c:Int)(r:List Int):List Int:=frH r.length++r++bytesN 8 (digF c r)
def wrap_u64(x:Int):0<=IntKind.u64.wrap x/\IntKind.u64.wrap x<18446744073709551616:=GX
def dig_rng:∀ {l:List Int} {h:Int},(0<=h/\h<18446744073709551616)->0<=digF h l/\digF h l<18446744073709551616
 | [],h,a=>a
 |c::l,h,_=>dig_rng (l:=l) (h:=digS h c) (by unfold digS Go.Ab.xorI;exact wrap_u64 _)
def frm_spec(c:Int)(l:List Int)(F:0<=c/\c<18446744073709551616)(E:∀z∈l,isB z)(K:l.length<=4000):Sp 76 [L64 c, .sl (l.map byV)] (.own 5 ((frB c l).map byV)):=by
 refine zsp func76 ?_;have r:(l.map byV).length=l.length:=Af;have g:=digF_spec c l E Aa;have hd:=dig_rng (l:=l) F;have C:(frB c l).map byV=(frH l.length++l++bytesN 8 (digF c l)).map byV:=rfl;rw[C];generalize digF c l=d at*
 have s:shrI .i64 (l.length:Int) 8=(l.length:Int)/256:=by
  unfold shrI;rw[Int.fdiv_eq_ediv_of_nonneg _ (Int.le_of_lt (Int.pow_pos Ai))];rfl
 have j:IntKind.u8.wrap (shrI .i64 (l.length:Int) 8)=(l.length:Int)/256:=by rw[s,byte_wrap];omega
 have m:IntKind.u8.wrap (l.length:Int)=(l.length:Int)% 256:=byte_wrap _;have n:notI .u8 ((l.length:Int)/256)=255- (l.length:Int)/256:=notB Gj;have o:notI .u8 ((l.length:Int)% 256)=255- (l.length:Int)% 256:=notB Gj;have e:=byV_cells l;rw[<-r]at j m n o;all_goals conv=>whnf
 refine eY7 ?_;repeat' ((conv=>whnf);first|omega|refine zU ?_|refine zd (λhd=>?_) (λhd=>?_)|refine zl (λhlt=>?_) (λhlt=>?_)|refine zk (λhle=>?_) (λhle=>?_)|refine ze (λheq=>?_) (λheq=>?_)|refine zm (λx hx=>?_)|refine zb (λhbb=>?_) (λhbb=>?_))
 all_goals conv=>whnf
 refine eY7 ?_;repeat' ((conv=>whnf);first|omega|refine zU ?_|refine zd (λhd=>?_) (λhd=>?_)|refine zl (λhlt=>?_) (λhlt=>?_)|refine zk (λhle=>?_) (λhle=>?_)|refine ze (λheq=>?_) (λheq=>?_)|refine zm (λx hx=>?_)|refine zb (λhbb=>?_) (λhbb=>?_))
 all_goals conv=>whnf
 refine dJ4 Unit (λ_=>mkSt [(0,L64 c),(1, .sl (l.map byV)),(6, .arr 22 0)] [] [(22,⟨0, .own,5,(frH l.length).map byV⟩)]) (λ_=>True) ?_ ?_
 ·repeat' ((conv=>whnf);first|refine fK j ?_|refine fK m ?_|refine zS ?_|refine zd (λhd=>?_) (λhd=>?_)|refine zl (λhlt=>?_) (λhlt=>?_)|refine zk (λhle=>?_) (λhle=>?_)|refine ze (λheq=>?_) (λheq=>?_)|refine zm (λx hx=>?_)|refine zb (λhbb=>?_) (λhbb=>?_))
  all_goals conv=>whnf
  refine⟨(),?_,trivial⟩;rw[n,o,r];exact zj
 intro _ _;have H:((frH l.length).map byV).length=5:=rfl;have y:(frH l.length).map byV++l.map byV=(frH l.length++l).map byV:=by rw[Qa]
 all_goals conv=>whnf
 refine eY7 ?_;repeat' ((conv=>whnf);first|omega|refine iH rfl (.inl rfl) rfl (OZ rfl) e (by show((frH l.length).map byV).length+(l.map byV).length<=1000000000;omega) ?_|refine zU ?_|refine zd (λhd=>?_) (λhd=>?_)|refine zl (λhlt=>?_) (λhlt=>?_)|refine zk (λhle=>?_) (λhle=>?_)|refine ze (λheq=>?_) (λheq=>?_)|refine zm (λx hx=>?_)|refine zb (λhbb=>?_) (λhbb=>?_))
 all_goals conv=>whnf
 refine eY7 ?_;repeat' ((conv=>whnf);first|omega|refine zU ?_|refine zd (λhd=>?_) (λhd=>?_)|refine zl (λhlt=>?_) (λhlt=>?_)|refine zk (λhle=>?_) (λhle=>?_)|refine ze (λheq=>?_) (λheq=>?_)|refine zm (λx hx=>?_)|refine zb (λhbb=>?_) (λhbb=>?_))
 repeat' ((conv=>whnf);first|omega|refine zS ?_|refine zd (λhd=>?_) (λhd=>?_)|refine zl (λhlt=>?_) (λhlt=>?_)|refine zk (λhle=>?_) (λhle=>?_)|refine ze (λheq=>?_) (λheq=>?_)|refine zm (λx hx=>?_)|refine zb (λhbb=>?_) (λhbb=>?_))
 all_goals conv=>whnf
 refine aU (A:=List Int) (B:=Nat) (λD k=>mkSt [(0,L64 d),(6, .arr 22 (D.length+1)),(7,I ((k:Int)-1))] [] [(22,⟨D.length+1, .own,5,(frH l.length++l++D).map byV⟩)]) (λD k=>bytesN 8 d=D++bytesN k d/\D.length+k=8) (λD k=>k) [] 8 ?_ ⟨rfl,rfl⟩ (λD k a=>?_);have t:(frH l.length++l++([] :List Int)).map byV=(frH l.length).map byV++l.map byV:=by rw[Pz,y]
 rw[t];exact zj;obtain⟨a,J⟩:=a;cases k with
 |zero=>
  have u:bytesN 8 d=D:=by rw[a];exact Pz D
  rw[u];exact Lh
 |succ k=>
  have f:=bytes_front k d;have es:=shr_drop hd.1 (i:=k) Aa
  have v:IntKind.u8.wrap (shrI .u64 d (8*(((k+1:Nat):Int)-1)))=dropB k d% 256:=by
   rw[show((k+1:Nat):Int)-1=k from Aa,es,byte_wrap]
  have G:((frH l.length++l++D).map byV).length<=5000:=by
   rw[P6,OY,OY];show 5+l.length+D.length<=5000;omega
  have w:(frH l.length++l++(D++[dropB k d% 256])).map byV=(frH l.length++l++D).map byV++[byV (dropB k d% 256)] :=Af;have q:(D++[dropB k d% 256]).length=D.length+1:=Af;repeat' ((conv=>whnf);first|omega|refine fK v ?_|refine iH rfl (.inl rfl) rfl (OZ rfl) (dA rfl) (by show((frH l.length++l++D).map byV).length+1<=1000000000;omega) ?_|refine zS ?_|refine zd (λhd=>?_) (λhd=>?_)|refine zl (λhlt=>?_) (λhlt=>?_)|refine zk (λhle=>?_) (λhle=>?_)|refine ze (λheq=>?_) (λheq=>?_)|refine zm (λx hx=>?_)|refine zb (λhbb=>?_) (λhbb=>?_))
  all_goals conv=>whnf
  refine⟨(D++[dropB k d% 256],k),?_,⟨by rw[a,f];simp,by rw[q];omega⟩,by show k<k+1;omega⟩;have b:((k+1:Nat):Int)-1-1=(k:Int)-1:=Aa;show Le T _ (mkSt [(0,L64 d),(6, .arr 22 ((D++[dropB k d% 256]).length+1)),(7,I ((k:Int)-1))] [] [(22,⟨(D++[dropB k d% 256]).length+1, .own,5,(frH l.length++l++(D++[dropB k d% 256])).map byV⟩)]);rw[w,q,<-b];exact zj
theorem frm_len{c:Int}{l:List Int}:(frB c l).length=l.length+13:=by
 unfold frB;rw[OY,OY,bytesN_len];show 5+l.length+8=_;omega
def frm_isB{c:Int}{l:List Int}(d:l.length<=4000)(b:∀z∈l,isB z):∀z∈frB c l,isB z:=by
 intro z a;unfold frB at a;rcases Pv.1 a with a|a;rcases Pv.1 a with a|a;unfold frH at a;simp only[P5,List.not_mem_nil,or_false]at a;unfold isB;omega;exact b z a;exact bytesN_isB _ _ z a
def chn_rng{b:List Int}(a:∀c∈b,isB c):0<=chnF b/\chnF b<18446744073709551616:=by
 unfold chnF;split;omega;have:=numV_nn (k:=8) (l:=b.drop (b.length-8)) CB (λz d=>a z (PU d));have e:(256:Int)^8=18446744073709551616:=Ai;rw[e]at this;exact this
def wapp_spec(b l:List Int)(n:Int)(m:∀z∈b,isB z)(t:∀z∈l,isB z)(u:b.length<=10000000)(j:l.length<=4000):Sp 17 [.agg [.sl (b.map byV),I n], .sl (l.map byV)] (.tup [.agg [.sl ((b++frB (chnF b) l).map byV),I n],I 0]):=by
 refine zsp func17 ?_;have A:(l.map byV).length=l.length:=Af;have g:(b.map byV).length=b.length:=Af;have k:=chn_spec b m Aa;have q:(T.row (T.row 37).elem).bytes=1:=Ac;have v:=frm_spec (chnF b) l (chn_rng m) t j;have w:((frB (chnF b) l).map byV).length=l.length+13:=by rw[P6,frm_len]
 have r:=byV_cells (frB (chnF b) l)
 have a:List.drop (0:Int).toNat (List.take ((b.map byV).length:Int).toNat (b.map byV))=b.map byV:=by
  rw[show((b.map byV).length:Int).toNat=(b.map byV).length from Aa,Rn];rfl
 have e:(b++frB (chnF b) l).map byV=List.drop (0:Int).toNat (List.take ((b.map byV).length:Int).toNat (b.map byV))++(frB (chnF b) l).map byV:=by rw[a];exact Qa
 have i:∀y∈List.drop (0:Int).toNat (List.take ((b.map byV).length:Int).toNat (b.map byV)),y.cells.length=1:=by rw[a];exact byV_cells b
 have d:(List.drop (0:Int).toNat (List.take ((b.map byV).length:Int).toNat (b.map byV))).length=b.length:=by rw[a];exact g
 have f:Sp 77 [.sl (List.drop (0:Int).toNat (List.take ((b.map byV).length:Int).toNat (b.map byV)))] (L64 (chnF b)):=by rw[a];exact k
 rw[e];clear a e k;generalize (frB (chnF b) l).map byV=F at*;generalize chnF b=c at*;generalize b.map byV=B at*;generalize l.map byV=L at*;repeat' ((conv=>whnf);first|omega|refine zc (f) ?_|refine fU ⟨Aa,Aa,Aa,Aa, .inl rfl⟩ ?_|refine fU ⟨by rw[q,RJ];show _+F.length<=_;rw[d];omega,by show _+F.length<=_;rw[d];omega,λx o=>(Pv.1 o).elim (i x) (r x)⟩ ?_|refine zS ?_|refine zm (λx o=>?_)|refine zT ?_ ?_<;>intro _|fail)
 all_goals conv=>whnf
 have s:∀l:List V,capK l≠AK.dead:=λl=>by cases l<;>exact λh=>by cases h
 refine⟨_,rfl,?_⟩;repeat' (first|exact trivial|refine And.intro ?_ ?_|with_reducible rfl|exact s _|exact(λh=>Ag)|exact rfl)
def wcrash_spec(b:List Int)(k:Nat)(e:b.length<=10000000)(f:k<=1000000):Sp 19 [.agg [.sl (b.map byV),I 0],I k] (.own 5 ((b.take k).map byV)):=by
 refine zsp func19 ?_;have a:(b.map byV).length=b.length:=Af;have d:=byV_cells b
 have c:W (0+minI (maxI (k:Int) 0) (((b.map byV).length:Int)-0))=((min k b.length:Nat):Int):=by
  rw[a,show maxI (k:Int) 0=k by unfold maxI;rw[Ph (by omega)]];unfold minI;split;rw[w_in Aa];omega;rw[w_in Aa];omega
 have g:Sp 79 [.sl (List.drop (0:Int).toNat (List.take (W (0+minI (maxI (k:Int) 0) (((b.map byV).length:Int)-0))).toNat (b.map byV)))] (.own 5 ((b.take k).map byV)):=by
  rw[c,show List.drop (0:Int).toNat (List.take ((min k b.length:Nat):Int).toNat (b.map byV))=(b.take k).map byV by
   rw[Qc,SB,<-a,<-List.take_eq_take_min];rfl]
  exact cloneY_spec _ Bd
 generalize (b.take k).map byV=Z at*;exact MV
def filF(c:Int):List (List Int)->List Int
 | [] => []
 |r::l=>frB c r++filF (digF c r) l
theorem filF_cons(c:Int)(r:List Int)(l:List (List Int)):filF c (r::l)=frB c r++filF (digF c r) l:=rfl
def chnL(c:Int)(l:List (List Int)):Int:=l.foldl digF c
theorem filF_app:∀(c:Int) (l m:List (List Int)),filF c (l++m)=filF c l++filF (chnL c l) m
 |c,[],m=>rfl
 |c,r::l,m=>by
  show frB c r++filF (digF c r) (l++m)=frB c r++filF (digF c r) l++filF (chnL (digF c r) l) m;rw[filF_app,Pq]
structure RecOk(r:List Int):Prop where
 b:∀z∈r,isB z
 l:r.length<=4000
def chnL_rng:∀ {l:List (List Int)} {c:Int},(0<=c/\c<18446744073709551616)->0<=chnL c l/\chnL c l<18446744073709551616
 | [],c,h=>h
 |r::l,c,h=>chnL_rng (l:=l) (dig_rng h)
theorem chnL_snoc(c:Int)(l:List (List Int))(r:List Int):chnL c (l++[r])=digF (chnL c l) r:=by unfold chnL;rw[QN];rfl
def fil_isB:∀ {l:List (List Int)} {c:Int},(∀r∈l,RecOk r)->∀z∈filF c l,isB z
 | [],c,h,z,a=>by cases a
 |r::l,c,h,z,a=>by
  rcases Pv.1 a with a|a;exact frm_isB (h r Af).l (h r Af).b z a;exact fil_isB (l:=l) (λq d=>h q (by simp[d])) z a
def chn_fil:∀ {l:List (List Int)} {c:Int},(0<=c/\c<18446744073709551616)->l≠ []->chnF (filF c l)=chnL c l:=by
 intro l c b a;obtain⟨m,r,rfl⟩:∃m r,l=m++[r] :=⟨l.dropLast,l.getLast a,(List.dropLast_concat_getLast a).symm⟩;rw[filF_app,chnL_snoc]
 have e:filF c m++filF (chnL c m) [r] =(filF c m++(frH r.length++r))++bytesN 8 (digF (chnL c m) r):=by
  show filF c m++(frH r.length++r++bytesN 8 (digF (chnL c m) r)++[])=_;simp[Pq]
 rw[e];have f:(bytesN 8 (digF (chnL c m) r)).length=8:=bytesN_len _ _;unfold chnF;rw[Ph AA];rw[show((filF c m++(frH r.length++r))++bytesN 8 (digF (chnL c m) r)).length-8=(filF c m++(frH r.length++r)).length from AA,List.drop_left];have d:=dig_rng (l:=r) (chnL_rng (l:=m) b)
 exact numV_bytes 8 d.1 (by have:(256:Int)^8=18446744073709551616:=(by decide);omega)
def fitF:Nat->List (List Int)->List (List Int)
 |_,[] => []
 |k,r::l=>if r.length+13<=k then r::fitF (k- (r.length+13)) l else []
def itmF(a:Nat):List (List Int)->List (List V)
 | [] => []
 |r::l=> [I ((a+(r.length+13):Nat):Int), .sl (r.map byV)] ::itmF (a+(r.length+13)) l
def itm_at:∀ {D:List (List Int)} {a:Nat} {c:Int} {r:List Int} {R:List (List Int)},(itmF a (D++r::R))[D.length]? =some [I ((a+(filF c D).length+(r.length+13):Nat):Int), .sl (r.map byV)]
 | [],a,c,r,R=>rfl
 |d::D,a,c,r,R=>by
  have b:=itm_at (D:=D) (a:=a+(d.length+13)) (c:=digF c d) (r:=r) (R:=R);show(itmF (a+(d.length+13)) (D++r::R))[D.length]? =_;rw[b,filF_cons,OY,frm_len];congr 5;omega
theorem itm_len:∀(l:List (List Int)) (a:Nat),(itmF a l).length=l.length
 | [],_=>rfl
 |r::l,a=>by show(itmF _ l).length+1=_;rw[itm_len l];rfl
def fit_len:∀(l:List (List Int)) (k:Nat),(fitF k l).length<=l.length
 | [],_=>Po _
 |r::l,k=>by
  unfold fitF;split;have:=fit_len l (k- (r.length+13));show _+1<=_+1;omega;exact P8 _
def cut_at{b X Y:List Int}{k:Nat}(h:b.drop k=X++Y):List.drop k (List.take (k+X.length) (b.map byV))=X.map byV:=by
 rw[Rz,<-List.map_drop,h,show k+X.length-k=X.length from Aa,Qa];rw[show X.length=(X.map byV).length from Af,SK]
def pure2(n:Int)(r:List Int):bM [I n, .sl (r.map byV)] :=by
 refine aH.2 (λy a=>?_);simp only[P5,List.not_mem_nil,or_false]at a;rcases a with rfl|rfl;simp only[I,V.ok];simp only[V.ok];exact aH.2 (λz b=>by obtain⟨v,_,rfl⟩:=PI.1 b;simp only[byV,V.ok])
def frames_vc{l:List (List Int)}{b:List Int}{K:Nat}(hl:∀r∈l,RecOk r)(M:b=(filF 1 l).take K)(N:b.length<=10000000):itVC T Tryz.prog Tryz.f171 [.fp [.sl (b.map byV)]] (itmF 0 (fitF K l)):=by
 intro U;have ab:(b.map byV).length=b.length:=Af;have s:=byV_cells b;repeat' ((conv=>whnf);first|refine cD0 ?_|refine zS ?_|refine zd (λi=>?_) (λi=>?_)|refine zl (λg=>?_) (λg=>?_)|refine zk (λf=>?_) (λf=>?_)|refine ze (λe=>?_) (λe=>?_)|refine zm (λx k=>?_)|refine zb (λd=>?_) (λd=>?_))
 refine eE1 (A:=List (List Int)) (B:=List (List Int)) (λD R=>mkSt [(0, .lit (.func (.yield U) ⟨[]⟩ ⟨[]⟩)),(1, .fp [.sl (b.map byV)]),(3,I (filF 1 D).length),(4,L64 (chnL 1 D))] [] []) (λD R=>some D.length) (λD R=>l=D++R/\fitF K l=D++fitF (K- (filF 1 D).length) R/\(filF 1 D).length<=K) (λD R=>R.length) [] l ?_ ⟨rfl,rfl,P8 _⟩ rfl (λD R hp=>?_);show Le T _ (mkSt [(0, .lit (.func (.yield U) ⟨[]⟩ ⟨[]⟩)),(1, .fp [.sl (b.map byV)]),(3,I 0),(4,L64 1)] [] []);exact zj;obtain⟨hp,o,aa⟩:=hp;have hc:=chnL_rng (l:=D) (c:=1) ⟨Ai,Ai⟩;have n:filF 1 l=filF 1 D++filF (chnL 1 D) R:=by rw[hp,filF_app]
 have C:b.length=min K (filF 1 l).length:=by rw[M,PG]
 have m:b.drop (filF 1 D).length=(filF (chnL 1 D) R).take (K- (filF 1 D).length):=by
  rw[M,Rz,n,List.drop_left]
 have ad:(filF 1 l).length=(filF 1 D).length+(filF (chnL 1 D) R).length:=by rw[n,OY]
 have E:=λr V=>itm_at (D:=D) (a:=0) (c:=1) (r:=r) (R:=V);generalize hA:(filF 1 D).length=at0 at*;generalize L:chnL 1 D=c at*;cases R with
 |nil=>
  have j:(itmF 0 (fitF K l)).length=D.length:=by rw[itm_len,o];show(D++[]).length=_;simp
  have h0:(filF c []).length=0:=rfl;repeat' ((conv=>whnf);first|omega|refine cD0 ?_|refine zS ?_|refine zd (λi=>?_) (λi=>?_)|refine zl (λg=>?_) (λg=>?_)|refine zk (λf=>?_) (λf=>?_)|refine ze (λe=>?_) (λe=>?_)|refine zm (λx k=>?_)|refine zb (λd=>?_) (λd=>?_))
  all_goals conv=>whnf
  all_goals exact j.symm
 |cons r R=>
  obtain⟨F,ae⟩:=hl r Ad;have ac:(filF c (r::R)).length=(r.length+13)+(filF (digF c r) R).length:=by rw[filF_cons,OY,frm_len]
  have H:5<=K-at0->∃Y,b.drop at0=frH r.length++Y:=λJ=>by
   refine⟨(r++bytesN 8 (digF c r)++filF (digF c r) R).take (K-at0-5),?_⟩;rw[m,filF_cons];unfold frB;rw[Pq,Pq,S9,Q8 (by show 5<=_;exact J),<-Pq];rfl
  have O:IntKind.i64.wrap ((r.length:Int)/256)=(r.length:Int)/256:=w_in Aa;have P:IntKind.i64.wrap ((r.length:Int)% 256)=(r.length:Int)% 256:=w_in Aa
  have Q:IntKind.i64.wrap (shlI .i64 ((r.length:Int)/256) 8)=(r.length:Int)/256*256:=by
   have:shlI .i64 ((r.length:Int)/256) 8=(r.length:Int)/256*256:=by unfold shlI;rfl
   rw[this];exact w_in Aa
  have S:Go.Ab.orI .i64 ((r.length:Int)/256*256) ((r.length:Int)% 256)=r.length:=by
   rw[orI_byte Fe Aa Aa];omega
  have n1:notI .u8 ((r.length:Int)/256)=255- (r.length:Int)/256:=notB Gj;have n2:notI .u8 ((r.length:Int)% 256)=255- (r.length:Int)% 256:=notB Gj;by_cases G:r.length+13<=K-at0;rotate_left
  ·have j:(itmF 0 (fitF K l)).length=D.length:=by
    rw[itm_len,o];unfold fitF;rw[Ph G];simp
   by_cases J:K-at0<5
   ·repeat' ((conv=>whnf);first|omega|refine cD0 ?_|refine zS ?_|refine zd (λi=>?_) (λi=>?_)|refine zl (λg=>?_) (λg=>?_)|refine zk (λf=>?_) (λf=>?_)|refine ze (λe=>?_) (λe=>?_)|refine zm (λx k=>?_)|refine zb (λd=>?_) (λd=>?_))
    all_goals conv=>whnf
    all_goals exact j.symm
   obtain⟨Y,hY⟩:=H Aa;have t:List.drop (at0:Int).toNat (List.take ((at0:Int)+5).toNat (b.map byV))=(frH r.length).map byV:=Kr;all_goals conv=>whnf
   refine cD0 ?_;all_goals conv=>whnf
   refine cD0 ?_;repeat' ((conv=>whnf);first|omega|refine zS ?_|refine zd (λi=>?_) (λi=>?_)|refine zl (λg=>?_) (λg=>?_)|refine zk (λf=>?_) (λf=>?_)|refine ze (λe=>?_) (λe=>?_)|refine zm (λx k=>?_)|refine zb (λd=>?_) (λd=>?_))
   all_goals conv=>whnf
   refine cD0 ?_;repeat' ((conv=>whnf);first|refine fU ⟨Aa,Aa,Aa, .inr s⟩ ?_|refine zS ?_|refine zd (λi=>?_) (λi=>?_)|refine zl (λg=>?_) (λg=>?_)|refine zk (λf=>?_) (λf=>?_)|refine ze (λe=>?_) (λe=>?_)|refine zm (λx k=>?_)|refine zb (λd=>?_) (λd=>?_))
   all_goals conv=>whnf
   rw[t,show(frH r.length).map byV=[byV 245,byV ((r.length:Int)/256),byV ((r.length:Int)% 256),byV (255- (r.length:Int)/256),byV (255- (r.length:Int)% 256)]from rfl];refine cD0 ?_;repeat' ((conv=>whnf);first|omega|refine fU ⟨Ai,Dv⟩ ?_|refine dE3 _ rfl ?_|refine fK O ?_|refine fK P ?_|refine fK Q ?_|refine zS ?_|refine zd (λi=>?_) (λi=>?_)|refine zl (λg=>?_) (λg=>?_)|refine zk (λf=>?_) (λf=>?_)|refine ze (λe=>?_) (λe=>?_)|refine zm (λx k=>?_)|refine zb (λd=>?_) (λd=>?_))
   all_goals conv=>whnf
   rw[S];refine cD0 ?_;all_goals conv=>whnf
   refine cD0 ?_;repeat' ((conv=>whnf);first|omega|refine fU ⟨Ai,Dv⟩ ?_|refine dE3 _ rfl ?_|refine zS ?_|refine zd (λi=>?_) (λi=>?_)|refine zl (λg=>?_) (λg=>?_)|refine zk (λf=>?_) (λf=>?_)|refine ze (λe=>?_) (λe=>?_)|refine zm (λx k=>?_)|refine zb (λd=>?_) (λd=>?_))
   all_goals conv=>whnf
   all_goals exact j.symm
  obtain⟨Y,hY⟩:=H Aa;have t:List.drop (at0:Int).toNat (List.take ((at0:Int)+5).toNat (b.map byV))=(frH r.length).map byV:=Kr;all_goals conv=>whnf
  refine cD0 ?_;all_goals conv=>whnf
  refine cD0 ?_;repeat' ((conv=>whnf);first|omega|refine zS ?_|refine zd (λi=>?_) (λi=>?_)|refine zl (λg=>?_) (λg=>?_)|refine zk (λf=>?_) (λf=>?_)|refine ze (λe=>?_) (λe=>?_)|refine zm (λx k=>?_)|refine zb (λd=>?_) (λd=>?_))
  all_goals conv=>whnf
  refine cD0 ?_;repeat' ((conv=>whnf);first|refine fU ⟨Aa,Aa,Aa, .inr s⟩ ?_|refine zS ?_|refine zd (λi=>?_) (λi=>?_)|refine zl (λg=>?_) (λg=>?_)|refine zk (λf=>?_) (λf=>?_)|refine ze (λe=>?_) (λe=>?_)|refine zm (λx k=>?_)|refine zb (λd=>?_) (λd=>?_))
  all_goals conv=>whnf
  rw[t,show(frH r.length).map byV=[byV 245,byV ((r.length:Int)/256),byV ((r.length:Int)% 256),byV (255- (r.length:Int)/256),byV (255- (r.length:Int)% 256)]from rfl];refine cD0 ?_;repeat' ((conv=>whnf);first|omega|refine fU ⟨Ai,Dv⟩ ?_|refine dE3 _ rfl ?_|refine fK O ?_|refine fK P ?_|refine fK Q ?_|refine zS ?_|refine zd (λi=>?_) (λi=>?_)|refine zl (λg=>?_) (λg=>?_)|refine zk (λf=>?_) (λf=>?_)|refine ze (λe=>?_) (λe=>?_)|refine zm (λx k=>?_)|refine zb (λd=>?_) (λd=>?_))
  all_goals conv=>whnf
  rw[S];refine cD0 ?_;all_goals conv=>whnf
  refine cD0 ?_;repeat' ((conv=>whnf);first|omega|refine fU ⟨Ai,Dv⟩ ?_|refine dE3 _ rfl ?_|refine zS ?_|refine zd (λi=>?_) (λi=>?_)|refine zl (λg=>?_) (λg=>?_)|refine zk (λf=>?_) (λf=>?_)|refine ze (λe=>?_) (λe=>?_)|refine zm (λx k=>?_)|refine zb (λd=>?_) (λd=>?_))
  all_goals conv=>whnf
  obtain⟨Z,hZ⟩:∃Z,b.drop at0=frH r.length++(r++(bytesN 8 (digF c r)++Z)):=by
   refine⟨(filF (digF c r) R).take (K-at0- (r.length+13)),?_⟩;rw[m,filF_cons,S9,Q8 (by rw[frm_len];exact G),frm_len];unfold frB;rw[Pq,Pq]
  have v:b.drop (at0+5)=r++(bytesN 8 (digF c r)++Z):=by
   rw[<-List.drop_drop,hZ];rfl
  have z:b.drop (at0+5+r.length)=bytesN 8 (digF c r)++Z:=by
   rw[<-List.drop_drop,v,List.drop_left]
  have w:List.drop ((at0:Int)+5).toNat (List.take ((at0:Int)+5+(r.length:Int)).toNat (b.map byV))=r.map byV:=by
   rw[show((at0:Int)+5).toNat=at0+5 from Aa,show((at0:Int)+5+(r.length:Int)).toNat=at0+5+r.length from Aa];exact cut_at (X:=r) v
  have y:List.drop ((at0:Int)+(5+(r.length:Int)+8)-8).toNat (List.take ((at0:Int)+(5+(r.length:Int)+8)).toNat (b.map byV))=(bytesN 8 (digF c r)).map byV:=by
   rw[show((at0:Int)+(5+(r.length:Int)+8)-8).toNat=at0+5+r.length from Aa,show((at0:Int)+(5+(r.length:Int)+8)).toNat=at0+5+r.length+8 from Aa];have:=cut_at (X:=bytesN 8 (digF c r)) z;rw[bytesN_len]at this;exact this
  have i:=dig_rng (l:=r) hc;have g1:=digF_spec c r F Aa;have g2:=num_spec (bytesN 8 (digF c r)) (bytesN_isB _ _) (by rw[bytesN_len];omega)
  rw[numV_bytes 8 i.1 (by have:(256:Int)^8=18446744073709551616:=(by decide);omega),<-y]at g2
  have q:fitF K l=D++r::fitF (K-at0- (r.length+13)) R:=by
   rw[o];congr 1;show(if r.length+13<=K-at0 then _ else _)=_;rw[Pm G]
  have hy:(itmF 0 (fitF K l))[D.length]? =some [I ((at0:Int)+(5+(r.length:Int)+8)), .sl (r.map byV)] :=by
   have hq:((0+at0+(r.length+13):Nat):Int)=(at0:Int)+(5+(r.length:Int)+8):=Aa;rw[q,E r,hq]
  have W:((filF 1 (D++[r])).length:Int)=(at0:Int)+(5+(r.length:Int)+8):=by
   rw[filF_app,OY,hA,L];show((at0+(frB c r++[]).length:Nat):Int)=_;rw[Pz,frm_len];omega
  have u:(filF 1 (D++[r])).length=at0+(r.length+13):=Aa;have e2:chnL 1 (D++[r])=digF c r:=by rw[chnL_snoc,L]
  have e3:(D++[r]).length=D.length+1:=Af;refine cD0 ?_;repeat' ((conv=>whnf);first|refine fU ⟨Aa,Aa,Aa, .inr s⟩ ?_|refine zS ?_|refine zd (λi=>?_) (λi=>?_)|refine zl (λg=>?_) (λg=>?_)|refine zk (λf=>?_) (λf=>?_)|refine ze (λe=>?_) (λe=>?_)|refine zm (λx k=>?_)|refine zb (λd=>?_) (λd=>?_))
  all_goals conv=>whnf
  rw[w];refine cD0 ?_;repeat' ((conv=>whnf);first|omega|refine zS ?_|refine zd (λi=>?_) (λi=>?_)|refine zl (λg=>?_) (λg=>?_)|refine zk (λf=>?_) (λf=>?_)|refine ze (λe=>?_) (λe=>?_)|refine zm (λx k=>?_)|refine zb (λd=>?_) (λd=>?_))
  all_goals conv=>whnf
  refine cD0 ?_;repeat' ((conv=>whnf);first|refine zS ?_|refine zd (λi=>?_) (λi=>?_)|refine zl (λg=>?_) (λg=>?_)|refine zk (λf=>?_) (λf=>?_)|refine ze (λe=>?_) (λe=>?_)|refine zm (λx k=>?_)|refine zb (λd=>?_) (λd=>?_))
  all_goals conv=>whnf
  refine cD0 ?_;repeat' ((conv=>whnf);first|omega|refine fU ⟨Aa,Aa,Aa, .inr s⟩ ?_|refine dE2 hy (pure2 _ _) ?_ ?_|refine zS ?_|refine zd (λi=>?_) (λi=>?_)|refine zl (λg=>?_) (λg=>?_)|refine zk (λf=>?_) (λf=>?_)|refine ze (λe=>?_) (λe=>?_)|refine zm (λx k=>?_)|refine zb (λd=>?_) (λd=>?_))
  all_goals conv=>whnf
  all_goals first
   |exact trivial
   |skip
  refine⟨(D++[r],R),?_,⟨Ad,?_,by show(filF 1 (D++[r])).length<=K;rw[u];omega⟩,Af,Af⟩;simp only[W,e2];exact Na;show fitF K l=(D++[r])++fitF (K- (filF 1 (D++[r])).length) R;rw[q,Pq,u,show K- (at0+(r.length+13))=K-at0- (r.length+13) from Aa];rfl
def frames_spec{l:List (List Int)}{b:List Int}{K:Nat}(d:∀r∈l,RecOk r)(c:b=(filF 1 l).take K)(a:b.length<=10000000):aB0 T Tryz.prog 171 [.fp [.sl (b.map byV)]] (itmF 0 (fitF K l)):=
 dZ5 uG mixed func171 Ac (QA Ac) Ac (frames_vc d c a)
def framesF_spec(b:List Int):Sp 130 [.sl (b.map byV)] (.fn 171 [.fp [.sl (b.map byV)]]):=by
 refine zsp func130 ?_;repeat' ((conv=>whnf);first|refine zS ?_|refine zm (λx a=>?_)|refine zT ?_ ?_<;>intro _|fail)
 all_goals conv=>whnf
 exact Nh
def rcV(r:List Int):V:= .sl (r.map byV)
def rdLSt(b:List Int):List (List Int)->St
 | [] =>mkSt [(0, .sl (b.map byV)),(2, .box 2 0),(3, .box 3 0),(7, .fn 171 [.fp [.sl (b.map byV)]])] [(2,[.lit (.slice none 0 0)]),(3,[I 0])] []
 |d::D=>mkSt [(0, .sl (b.map byV)),(2, .box 2 0),(3, .box 3 0),(7, .fn 171 [.fp [.sl (b.map byV)]])] [(2,[.arr 15 D.length]),(3,[I (filF 1 (d::D)).length])] [(15,⟨D.length, .own,37,(d::D).map rcV⟩)]
def itm_k{D R:List (List Int)}{d:List V}{a:Nat}(h:(itmF a (D++R))[D.length]? =some d):∃r b,R=r::b/\d=[I ((a+(filF 1 D).length+(r.length+13):Nat):Int),rcV r] :=by
 cases R with
 |nil=>
  have:(itmF a (D++[])).length=D.length:=by rw[itm_len];simp
  rw[Qj Aa]at h;cases h
 |cons r b=>
  rw[itm_at (c:=1)]at h;cases h;exact⟨r,b,rfl,rfl⟩
def itm_two:∀(l:List (List Int)) (a:Nat),∀b∈itmF a l,b.length=2
 | [],a,b,h=>Ag
 |r::l,a,b,h=>by
  rcases P5.1 h with rfl|h;rfl;exact itm_two l _ b h
def fil_len_le:∀(l:List (List Int)) (c:Int),(∀r∈l,RecOk r)->(filF c l).length<=4013*l.length
 | [],_,_=>P8 _
 |r::l,c,h=>by
  have b:=fil_len_le l (digF c r) (λq a=>h q (by simp[a]));have:=(h r Af).l;rw[filF_cons,OY,frm_len,PE];omega
def wread_spec(l:List (List Int))(b:List Int)(K:Nat)(hl:∀r∈l,RecOk r)(hb:b=(filF 1 l).take K)(N:l.length<=1000):Sp 78 [.sl (b.map byV)] (.tup [.sl ((fitF K l).map rcV),I (filF 1 (fitF K l)).length]):=by
 refine zsp func78 ?_
 have c:b.length<=10000000:=by
  exact OT
 have g:=framesF_spec b;have G:=frames_spec hl hb c;have u:=fit_len l K
 have f:∀r∈fitF K l,RecOk r:=by
  have gen:∀(l:List (List Int)) (k:Nat),∀r∈fitF k l,r∈l:=by
   intro l;induction l with
   |nil=>intro k r h;exact h
   |cons x l H=>
    intro k r h;unfold fitF at h;split at h;rcases P5.1 h with rfl|h;simp;have:=H _ r h;simp[this];cases h
  exact λr y=>hl r (gen l K r y)
 generalize M:fitF K l=F at*;repeat' ((conv=>whnf);first|omega|refine zS ?_|refine zm (λx hx=>?_)|refine zT ?_ ?_<;>intro _|fail)
 refine aM3 (itmF 0 F) G (itm_two F 0) (A:=List (List Int)) (B:=List (List Int)) (λD R=>rdLSt b D) (λk D R=>F=D++R/\D.length=k) [] F ?_ ⟨rfl,rfl⟩ rfl ?_ ?_;show Le T _ (mkSt _ _ _);exact zj
 ·rintro k D R O ⟨hp,i⟩ a
  subst i;rw[hp]at a;obtain⟨r,j,rfl,rfl⟩:=itm_k a;obtain⟨C,z⟩:=f r Ad;have w:F.length=D.length+(j.length+1):=Ad;have E:(r.map byV).length=r.length:=Af;have e:=byV_cells r;have J:(T.row (T.row 37).elem).bytes=1:=Ac
  have n:((0+(filF 1 D).length+(r.length+13):Nat):Int)=((filF 1 (D++[r])).length:Int):=by
   rw[filF_app,OY];show _=(((filF 1 D).length+(frB (chnL 1 D) r++[]).length:Nat):Int);rw[Pz,frm_len];omega
  rw[n];cases D with
  |nil=>
   all_goals conv=>whnf
   repeat' ((conv=>whnf);first|omega|refine draw_t ?_|refine both_i ?_ ?_|refine iH rfl (.inl rfl) rfl (OZ rfl) e EN ?_|refine bB4 (aZ8 11 rfl (.inl rfl)) ?_|refine gX (OZ rfl) (dA rfl) AX ?_|refine zS ?_|refine zm (λx hx=>?_)|refine zT ?_ ?_<;>intro _|fail)
   all_goals conv=>whnf
   all_goals
    refine⟨([r],j),?_,hp,rfl⟩;show Le T _ (mkSt [(0, .sl (b.map byV)),(2, .box 2 0),(3, .box 3 0),(7, .fn 171 [.fp [.sl (b.map byV)]])] [(2,[.arr 15 0]),(3,[I (filF 1 ([] ++[r])).length])] [(15,⟨0, .own,37,[rcV r]⟩)]);exact zj
  |cons d D=>
   have v:((d::D).map rcV).length=D.length+1:=Af;have m:(d::D).length=D.length+1:=rfl;have o:(d::(D++[r])).map rcV=(d::D).map rcV++[rcV r] :=Af;have q:(D++[r]).length=D.length+1:=Af;all_goals conv=>whnf
   repeat' ((conv=>whnf);first|omega|refine draw_t ?_|refine both_i ?_ ?_|refine iH rfl (.inl rfl) rfl (OZ rfl) e EN ?_|refine bB4 (aZ8 11 rfl (.inl rfl)) ?_|refine iH rfl (.inl rfl) rfl (OZ rfl) (dA rfl) (by show((d::D).map rcV).length+1<=1000000000;omega) ?_|refine zS ?_|refine zm (λx hx=>?_)|refine zT ?_ ?_<;>intro _|fail)
   all_goals conv=>whnf
   all_goals
    refine⟨(d::(D++[r]),j),?_,Ad,Af⟩;show Le T _ (mkSt [(0, .sl (b.map byV)),(2, .box 2 0),(3, .box 3 0),(7, .fn 171 [.fp [.sl (b.map byV)]])] [(2,[.arr 15 (D++[r]).length]),(3,[I (filF 1 (d::D++[r])).length])] [(15,⟨(D++[r]).length, .own,37,(d::(D++[r])).map rcV⟩)]);rw[o,q];exact zj
 rintro D R ⟨hp,i⟩;rw[itm_len]at i
 have t:R=[] :=by
  have L:F.length=D.length+R.length:=Ad;exact PV.1 Aa
 subst t;have s:F=D:=Ad;rw[s];clear hp i;cases D with
 |nil=>exact Jo
 |cons d D=>exact Jo
def fit_le:∀(l:List (List Int)) (k:Nat) (c:Int),(filF c (fitF k l)).length<=k/\(filF c (fitF k l)).length<=(filF c l).length
 | [],k,c=>⟨P8 _,Po _⟩
 |r::l,k,c=>by
  unfold fitF;split;have a:=fit_le l (k- (r.length+13)) (digF c r);rw[filF_cons,filF_cons,OY,OY,frm_len];omega;exact⟨P8 _,P8 _⟩
def wopen_spec(l:List (List Int))(b:List Int)(K:Nat)(hl:∀r∈l,RecOk r)(hb:b=(filF 1 l).take K)(d:l.length<=1000):Sp 18 [.sl (b.map byV)] (.tup [.agg [.sl ((b.take (filF 1 (fitF K l)).length).map byV),I (filF 1 (fitF K l)).length], .sl ((fitF K l).map rcV),I ((b.length:Int)- (filF 1 (fitF K l)).length)]):=by
 refine zsp func18 ?_
 have c:b.length<=10000000:=by
  exact OT
 have g:=wread_spec l b K hl hb d;have i:=fit_le l K 1;have e:(filF 1 (fitF K l)).length<=b.length:=by rw[hb,PG];omega
 generalize (filF 1 (fitF K l)).length=u at*;generalize fitF K l=F at*;have a:(b.map byV).length=b.length:=Af
 have f:Sp 79 [.sl (List.drop (0:Int).toNat (List.take (u:Int).toNat (b.map byV)))] (.own 5 ((b.take u).map byV)):=by
  rw[Qc,show List.drop (0:Int).toNat (List.take u (b.map byV))=(b.take u).map byV by rw[SB];rfl];exact cloneY_spec _ Bd
 rw[<-a];generalize (b.take u).map byV=Z at*;generalize b.map byV=B at*;exact MV
end Go.Proofs.Led
