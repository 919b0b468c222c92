/- A part of the proof: CvC, CvD. -/
import Derived.Test.YtboocdbmnfjomaaGreatV40
import Derived.Test.YtboocdbmnfjomaaGreatV39
set_option linter.all false
namespace Go.Proofs.YtboocdbmnfjomaaGreat
open Go
set_option maxRecDepth 100000
set_option maxHeartbeats 8000000
def Ze {t base x d ps K n b z}(ht:ty t=.sli n b z){m:Nat}{o len:Unit->Nat}{els:Unit->List (List D)}(hb:ev (zD ps.tmps) base=.osl m n o len)(ho:yK ps.objs m=some (.arr n els))(ho0:o ()=0)(hl:len ()=(els ()).length) {m':Nat} {o' len':Unit->Nat} {ys:Unit->List (List D)} (hx:ev (zD ps.tmps) x=.osl m' n o' len') (hm:yK ps.objs m'=some (.arr n ys)) (h1:o' ()+len' ()<=(ys ()).length) (hw:Wid n (λ_=>((ys ()).drop (o' ())).take (len' ()))) (hr:Room (λ_=>(((els ()).length+(((ys ()).drop (o' ())).take (len' ())).length:Nat):Int)) b) (hf:yO m ⟨xW (scr m) ps.tmps,y6 (scr m) (xK ps.objs m)⟩=true) (hK:K ⟨vQ (xW (scr m) ps.tmps) d (zT m n ((els ()).length+(((ys ()).drop (o' ())).take (len' ())).length)),y6 (scr m) (xK ps.objs m)++[(m,zW n (els ()++((ys ()).drop (o' ())).take (len' ())))]⟩):AppK t base x (some d) ps K :=
 ⟨.inl ⟨ps,d,m,n,b,z,λ_=>((ys ()).drop (o' ())).take (len' ()),.refl ps,rfl,ht,.inr ⟨false,m',o',len',ys,hx,hm,h1,rfl⟩,hw,.inr ⟨false,m,o,len,els,els,hb,ho,ho0,hl,by rw[hl];simp,λ_=>rfl,hr,hf,hK⟩⟩⟩
def YY {t base x d ps K n b z}(ht:ty t=.sli n b z){m:Nat}{o len:Unit->Nat}{els:Unit->List (List D)}(hb:ev (zD ps.tmps) base=.osl m n o len)(ho:yK ps.objs m=some (.arr n els))(ho0:o ()=0)(hl:len ()<=(els ()).length) {m':Nat} {o' len':Unit->Nat} {ys:Unit->List (List D)} (hx:ev (zD ps.tmps) x=.osl m' n o' len') (hm:yK ps.objs m'=some (.arr n ys)) (h0:o' ()=0) (h1:len' ()=(ys ()).length) (hw:Wid n ys) (hr:Room (λ_=>((len ()+(ys ()).length:Nat):Int)) b) (hf:yO m ⟨xW (scr m) ps.tmps,y6 (scr m) (xK ps.objs m)⟩=true) (hK:K ⟨vQ (xW (scr m) ps.tmps) d (zT m n (len ()+(ys ()).length)),y6 (scr m) (xK ps.objs m)++[(m,zW n ((els ()).take (len ())++ys ()))]⟩):AppK t base x (some d) ps K:=by
 have e:((els ()).take (len ())).length=len ():=by rw[xP];omega
 refine⟨.inl ⟨ps,d,m,n,b,z,ys,.refl ps,rfl,ht,.inr ⟨false,m',o',len',ys,hx,hm,by omega,by rw[h0,h1];simp⟩,hw,.inr ⟨false,m,o,len,λ_=>(els ()).take (len ()),els,hb,ho,ho0,e.symm,rfl,(λh=>nomatch h),?_,hf,?_⟩⟩⟩;{simpa only [e] using hr};{simp only[e];exact hK}
def Qk {α:Type}(p:α->List PV)(l:List α)(k:Nat)(a:α)(hk:k<=l.length):(enc p l).take k++(enc p [a]++((enc p l).drop k).take (l.length-k))=enc p (l.take k++a::l.drop k):=by have e:((enc p l).drop k).take (l.length-k)=(enc p l).drop k:=yU (by rw[uP,zB];exact yQ _);rw[e];unfold enc;simp only[qS,kK,l7,Zg,WV,List.singleton_append]
def K7 {α:Type}(p:α->List PV)(l:List α)(k:Nat)(a:α)(hk:k=l.length):(enc p l).take k++(enc p [a]++[])=enc p (l.take k++a::l.drop k):=by subst hk;have:=Qk p l l.length a (yQ _);rw[iA,QJ] at this;exact this
def nI:ty 35=.sli 3 56 [.ff,.nil,.nil]:=by cbv
def oD (x:R):(rc x).length=3:=rfl
def Tv {l:List R}{i i':Nat}{x:R}{K:List PV->Prop}(h:l[i]?=some x)(hi:i'=i)(hK:K (rc x)):ElOk 3 (λ_=>enc rc l) (λ_=>i') K :=
 K8 i hi (rc x) rfl rfl (by unfold enc;rw[jJ,h];rfl) hK
def bF {n:Nat}{els:List (List D)}(h:Wid n (λ_=>els))(a b:Nat):Wid n (λ_=>(els.drop a).take b):=⟨λe he=>h.h e (Jw (nC he))⟩
def Yy {n:Nat}{a b:List (List D)}(h:Wid n (λ_=>a))(g:Wid n (λ_=>b)):Wid n (λ_=>a++b):=⟨λe he=>by
 rcases wZ.1 he with w|w;{exact h.h e w}
 ·exact g.h e w⟩
def Ur {h k:Unit->Int}{len:Unit->Nat}{K:Prop}(h1:0<=h ())(h2:h ()<=k ())(h3:k ()<=(len ():Int))(hK:K):SlM h k len/\K:=⟨⟨h1,h2,h3⟩,hK⟩
def Uq {l h:Unit->Int}{len:Unit->Nat}{A B:Prop}(h1:0<=l ())(h2:l ()<h ())(h3:h ()<=(len ():Int))(hA:A):SlOk l h len/\SlT l h A B:=⟨⟨h1,Int.le_of_lt h2,h3⟩,⟨.inl ⟨.inl h2,hA⟩⟩⟩
def YB {l h:Unit->Int}{len:Unit->Nat}{A B:Prop}(h1:0<=l ())(h2:l ()=h ())(h3:h ()<=(len ():Int))(hB:B):SlOk l h len/\SlT l h A B:=⟨⟨h1,Int.le_of_eq h2,h3⟩,⟨.inr ⟨h2,hB⟩⟩⟩
def KN:Pg.funcs[15]?=some Tryz.f15:=by rw[vI];rfl
def A7 (s:Scp)(X:List R)(val:Row->Rat)(hb:Bnd6 s)(hv:s.q.valid=true)(hX:(X.length:Int)=s.q.g.vars) (ce:∀ r,r∈s.all->zH 46 [av (fA ((s.fm r).getD F.zero)),rlv X] (.tup [rv (zK (val r)),iV 0])) (hf:∀ r,r∈s.all->Fits (2^30) (val r)):zH 15 [sv s,rlv X] (x9 ((bI (qG val s.all)).map Mult.row)):=by
 refine xB KN rfl rfl rfl rfl rfl ?_;have c1:=HY s zA hb (zA_sz.mono (by decide)) hv (Mc _);have hl:=hb.l;unfold cuP Scp.forms at c1;obtain⟨FR,hFR⟩:∃ FR:Row->A,(λr=>fA ((s.fm r).getD F.zero))=FR:=⟨_,rfl⟩;rw[hFR] at c1;replace ce:∀ r,r∈s.all->zH 46 [av (FR r),rlv X] (.tup [rv (zK (val r)),iV 0]):=λr hr=>by rw[<-hFR];exact ce r hr
 have hst:∀ (i:Nat) r,s.all[i]?=some r->bI (qG val (s.all.take (i+1)))=if val r<0 then Yu ⟨r,zK (val r)⟩ (bI (qG val (s.all.take i))) else bI (qG val (s.all.take i)):=λi r h=>by
  (have e:qG val [r]=if val r<0 then [⟨r,zK (val r)⟩] else []:=by unfold qG;rw[ZX,List.flatMap_nil,vM]);rw[rJ,h]
  show bI (qG val (_++[r]))=_;rw[t6,e];split;{exact J4 _ _};{rw[vM]}
 have hle:∀ i,(bI (qG val (s.all.take i))).length<=1000:=λi=>by rw[VH];have:=gD val (s.all.take i);rw[xP] at this;omega
 have hqz:∀ i m,m∈bI (qG val (s.all.take i))->∃ q,m.c=zK q/\Fits (2^30) q:=λi m hm=>by rw[<-U5] at hm;obtain⟨r,hr,h2⟩:=W0.1 (Gm (List.mem_reverse.1 hm));split at h2;{rw[fZ.1 h2];exact⟨_,rfl,hf r (nC hr)⟩};{exact absurd h2 (by simp)}
 have h0:bI (qG val (s.all.take 0))=[]:=rfl;have hN:bI (qG val (s.all.take s.all.length))=bI (qG val s.all):=by rw[vV]
 have hFl:(s.all.map FR).length=s.all.length:=yH _;have hFg:∀ (i:Nat) r,s.all[i]?=some r->(s.all.map FR)[i]?=some (FR r):=λi r h=>by rw[jJ,h];rfl
 generalize s.all.map FR=FS at *;obtain⟨SR,hSR⟩:∃ SR:Nat->List Mult,(λi=>bI (qG val (s.all.take i)))=SR:=⟨_,rfl⟩;have hSi:∀ i,bI (qG val (s.all.take i))=SR i:=λi=>congrFun hSR i;simp only[hSi] at hst hle hqz h0;rw[hSi] at hN;rw[<-hN];clear hSi hSR hN hFR hv hb;unfold zA at c1;generalize s.q.g.vars=V at *;generalize s.all=L at *;obtain⟨⟨⟨n,us,os⟩,⟨lo,hiR,rows⟩,⟨gts,gc⟩⟩,path,lems⟩:=s;cbv;refine xI rfl (by repeat' first|exact trivial|exact lR|exact zO rfl|exact xC rfl|apply And.intro) c1 rfl ?_;clear c1;cbv;refine wU rfl ?_;cbv;refine xD (by rw[zB];exact hX) ?_;cbv;refine zY (σ:=Nat) (λi=>⟨[(1,rlv X),(5,.ptr 5 0),(6,x9 L),(8,zT 77 4 ((SR i).length)),(9,zT 88 3 ((SR i).length)),(10,iV i)],[(5,.box [iV V,alv FS,tsv [],zM R0.neg,nat R0.num,nat R0.den]),(77,zW 4 (enc rwc ((SR i).map Mult.row))),(88,zW 3 (enc rc ((SR i).map Mult.c)))]⟩)
  (λi=>i<=L.length) (λi=>L.length-i) 0 (xO _)
  (.trans (wkY (ps':=⟨[(1,rlv X),(5,.ptr 5 0),(6,x9 L),(8,.nil),(9,.nil),(10,iV (((0:Nat):Int)))],[(5,.box [iV V,alv FS,tsv [],zM R0.neg,nat R0.num,nat R0.den])]⟩) (by cbv;repeat' first|exact trivial|exact lR|apply And.intro))
   (.trans (.adoptT 77 4 8 rfl rfl) (.trans (.adoptT 88 3 9 rfl rfl) (.le (by cbv;repeat' first|exact trivial|exact lR|exact zR rfl (by rw[h0];rfl)|apply And.intro) (by cbv;repeat' first|exact trivial|exact lR|exact zC (by rw[h0];rfl)|apply And.intro) rfl)))) ?_
 intro i hi;cbv;refine zG (λh=>?_) (λh=>?_)
 ·(have hlt:i<L.length:=by rw[zB] at h;exact om);obtain⟨r,hr⟩:=yB hlt
  (have hrm:=yE hr;have c6:=ce r hrm;have hz:=hf r hrm;have csg:=s35 (zK (val r)) (xR (z5 hz).n (by decide));rw[yD] at csg;have hs1:=hst i r hr;have hAz:=hqz i;have hAl:=hle i;have hFi:=hFg i r hr;generalize SR i=A at *;generalize val r=q at *;obtain⟨⟨ats,acc⟩,hA⟩:∃ a,FR r=a:=⟨_,rfl⟩;rw[hA] at c6 hFi;have cc:∀ y,y∈A->zH 47 [rv y.c,rv (zK q)] (iV (wX y.c.q q)):=λy hy=>by obtain⟨q',e,f'⟩:=hAz y hy;have:=s42 y.c (zK q) (by rw[e];exact (z5 f').mono (by decide)) ((z5 hz).mono (by decide));rw[yD] at this;exact this);have hneg:yG q<0↔q<0:=Xg;have hI:∀ k,k<=A.length->(∀ j y,j<k->A[j]?=some y->wX y.c.q q<=0)->(∀ y,A[k]?=some y->¬wX y.c.q q<=0)->Yu ⟨r,zK q⟩ A=A.take k++⟨r,zK q⟩::A.drop k:=λk h1 h2 h3=>H4 h1 (λj y hj hy=>by show wX _ (zK q).q<=0;rw[yD];exact h2 j y hj hy) (λy hy=>by show ¬wX _ (zK q).q<=0;rw[yD];exact h3 y hy);obtain⟨⟨xn,xu,xd⟩,hZ⟩:∃ Z,zK q=Z:=⟨_,rfl⟩;rw[hZ] at c6 csg cc hs1 hI;clear ce hf hst hqz hle hFg hAz hA hZ hz hrm h0;generalize yG q=sg at *;cbv;refine xL hFi kX fI ?_;cbv;refine cA c6 ?_;cbv;refine cA csg ?_;clear c6 csg;cbv;refine zG (λh0=>?_) (λh0=>?_)
  {rw[if_neg (λw=>by have:=hneg.2 w;exact om)] at hs1;cbv;exact⟨zE om om,i+1,hlt,by show L.length-(i+1)<L.length-i;omega,.le (by cbv;repeat' first|exact trivial|exact lR|exact zR rfl (by rw[hs1])|exact zF om|apply And.intro) (by cbv;repeat' first|exact trivial|exact lR|exact zC (by rw[hs1])|apply And.intro) rfl⟩};rw[if_pos (hneg.1 (by exact om))] at hs1;cbv;refine zY (σ:=Nat) (λk=>⟨[(1,rlv X),(5,.ptr 5 0),(6,x9 L),(8,zT 77 4 A.length),(9,zT 88 3 A.length),(10,iV i),(11,.ptr 11 0),(13,iV k)],[(5,.box [iV V,alv FS,tsv [],zM R0.neg,nat R0.num,nat R0.den]),(77,zW 4 (enc rwc (A.map Mult.row))),(88,zW 3 (enc rc (A.map Mult.c))),(11,.box [zM xn,nat xu,nat xd])]⟩)
   (λk=>k<=A.length/\∀ j y,j<k->A[j]?=some y->wX y.c.q q<=0) (λk=>A.length-k) 0 ⟨xO _,λj y h=>absurd h (Nat.not_lt_zero _)⟩ (wkZ) ?_
  intro k hk;obtain⟨g1,g2⟩:=hk;cbv;refine zP 13 (by cbv) ?_;cbv;refine zX (λe1=>?_) (λe1=>?_)
  ·(have hkl:k<A.length:=om;obtain⟨y,hy⟩:=yB hkl;have cy:=cc y (yE hy);have hyc:(A.map Mult.c)[k]?=some y.c:=by rw[jJ,hy];rfl);have g3:wX y.c.q q<=0->∀ j z,j<k+1->A[j]?=some z->wX z.c.q q<=0:=λw j z hj hz=>by
    rcases uG j k with u|u;{exact g2 j z u hz}
    ·(have:j=k:=by omega);subst this
     rw[hy] at hz;cases hz;exact w
   have g4:¬wX y.c.q q<=0->Yu ⟨r,⟨xn,xu,xd⟩⟩ A=A.take k++⟨r,⟨xn,xu,xd⟩⟩::A.drop k:=λw=>hI k g1 g2 (λz hz=>by rw[hy] at hz;cases hz;exact w);clear cc hI g2 hy;generalize wX y.c.q q=cz at *;obtain⟨yr,⟨yn,yu,yd⟩⟩:=y;cbv;refine⟨z9 om om,?_⟩;cbv;refine Tv hyc om ?_;cbv;refine dA cy ?_;cbv;refine zG (λe2=>?_) (λe2=>?_);{cbv;exact⟨zE om om,k+1,⟨hkl,g3 e2⟩,by show A.length-(k+1)<A.length-k;omega,wkZ⟩}
   ·(rw[g4 e2] at hs1;clear g3 g4 cy hyc;have hm1:(A.take k++⟨r,⟨xn,xu,xd⟩⟩::A.drop k).map Mult.row=(A.map Mult.row).take k++r::(A.map Mult.row).drop k:=by rw[qS,kK,l7,Zg]);have hm2:(A.take k++⟨r,⟨xn,xu,xd⟩⟩::A.drop k).map Mult.c=(A.map Mult.c).take k++⟨xn,xu,xd⟩::(A.map Mult.c).drop k:=by rw[qS,kK,l7,Zg]
    (have hs1l:A.length+1=(SR (i+1)).length:=by rw[hs1,alT53,fH,xP,uP];omega);have i1:=Qk rwc (A.map Mult.row) k r (by rw[yH];omega)
    have i2:=Qk rc (A.map Mult.c) k ⟨xn,xu,xd⟩ (by rw[yH];omega);rw[yH] at i1 i2;have hml:(A.map Mult.row).length=A.length:=yH _;have hmc:(A.map Mult.c).length=A.length:=yH _;cbv;refine o5 (σ:=Unit) (λ_=>⟨[(1,rlv X),(5,.ptr 5 0),(6,x9 L),(8,zT 77 4 (A.length+1)),(9,zT 88 3 A.length),(10,iV i),(11,.ptr 11 0),(13,iV k)],[(5,.box [iV V,alv FS,tsv [],zM R0.neg,nat R0.num,nat R0.den]),(77,zW 4 (enc rwc ((A.map Mult.row).take k++r::(A.map Mult.row).drop k))),(88,zW 3 (enc rc (A.map Mult.c))),(11,.box [zM xn,nat xu,nat xd])]⟩) (λ_=>True) (.fresh 500072 4 rfl) (by cbv) ?_ ?_
    ·cbv
     repeat' first
      |exact trivial
      |(refine Ur om om okQ ?_;cbv)
      |(have w:k<A.length:=hkl;refine Uq om okQ om ?_;cbv)
      |(refine YB om okQ om ?_;cbv)
      |(refine xL hr k7 u6 ?_;cbv)
      |(refine YX rfl ?_;cbv)
      |(refine xE s9 rfl rfl rfl rfl rfl ⟨by simp[zI,y7]⟩ (zV (by simp[zI] <;> (try dsimp only [zS] at *) <;> omega) (by simp[zI,zB,xP,uP,yH] <;> (try dsimp only [zS] at *) <;> omega)) rfl ?_;cbv)
      |(refine Ze s9 rfl rfl rfl rfl rfl rfl okQ (bF (wD u6 _) _ _) (zV (by simp[zI] <;> (try dsimp only [zS] at *) <;> omega) (by simp[zI,zB,xP,uP,yH] <;> (try dsimp only [zS] at *) <;> omega)) rfl ?_;cbv)
      |(refine YY s9 rfl rfl rfl okQ rfl rfl rfl (by exact alT53.symm) (Yy ⟨by simp[zI,y7]⟩ (by first|exact bF (wD u6 _) _ _|exact⟨by simp⟩)) (zV (by simp[zI] <;> (try dsimp only [zS] at *) <;> omega) (by simp[zI,zB,xP,uP,yH] <;> (try dsimp only [zS] at *) <;> omega)) rfl ?_;cbv)
      |exact⟨(),trivial,(.le (by cbv;repeat' first|exact trivial|exact lR|exact zR rfl (by simp[zI,zB,xP,uP,yH] <;> (try dsimp only [zS] at *) <;> omega)|apply And.intro) (by cbv;repeat' first|exact trivial|exact lR|exact zC rfl|exact zC (by (try dsimp only [zS]);simp only[uF,wQ];first|exact i1|exact i2)|apply And.intro) rfl)⟩
      |apply And.intro
    intro _ _;cbv;refine o5 (σ:=Unit) (λ_=>⟨[(1,rlv X),(5,.ptr 5 0),(6,x9 L),(8,zT 77 4 (A.length+1)),(9,zT 88 3 (A.length+1)),(10,iV i),(11,.ptr 11 0),(13,iV k)],[(5,.box [iV V,alv FS,tsv [],zM R0.neg,nat R0.num,nat R0.den]),(77,zW 4 (enc rwc ((A.map Mult.row).take k++r::(A.map Mult.row).drop k))),(88,zW 3 (enc rc ((A.map Mult.c).take k++⟨xn,xu,xd⟩::(A.map Mult.c).drop k))),(11,.box [zM xn,nat xu,nat xd])]⟩) (λ_=>True) (.fresh 500083 3 rfl) (by cbv) ?_ ?_
    ·cbv
     repeat' first
      |exact trivial
      |(refine Ur om om okQ ?_;cbv)
      |(have w:k<A.length:=hkl;refine Uq om okQ om ?_;cbv)
      |(refine YB om okQ om ?_;cbv)
      |(refine YX rfl ?_;cbv)
      |(refine xE nI rfl rfl rfl rfl rfl ⟨by simp[zI,y7]⟩ (zV (by simp[zI] <;> (try dsimp only [zS] at *) <;> omega) (by simp[zI,zB,xP,uP,yH] <;> (try dsimp only [zS] at *) <;> omega)) rfl ?_;cbv)
      |(refine Ze nI rfl rfl rfl rfl rfl rfl okQ (bF (wD (p:=rc) oD _) _ _) (zV (by simp[zI] <;> (try dsimp only [zS] at *) <;> omega) (by simp[zI,zB,xP,uP,yH] <;> (try dsimp only [zS] at *) <;> omega)) rfl ?_;cbv)
      |(refine YY nI rfl rfl rfl okQ rfl rfl rfl (by exact alT53.symm) (Yy ⟨by simp[zI,y7]⟩ (by first|exact bF (wD (p:=rc) oD _) _ _|exact⟨by simp⟩)) (zV (by simp[zI] <;> (try dsimp only [zS] at *) <;> omega) (by simp[zI,zB,xP,uP,yH] <;> (try dsimp only [zS] at *) <;> omega)) rfl ?_;cbv)
      |exact⟨(),trivial,(.le (by cbv;repeat' first|exact trivial|exact lR|exact zR rfl (by simp[zI,zB,xP,uP,yH] <;> (try dsimp only [zS] at *) <;> omega)|apply And.intro) (by cbv;repeat' first|exact trivial|exact lR|exact zC rfl|exact zC (by (try dsimp only [zS]);simp only[uF,wQ];first|exact i1|exact i2)|apply And.intro) rfl)⟩
      |apply And.intro
    intro _ _;cbv;exact⟨zE om om,i+1,hlt,by show L.length-(i+1)<L.length-i;omega,.le (by cbv;repeat' first|exact trivial|exact lR|exact zR rfl hs1l|exact zF om|apply And.intro) (by cbv;repeat' first|exact trivial|exact lR|exact zC (by rw[hs1,hm1])|exact zC (by rw[hs1,hm2])|apply And.intro) rfl⟩
  ·(have hkl:k=A.length:=om;have g4:=hI k g1 g2 (λz hz=>by have:=(w8.1 hz).1;omega);rw[g4] at hs1;clear cc hI g2 g4;cbv;have hm1:(A.take k++⟨r,⟨xn,xu,xd⟩⟩::A.drop k).map Mult.row=(A.map Mult.row).take k++r::(A.map Mult.row).drop k:=by rw[qS,kK,l7,Zg]);have hm2:(A.take k++⟨r,⟨xn,xu,xd⟩⟩::A.drop k).map Mult.c=(A.map Mult.c).take k++⟨xn,xu,xd⟩::(A.map Mult.c).drop k:=by rw[qS,kK,l7,Zg]
   (have hs1l:A.length+1=(SR (i+1)).length:=by rw[hs1,alT53,fH,xP,uP];omega);have i1:=K7 rwc (A.map Mult.row) k r (by rw[yH];omega)
   have i2:=K7 rc (A.map Mult.c) k ⟨xn,xu,xd⟩ (by rw[yH];omega);have hml:(A.map Mult.row).length=A.length:=yH _;have hmc:(A.map Mult.c).length=A.length:=yH _;cbv;refine o5 (σ:=Unit) (λ_=>⟨[(1,rlv X),(5,.ptr 5 0),(6,x9 L),(8,zT 77 4 (A.length+1)),(9,zT 88 3 A.length),(10,iV i),(11,.ptr 11 0),(13,iV k)],[(5,.box [iV V,alv FS,tsv [],zM R0.neg,nat R0.num,nat R0.den]),(77,zW 4 (enc rwc ((A.map Mult.row).take k++r::(A.map Mult.row).drop k))),(88,zW 3 (enc rc (A.map Mult.c))),(11,.box [zM xn,nat xu,nat xd])]⟩) (λ_=>True) (.fresh 500072 4 rfl) (by cbv) ?_ ?_
   ·cbv
    repeat' first
     |exact trivial
     |(refine Ur om om okQ ?_;cbv)
     |(have w:k<A.length:=hkl;refine Uq om okQ om ?_;cbv)
     |(refine YB om okQ om ?_;cbv)
     |(refine xL hr k7 u6 ?_;cbv)
     |(refine YX rfl ?_;cbv)
     |(refine xE s9 rfl rfl rfl rfl rfl ⟨by simp[zI,y7]⟩ (zV (by simp[zI] <;> (try dsimp only [zS] at *) <;> omega) (by simp[zI,zB,xP,uP,yH] <;> (try dsimp only [zS] at *) <;> omega)) rfl ?_;cbv)
     |(refine Ze s9 rfl rfl rfl rfl rfl rfl okQ (bF (wD u6 _) _ _) (zV (by simp[zI] <;> (try dsimp only [zS] at *) <;> omega) (by simp[zI,zB,xP,uP,yH] <;> (try dsimp only [zS] at *) <;> omega)) rfl ?_;cbv)
     |(refine YY s9 rfl rfl rfl okQ rfl rfl rfl (by exact alT53.symm) (Yy ⟨by simp[zI,y7]⟩ (by first|exact bF (wD u6 _) _ _|exact⟨by simp⟩)) (zV (by simp[zI] <;> (try dsimp only [zS] at *) <;> omega) (by simp[zI,zB,xP,uP,yH] <;> (try dsimp only [zS] at *) <;> omega)) rfl ?_;cbv)
     |exact⟨(),trivial,(.le (by cbv;repeat' first|exact trivial|exact lR|exact zR rfl (by simp[zI,zB,xP,uP,yH] <;> (try dsimp only [zS] at *) <;> omega)|apply And.intro) (by cbv;repeat' first|exact trivial|exact lR|exact zC rfl|exact zC (by (try dsimp only [zS]);simp only[uF,wQ];first|exact i1|exact i2)|apply And.intro) rfl)⟩
     |apply And.intro
   intro _ _;cbv;refine o5 (σ:=Unit) (λ_=>⟨[(1,rlv X),(5,.ptr 5 0),(6,x9 L),(8,zT 77 4 (A.length+1)),(9,zT 88 3 (A.length+1)),(10,iV i),(11,.ptr 11 0),(13,iV k)],[(5,.box [iV V,alv FS,tsv [],zM R0.neg,nat R0.num,nat R0.den]),(77,zW 4 (enc rwc ((A.map Mult.row).take k++r::(A.map Mult.row).drop k))),(88,zW 3 (enc rc ((A.map Mult.c).take k++⟨xn,xu,xd⟩::(A.map Mult.c).drop k))),(11,.box [zM xn,nat xu,nat xd])]⟩) (λ_=>True) (.fresh 500083 3 rfl) (by cbv) ?_ ?_
   ·cbv
    repeat' first
     |exact trivial
     |(refine Ur om om okQ ?_;cbv)
     |(have w:k<A.length:=hkl;refine Uq om okQ om ?_;cbv)
     |(refine YB om okQ om ?_;cbv)
     |(refine YX rfl ?_;cbv)
     |(refine xE nI rfl rfl rfl rfl rfl ⟨by simp[zI,y7]⟩ (zV (by simp[zI] <;> (try dsimp only [zS] at *) <;> omega) (by simp[zI,zB,xP,uP,yH] <;> (try dsimp only [zS] at *) <;> omega)) rfl ?_;cbv)
     |(refine Ze nI rfl rfl rfl rfl rfl rfl okQ (bF (wD (p:=rc) oD _) _ _) (zV (by simp[zI] <;> (try dsimp only [zS] at *) <;> omega) (by simp[zI,zB,xP,uP,yH] <;> (try dsimp only [zS] at *) <;> omega)) rfl ?_;cbv)
     |(refine YY nI rfl rfl rfl okQ rfl rfl rfl (by exact alT53.symm) (Yy ⟨by simp[zI,y7]⟩ (by first|exact bF (wD (p:=rc) oD _) _ _|exact⟨by simp⟩)) (zV (by simp[zI] <;> (try dsimp only [zS] at *) <;> omega) (by simp[zI,zB,xP,uP,yH] <;> (try dsimp only [zS] at *) <;> omega)) rfl ?_;cbv)
     |exact⟨(),trivial,(.le (by cbv;repeat' first|exact trivial|exact lR|exact zR rfl (by simp[zI,zB,xP,uP,yH] <;> (try dsimp only [zS] at *) <;> omega)|apply And.intro) (by cbv;repeat' first|exact trivial|exact lR|exact zC rfl|exact zC (by (try dsimp only [zS]);simp only[uF,wQ];first|exact i1|exact i2)|apply And.intro) rfl)⟩
     |apply And.intro
   intro _ _;cbv;exact⟨zE om om,i+1,hlt,by show L.length-(i+1)<L.length-i;omega,.le (by cbv;repeat' first|exact trivial|exact lR|exact zR rfl hs1l|exact zF om|apply And.intro) (by cbv;repeat' first|exact trivial|exact lR|exact zC (by rw[hs1,hm1])|exact zC (by rw[hs1,hm2])|apply And.intro) rfl⟩
 ·(have hiL:i=L.length:=by rw[zB] at h;exact om);subst hiL
  (clear hst hle hqz ce hf hFg;generalize SR L.length=A at *;have hxl:(enc rwc (A.map Mult.row)).length=A.length:=by rw[zB,yH]);dsimp only [x9]
  generalize enc rwc (A.map Mult.row)=ZS at *;cbv;refine Xu id (.frz 77 rfl rfl (by cbv;repeat' first|exact trivial|exact z6 (by rw[hxl];omega)|apply And.intro) (by cbv;repeat' first|exact trivial|apply And.intro)) rfl (by exact trivial) (by rfl) (by exact trivial) ?_;cbv;exact zU (by rw[vS,<-hxl,vV])
def Rt (w:World):ElB w 35 1 (λ(l:List R) n=>(∀ x,x∈l->x.sz n)/\l.length<=n) (λl=>[rlv l]) :=
 (Ql (k:=3) Tryz.underlying35 (by kernel_rfl) (by decide) (Lj w)).map (λl=>l) (λ_=>rfl) (λ_ _ h=>h) (λ_ _ _ h g=>⟨λx hx=>(g.1 x hx).mono h,vF g.2 h⟩)
def MD (X:List R)(hX:∀ x,x∈X->x.sz (2^32))(hl:X.length<=2^20):zH 13 [rlv X] (zM (decide (X.length<=8)&&X.all R.small)):=by
 refine sF Tryz.f13 ?_;have cs:=λx hx=>MB x (hX x hx);have ha:X.all R.small=(X.take X.length).all R.small:=by rw[vV]
 obtain⟨bs,hbs⟩:∃ bs,(decide (X.length<=8)&&X.all R.small)=bs:=⟨_,rfl⟩;rw[hbs];have f1:8<X.length->bs=false:=λh=>by rw[<-hbs,decide_eq_false oM];rfl
 have f2:∀ x,x∈X->x.small=false->bs=false:=λx hx h=>by
  rw[<-hbs];cases hb:X.all R.small with
  |false=>exact Bool.and_false _| true=>have:=bX.1 hb x hx;rw[h] at this;cases this
 have f3:¬8<X.length->(∀ x,x∈X->x.small=true)->bs=true:=λh g=>by rw[<-hbs,decide_eq_true oM,bX.2 g];rfl
 clear hbs ha;cbv;refine zG (λh=>?_) (λh=>?_)
 ·cbv
  (refine rC ?_;cbv)
  exact zO (f1 (by rw[zB] at h;exact om))
 have h8:¬8<X.length:=by rw[zB] at h;exact om
 cbv;refine zY (σ:=Nat) (λi=>⟨[(0,rlv X),(3,iV i)],[]⟩) (λi=>i<=X.length/\∀ j x,j<i->X[j]?=some x->x.small=true) (λi=>X.length-i) 0 ⟨xO _,λj x h=>absurd h (Nat.not_lt_zero _)⟩ (wkZ) ?_;intro i hi;obtain⟨g1,g2⟩:=hi;cbv;refine zG (λh1=>?_) (λh1=>?_)
 ·(have hlt:i<X.length:=by rw[zB] at h1;exact om);obtain⟨x,hx⟩:=yB hlt
  have hm:=yE hx;have c1:=cs x hm;have f4:=f2 x hm;have g3:x.small=true->∀ j y,j<i+1->X[j]?=some y->y.small=true:=λw j y hj hy=>by
   rcases uG j i with u|u;{exact g2 j y u hy}
   ·(have:j=i:=by omega);subst this
    rw[hx] at hy;cases hy;exact w
  generalize x.small=b at *;obtain⟨xn,xu,xd⟩:=x;clear cs f2 f3 g2;cbv;refine xL hx (λ_=>rfl) oD ?_;cbv;refine cA c1 ?_;cbv;refine zZ (λe=>?_) (λe=>?_);{cbv;exact⟨zE om om,i+1,⟨hlt,g3 e⟩,by show X.length-(i+1)<X.length-i;omega,wkZ⟩}
  ·cbv
   (refine rC ?_;cbv)
   exact zO (f4 e)
 ·cbv
  (refine rC ?_;cbv)
  exact yN (f3 h8 (λx hx=>by obtain⟨j,hj⟩:=YG hx;exact g2 j x (by have:=(w8.1 hj).1;rw[zB] at h1;exact om) hj))
def Sd (s:Scp)(X:List R)(hb:Bnd6 s)(hv:s.q.valid=true)(hX:(X.length:Int)≠s.q.g.vars):zH 14 [sv s,rlv X] (x9 []):=by
 refine xB Gr rfl rfl rfl rfl rfl ?_;have c1:=UB s.q.g (hb.sz.q.g.mono (by decide));have c2:=mE s.q (hb.sz.q.mono (by decide));rw[if_pos (Sn hv)] at c1;rw[hv] at c2;generalize s.q.g.vars=V at *;obtain⟨⟨⟨n,us,os⟩,⟨lo,hi,rows⟩,⟨gts,gc⟩⟩,path,lems⟩:=s;clear hb hv
 try dsimp only at c1
 try dsimp only at c2
 cbv;refine cA c2 ?_;cbv;refine GF rfl ?_;cbv;refine cA c1 ?_;cbv;refine yA (by rw[zB];exact hX) ?_;cbv;exact rA
def DW (s:Scp)(X:List R)(hb:Bnd6 s)(hv:s.q.valid=true)(hX:(X.length:Int)≠s.q.g.vars):zH 15 [sv s,rlv X] (x9 []):=by refine xB KN rfl rfl rfl rfl rfl ?_;have c1:=HY s zA hb (zA_sz.mono (by decide)) hv (Mc _);unfold cuP zA at c1;generalize s.q.g.vars=V at *;generalize s.forms=FS at *;generalize s.all=L at *;obtain⟨⟨⟨n,us,os⟩,⟨lo,hiR,rows⟩,⟨gts,gc⟩⟩,path,lems⟩:=s;clear hb hv;cbv;refine xI rfl (by repeat' first|exact trivial|exact lR|exact zO rfl|exact xC rfl|apply And.intro) c1 rfl ?_;clear c1;cbv;refine wU rfl ?_;cbv;refine yA (by rw[zB];exact hX) ?_;cbv;exact rA
def F8 (raw:List UInt8)(b:Bool)(X:List R)(hX:X.all R.small=true):∃ L:List Row,zH 14 [sv (cuS raw b),rlv X] (x9 L)/\zH 15 [sv (cuS raw b),rlv X] (x9 L)/\zH 12 [x9 L,x9 L] (zM true):=by
 have hb:=SL raw b;have hv:=Uf raw b;have hx:=j1 raw 0;have hok:=Bl raw 0;by_cases hl:(X.length:Int)=(cuS raw b).q.g.vars
 ·(have hsm:∀ x,x∈X->zK x.q=x/\Fits 2 x.q:=λx hxm=>by have:=bX.1 hX x hxm;unfold R.small at this;simp only[xA,decide_eq_true_eq] at this;exact⟨Ga this.2,(show x.sz 2 from⟨this.1.1,this.1.2⟩).fits (by decide)⟩);have hXe:(X.map R.q).map zK=X:=by rw[QG];exact (List.map_congr_left λx hxm=>(hsm x hxm).1).trans (List.map_id _)
  have hvars:(cuS raw b).q.g.vars=(((fdY raw 0).1.g.n+(fdY raw 0).1.g.us.length:Nat):Int):=by rw[o6];show ((fdY raw 0).1.g.n:Int)+(((fdY raw 0).1.g.us.map fA).length:Nat)=_;rw[yH];omega
  (have hpl:(X.map R.q).length=(fdY raw 0).1.g.n+(fdY raw 0).1.g.us.length:=by rw[yH];omega);have n2:=hx.g.n2
  (have u4:=hx.g.us;have hpf:∀ q,q∈X.map R.q->Fits 2 q:=λq hq=>by obtain⟨x,hxm,rfl⟩:=y9.1 hq;exact (hsm x hxm).2);have hfm:∀ r,r∈(cuS raw b).all->∃ f,(cuS raw b).fm r=some f/\f.fl (2^26) 7/\f.wf ((X.map R.q).length:Int):=λr hr=>by obtain⟨f,hf⟩:=B6 (s:=cuS raw b) (x:=(fdY raw 0).1) (o6 raw b) hx hok r hr;have h2:=TI hf;have h3:=Nm (o6 raw b) hx hok r f hf;have hsh:=h3.short;exact⟨f,hf,⟨λt ht=>(h2.t t ht).mono (by decide),h2.c.mono (by decide),by omega⟩,by rw[hpl];exact h3⟩
  (have h20:=RA (s:=cuS raw b) (x:=(fdY raw 0).1) (X:=xr (X.map R.q)) (o6 raw b) hx hok (by rw[WB];exact (Wi raw).2);have hft:∀ r,r∈(cuS raw b).all->Fits (2^30) (dC (cuS raw b) (xr (X.map R.q)) r):=λr hr=>by obtain⟨f,h1,h2,h3⟩:=hfm r hr;unfold dC;rw[h1];exact (ST h2 (F3 h3 hpf)).mono (by decide));have hvz:∀ m,m∈qG (dC (cuS raw b) (xr (X.map R.q))) (cuS raw b).all->m.c.sz (2^30):=λm hm=>by obtain⟨r,hr,h2⟩:=W0.1 hm;split at h2;{rw[fZ.1 h2];exact z5 (hft r hr)};{exact absurd h2 (by simp)}
  have k1:=D5 (cuS raw b) X (dC (cuS raw b) (xr (X.map R.q))) _ hb hv hl (λr hr=>by obtain⟨f,h1,h2,h3⟩:=hfm r hr;have k:=Ra f (X.map R.q) h2 h3 hpf (by decide) (by decide) (by decide) (by decide) oM;rw[hXe] at k;unfold dC;rw[h1];exact k) (Pr _ h20 hvz) (by rw[tN,YK]);have k2:=A7 (cuS raw b) X (dC (cuS raw b) (xr (X.map R.q))) hb hv hl (λr hr=>by obtain⟨f,h1,h2,h3⟩:=hfm r hr;have k:=Mw f (X.map R.q) h2 h3 hpf (by decide) (by decide) (by decide) (by decide) oM;rw[hXe] at k;unfold dC;rw[h1];exact k) hft;rw[U5] at k1;exact⟨_,k1,k2,HW _ (by rw[yH,VH];omega)⟩
 {exact⟨[],Sd _ X hb hv hl,DW _ X hb hv hl,HW [] (by decide)⟩}
def PE (raw:List UInt8)(b:Bool)(X:List R)(hr:raw.length<=2^20)(hX:(∀ x,x∈X->x.sz (2^20))/\X.length<=2^20):zH 4 [u8l raw,zM b,rlv X] (zM true):=by
 refine sF Tryz.f4 ?_;have ca:=MO;have cF:=MD X (λx hx=>(hX.1 x hx).mono (by decide)) hX.2;by_cases h2:200<raw.length;{clear cF;cbv;refine cA ca ?_;cbv;refine tD rfl ?_;cbv;refine wU (by rw[zB];exact om) ?_;cbv;exact rA};have cP:zH 8 [u8l raw,zM b] (sv (cuS raw b)):=DX raw (xR hr (by decide)) b;have hB:=λh:X.all R.small=true=>F8 raw b X h;have hsm:(decide (X.length<=8)&&X.all R.small)=true->X.all R.small=true:=λh=>by rw[xA] at h;exact h.2
 generalize cuS raw b=S at *;generalize X.all R.small=sa at *;generalize (decide (X.length<=8)&&sa)=sm at *;obtain⟨⟨⟨n,us,os⟩,⟨lo,hiR,rows⟩,⟨gts,gc⟩⟩,path,lems⟩:=S;clear hX;cbv;refine cA ca ?_;cbv;refine tD rfl ?_;cbv;refine yF (by rw[zB];exact om) ?_;cbv;refine cA cF ?_;cbv;refine zZ (λe1=>?_) (λe1=>?_);{obtain⟨L,c1,c2,c3⟩:=hB (hsm e1);clear hB;cbv;refine cA cP ?_;cbv;refine zP 7 (by cbv) ?_;cbv;refine dA c1 ?_;cbv;refine dA c2 ?_;cbv;refine dA c3 ?_;cbv;exact rA};{cbv;exact rA}
end Go.Proofs.YtboocdbmnfjomaaGreat
