/- A part of the proof: CvA, CvB. -/
import Derived.Test.YtboocdbmnfjomaaGreatV38
import Derived.Test.YtboocdbmnfjomaaGreatV25
import Derived.Test.YtboocdbmnfjomaaGreatV27
set_option linter.all false
namespace Go.Proofs.YtboocdbmnfjomaaGreat
open Go
set_option maxRecDepth 100000
set_option maxHeartbeats 4000000
def p8 (x:Mult):List Mult->List Mult
 |[]=>[x]| y::r=>if wX x.c.q y.c.q<0 then y::p8 x r else x::y::r
def isW (l:List Mult):List Mult:=l.foldl (λa x=>p8 x a) []
theorem KG (x:Mult):∀ l,(p8 x l).length=l.length+1
 |[]=>rfl| y::r=>by unfold p8;split <;> simp[KG x r]
theorem CY (l:List Mult)(x:Mult):isW (l++[x])=p8 x (isW l):=by unfold isW;rw[HB];rfl
theorem YK:∀ l,(isW l).length=l.length:=by
 have:∀ (l a:List Mult),(l.foldl (λa x=>p8 x a) a).length=a.length+l.length:=by
  intro l;induction l with
  |nil=>intro a;simp| cons x r ih=>intro a;rw[F2,ih,KG,fH];omega
 intro l;unfold isW;rw[this];simp
theorem DC {α:Type}(p b:List α)(x y:α):((p++y::x::b).set (p.length+1) y).set p.length x=p++x::y::b:=by rw[QH _ _ oM,QH _ _ oM];simp[show p.length+1-p.length=1 by omega]
theorem KF {x m:Mult}:∀ {l:List Mult},m∈p8 x l->m=x\/m∈l
 |[],h=>.inl (fZ.1 h)| y::r,h=>by unfold p8 at h;split at h;{rcases yS.1 h with w|w;{exact .inr (by rw[w];exact vH)};{rcases KF w with q|q;{exact .inl q};{exact .inr (w6 _ q)}}};{rcases yS.1 h with w|w;{exact .inl w};{exact .inr w}}
theorem Gm {m:Mult}:∀ {l:List Mult},m∈isW l->m∈l:=by
 have:∀ (l a:List Mult),m∈l.foldl (λa x=>p8 x a) a->m∈a\/m∈l:=by
  intro l;induction l with
  |nil=>intro a h;exact .inl h| cons x r ih =>
   intro a h;rcases ih _ h with w|w;{rcases KF w with q|q;{exact .inr (by rw[q];exact vH)};{exact .inl q}};{exact .inr (w6 _ w)}
 intro l h;rcases this l [] h with w|w;{exact absurd w (by simp)};{exact w}
theorem Mq (x y:Mult)(hx:x.c.sz (2^30))(hy:y.c.sz (2^30)):zH 44 [mv x,mv y] (iV (wX x.c.q y.c.q)):=by have cc:=Si x.c y.c (hx.mono (by decide)) (hy.mono (by decide));refine sF Tryz.f44 ?_;obtain⟨⟨xk,xi,xl,xh⟩,xc⟩:=x;obtain⟨⟨yk,yi,yl,yh⟩,yc⟩:=y;generalize wX xc.q yc.q=z at *;cbv;refine cA cc ?_;cbv;exact rA
theorem Gq:Pg.funcs[153]?=some Tryz.f153:=by rw[vI];rfl
theorem Pt (l:List Mult)(hl:l.length<=20)(hz:∀ m,m∈l->m.c.sz (2^30)):Sound 153 [zT 1000000 7 l.length,iV 0,iV l.length,.fn 44 []] (vob 1000000 l) [] (.tup []) (vob 1000000 (isW l).reverse) []:=by
 refine xB Gq rfl rfl rfl rfl rfl ?_;obtain⟨P,hP⟩:∃ P:Nat->List Mult,∀ i,P i=isW (l.take i):=⟨_,λ_=>rfl⟩;have hPl:∀ i,i<=l.length->(P i).length=i:=λi hi=>by rw[hP,YK,xP];omega
 have hPs:∀ i x,l[i]?=some x->P (i+1)=p8 x (P i):=λi x hx=>by rw[hP,hP,rJ,hx];exact CY _ _
 have hP1:l≠[]->(P 1).reverse++l.drop 1=l:=λh=>by
  cases l with
  |nil=>exact absurd rfl h| cons x r=>rw[hP];rfl
 have hPz:∀ i m,m∈P i->m.c.sz (2^30):=λi m hm=>by rw[hP] at hm;exact hz m (nC (Gm hm))
 have hPe:isW l=P l.length:=by rw[hP,vV]
 have hP0:l=[]->P l.length=[]:=λh=>by rw[h,hP];rfl
 rw[hPe];have hins:∀ x y r,p8 x (y::r)=if wX x.c.q y.c.q<0 then y::p8 x r else x::y::r:=λ_ _ _=>rfl
 have hins0:∀ x,p8 x []=[x]:=λ_=>rfl;obtain⟨I,hI⟩:=ex p8;rw[hI] at hPs hins hins0;clear hP hI hPe;have hcmp:=λ(x y:Mult) (hx:x.c.sz (2^30)) (hy:y.c.sz (2^30))=>Mq x y hx hy;generalize hN:P l.length=R at *;by_cases hle:l=[];{have hR:R=[]:=hP0 hle;subst hle hR;clear hPl hPs hP1 hP0 hN hins hins0 hPz hz;cbv;refine⟨zE (by decide) (by decide),?_⟩;refine zY (σ:=Unit) (λ_=>⟨[(2,iV 0),(8,iV 1)],[(1000000,zW 7 ([]))]⟩) (λ_=>True) (λ_=>0) () trivial (.le ?_ ?_ rfl) ?_;{cbv;exact⟨zF (by rfl),zF (by rfl),trivial⟩};{cbv;exact⟨zC rfl,trivial⟩};intro _ _;cbv;refine yA (by decide) ?_;cbv;exact tT rfl trivial rfl rfl rfl rfl};have hl1:1<=l.length:=by cases l with
  |nil=>exact absurd rfl hle| cons x r=>simp
 have hP1':=hP1 hle;clear hP1 hP0;cbv;refine⟨zE (by decide) (by decide),?_⟩;refine zY (σ:=Nat) (λi=>⟨[(0,zT 1000000 7 l.length),(1,iV 0),(2,iV l.length),(3,.fn 44 []),(8,iV i)],[(1000000,zW 7 (enc mc ((P i).reverse++l.drop i)))]⟩)
  (λi=>1<=i/\i<=l.length) (λi=>l.length-i) 1 ⟨om,hl1⟩ (.le ?_ ?_ rfl) ?_
 {cbv;exact⟨lR,lR,lR,zF (by rfl),trivial⟩};{cbv;exact⟨zC (by rw[hP1']),trivial⟩};clear hP1';intro i hi;obtain⟨hi1,hi2⟩:=hi;cbv;refine zG (λh5=>?_) (λh5=>?_)
 ·(have hlt:i<l.length:=by exact om);obtain⟨x,hx⟩:=yB hlt
  (have hdr:=yJ hx;have hPi:=hPs i x hx;have hPil:=hPl i hi2;have hPil1:=hPl (i+1) hlt;have hpz:=hPz i;have hxz:=hz x (yE hx);generalize hrest:l.drop (i+1)=rest at *;have hrl:rest.length=l.length-(i+1):=by rw[<-hrest,uP]);generalize hp0:P i=p0 at *
  generalize hp1:P (i+1)=p1 at *;clear hPs hPl hPz hz;cbv;refine zY (σ:=List Mult×List Mult) (λs=>⟨[(0,zT 1000000 7 l.length),(1,iV 0),(2,iV l.length),(3,.fn 44 []),(8,iV i),(9,iV s.1.length)],[(1000000,zW 7 (enc mc (s.1.reverse++x::(s.2.reverse++rest))))]⟩)
   (λs=>s.1.length+s.2.length=i/\p1=s.2++I x s.1/\∀ m,m∈s.1->m.c.sz (2^30)) (λs=>s.1.length) (p0,[]) ⟨by simp[hPil],hPi,hpz⟩ (.le ?_ ?_ rfl) ?_
  {cbv;exact⟨lR,lR,lR,lR,zF (by exact om),trivial⟩};{cbv;exact⟨zC (by rw[hdr];simp),trivial⟩};intro s hs;obtain⟨hL,hT,hZ⟩:=hs;generalize s.1=pr at *;generalize s.2=qr at *;cases pr with
  |nil =>
   (have hT':p1=qr++[x]:=by rw[hT,hins0]);cbv
   refine zP 17 (by cbv) ?_;cbv;refine yF (by simp) ?_;cbv;refine⟨zE om om,i+1,⟨om,om⟩,om,.le ?_ ?_ rfl⟩;{cbv;exact⟨lR,lR,lR,zF om,trivial⟩};{cbv;exact⟨zC (by rw[hp1,hrest,hT'];simp),trivial⟩}
  |cons y pr =>
   (rw[hins] at hT;have hc:=hcmp x y hxz (hZ y vH);have hZ':∀ m,m∈pr->m.c.sz (2^30):=λm hm=>hZ m (w6 _ hm);have hlen:(pr.reverse++y::x::(qr.reverse++rest)).length=l.length:=by simp only[alT53,tN,fH] at hL ⊢;omega);have earr:(y::pr).reverse++x::(qr.reverse++rest)=pr.reverse++y::x::(qr.reverse++rest):=by simp
   (have hgj:(pr.reverse++y::x::(qr.reverse++rest))[pr.length+1]?=some x:=by rw[dB (by simp)];simp[show pr.length+1-pr.length=1 by omega]);have hgj1:(pr.reverse++y::x::(qr.reverse++rest))[pr.length]?=some y:=by rw[dB (by simp)];simp
   have hset:((pr.reverse++y::x::(qr.reverse++rest)).set (pr.length+1) y).set pr.length x=pr.reverse++x::((qr++[y]).reverse++rest):=by have:=DC pr.reverse (qr.reverse++rest) x y;rw[tN] at this;rw[this];simp
   (rw[fH] at hL;simp only[earr,fH];generalize hA:pr.reverse++y::x::(qr.reverse++rest)=arr at *;generalize wX x.c.q y.c.q=cr at *;cbv;refine zP 17 (by cbv) ?_;cbv;refine wU (by exact om) ?_;cbv;refine⟨z9 om om,?_⟩;cbv;refine sW (l:=arr) (pr.length+1) om oM w5 x6 (λt ht=>?_);obtain rfl:x=t:=by rw[hgj] at ht;exact qP ht);cbv
   (refine⟨zE om om,z9 om om,?_⟩;cbv;refine sW (l:=arr) pr.length om oM w5 x6 (λt' ht'=>?_);obtain rfl:y=t':=by rw[hgj1] at ht';exact qP ht');cbv
   refine dA hc ?_;cbv;refine zG (λe1=>?_) (λe1=>?_)
   ·(rw[if_pos e1] at hT;cbv;refine YQ 17 15 (by cbv) (by cbv) ?_;cbv;refine⟨zE om om,zE om om,z9 om om,?_⟩;cbv;refine sW (l:=arr) pr.length om oM w5 x6 (λt' ht'=>?_);obtain rfl:y=t':=by rw[hgj1] at ht';exact qP ht');cbv
    (refine⟨z9 om om,?_⟩;cbv;refine sW (l:=arr) (pr.length+1) om oM w5 x6 (λt ht=>?_);obtain rfl:x=t:=by rw[hgj] at ht;exact qP ht);cbv
    refine⟨z9 om om,?_⟩;cbv;refine sW (l:=arr) (pr.length+1) om oM w5 x6 (λt0 ht0=>?_);cbv;refine⟨z9 om om,Gy (p:=mc) (arr.set (pr.length+1) y) ?_ pr.length om (by rw[dV];omega) w5 x6 (λt1 ht1=>?_)⟩;{show (enc mc arr).set (0+((pr.length+1:Nat):Int).toNat) (y7 (mc y))=_;rw[aM];congr 2;omega};cbv;refine⟨zE om om,(pr,qr++[y]),⟨by simp;omega,by rw[hT];simp,hZ'⟩,by simp,.le ?_ ?_ rfl⟩;{cbv;exact⟨lR,lR,lR,lR,zF om,trivial⟩};{cbv;refine⟨zC ?_,trivial⟩;show ((enc mc arr).set (0+((pr.length+1:Nat):Int).toNat) (y7 (mc y))).set (0+(((pr.length+1:Nat):Int)-1).toNat) (y7 (mc x))=_;rw[aM,aM,<-hset];congr 3 <;> omega}
   {rw[if_neg e1] at hT;cbv;refine⟨zE om om,i+1,⟨om,om⟩,om,.le ?_ ?_ rfl⟩;{cbv;exact⟨lR,lR,lR,zF om,trivial⟩};{cbv;exact⟨zC (by rw[hp1,hrest,hT,<-hA];simp),trivial⟩}}
 ·(have hi':i=l.length:=by exact om);subst hi'
  cbv;refine Xt (.le (ps':=⟨[],[(1000000,zW 7 (enc mc R.reverse))]⟩) ?_ ?_ rfl) rfl trivial rfl rfl rfl rfl;{trivial};{cbv;exact⟨zC (by rw[hN];simp),trivial⟩}
theorem Pu (l:List Mult)(hl:l.length<=20):Sound 153 [zT 1000000 7 l.length,iV l.length,iV l.length,.fn 44 []] (vob 1000000 l) [] (.tup []) (vob 1000000 l) []:=by refine xB Gq rfl rfl rfl rfl rfl ?_;dsimp only [vob];generalize enc mc l=XS at *;cbv;refine⟨zE om om,?_⟩;cbv;refine zY (σ:=Unit) (λ_=>⟨[(2,iV l.length),(8,iV ((l.length:Int)+1))],[(1000000,zW 7 XS)]⟩) (λ_=>True) (λ_=>0) () trivial (wkZ) ?_;intro _ _;cbv;refine yA om ?_;cbv;exact tT rfl trivial rfl rfl rfl rfl
theorem Pp (l:List Mult)(hl:l.length<=20)(hz:∀ m,m∈l->m.c.sz (2^30)):Sound 96 [zT 1000000 7 l.length,iV l.length,.fn 44 []] (vob 1000000 l) [] (.tup []) (vob 1000000 (isW l).reverse) []:=by
 have ci:=Pt l hl hz;have hel:(isW l).reverse.length=l.length:=by rw[tN,YK]
 have ce:=Pu (isW l).reverse (by rw[hel];exact hl);rw[hel] at ce;refine xB C2 rfl rfl rfl rfl rfl ?_;generalize (isW l).reverse=R at *;dsimp only [vob] at *;have hRl:(enc mc R).length=l.length:=by rw[zB,hel]
 generalize enc mc l=XS at *;generalize enc mc R=YS at *;clear hz;cbv;by_cases h20:l.length=20
 ·refine zY (σ:=Bool) (λb=>match b with
   |false=>⟨[(0,zT 1000000 7 l.length),(1,iV l.length),(2,.fn 44 []),(6,iV 20),(7,iV 0),(8,iV 20)],[(1000000,zW 7 XS)]⟩| true=>⟨[(0,zT 1000000 7 l.length),(1,iV l.length),(2,.fn 44 []),(6,iV 20),(7,iV l.length),(8,iV 40)],[(1000000,zW 7 YS)]⟩) (λ_=>True) (λb=>match b with|false=>1|true=>0) false trivial (wkZ) ?_
  intro b _;cases b with
  |false =>
   cbv;refine xD om ?_;cbv;refine kB id (.refl _) rfl (by exact⟨lR,lR,zF om,⟨rfl,trivial⟩,trivial⟩) ci ?_;cbv;exact⟨zE om om,true,trivial,by decide,.le (by cbv;repeat' first|exact trivial|exact lR|exact zF om|(exact⟨rfl,trivial⟩)|apply And.intro) okZ rfl⟩
  |true =>
   cbv;refine yA om ?_;cbv;refine kB id (.refl _) rfl (by exact⟨lR,lR,lR,⟨rfl,trivial⟩,trivial⟩) ce ?_;cbv;refine zY (σ:=Unit) (λ_=>⟨[(1,iV l.length),(6,iV 20)],[(1000000,zW 7 YS)]⟩) (λ_=>True) (λ_=>0) () trivial (wkZ) ?_;intro _ _;cbv;refine yA om ?_;cbv;exact tT rfl trivial rfl rfl rfl rfl
 refine zY (σ:=Unit) (λ_=>⟨[(0,zT 1000000 7 l.length),(1,iV l.length),(2,.fn 44 []),(6,iV 20),(7,iV 0),(8,iV 20)],[(1000000,zW 7 XS)]⟩) (λ_=>True) (λ_=>0) () trivial (wkZ) ?_;intro _ _;cbv;refine yA om ?_;cbv;refine kB id (.refl _) rfl (by exact⟨lR,lR,lR,⟨rfl,trivial⟩,trivial⟩) ci ?_;cbv;refine zY (σ:=Unit) (λ_=>⟨[(1,iV l.length),(6,iV 20)],[(1000000,zW 7 YS)]⟩) (λ_=>True) (λ_=>0) () trivial (wkZ) ?_;intro _ _;cbv;refine yA om ?_;cbv;exact tT rfl trivial rfl rfl rfl rfl
theorem Pr (l:List Mult)(hl:l.length<=20)(hz:∀ m,m∈l->m.c.sz (2^30)):GS l (isW l).reverse:=by have ci:=Pp l hl hz;refine xB C3 rfl rfl rfl rfl rfl ?_;dsimp only [vob] at *;generalize enc mc (isW l).reverse=YS at *;generalize enc mc l=XS at *;cbv;refine kB id (.refl _) rfl (by exact⟨lR,lR,⟨rfl,trivial⟩,trivial⟩) ci ?_;cbv;exact tT rfl trivial rfl rfl rfl rfl
theorem GD {a b:Rat}:wX a b<0↔a<b:=by unfold wX;split <;> (try split) <;> constructor <;> intro _ <;> first|assumption|omega|(exfalso;omega)|grind
theorem GE {a b:Rat}:wX a b<=0↔a<=b:=by unfold wX;split <;> (try split) <;> constructor <;> intro _ <;> first|omega|(exfalso;omega)|grind
theorem Q4 {q:Rat}:0<yG q↔0<q:=by grind [yG]
theorem Xg {q:Rat}:yG q<0↔q<0:=by grind [yG]
def Yu (x:Mult):List Mult->List Mult
 |[]=>[x]| y::r=>if wX y.c.q x.c.q<=0 then y::Yu x r else x::y::r
def bI (l:List Mult):List Mult:=l.foldl (λa x=>Yu x a) []
abbrev Jz (l:List Mult):Prop:=l.Pairwise λa b=>b.c.q<=a.c.q
theorem iP {x:Mult}:∀ {l:List Mult},Jz l->∃ A B,l=A++B/\p8 x l=A++x::B/\(∀ y,y∈A->x.c.q<y.c.q)/\(∀ y,y∈B->y.c.q<=x.c.q)
 |[],_=>⟨[],[],rfl,rfl,λy h=>absurd h (by simp),λy h=>absurd h (by simp)⟩| y::r,h=>by
  obtain⟨h1,h2⟩:=W4.1 h;unfold p8;split;{rename_i hc;obtain⟨A,B,e1,e2,g1,g2⟩:=iP h2;refine⟨y::A,B,by rw[e1];rfl,by rw[e2];rfl,λz hz=>?_,g2⟩;rcases yS.1 hz with w|w;{rw[w];exact GD.1 hc};{exact g1 z w}}
  ·(rename_i hc;have hyx:y.c.q<=x.c.q:=by have:¬x.c.q<y.c.q:=λw=>hc (GD.2 w);grind);refine⟨[],y::r,rfl,rfl,λz hz=>absurd hz (by simp),λz hz=>?_⟩;rcases yS.1 hz with w|w;{rw[w];exact hyx}
   {have:=h1 z w;grind}
theorem FA {x:Mult}{l:List Mult}(h:Jz l):Jz (p8 x l):=by obtain⟨A,B,e1,e2,g1,g2⟩:=iP (x:=x) h;rw[e2];rw[e1] at h;obtain⟨p1,p2,p3⟩:=List.pairwise_append.1 h;refine List.pairwise_append.2 ⟨p1,W4.2 ⟨g2,p2⟩,λa ha b hb=>?_⟩;rcases yS.1 hb with w|w;{rw[w];have:=g1 a ha;grind};{exact p3 a ha b w}
theorem H3 {x:Mult}:∀ {A B:List Mult},(∀ y,y∈A->y.c.q<=x.c.q)->(∀ y,y∈B->x.c.q<y.c.q)->Yu x (A++B)=A++x::B
 |[],[],_,_=>rfl| [],b::B,_,h=>by show (if wX b.c.q x.c.q<=0 then _ else _)=_;rw[if_neg (λw=>by have:=GE.1 w;have:=h b vH;grind)];rfl
 |a::A,B,h1,h2=>by show (if wX a.c.q x.c.q<=0 then a::Yu x (A++B) else _)=_;rw[if_pos (GE.2 (h1 a vH)),H3 (λy hy=>h1 y (w6 _ hy)) h2];rfl
theorem Co {x:Mult}{l:List Mult}(h:Jz l):(p8 x l).reverse=Yu x l.reverse:=by obtain⟨A,B,e1,e2,g1,g2⟩:=iP (x:=x) h;rw[e2,e1,List.reverse_append,List.reverse_append,List.reverse_cons,H3 (λy hy=>g2 y (List.mem_reverse.1 hy)) (λy hy=>g1 y (List.mem_reverse.1 hy)),Zh];rfl
theorem U5 (l:List Mult):(isW l).reverse=bI l:=by
 have:∀ (l a:List Mult),Jz a->(l.foldl (λa x=>p8 x a) a).reverse=l.foldl (λa x=>Yu x a) a.reverse:=by
  intro l;induction l with
  |nil=>intro a _;rfl
  |cons x r ih=>intro a h;rw[F2,F2,ih _ (FA h),Co h]
 exact this l [] List.Pairwise.nil
theorem J4 (l:List Mult)(x:Mult):bI (l++[x])=Yu x (bI l):=by unfold bI;rw[HB];rfl
theorem VH (l:List Mult):(bI l).length=l.length:=by rw[<-U5,tN,YK]
theorem H4 {x:Mult}:∀ {A:List Mult} {k:Nat},k<=A.length->(∀ j y,j<k->A[j]?=some y->wX y.c.q x.c.q<=0)->(∀ y,A[k]?=some y->¬wX y.c.q x.c.q<=0)->Yu x A=A.take k++x::A.drop k
 |[],k,hk,_,_=>by
  (have:k=0:=by simpa using hk);subst this
  rfl
 |a::A,0,_,_,h=>by show (if wX a.c.q x.c.q<=0 then _ else _)=_;rw[if_neg (h a rfl)];rfl
 |a::A,k+1,hk,h1,h2=>by show (if wX a.c.q x.c.q<=0 then a::Yu x A else _)=_;rw[if_pos (h1 0 a (Nat.succ_pos k) rfl),H4 (k:=k) (by simpa using hk) (λj y hj hy=>h1 (j+1) y (Nat.succ_lt_succ hj) hy) (λy hy=>h2 y hy)];rfl
theorem t6 (val:Row->Rat)(A B:List Row):qG val (A++B)=qG val A++qG val B:=ZY
def cN (val:Row->Rat) (r:Row):Nat:=if val r<0 then 1 else 0
theorem nG (val:Row->Rat)(r:Row)(L:List Row):(qG val (r::L)).length=cN val r+(qG val L).length:=by unfold qG cN;rw[ZX,alT53];split <;> rfl
theorem Zl (val:Row->Rat)(f:Nat->List Row)(c:Nat):∀ {l:List Nat},(∀ i,i∈l->(qG val (f i)).length<=c)->(qG val (l.flatMap f)).length<=c*l.length
 |[],_=>xO _| i::l,h=>by rw[ZX,t6,alT53,fH];have h1:=h i vH;have h2:=Zl val f c (l:=l) (λj hj=>h j (w6 _ hj));rw[Z1];omega
theorem BO (val:Row->Rat)(r:Row):cN val r<=1:=by unfold cN;split <;> decide
theorem cW {val:Row->Rat}{r:Row}(h:cN val r=1):val r<0:=by unfold cN at h;split at h;{assumption};{cases h}
def dC (s:Scp) (X:Int->Rat) (r:Row):Rat:=((s.fm r).getD F.zero).at X
section
variable {s:Scp} {x:FQry} {X:Int->Rat}
theorem Be (hv:s.q.valid=true){r:Row}(h1:1<=r.k)(h2:r.k<=4):s.fm r=s.fIn r:=by unfold Scp.fm;rw[if_neg (by rw[hv];simp;omega),if_pos h2]
theorem RC (hv:s.q.valid=true)(hq:s.q=x.q)(hx:x.small)(i:Nat):cN (dC s X) ⟨1,(i:Int),0,0⟩+cN (dC s X) ⟨2,(i:Int),0,0⟩<=1:=by
 have h1:=BO (dC s X) ⟨1,(i:Int),0,0⟩;have h2:=BO (dC s X) ⟨2,(i:Int),0,0⟩;rcases uG (cN (dC s X) ⟨1,(i:Int),0,0⟩+cN (dC s X) ⟨2,(i:Int),0,0⟩) 2 with w|w;{omega};have n1:=cW (show cN (dC s X) ⟨1,(i:Int),0,0⟩=1 by omega);have n2:=cW (show cN (dC s X) ⟨2,(i:Int),0,0⟩=1 by omega);exfalso;have hlo:s.q.r.lo=x.r.bs.map λb=>zK b.1:=by rw[hq];rfl
 have hhi:s.q.r.hi=x.r.bs.map λb=>zK b.2:=by rw[hq];rfl
 have z:F.zero.at X=0:=Qv X;unfold dC at n1 n2;rw[Be hv (by show (1:Int)<=1;decide) (by show (1:Int)<=4;decide)] at n1;rw[Be hv (by show (1:Int)<=2;decide) (by show (2:Int)<=4;decide)] at n2;unfold Scp.fIn at n1 n2;have hp1:(⟨1,(i:Int),0,0⟩:Row).plain=true/\(0:Int)<=i:=⟨rfl,by omega⟩;have hp2:(⟨2,(i:Int),0,0⟩:Row).plain=true/\(0:Int)<=i:=⟨rfl,by omega⟩;rw[if_pos hp1,if_pos rfl] at n1;rw[if_pos hp2,if_neg (by show ¬(2:Int)=1;decide),if_pos rfl] at n2;simp only[uF,hlo,hhi,jJ] at n1 n2;cases hb:x.r.bs[i]? with
 |none=>rw[hb] at n1;simp only[Option.map_none,Option.getD_none,z] at n1;grind| some b =>
  rw[hb] at n1 n2;simp only[Option.map_some,Jr,i3,ZV,Qw,yD] at n1 n2;have:=hx.r.ord b (yE hb);grind
structure ValU (V:Row->Rat) (j:Int) (p z:Rat) (L U:Int->Rat):Prop where
 v5:V ⟨5,j,0,0⟩=z\/V ⟨5,j,0,0⟩=0
 v6:V ⟨6,j,0,0⟩=z-p\/V ⟨6,j,0,0⟩=0
 v7:∀ b,V ⟨7,j,b,0⟩=p\/V ⟨7,j,b,0⟩=0
 v8:∀ b,V ⟨8,j,b,0⟩=p-z\/V ⟨8,j,b,0⟩=0
 v9:∀ b,V ⟨9,j,0,b⟩=-p\/V ⟨9,j,0,b⟩=0
 v10:∀ b,V ⟨10,j,0,b⟩=-z\/V ⟨10,j,0,b⟩=0
 v11:∀ b,V ⟨11,j,b,0⟩=p-L b\/V ⟨11,j,b,0⟩=0
 v12:∀ b,V ⟨12,j,0,b⟩=U b-p\/V ⟨12,j,0,b⟩=0
 v13:∀ a b,(L a<0/\0<U b/\V ⟨13,j,a,b⟩=(p-L a)*U b-z*(U b-L a))\/V ⟨13,j,a,b⟩=0
theorem RB (hv:s.q.valid=true){j:Nat}{p:A}(hp:s.q.g.us[j]?=some p):ValU (dC s X) j (p.f.at X) (X (s.q.g.n+j)) (λb=>(s.lem b j false).getD 0) (λb=>(s.lem b j true).getD 0):=by
 have hj:=(w8.1 hp).1;have hz:F.zero.at X=0:=Qv X;have key:∀ r:Row,r.i=j->5<=r.k->r.k<14->dC s X r=((unF s r p.f (F.var (s.q.g.n+r.i)) (s.lem r.lo r.i false) (s.lem r.hi r.i true)).getD F.zero).at X:=λr h1 h2 h3=>by unfold dC Scp.fm;rw[if_neg (by rw[hv];simp;omega),if_neg oM];unfold Scp.fUn;rw[if_pos oM,h1,uF,hp]
 have fin:∀ (c:Prop) [Decidable c] (f:F) (v:Rat),f.at X=v->((if c then some f else none:Option F).getD F.zero).at X=v\/((if c then some f else none:Option F).getD F.zero).at X=0:=λc _ f v h=>by split;{exact .inl h};{exact .inr hz}
 constructor;{rw[key _ rfl (by show (5:Int)<=5;decide) (by show (5:Int)<14;decide)];exact fin _ _ _ (ZV _ _)};{rw[key _ rfl (by show (5:Int)<=6;decide) (by show (6:Int)<14;decide)];exact fin ((⟨6,(j:Int),0,0⟩:Row).plain=true) ((F.var (s.q.g.n+j)).sub p.f) _ (by rw[i3,ZV])};{intro b;rw[key _ rfl (by show (5:Int)<=7;decide) (by show (7:Int)<14;decide)];exact fin _ _ _ (by rw[TV,hz];grind)};{intro b;rw[key _ rfl (by show (5:Int)<=8;decide) (by show (8:Int)<14;decide)];exact fin _ _ _ ((i3 _ _ _).trans (by rw[ZV]))};{intro b;rw[key _ rfl (by show (5:Int)<=9;decide) (by show (9:Int)<14;decide)];exact fin _ _ _ (by rw[Zd];grind)};{intro b;rw[key _ rfl (by show (5:Int)<=10;decide) (by show (10:Int)<14;decide)];exact fin _ _ _ (by rw[Zd,ZV];grind)};{intro b;rw[key _ rfl (by show (5:Int)<=11;decide) (by show (11:Int)<14;decide)];exact fin _ _ _ (by rw[i3,Qw])};{intro b;rw[key _ rfl (by show (5:Int)<=12;decide) (by show (12:Int)<14;decide)];exact fin _ _ _ (by rw[i3,Qw])};{intro a b;rw[key _ rfl (by show (5:Int)<=13;decide) (by show (13:Int)<14;decide)];show (_/\_/\((if _ then _ else none:Option F).getD F.zero).at X=_)\/((if _ then _ else none:Option F).getD F.zero).at X=0;split;{rename_i h;exact .inl ⟨Xg.1 h.2.2.1,Q4.1 h.2.2.2,by rw[Jr,i3,Zd,Zd,i3,Qw,ZV]⟩};{exact .inr hz}}
theorem NE {p z l u:Rat}(hl:l<0)(hu:0<u)(h1:z<0)(h2:z-p<0)(h3:(p-l)*u-z*(u-l)<0):False:=by
 have a1:z*(u-l)<0:=by have:0<(-z)*(u-l):=Rat.mul_pos (by grind) (by grind);grind
 have a2:p<l:=by rcases Rat.le_total (a:=l) (b:=p) with w|w;{have:0<=(p-l)*u:=T7 (by grind) (by grind);grind};{by_cases e:p=l;{subst e;grind};{grind}}
 have a3:0<(p-z)*(u-l):=Rat.mul_pos (by grind) (by grind);have a4:0<(-l)*(u-p):=Rat.mul_pos (by grind) (by grind);grind
theorem Me (hv:s.q.valid=true){j:Nat}{p:A}(hp:s.q.g.us[j]?=some p){a b:Int}{f:F}(h:s.fm ⟨13,j,a,b⟩=some f):(s.lem a j false).getD 0<0/\0<(s.lem b j true).getD 0:=by have hj:=(w8.1 hp).1;unfold Scp.fm at h;rw[if_neg (by rw[hv];simp),if_neg (by show ¬(13:Int)<=4;decide)] at h;unfold Scp.fUn at h;rw[if_pos (by show (0:Int)<=j/\(j:Int)<_;omega)] at h;simp only[uF,hp] at h;have h:(if (s.lem a j false).isSome=true/\(s.lem b j true).isSome=true/\yG ((s.lem a j false).getD 0)<0/\0<yG ((s.lem b j true).getD 0) then some (((p.f.sub (F.num ((s.lem a j false).getD 0))).scale ((s.lem b j true).getD 0)).sub ((F.var (s.q.g.n+j)).scale ((s.lem b j true).getD 0-(s.lem a j false).getD 0))) else none:Option F)=some f:=h;split at h;{rename_i hc;exact⟨Xg.1 hc.2.2.1,Q4.1 hc.2.2.2⟩};{cases h}
theorem Fl (hv:s.q.valid=true){j:Nat}(hj:j<s.q.g.us.length){r:Row}(h:r∈s.rowsU j):r∈s.all:=by unfold Scp.all;rw[if_neg (by rw[hv];decide)];exact wZ.2 (.inr (W0.2 ⟨j,sZ.2 hj,h⟩))
theorem Un {a b:Nat}(ha:a<=1)(hb:b<=1)(h:a=1->b=1->False):a+b<=1:=by rcases uG (a+b) 2 with w|w;{omega};{exact (h oM oM).elim}
theorem Ds {a b c:Nat}(ha:a<=1)(hb:b<=1)(hc:c<=1)(h:a=1->b=1->c=1->False):a+b+c<=2:=by rcases uG (a+b+c) 3 with w|w;{omega};{exact (h oM oM oM).elim}
theorem rR {V v:Rat}(h:V=v\/V=0)(hn:V<0):v<0:=by rcases h with h|h <;> grind
theorem F9 (hq:s.q=x.q)(hx:x.small)(hok:x.ok){j:Nat}(hj:j<s.q.g.us.length):(qG (dC s X) (s.rowsU j)).length<=3:=by
 have hv:s.q.valid=true:=by rw[hq];exact hx.valid hok
 obtain⟨p,hp⟩:=yB hj;have VU:=RB (X:=X) hv hp;have h13:⟨13,(j:Int),((s.best j).1:Int),((s.best j).2:Int)⟩∈s.rowsU j->(s.lem ((s.best j).1:Int) j false).getD 0<0/\0<(s.lem ((s.best j).2:Int) j true).getD 0:=λh=>by obtain⟨f,hf⟩:=B6 hq hx hok _ (Fl hv hj h);exact Me hv hp hf
 have hc:=BO (dC s X);unfold Scp.rowsU at h13 ⊢;by_cases h1:s.onU j=true;{rw[if_pos h1,if_pos (Or.inl h1),vM];by_cases h2:s.offU j=true;{rw[if_pos h2];unfold Scp.rowsOn Scp.rowsOff;generalize (if s.dcd 1 j=true then (0:Int) else ((s.best j).1:Int))=b1;generalize (if s.dcd 2 j=true then (0:Int) else ((s.best j).2:Int))=b2;show (qG (dC s X) [⟨6,j,0,0⟩,⟨7,j,b1,0⟩,⟨8,j,b1,0⟩,⟨5,j,0,0⟩,⟨9,j,0,b2⟩,⟨10,j,0,b2⟩]).length<=3;simp only[nG];have e0:(qG (dC s X) []).length=0:=rfl;have k1:=Un (hc ⟨6,j,0,0⟩) (hc ⟨8,j,b1,0⟩) (λa b=>by have:=rR VU.v6 (cW a);have:=rR (VU.v8 b1) (cW b);grind);have k2:=Un (hc ⟨7,j,b1,0⟩) (hc ⟨9,j,0,b2⟩) (λa b=>by have:=rR (VU.v7 b1) (cW a);have:=rR (VU.v9 b2) (cW b);grind);have k3:=Un (hc ⟨5,j,0,0⟩) (hc ⟨10,j,0,b2⟩) (λa b=>by have:=rR VU.v5 (cW a);have:=rR (VU.v10 b2) (cW b);grind);omega};{rw[if_neg h2,vM];exact vF (gD _ _) (yQ 3)}}
 ·by_cases h2:s.offU j=true;{rw[if_neg h1,if_pos h2,if_pos (Or.inr h2),vM];exact vF (gD _ _) (yQ 3)}
  ·have h3:¬(s.onU j=true\/s.offU j=true):=λw=>w.elim h1 h2;rw[if_neg h1,if_neg h2,if_neg h3] at h13 ⊢;unfold Scp.rowsOpen at h13 ⊢;by_cases g1:0<(s.best j).1
   ·by_cases g2:0<(s.best j).2
    ·rw[if_pos g1,if_pos g2,if_pos ⟨g1,g2⟩] at h13 ⊢;obtain⟨l0,u0⟩:=h13 (by simp);show (qG (dC s X) [⟨5,j,0,0⟩,⟨6,j,0,0⟩,⟨11,j,((s.best j).1:Int),0⟩,⟨12,j,0,((s.best j).2:Int)⟩,⟨13,j,((s.best j).1:Int),((s.best j).2:Int)⟩]).length<=3;simp only[nG];have e0:(qG (dC s X) []).length=0:=rfl;generalize ((s.best j).1:Int)=b1 at *;generalize ((s.best j).2:Int)=b2 at *;have k1:=Un (hc ⟨11,j,b1,0⟩) (hc ⟨12,j,0,b2⟩) (λa b=>by have:=rR (VU.v11 b1) (cW a);have:=rR (VU.v12 b2) (cW b);grind);have k2:=Ds (hc ⟨5,j,0,0⟩) (hc ⟨6,j,0,0⟩) (hc ⟨13,j,b1,b2⟩) (λa b c=>by
      have w1:=rR VU.v5 (cW a);have w2:=rR VU.v6 (cW b);have w3:=cW c;rcases VU.v13 b1 b2 with⟨q1,q2,q3⟩|q;{rw[q3] at w3;exact NE q1 q2 w1 w2 w3}
      ·rw[q] at w3;exact absurd w3 (by decide))
     omega
    {rw[if_pos g1,if_neg g2,if_neg (λw:0<(s.best j).1/\0<(s.best j).2=>g2 w.2)];exact vF (gD _ _) (yQ 3)}
   {rw[if_neg g1,if_neg (λw:0<(s.best j).1/\0<(s.best j).2=>g1 w.1)];refine vF (gD _ _) ?_;split;{exact yQ 3};{exact Nat.le_succ 2}}
theorem RA (hq:s.q=x.q)(hx:x.small)(hok:x.ok)(hp:s.path.length<=3):(qG (dC s X) s.all).length<=20:=by
 have hv:s.q.valid=true:=by rw[hq];exact hx.valid hok
 have n2:=hx.g.n2;have u4:=hx.g.us;have r2:=hx.r.rows;have e1:s.q.g.n.toNat=x.g.n:=by rw[hq];show ((x.g.n:Nat):Int).toNat=_;omega
 have e2:s.q.r.rows.length=x.r.rows.length:=by rw[hq];show (x.r.rows.map fA).length=_;rw[yH]
 have e3:s.q.g.us.length=x.g.us.length:=by rw[hq];show (x.g.us.map fA).length=_;rw[yH]
 unfold Scp.all;rw[if_neg (by rw[hv];decide),t6,t6,t6,alT53,alT53,alT53];have k1:=Zl (dC s X) (λi:Nat=>[(⟨1,(i:Int),0,0⟩:Row),⟨2,(i:Int),0,0⟩]) 1 (l:=List.range s.q.g.n.toNat) (λi _=>by rw[nG,nG];exact RC hv hq hx i);have k2:=gD (dC s X) ((List.range s.q.r.rows.length).map λi:Nat=>(⟨3,(i:Int),0,0⟩:Row));have k3:=gD (dC s X) (((List.range s.path.length).filter λi:Nat=>(s.fm ⟨4,(i:Int),0,0⟩).isSome).map λi:Nat=>(⟨4,(i:Int),0,0⟩:Row));have k4:=Zl (dC s X) (λj:Nat=>s.rowsU (j:Int)) 3 (l:=List.range s.q.g.us.length) (λj hj=>F9 hq hx hok (sZ.1 hj));have k5:=List.length_filter_le (λi:Nat=>(s.fm ⟨4,(i:Int),0,0⟩).isSome) (List.range s.path.length);rw[ZW] at k1 k4 k5;rw[yH,ZW] at k2;rw[yH] at k3;omega
end
end Go.Proofs.YtboocdbmnfjomaaGreat
