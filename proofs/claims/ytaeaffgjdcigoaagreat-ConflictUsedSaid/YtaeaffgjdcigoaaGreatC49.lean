/- A part of the proof: KcW, KsA, KsB, KsC. -/
import Derived.Test.YtaeaffgjdcigoaaGreatC39
import Derived.Test.YtaeaffgjdcigoaaGreatC42
import Derived.Test.YtaeaffgjdcigoaaGreatC38
import Derived.Test.YtaeaffgjdcigoaaGreatC28
import Derived.Test.YtaeaffgjdcigoaaGreatC32
import Derived.Test.YtaeaffgjdcigoaaGreatC33
import Derived.Test.YtaeaffgjdcigoaaGreatC37
import Derived.Test.YtaeaffgjdcigoaaGreatC26
import Derived.Test.YtaeaffgjdcigoaaGreatC44
import Derived.Test.YtaeaffgjdcigoaaGreatC16
set_option linter.all false
namespace Go.Proofs.YtaeaffgjdcigoaaGreat
open Go
set_option maxRecDepth 100000
set_option maxHeartbeats 4000000
theorem sKdv (raw:List UInt8)(hr:raw.length<2^38):zE 43 [u8v raw] (sv (dvd raw)):=by
 refine sF Tryz.f43 ?_;have c1:=sKex raw hr;have c2:=fun k=>sKru (rA raw) (zNE raw) (by decide) (by decide) k;have he:dvd raw=if xC raw%5<3 then (ext raw).run (xC raw%5) else ext raw:=rfl
 have hle:=zAC raw;have hst:=fun i w h=>n8 (raw:=raw) (i:=i) (w:=w) h;obtain⟨E,hE⟩:∃ E,dvd raw=E:=⟨_,rfl⟩;rw[hE] at he ⊢;obtain⟨RN,hRN⟩:∃ RN:Nat->Scp,∀ k,RN k=(ext raw).run k:=⟨_,fun _=>rfl⟩;simp only[<-hRN] at c2 he;clear hRN hE;generalize ext raw=X at *
 have hfull:raw.take raw.length=raw:=v9;obtain⟨S,hS⟩:∃ S:Nat->Nat,∀ i,S i=xC (raw.take i):=⟨_,fun _=>rfl⟩;have hS0:S 0=0:=by rw[hS];rfl
 have hSl:xC raw=S raw.length:=by rw[hS,hfull]
 rw[hSl] at he;simp only[<-hS] at hle hst;clear hS hSl hfull;dsimp only [sv] at *
 cbv;refine cA c1 ?_;cbv;refine z3 (σ:=Nat) (fun i=>⟨[(0,u8v raw),(2,.ptr 2 0),(3,.ptr 3 0),(4,.int .i64 (fun _=>(S i:Int))),(5,.int .i64 (fun _=>(i:Int)))],
   [(2,.box [.int .i64 (fun _=>0),.nil,.nil,.nil,.nil,.nil,.nil,.ff,.nil,.nil,.nil,.nil]),(3,.box (sc X))]⟩)
  (fun i=>i<=raw.length) (fun i=>raw.length-i) 0 (xD _) (.le (by cbv;repeat' first|exact trivial|exact lR|exact zC (by rw[hS0];rfl)|exact zC om|apply And.intro) okZ rfl) ?_
 intro i hi;cbv;refine zG (fun h=>?_) (fun h=>?_)
 ·(have hlt:i<raw.length:=by rw[zA] at h;(try dsimp only [zF] at *);omega);obtain⟨w,hw⟩:=zT hlt
  have e:=hst i w hw;have e2:=hle i;have e3:=hle (i+1);have hw8:=w.toNat_lt;have e4:=zT5 w;clear hst hle c1 c2 he;cbv;refine yX hw eK eJ ?_;cbv;exact⟨zD (by rw[e4];(try dsimp only [zF] at *);omega) (by rw[e4];(try dsimp only [zF] at *);omega),zD om om,i+1,(show i+1<=_ by omega),(show raw.length-(i+1)<raw.length-i by omega),.le (by cbv;repeat' first|exact trivial|exact lR|exact zC (by rw[e4,e];(try dsimp only [zF] at *);omega)|exact zC om|apply And.intro) okZ rfl⟩
 ·(have hi':i=raw.length:=by rw[zA] at h;(try dsimp only [zF] at *);omega);subst hi'
  have hm:irem ((S raw.length:Nat):Int) 5=((S raw.length%5:Nat):Int):=uN (b:=5);clear hst hle;generalize S raw.length=M at *
  have c2':=c2 (M%5);clear c2;cbv;refine⟨uA om,?_⟩;cbv;refine zG (fun g=>?_) (fun g=>?_)
  ·rw[if_pos om] at he;subst he;cbv;refine⟨uA om,?_⟩;cbv;refine yP rfl (by exact⟨zC hm,okA,lR,trivial⟩) c2' rfl ?_;cbv
   (refine rC ?_;cbv)
   exact okA
  ·rw[if_neg om] at he;subst he;cbv
   (refine rC ?_;cbv)
   exact okA
theorem zSH:ty 63=.sli 2 16 [.int .i64 (fun _=>0),.ff]:=by cbv
theorem sMkC (a b:vR):zE 143 [.agg (ltc a),.agg (ltc b)] (.int .i64 (fun _=>cI a.1 b.1)):=by
 refine sF Tryz.f143 ?_;have c:=zL9 a.1 b.1;generalize cI a.1 b.1=r at *
 cbv;refine cA c ?_;cbv
 (refine rC ?_;cbv)
 exact lR
abbrev lao (n:Nat) (l:List vR):List (Nat×Obj'):=[(n,.arr 2 (fun _=>enc ltc l))]
theorem sClL (l:List vR)(hl:l.length<2^38):Sound 141 [lE l] [] [] (.osl 100 2 (fun _=>0) (fun _=>l.length)) [] (lao 100 l):=by
 refine sF Tryz.f141 ?_;cbv;refine⟨fun b hb=>?_⟩;cbv;refine zP (fun h=>?_) (fun h=>?_)
 ·(have hb':=hb h;have hl0:l=[]:=by have:=congrArg List.length hb';rw[zA] at this;exact kR this);cbv;subst hl0;refine tC (ps':=⟨[(2,.osl 100 2 (fun _=>0) (fun _=>0))],[(100,.arr 2 (fun _=>[]))]⟩) 100 (.trans (.le (ps':=⟨[(2,.nil)],[]⟩) ?_ trivial rfl) (.adoptT (ps:=⟨[(2,.nil)],[]⟩) 100 2 2 rfl rfl)) rfl rfl rfl ?_;{cbv;exact okA};{cbv;exact yC rfl rfl}
 {cbv;refine wE zSH rfl rfl rfl rfl rfl (w6 qC _) (yD om (by simp only[sZ,zA];(try dsimp only [zF] at *);omega)) rfl ?_;cbv;refine tC (ps':=⟨[(2,.osl 7 2 (fun _=>0) (fun _=>l.length))],[(7,.arr 2 (fun _=>enc ltc l))]⟩) 7 (.le ?_ ?_ rfl) rfl rfl rfl ?_;{cbv;exact⟨yC rfl (by simp[zA]),trivial⟩};{cbv;exact⟨zI rfl,trivial⟩};{cbv;exact lR}}
def insC (x:vR):List vR->List vR
 |[]=>[x]| y::r=>if cI x.1 y.1<0 then y::insC x r else x::y::r
def rW (l:List vR):List vR:=l.foldl (fun a x=>insC x a) []
theorem zKA (x:vR):∀ l,(insC x l).length=l.length+1
 |[]=>rfl| y::r=>by unfold insC;split <;> simp[zKA x r]
theorem zPT (l:List vR)(x:vR):rW (l++[x])=insC x (rW l):=by unfold rW;rw[zTS];rfl
theorem zJ7:∀ l,(rW l).length=l.length:=by
 have:∀ (l a:List vR),(l.foldl (fun a x=>insC x a) a).length=a.length+l.length:=by
  intro l;induction l with
  |nil=>intro a;simp| cons x r ih=>intro a;rw[alT8,ih,zKA,kI];omega
 intro l;unfold rW;rw[this];simp
theorem sInC (l:List vR)(hl:l.length<=12):Sound 234 [.osl 1000000 2 (fun _=>0) (fun _=>l.length),.int .i64 (fun _=>0),.int .i64 (fun _=>(l.length:Int)),.fn 143 []] (lao 1000000 l) [] (.tup []) (lao 1000000 (rW l).reverse) []:=by
 refine sF Tryz.f234 ?_;obtain⟨P,hP⟩:∃ P:Nat->List vR,∀ i,P i=rW (l.take i):=⟨_,fun _=>rfl⟩;have hPl:∀ i,i<=l.length->(P i).length=i:=fun i hi=>by rw[hP,zJ7,j5];omega
 have hPs:∀ i x,l[i]?=some x->P (i+1)=insC x (P i):=fun i x hx=>by rw[hP,hP,tF,hx];exact zPT _ _
 have hP1:l≠[]->(P 1).reverse++l.drop 1=l:=fun h=>by
  cases l with
  |nil=>exact absurd rfl h| cons x r=>rw[hP];rfl
 have hPe:rW l=P l.length:=by rw[hP,v9]
 have hP0:l=[]->P l.length=[]:=fun h=>by rw[h,hP];rfl
 rw[hPe];have hins:∀ x y r,insC x (y::r)=if cI x.1 y.1<0 then y::insC x r else x::y::r:=fun _ _ _=>rfl
 have hins0:∀ x,insC x []=[x]:=fun _=>rfl;obtain⟨I,hI⟩:∃ I,insC=I:=⟨_,rfl⟩;rw[hI] at hPs hins hins0;clear hP hI hPe;have hcmp:=sMkC;generalize hN:P l.length=R at *
 by_cases hle:l=[];{have hR:R=[]:=hP0 hle;subst hle hR;clear hPl hPs hP1 hP0 hN hins hins0;cbv;refine⟨zD (by decide) (by decide),?_⟩;refine z3 (σ:=Unit) (fun _=>⟨[(2,.int .i64 (fun _=>0)),(8,.int .i64 (fun _=>1))],[(1000000,.arr 2 (fun _=>[]))]⟩) (fun _=>True) (fun _=>0) () trivial (.le ?_ ?_ rfl) ?_;{cbv;exact⟨zC (by rfl),zC (by rfl),trivial⟩};{cbv;exact⟨zI rfl,trivial⟩};intro _ _;cbv;refine yB (by decide) ?_;cbv;exact lL rfl trivial rfl rfl rfl rfl};have hl1:1<=l.length:=by cases l with
  |nil=>exact absurd rfl hle| cons x r=>simp
 have hP1':=hP1 hle;clear hP1 hP0;cbv;refine⟨zD (by decide) (by decide),?_⟩;refine z3 (σ:=Nat) (fun i=>⟨[(0,.osl 1000000 2 (fun _=>0) (fun _=>l.length)),(1,.int .i64 (fun _=>0)),(2,.int .i64 (fun _=>(l.length:Int))),(3,.fn 143 []),(8,.int .i64 (fun _=>(i:Int)))],[(1000000,.arr 2 (fun _=>enc ltc ((P i).reverse++l.drop i)))]⟩)
  (fun i=>1<=i/\i<=l.length) (fun i=>l.length-i) 1 ⟨om,hl1⟩ (.le ?_ ?_ rfl) ?_
 {cbv;exact⟨lR,lR,lR,zC (by rfl),trivial⟩};{cbv;exact⟨zI (by rw[hP1']),trivial⟩};clear hP1';intro i hi;obtain⟨hi1,hi2⟩:=hi;cbv;refine zG (fun h5=>?_) (fun h5=>?_)
 ·(have hlt:i<l.length:=by (try dsimp only [zF] at *);omega);obtain⟨x,hx⟩:=zT hlt
  have hdr:=zY hx;have hPi:=hPs i x hx;have hPil:=hPl i hi2;have hPil1:=hPl (i+1) hlt;generalize hrest:l.drop (i+1)=rest at *
  (have hrl:rest.length=l.length-(i+1):=by rw[<-hrest,m8]);generalize hp0:P i=p0 at *
  generalize hp1:P (i+1)=p1 at *
  clear hPs hPl;cbv;refine z3 (σ:=List vR×List vR) (fun s=>⟨[(0,.osl 1000000 2 (fun _=>0) (fun _=>l.length)),(1,.int .i64 (fun _=>0)),(2,.int .i64 (fun _=>(l.length:Int))),(3,.fn 143 []),(8,.int .i64 (fun _=>(i:Int))),(9,.int .i64 (fun _=>(s.1.length:Int)))],[(1000000,.arr 2 (fun _=>enc ltc (s.1.reverse++x::(s.2.reverse++rest))))]⟩)
   (fun s=>s.1.length+s.2.length=i/\p1=s.2++I x s.1) (fun s=>s.1.length) (p0,[]) ⟨by simp[hPil],hPi⟩ (.le ?_ ?_ rfl) ?_
  {cbv;exact⟨lR,lR,lR,lR,zC om,trivial⟩};{cbv;exact⟨zI (by rw[hdr];simp),trivial⟩};intro s hs;obtain⟨hL,hT⟩:=hs;generalize s.1=pr at *
  generalize s.2=qr at *
  cases pr with
  |nil =>
   (have hT':p1=qr++[x]:=by rw[hT,hins0]);cbv
   refine zN 17 (by cbv) ?_;cbv;refine z9 (by simp) ?_;cbv;refine⟨zD om om,i+1,⟨om,om⟩,om,.le ?_ ?_ rfl⟩;{cbv;exact⟨lR,lR,lR,zC om,trivial⟩};{cbv;exact⟨zI (by rw[hp1,hrest,hT'];simp),trivial⟩}
  |cons y pr =>
   (rw[hins] at hT;have hc:=hcmp x y;have hlen:(pr.reverse++y::x::(qr.reverse++rest)).length=l.length:=by simp only[qZ,List.length_reverse,kI] at hL ⊢;omega);have earr:(y::pr).reverse++x::(qr.reverse++rest)=pr.reverse++y::x::(qr.reverse++rest):=by simp
   (have hgj:(pr.reverse++y::x::(qr.reverse++rest))[pr.length+1]?=some x:=by rw[tI (by simp)];simp[show pr.length+1-pr.length=1 by omega]);have hgj1:(pr.reverse++y::x::(qr.reverse++rest))[pr.length]?=some y:=by rw[tI (by simp)];simp
   (have hset:((pr.reverse++y::x::(qr.reverse++rest)).set (pr.length+1) y).set pr.length x=pr.reverse++x::((qr++[y]).reverse++rest):=by have:=zVC pr.reverse (qr.reverse++rest) x y;rw[List.length_reverse] at this;rw[this];simp);rw[kI] at hL;simp only[earr,kI];generalize hA:pr.reverse++y::x::(qr.reverse++rest)=arr at *
   generalize cI x.1 y.1=cr at *
   (cbv;refine zN 17 (by cbv) ?_;cbv;refine uZ om ?_;cbv;refine⟨y9 om om,?_⟩;cbv;refine j4 (l:=arr) (pr.length+1) om oM uB qC (fun t ht=>?_);obtain rfl:x=t:=by rw[hgj] at ht;exact vN ht);cbv
   (refine⟨zD om om,y9 om om,?_⟩;cbv;refine j4 (l:=arr) pr.length om oM uB qC (fun t' ht'=>?_);obtain rfl:y=t':=by rw[hgj1] at ht';exact vN ht');cbv
   refine dA hc ?_;cbv;refine zG (fun e1=>?_) (fun e1=>?_)
   ·(rw[if_pos e1] at hT;cbv;refine zV7 17 15 (by cbv) (by cbv) ?_;cbv;refine⟨zD om om,zD om om,y9 om om,?_⟩;cbv;refine j4 (l:=arr) pr.length om oM uB qC (fun t' ht'=>?_);obtain rfl:y=t':=by rw[hgj1] at ht';exact vN ht');cbv
    (refine⟨y9 om om,?_⟩;cbv;refine j4 (l:=arr) (pr.length+1) om oM uB qC (fun t ht=>?_);obtain rfl:x=t:=by rw[hgj] at ht;exact vN ht);cbv
    refine⟨y9 om om,?_⟩;cbv;refine j4 (l:=arr) (pr.length+1) om oM uB qC (fun t0 ht0=>?_);cbv;refine⟨y9 om om,nY (p:=ltc) (arr.set (pr.length+1) y) ?_ pr.length om (by rw[List.length_set];omega) uB qC (fun t1 ht1=>?_)⟩;{show (enc ltc arr).set (0+((pr.length+1:Nat):Int).toNat) (wB (ltc y))=_;rw[pT];congr 2;omega};cbv;refine⟨zD om om,(pr,qr++[y]),⟨by simp;omega,by rw[hT];simp⟩,by simp,.le ?_ ?_ rfl⟩;{cbv;exact⟨lR,lR,lR,lR,zC om,trivial⟩};{cbv;refine⟨zI ?_,trivial⟩;show ((enc ltc arr).set (0+((pr.length+1:Nat):Int).toNat) (wB (ltc y))).set (0+(((pr.length+1:Nat):Int)-1).toNat) (wB (ltc x))=_;rw[pT,pT,<-hset];congr 3 <;> omega}
   {rw[if_neg e1] at hT;cbv;refine⟨zD om om,i+1,⟨om,om⟩,om,.le ?_ ?_ rfl⟩;{cbv;exact⟨lR,lR,lR,zC om,trivial⟩};{cbv;exact⟨zI (by rw[hp1,hrest,hT,<-hA];simp),trivial⟩}}
 ·(have hi':i=l.length:=by (try dsimp only [zF] at *);omega);subst hi'
  cbv;refine zBS (.le (ps':=⟨[],[(1000000,.arr 2 (fun _=>enc ltc R.reverse))]⟩) ?_ ?_ rfl) rfl trivial rfl rfl rfl rfl;{trivial};{cbv;exact⟨zI (by rw[hN];simp),trivial⟩}
theorem zZE:Pg.funcs[222]?=some Tryz.f222:=by rw[uV];rfl
theorem yAE (x:Nat)(hx:x<=255):zE 222 [.int .u64 (fun _=>(x:Int))] (.int .i64 (fun _=>(Lib.bitLen x:Int))):=by refine zA0 zZE rfl rfl fun w=>?_;have:=yAR (x:Int) w oM oM;rw[mW] at this;rw[uV];exact this
theorem sLnU (x:Nat)(hx:x<=255):zE 179 [.int .u64 (fun _=>(x:Int))] (.int .i64 (fun _=>(Lib.bitLen x:Int))):=by
 refine sF Tryz.f179 ?_;have c:=yAE x hx;generalize Lib.bitLen x=r at *
 cbv;refine cA c ?_;cbv
 (refine rC ?_;cbv)
 exact lR
theorem sPdq (l:List vR)(hl:l.length<=12)(lim:Int):Sound 190 [.osl 1000000 2 (fun _=>0) (fun _=>l.length),.int .i64 (fun _=>0),.int .i64 (fun _=>(l.length:Int)),.int .i64 (fun _=>lim),.fn 143 []] (lao 1000000 l) [] (.tup []) (lao 1000000 (rW l).reverse) []:=by
 refine sF Tryz.f190 ?_;have ci:=sInC l hl;generalize (rW l).reverse=R at *
 cbv;refine z3 (σ:=Unit) (fun _=>⟨[(0,.osl 1000000 2 (fun _=>0) (fun _=>l.length)),(1,.int .i64 (fun _=>0)),(2,.int .i64 (fun _=>(l.length:Int))),(3,.int .i64 (fun _=>lim)),(4,.fn 143 []),(10,.tt),(11,.tt)],lao 1000000 l⟩) (fun _=>True) (fun _=>0) () trivial (.le (by cbv;repeat' first|exact trivial|exact lR|apply And.intro) (by cbv;repeat' first|exact trivial|exact zI rfl|apply And.intro) rfl) ?_;intro _ _;cbv;refine⟨zD om om,?_⟩;cbv;refine w7 om ?_;cbv;refine y0 (fun n=>n) (Wk.sel _ [26,27,28,29] [1000000] rfl) rfl (by exact⟨lR,lR,lR,⟨rfl,trivial⟩,trivial⟩) ci ⟨⟨rfl,rfl⟩,trivial⟩ rfl rfl rfl rfl rfl rfl rfl rfl ?_;cbv;exact lL rfl trivial rfl rfl rfl rfl
theorem sSFC (l:List vR)(hl:l.length<=12):Sound 142 [.osl 1000000 2 (fun _=>0) (fun _=>l.length),.fn 143 []] (lao 1000000 l) [] (.tup []) (lao 1000000 (rW l).reverse) []:=by
 refine sF Tryz.f142 ?_;have cl:=sLnU l.length oM;have ci:=sPdq l hl (Lib.bitLen l.length);generalize (rW l).reverse=R at *
 generalize Lib.bitLen l.length=r at *
 have hn:nx .u64 (l.length:Int)=(l.length:Int):=by unfold nx;simp[IntKind.wrap,IntKind.signed,IntKind.bits];omega
 cbv;refine yP rfl (by exact⟨zC hn,trivial⟩) cl rfl ?_;cbv;refine y0 (fun n=>n) (Wk.sel _ [7,8,11,12] [1000000] rfl) rfl (by exact⟨lR,lR,lR,lR,⟨rfl,trivial⟩,trivial⟩) ci ⟨⟨rfl,rfl⟩,trivial⟩ rfl rfl rfl rfl rfl rfl rfl rfl ?_;cbv;exact lL rfl trivial rfl rfl rfl rfl
def zMB:List vR->Prop
 |a::b::r=>a≠b/\zMB (b::r)| _=>True
theorem zJ1:∀ {l:List vR},zMB l->∀ (i:Nat) (a b:vR),l[i]?=some a->l[i+1]?=some b->a≠b
 |[],_,_,_,_,h,_=>by simp at h| [x],_,i,a,b,_,h=>by simp at h| x::y::r,h,0,a,b,h1,h2=>by simp only[lU,tH,p7] at h1 h2;rw[<-h1,<-h2];exact h.1| x::y::r,h,i+1,a,b,h1,h2=>zJ1 h.2 i a b (by simpa using h1) (by simpa using h2)
theorem sCmp (l:List vR)(hl:l.length<2^38)(hn:zMB l):Sound 145 [.osl 1000000 2 (fun _=>0) (fun _=>l.length)] (lao 1000000 l) [] (.osl 1000000 2 (fun _=>0) (fun _=>l.length)) (lao 1000000 l) []:=by
 refine sF Tryz.f145 ?_;have hne:=zJ1 hn;clear hn;cbv;refine zG (fun h=>?_) (fun h=>?_);{cbv;exact lL rfl (lR) rfl rfl rfl rfl};cbv;refine z3 (σ:=Nat) (fun i=>⟨[(0,.osl 1000000 2 (fun _=>0) (fun _=>l.length)),(3,.int .i64 (fun _=>((i+1:Nat):Int)))],lao 1000000 l⟩) (fun i=>i+1<=l.length) (fun i=>l.length-i) 0 (by show 0+1<=l.length;(try dsimp only [zF] at *);omega) (.le okZ (by cbv;repeat' first|exact trivial|exact zI rfl|apply And.intro) rfl) ?_;intro i hi;cbv;refine zG (fun h5=>?_) (fun h5=>?_)
 ·(have hlt:i+1<l.length:=by (try dsimp only [zF] at *);omega);obtain⟨b,hb⟩:=zT hlt
  (obtain⟨a,ha⟩:=zT (l:=l) (i:=i) oM;have hab:=hne i a b ha hb;clear hne;cbv;refine zN 9 (by cbv) ?_;cbv;refine⟨y9 om om,j4 (l:=l) (i+1) om oM uB qC (fun t ht=>?_)⟩;obtain rfl:b=t:=by rw[hb] at ht;exact vN ht);cbv
  (refine⟨zD om om,y9 om om,j4 (l:=l) i om oM uB qC (fun t ht=>?_)⟩;obtain rfl:a=t:=by rw[ha] at ht;exact vN ht);cbv
  refine zOT ?_;cbv;refine yB (fun e=>hab e.symm) ?_;cbv;exact⟨zD om om,i+1,(show i+1+1<=l.length by omega),(show l.length-(i+1)<l.length-i by omega),.le (by cbv;repeat' first|exact trivial|exact lR|exact zC om|apply And.intro) (by cbv;repeat' first|exact trivial|exact zI rfl|apply And.intro) rfl⟩
 {cbv;exact lL rfl (lR) rfl rfl rfl rfl}
def mkP (l:List vR):Option (List vR):=if clG none (rW l).reverse=true then some (rW l).reverse else none
theorem sMkP (l:List vR)(hl:l.length<=12)(hn:zMB (rW l).reverse):zE 68 [lE l] (.tup [lE ((mkP l).getD []),.bool (fun _=>(mkP l).isSome)]):=by
 refine sF Tryz.f68 ?_;have hm:mkP l=if clG none (rW l).reverse=true then some (rW l).reverse else none:=rfl
 have c1:=sClL l oM;have c2:=sSFC l hl;have hrl:(rW l).reverse.length=l.length:=by rw[List.length_reverse,zJ7]
 generalize (rW l).reverse=R at *
 have c3:=sCmp R oM hn;have c4:=sKvP R oM;rw[hrl] at c3;have hT:((enc ltc R).drop 0).take l.length=enc ltc R:=by rw[wC,<-hrl,<-zA ltc R,v9]
 have hfr:0+l.length<=(enc ltc R).length:=by rw[zA];omega
 generalize mkP l=o at *
 generalize clG none R=b at *
 clear hn;cbv;refine y0 (fun _=>300) (Wk.sel _ [5] [] rfl) rfl okA c1 trivial rfl rfl rfl rfl rfl rfl rfl rfl ?_;cbv;refine y0 (fun _=>300) (Wk.sel _ [4,7] [300] rfl) rfl (by exact⟨lR,⟨rfl,trivial⟩,trivial⟩) c2 ⟨⟨rfl,rfl⟩,trivial⟩ rfl rfl rfl rfl rfl rfl rfl rfl ?_;cbv;refine y0 (fun _=>300) (Wk.sel _ [4,9] [300] rfl) rfl okA c3 ⟨⟨rfl,rfl⟩,trivial⟩ rfl rfl rfl rfl rfl rfl rfl rfl ?_;cbv;refine kQ (.frz 300 rfl rfl (by cbv;repeat' first|exact trivial|exact z8 hfr|apply And.intro) (by cbv;repeat' first|exact trivial|apply And.intro)) rfl (by exact⟨zR hT,trivial⟩) c4 rfl ?_;cbv;refine zP (fun e=>?_) (fun e=>?_)
 ·rw[if_pos e] at hm;subst hm;cbv
  (refine rC ?_;cbv)
  exact⟨zR hT,yN rfl,trivial⟩
 ·rw[if_neg (by rw[e];exact zJD)] at hm;subst hm;cbv
  (refine rC ?_;cbv)
  exact okA
end Go.Proofs.YtaeaffgjdcigoaaGreat
