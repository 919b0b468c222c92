/- A part of the proof: FmA, FmB, FmC, FmD. -/
import Derived.Test.YtfainocfaddbdaaGreatY38
import Derived.Test.YtfainocfaddbdaaGreatY37
import Derived.Test.YtfainocfaddbdaaGreatY39
set_option linter.all false
namespace Go.Proofs.YtfainocfaddbdaaGreat
open Go
set_option maxRecDepth 100000
set_option maxHeartbeats 4000000
theorem zPO (a b:Nat):zJ 145 [.int .i64 (fun _=>(a:Int)),.int .i64 (fun _=>(b:Int))] (.int .i64 (fun _=>((Nat.gcd a b:Nat):Int))):=by
 refine sF Tryz.f145 ?_;generalize hg:Nat.gcd a b=g;cbv;refine zZ (σ:=Nat×Nat) (fun s=>⟨[(0,.int .i64 (fun _=>(s.1:Int))),(1,.int .i64 (fun _=>(s.2:Int)))],[]⟩) (fun s=>Nat.gcd s.1 s.2=g) (fun s=>s.2) (a,b) hg (wkZ) ?_;intro s hs;obtain⟨x,y⟩:=s;dsimp only at hs;cbv;refine zE (fun h=>?_) (fun h=>?_)
 ·have hy:y=0:=om;subst hy;rw[Nat.gcd_zero_right] at hs;subst hs;cbv
  (refine rC ?_;cbv)
  exact lR
 {have hy:y≠0:=om;have hr:irem (x:Int) (y:Int)=((x%y:Nat):Int):=uU;have hm:x%y<y:=Nat.mod_lt _ (Nat.pos_of_ne_zero hy);cbv;refine zX 5 (by cbv) ?_;cbv;refine⟨wS om,?_⟩;cbv;refine⟨(y,x%y),?_,hm,.le (by cbv;repeat' first|exact trivial|exact lR|exact zC hr|apply And.intro) okZ rfl⟩;show Nat.gcd y (x%y)=g;rw[<-hs,Nat.gcd_comm y,<-Nat.gcd_rec,Nat.gcd_comm]}
theorem zIV {x:Nat}(h:x<2^64):u7 x<=64:=by rw[zAC 64 x h];have:=List.length_filter_le (fun i=>x.testBit i) (List.range 64);rwa [List.length_range] at this
theorem zJ6 {x:Nat}(h:x≠0):u7 x=x%2+u7 (x/2):=by rw[u7,dif_neg h]
theorem zJ5:u7 0=0:=by rw[u7];rfl
theorem zST (x:Nat)(hx:x<2^64):zJ 147 [.int .u64 (fun _=>(x:Int))] (.int .i64 (fun _=>((u7 x:Nat):Int))):=by
 refine sF Tryz.f147 ?_;have hb:=zIV hx;generalize hB:u7 x=T at *
 cbv;refine zZ (σ:=Nat×Nat) (fun s=>⟨[(0,.int .u64 (fun _=>(s.1:Int))),(3,.int .i64 (fun _=>(s.2:Int)))],[]⟩) (fun s=>s.2+u7 s.1=T/\s.1<2^64) (fun s=>s.1) (x,0) ⟨by show 0+u7 x=T;omega,hx⟩ (wkZ) ?_;intro s hs;obtain⟨y,n⟩:=s;obtain⟨h1,h2⟩:=hs;dsimp only at h1 h2;cbv;refine zE (fun h=>?_) (fun h=>?_)
 ·(have hy:y≠0:=om;have hs:=zJ6 hy;have hr:nx .i64 (irem (y:Int) 2)=((y%2:Nat):Int):=by rw[show irem (y:Int) 2=((y%2:Nat):Int) from uU (b:=2)];exact d6 (by omega) (by omega));have hq:nx .u64 (iquo (y:Int) 2)=((y/2:Nat):Int):=by rw[show iquo (y:Int) 2=((y/2:Nat):Int) from uV (b:=2)];exact y9 (by omega)
  (have h1':n+y%2+u7 (y/2)=T:=by omega);have h2':y/2<2^64/\y/2<y:=by omega
  (have h3':n+y%2<=64:=by omega);clear h1 hs
  cbv;refine⟨wS (by decide),?_⟩;cbv;refine⟨zD (by rw[hr];(try dsimp only [zI] at *);omega) (by rw[hr];(try dsimp only [zI] at *);omega),wS (by decide),?_⟩;cbv;refine⟨(y/2,n+y%2),⟨h1',h2'.1⟩,h2'.2,.le (by cbv;repeat' first|exact trivial|exact lR|exact zC hq|exact zC (by rw[hr];(try dsimp only [zI] at *);omega)|apply And.intro) okZ rfl⟩
 ·have hy:y=0:=om;subst hy;rw[zJ5,Nat.add_zero] at h1;subst h1;cbv
  (refine rC ?_;cbv)
  exact lR
theorem zP6 {v:Int}:∀ {ts:List (Int×Rat)} {i:Nat} {t:Int×Rat},Cn ts->ts[i]?=some t->t.1=v->co ts v=t.2
 |[],i,t,_,h,_=>by simp at h| u::r,0,t,hc,h,hv=>by obtain rfl:=Option.some.inj (show some u=some t by simpa using h);rw[<-hv];exact u5 hc
 |u::r,i+1,t,hc,h,hv=>by
  (have h':r[i]?=some t:=by simpa using h);have hlt:=hc.lt t (List.mem_of_getElem? h')
  show (if u.1=v then u.2 else 0)+co r v=t.2;rw[if_neg (by omega),zP6 hc.tail h' hv];grind
theorem zSM (f:F)(v:Int)(hc:Cn f.ts)(hl:f.ts.length<2^40):zJ 143 [av (fA f),.int .i64 (fun _=>v)] (rv (zO (co f.ts v))):=by
 refine sF Tryz.f143 ?_;obtain⟨W,hW⟩:∃ W,zO (co f.ts v)=W:=⟨_,rfl⟩;obtain⟨ts,c⟩:=f;dsimp only at hc hl hW;have h1:∀ (i:Nat) (t:Int×Rat),ts[i]?=some t->t.1=v->zO t.2=W:=fun i t hi hv=>by rw[<-hW,zP6 hc hi hv]
 have h2:(∀ t,t∈ts->t.1≠v)->W=⟨false,[],[]⟩:=fun h=>by rw[<-hW,mN h];exact mT
 have hgi:∀ (i:Nat) t,ts[i]?=some t->(tR ts)[i]?=some (t.1,zO t.2):=fun i t ht=>by unfold tR;rw[List.getElem?_map,ht];rfl
 have hln:(tR ts).length=ts.length:=vP ts;show wp _ ⟨lS 0 [.agg [tsv (tR ts),.bool (fun _=>(zO c).neg),nat (zO c).num,nat (zO c).den],.int .i64 (fun _=>v)],_⟩ _;show wp _ _ (pA _ (.agg [.bool (fun _=>(zO (co ts v)).neg),nat (zO (co ts v)).num,nat (zO (co ts v)).den]) [] []);rw[hW];obtain⟨TS,hTS⟩:∃ TS,tR ts=TS:=⟨_,rfl⟩;obtain⟨Z,hZ⟩:∃ Z,zO c=Z:=⟨_,rfl⟩;rw[hTS] at hgi hln;rw[hTS,hZ];clear hTS hZ hW;cbv;refine zZ (σ:=Nat) (fun i=>⟨[(1,.int .i64 (fun _=>v)),(2,.ptr 2 0),(4,.ptr 4 0),(5,.int .i64 (fun _=>(i:Int)))],[(2,.box [tsv TS,.bool (fun _=>Z.neg),nat Z.num,nat Z.den]),(4,.box [.ff,.nil,.nil])]⟩)
  (fun i=>i<=ts.length/\∀ j t,j<i->ts[j]?=some t->t.1≠v) (fun i=>ts.length-i) 0 ⟨Nat.zero_le _,fun j t h=>absurd h (by omega)⟩ (wkZ) ?_
 intro i hi;obtain⟨g1,g2⟩:=hi;cbv;refine zE (fun h5=>?_) (fun h5=>?_)
 ·(have hlt:i<ts.length:=by have:=dE h5;omega);obtain⟨t,ht⟩:=zS hlt
  have hg:=hgi i t ht;have k1:=h1 i t ht;obtain⟨q,hq⟩:∃ q,zO t.2=q:=⟨_,rfl⟩;rw[hq] at hg k1;obtain⟨y,c0⟩:=t;dsimp only at hg k1;cbv;refine xB hg uL kM ?_;cbv;refine zE (fun h6=>?_) (fun h6=>?_)
  ·have:=k1 h6;subst this;cbv;refine xB hg uL kM ?_;cbv
   (refine rC ?_;cbv)
   exact okA
  {cbv;refine⟨zD om om,i+1,⟨om,fun j t hj hjt=>?_⟩,om,wkZ⟩;by_cases e:j=i;{subst e;rw[ht] at hjt;obtain rfl:=Option.some.inj hjt;exact h6};{exact g2 j t (by omega) hjt}}
 ·(have hi:i=ts.length:=by have:=dF h5;omega);have hW:=h2 fun t ht=>by obtain⟨j,hj⟩:=List.mem_iff_getElem?.1 ht;exact g2 j t (by have:=yG hj;omega) hj
  subst hW;cbv
  (refine rC ?_;cbv)
  exact okA
def smI (n:Nat):Nat:=n%B
theorem zMD {n:Nat}(h:n<=1073741824):smI n=n:=Nat.mod_eq_of_lt (by unfold B;omega)
theorem zMM (n:Nat)(hn:(zF n).length<2^40):zJ 144 [nat (zF n)] (.tup [.int .i64 (fun _=>((smI n:Nat):Int)),.bool (fun _=>decide (n<=1073741824))]):=by
 refine sF Tryz.f144 ?_;have h0:(zF n).length=0↔n=0:=⟨fun h=>xA.1 (List.eq_nil_of_length_eq_zero h),fun h=>by rw[h,limbs_zero];rfl⟩;have h1:n≠0->(zF n).getD 0 0=UInt32.ofNat (n%B):=fun h=>by rw[jZ h];rfl
 have h2:(zF n).length=1->n<B:=fun h=>by have:=xD (zF n);rw[zL,h,Nat.pow_one] at this;exact this
 have h3:n≠0->n<B->(zF n).length=1:=fun h g=>by have:(zF n).length<=1:=z3 (by rw[Nat.pow_one];exact g);have:=mt h0.1 h;omega
 have hB:B=4294967296:=rfl;obtain⟨l,hl⟩:∃ l,zF n=l:=⟨_,rfl⟩;rw[hl] at h0 h1 h2 h3 hn;rw[hl];obtain⟨S,hS⟩:∃ S,smI n=S:=⟨_,rfl⟩;obtain⟨T,hT⟩:∃ T,decide (n<=1073741824)=T:=⟨_,rfl⟩;rw[hS,hT];clear hl;cbv;refine zE (fun h=>?_) (fun h=>?_)
 ·(have hn0:n=0:=h0.1 okQ;subst hn0;have e1:S=0:=by rw[<-hS];rfl);have e2:T=true:=by rw[<-hT];rfl
  subst e1 e2;cbv
  (refine rC ?_;cbv)
  exact okA
 ·(have hpos:0<l.length:=okQ;have hn0:n≠0:=fun e=>by have:=h0.2 e;omega);have hd:=h1 hn0
  (have hx:(l.getD 0 0).toNat=n%B:=by rw[hd];exact jY n);have hv:nx .i64 ((l.getD 0 0).toNat:Int)=(S:Int):=by
   rw[hx,<-hS];have:=Nat.mod_lt n xM;show nx .i64 ((n%B:Nat):Int)=((n%B:Nat):Int);generalize n%B=m at *
   exact d6 (by omega) (by omega)
  cbv;refine zX 14 (by cbv) ?_;cbv;refine yY 0 rfl hpos ?_;cbv;refine z9 (fun h5=>?_) (fun h5=>?_)
  ·have hl1:l.length=1:=okQ;have hlt:=h2 hl1;cbv;refine yY 0 rfl hpos ?_;cbv
   (refine rC ?_;cbv)
   refine⟨zC hv,zK ?_,trivial⟩;rw[<-hT,hx,Nat.mod_eq_of_lt hlt];exact decide_eq_decide.2 om
  ·have hl1:¬l.length=1:=okQ;have hge:¬n<B:=fun g=>hl1 (h3 hn0 g);cbv
   (refine rC ?_;cbv)
   refine⟨zC hv,zN ?_,trivial⟩;rw[<-hT];exact decide_eq_false (by omega)
def cz (z:Int):List PV:=[.int .i64 (fun _=>z)]
abbrev zlv (l:List Int):PV:=.sl (fun _=>enc cz l)
theorem dJ (z:Int):(cz z).length=1:=rfl
theorem jJ (z:Int):yL qS (cz z)=true:=rfl
theorem mG {l:List Int}{i i':Nat}{x:Int}{K:List PV->Prop}(h:l[i]?=some x)(hi:i'=i)(hK:K [.int .i64 (fun _=>x)]):ElOk 1 (fun _=>enc cz l) (fun _=>i') K :=
 ⟨⟨cz x,rfl,rfl,by show (enc cz l)[i']?=_;rw[hi];unfold enc;rw[List.getElem?_map,h];rfl,hK⟩⟩
theorem zGN {l:List Int}{i:Nat}{x y:Int}(h:x=y):(enc cz l).set i [D.int .i64 x]=enc cz (l.set i y):=by rw[h];exact l9 cz l i y
theorem zLM {x:Int}:imax x (0-x)=((x.natAbs:Nat):Int):=by unfold imax;split <;> omega
theorem zKU {α:Type}{p r:List α}{x y:α}:(p++x::r).set p.length y=p++y::r:=by rw[List.set_append_right _ _ (Nat.le_refl _),Nat.sub_self];rfl
theorem zEU {α:Type}{p r:List α}{x:α}:(p++x::r)[p.length]?=some x:=by rw[List.getElem?_append_right (Nat.le_refl _),Nat.sub_self];rfl
theorem zPN (c:List Int)(hc:∀ x,x∈c->x.natAbs<9223372036854775807)(hl:c.length<2^40):Sound 146 [.osl 1000000 1 (fun _=>0) (fun _=>c.length)] [(1000000,.arr 1 (fun _=>enc cz c))] [] (.bool (fun _=>(jO c).2)) [(1000000,.arr 1 (fun _=>enc cz (jO c).1))] []:=by
 refine sF Tryz.f146 ?_;obtain⟨⟨R1,R2⟩,hR⟩:∃ R,jO c=R:=⟨_,rfl⟩;rw[hR];obtain⟨G,hG⟩:∃ G,gcdL 0 c=G:=⟨_,rfl⟩;have hR':qY G c=(R1,R2):=by rw[<-hG];exact hR
 clear hR;dsimp only;obtain⟨n,hn⟩:∃ n,c.length=n:=⟨_,rfl⟩;rw[hn] at hl;rw[hn];cbv;refine zZ (σ:=Nat×Nat) (fun s=>⟨[(0,.osl 1000000 1 (fun _=>0) (fun _=>n)),(3,.int .i64 (fun _=>(s.2:Int))),(4,.int .i64 (fun _=>(s.1:Int)))],[(1000000,.arr 1 (fun _=>enc cz c))]⟩) (fun s=>s.1<=n/\gcdL s.2 (c.drop s.1)=G) (fun s=>n-s.1) (0,0) ⟨Nat.zero_le _,by rw[<-hG];rfl⟩ (wkZ) ?_;intro s hs;obtain⟨i,d⟩:=s;obtain⟨h1,h2⟩:=hs;dsimp only at h1 h2;cbv;refine zE (fun h=>?_) (fun h=>?_)
 ·(have hi:i<n:=om;obtain⟨x,hx⟩:=zS (show i<c.length by omega);have hxx:=hc x (List.mem_of_getElem? hx);have h2':gcdL (Nat.gcd x.natAbs d) (c.drop (i+1))=G:=by rw[xX hx] at h2;exact h2);have cg:=zPO x.natAbs d;have hma:=zLM (x:=x);generalize Nat.gcd x.natAbs d=d' at *
  cbv;refine zX 11 (by cbv) ?_;cbv;refine⟨zQ om om,mG hx om ?_⟩;cbv;refine⟨zQ om om,mG hx om ?_⟩;cbv;refine⟨zD om om,xO rfl (by exact⟨zC hma,lR,trivial⟩) cg rfl ?_⟩;cbv;exact⟨zD om om,(i+1,d'),⟨om,h2'⟩,om,wkZ⟩
 ·(have hi:i=n:=om;have hd:d=G:=by rw[hi,<-hn,List.drop_length] at h2;exact h2);subst hd
  clear h1 h2;cbv;refine zZ (σ:=Nat×List Int) (fun s=>⟨[(0,.osl 1000000 1 (fun _=>0) (fun _=>n)),(3,.int .i64 (fun _=>(d:Int))),(5,.int .i64 (fun _=>(s.1:Int)))],[(1000000,.arr 1 (fun _=>enc cz s.2))]⟩)
   (fun s=>s.1<=n/\∃ p,p.length=s.1/\s.2=p++c.drop s.1/\R1=p++(qY d (c.drop s.1)).1/\R2=(qY d (c.drop s.1)).2) (fun s=>n-s.1) (0,c) ⟨Nat.zero_le _,[],rfl,rfl,by show R1=(qY d c).1;rw[hR'],by show R2=(qY d c).2;rw[hR']⟩ (wkZ) ?_
  intro s hs;obtain⟨i,m⟩:=s;obtain⟨h1,p,h2,h3,h4,h5⟩:=hs;dsimp only at h1 h2 h3 h4 h5;cbv;refine zE (fun h=>?_) (fun h=>?_)
  ·(have hi:i<n:=om;obtain⟨x,hx⟩:=zS (show i<c.length by omega);have hxx:=hc x (List.mem_of_getElem? hx);rw[xX hx] at h3 h4 h5;have hm:m[i]?=some x:=by rw[h3,<-h2];exact zEU);obtain⟨y,hy⟩:∃ y,(if 1<d then x.tdiv d else x)=y:=⟨_,rfl⟩
   (rw[qY,hy] at h4 h5;obtain⟨m',hm'⟩:∃ m',m.set i y=m':=⟨_,rfl⟩;have hm2:m'=p++y::c.drop (i+1):=by rw[<-hm',h3,<-h2];exact zKU);have hmy:m'[i]?=some y:=by rw[hm2,<-h2];exact zEU
   (have hdv:(x.tdiv d).natAbs<=x.natAbs:=by rw[Int.natAbs_tdiv];exact Nat.div_le_self _ _);have hya:y.natAbs<=x.natAbs:=by rw[<-hy];split <;> omega
   cbv;refine kD (σ:=Unit) (fun _=>⟨[(0,.osl 1000000 1 (fun _=>0) (fun _=>n)),(3,.int .i64 (fun _=>(d:Int))),(5,.int .i64 (fun _=>(i:Int)))],[(1000000,.arr 1 (fun _=>enc cz m'))]⟩) (fun _=>True) (fun h=>?_) (fun h=>?_) (fun _ _=>?_)
   ·(have hd1:1<d:=om;rw[if_pos hd1] at hy;have hq:nx .i64 (iquo x (d:Int))=y:=by unfold iquo;rw[hy];exact d6 (by omega) (by omega));cbv
    refine⟨zQ om om,mG hm om ?_⟩;cbv;refine⟨wS om,zQ om om,mG hm om ?_⟩;cbv;refine⟨(),trivial,.le okZ (by cbv;exact⟨zA (by show (enc cz m).set (0+i) _=enc cz m';rw[Nat.zero_add,<-hm'];exact zGN hq),trivial⟩) rfl⟩
   ·(have hd1:¬1<d:=om;rw[if_neg hd1] at hy;have hmm:m=m':=by rw[<-hm',<-hy];exact (j9 hm).symm);subst hmm
    cbv;exact⟨(),trivial,wkZ⟩
   {cbv;refine⟨zQ om om,mG hmy om ?_⟩;cbv;refine z9 (fun e1=>?_) (fun e1=>?_);{have hbig:¬y.natAbs<=1073741824:=om;rw[if_neg hbig] at h4 h5;dsimp only at h4 h5;rw[<-hm2] at h4;subst h4 h5;cbv;refine uQ (.refl _) rfl (by exact⟨⟨rfl,rfl⟩,trivial⟩) (by rfl) (by exact⟨⟨rfl,by omega⟩,trivial⟩) ?_;exact zN rfl};{cbv;refine⟨zQ om om,mG hmy om ?_⟩;cbv;refine zE (fun e2=>?_) (fun e2=>?_);{have hbig:¬y.natAbs<=1073741824:=om;rw[if_neg hbig] at h4 h5;dsimp only at h4 h5;rw[<-hm2] at h4;subst h4 h5;cbv;refine uQ (.refl _) rfl (by exact⟨⟨rfl,rfl⟩,trivial⟩) (by rfl) (by exact⟨⟨rfl,by omega⟩,trivial⟩) ?_;exact zN rfl};{have hsm:y.natAbs<=1073741824:=om;rw[if_pos hsm] at h4 h5;dsimp only at h4 h5;have hg:∃ p,p.length=i+1/\m'=p++c.drop (i+1)/\R1=p++(qY d (c.drop (i+1))).1/\R2=(qY d (c.drop (i+1))).2:=⟨p++[y],by simp[h2],by rw[hm2];simp,by rw[h4];simp,h5⟩;clear h4 h5 h3 hm2;cbv;exact⟨zD om om,(i+1,m'),⟨om,hg⟩,om,wkZ⟩}}}
  ·(have hi:i=n:=om;rw[hi,<-hn,List.drop_length] at h3 h4 h5;have e1:m=p:=by rw[h3];simp);have e2:R1=m:=by rw[h4,e1];simp[qY]
   (have e3:R2=true:=by rw[h5];rfl);subst e2 e3
   cbv;refine uQ (.refl _) rfl (by exact⟨⟨rfl,rfl⟩,trivial⟩) (by rfl) (by exact⟨⟨rfl,by omega⟩,trivial⟩) ?_;exact zU rfl
def dnN (q:Rat):Nat:=if q.den=1 then 0 else q.den
theorem zOK (q:Rat):(zO q).den=zF (dnN q):=by unfold zO dnN;split;{exact limbs_zero.symm};{rfl}
theorem zPA {q:Rat}:(if dnN q<1 then 1 else dnN q)=q.den:=by have:=q.den_pos;unfold dnN;split;{rename_i h;rw[if_pos (by omega)];omega};{rename_i h;rw[if_neg (by omega)]}
theorem zRW {q:Rat}:dnN q<=1073741824↔q.den<=1073741824:=by unfold dnN;split;{rename_i h;rw[h];omega};{rfl}
theorem zMU {α β:Type}{QS:List α}{g:α->β}{z:β}{n i:Nat}{q:α}(hq:QS[i]?=some q)(hi:i<=n):((QS.take i).map g++List.replicate (n+1-i) z).set i (g q)=(QS.take (i+1)).map g++List.replicate (n+1-(i+1)) z:=by
 have hil:=yG hq;have h1:((QS.take i).map g).length=i:=by rw[List.length_map,List.length_take];omega
 rw[List.set_append_right _ _ (by omega),h1,Nat.sub_self,List.take_add_one,hq];have h2:n+1-i=(n+1-(i+1))+1:=by omega
 rw[h2,List.replicate_succ];simp
theorem zOQ {α β:Type}{QS:List α}{g h:α->β}{i:Nat}{q:α}(hq:QS[i]?=some q):((QS.take i).map g++(QS.drop i).map h).set i (g q)=(QS.take (i+1)).map g++(QS.drop (i+1)).map h:=by
 have hil:=yG hq;have h1:((QS.take i).map g).length=i:=by rw[List.length_map,List.length_take];omega
 rw[List.set_append_right _ _ (by omega),h1,Nat.sub_self,List.take_add_one,hq,xX hq];simp
theorem zSS (f:F)(n:Nat)(hc:Cn f.ts)(hl:f.ts.length<2^40)(hn:n<2^20)(hf:∀ q,q∈cfs f n->Fits (2^32) q):zJ 104 [av (fA f),.int .i64 (fun _=>(n:Int))] (.tup [zlv (cD f n).1,.bool (fun _=>(cD f n).2)]):=by
 have cco:∀ i:Nat,i<n->zJ 143 [av (fA f),.int .i64 (fun _=>(i:Int))] (rv (zO ((cfs f n).getD i 0))):=fun i hi=>by rw[gO hi];exact zSM f i hc hl
 have cc:(cfs f n).getD n 0=f.c:=gG;have cs1:∀ (i:Nat) q,(cfs f n)[i]?=some q->zJ 144 [nat (zO q).num] (.tup [.int .i64 (fun _=>((smI q.num.natAbs:Nat):Int)),.bool (fun _=>decide (q.num.natAbs<=1073741824))]):=fun i q hq=>by have h1:=(hf q (List.mem_of_getElem? hq)).lnum;have h2:(zO q).num=zF q.num.natAbs:=rfl;rw[h2] at h1;exact zMM _ (by omega)
 have cs2:∀ (i:Nat) q,(cfs f n)[i]?=some q->zJ 144 [nat (zO q).den] (.tup [.int .i64 (fun _=>((smI (dnN q):Nat):Int)),.bool (fun _=>decide (dnN q<=1073741824))]):=fun i q hq=>by have h1:=(hf q (List.mem_of_getElem? hq)).lden;rw[zOK] at h1 ⊢;exact zMM _ (by omega)
 have cng:∀ q:Rat,(zO q).neg=decide (q.num<0):=fun q=>rfl;obtain⟨QS,hQS⟩:∃ QS,cfs f n=QS:=⟨_,rfl⟩;have hql:QS.length=n+1:=by rw[<-hQS];exact zCW
 have hD:cD f n=(if QS.all smQ=true then (match aW (QS.map Rat.den) 1 with
  |none=>([],false)| some a=>jO (QS.map fun q=>q.num*((a/q.den:Nat):Int))) else ([],false)):=by unfold cD;rw[hQS];rfl
 rw[hQS] at cc cs1 cs2 cco;obtain⟨⟨R1,R2⟩,hR⟩:∃ R,cD f n=R:=⟨_,rfl⟩;rw[hR] at hD;rw[hR];dsimp only;clear hR hf hQS;obtain⟨A0,hA0⟩:∃ a,fA f=a:=⟨_,rfl⟩;have hAc:A0.c=zO (QS.getD n 0):=by rw[<-hA0,cc];rfl
 rw[hA0] at cco;rw[hA0];clear hA0 cc hc hl;obtain⟨ats,ac0⟩:=A0;dsimp only at hAc;refine sF Tryz.f104 ?_;cbv;refine⟨zD om om,?_⟩;obtain⟨NL,hNL⟩:∃ NL:Nat->List Int,∀ i,NL i=(QS.take i).map Rat.num++List.replicate (n+1-i) 0:=⟨_,fun _=>rfl⟩;obtain⟨DL,hDL⟩:∃ DL:Nat->List Int,∀ i,DL i=(QS.take i).map (fun q=>(q.den:Int))++List.replicate (n+1-i) 0:=⟨_,fun _=>rfl⟩;have hN0:List.replicate ((n:Int)+1).toNat (xJ [PV.int .i64 (fun _=>0)])=enc cz (NL 0):=by rw[hNL,show ((n:Int)+1).toNat=n+1 by omega];show _=enc cz ([]++List.replicate (n+1) 0);unfold enc;rw[List.nil_append,List.map_replicate];rfl
 have hD0:List.replicate ((n:Int)+1).toNat (xJ [PV.int .i64 (fun _=>0)])=enc cz (DL 0):=by rw[hDL,show ((n:Int)+1).toNat=n+1 by omega];show _=enc cz ([]++List.replicate (n+1) 0);unfold enc;rw[List.nil_append,List.map_replicate];rfl
 have hNs:∀ (i:Nat) q,QS[i]?=some q->(NL i).set i q.num=NL (i+1):=fun i q hq=>by rw[hNL,hNL];exact zMU hq (by have:=yG hq;omega)
 have hDs:∀ (i:Nat) q,QS[i]?=some q->(DL i).set i (q.den:Int)=DL (i+1):=fun i q hq=>by rw[hDL,hDL];exact zMU (g:=fun q:Rat=>(q.den:Int)) hq (by have:=yG hq;omega)
 have hNl:∀ i,i<=n+1->(NL i).length=n+1:=fun i hi=>by rw[hNL,List.length_append,List.length_map,List.length_take,List.length_replicate];omega
 have hDl:∀ i,i<=n+1->(DL i).length=n+1:=fun i hi=>by rw[hDL,List.length_append,List.length_map,List.length_take,List.length_replicate];omega
 have hNe:NL (n+1)=QS.map Rat.num:=by rw[hNL,Nat.sub_self,List.take_of_length_le (by omega)];simp
 have hDe:DL (n+1)=QS.map (fun q=>(q.den:Int)):=by rw[hDL,Nat.sub_self,List.take_of_length_le (by omega)];simp
 clear hNL hDL;cbv;refine⟨yE om om,x7 om om,zD om om,yE om om,x7 om om,?_⟩;refine zZ (σ:=Nat) (fun i=>⟨[(1,.int .i64 (fun _=>(n:Int))),(2,.ptr 2 0),(6,.osl 19 1 (fun _=>0) (fun _=>n+1)),(7,.osl 22 1 (fun _=>0) (fun _=>n+1)),(8,.int .i64 (fun _=>(i:Int)))],[(2,.box [tsv ats,.bool (fun _=>ac0.neg),nat ac0.num,nat ac0.den]),(19,.arr 1 (fun _=>enc cz (NL i))),(22,.arr 1 (fun _=>enc cz (DL i)))]⟩)
  (fun i=>i<=n+1/\∀ q,q∈QS.take i->smQ q=true) (fun i=>n+1-i) 0 ⟨Nat.zero_le _,fun q hq=>absurd hq (by simp)⟩ (.le (by cbv;repeat' first|exact trivial|exact lR|exact z4 rfl om|apply And.intro) (by cbv;exact⟨okA,zA hN0,zA hD0,trivial⟩) rfl) ?_
 intro i hi;obtain⟨g1,g2⟩:=hi;cbv;refine zE (fun h=>?_) (fun h=>?_)
 ·(have hin:i<=n:=om;obtain⟨q,hq⟩:=zS (show i<QS.length by omega);have hqg:QS.getD i 0=q:=getD_some hq;have k1:=cs1 i q hq;have k2:=cs2 i q hq;have kn:=cng q;have kc:i<n->zJ 143 [av ⟨ats,ac0⟩,.int .i64 (fun _=>(i:Int))] (rv (zO q)):=fun h=>by have:=cco i h;rw[hqg] at this;exact this);have kl:¬i<n->ac0=zO q:=fun h=>by rw[hAc,<-hqg,show i=n by omega]
  (have hsm:smQ q=(decide (q.num.natAbs<=1073741824)&&decide (dnN q<=1073741824)):=by unfold smQ;rw[Bool.eq_iff_iff,Bool.and_eq_true,decide_eq_true_iff,decide_eq_true_iff,decide_eq_true_iff,zRW]);have hs1:q.num.natAbs<=1073741824->smI q.num.natAbs=q.num.natAbs:=zMD;have hs2:dnN q<=1073741824->smI (dnN q)=dnN q:=zMD;have hdm:=zPA (q:=q);have hds:=hDs i q hq;have hns:=hNs i q hq;have hnl:=hNl i (by omega);have hdl:=hDl i (by omega);obtain⟨x1,hx1⟩:=zS (show i<(NL i).length by omega);obtain⟨x2,hx2⟩:=zS (show i<(DL i).length by omega);obtain⟨N0,hN0'⟩:∃ N,NL i=N:=⟨_,rfl⟩;obtain⟨D0,hD0'⟩:∃ N,DL i=N:=⟨_,rfl⟩;obtain⟨N1,hN1'⟩:∃ N,NL (i+1)=N:=⟨_,rfl⟩;obtain⟨D1,hD1'⟩:∃ N,DL (i+1)=N:=⟨_,rfl⟩;rw[hN0'] at hns hnl hx1;rw[hD0'] at hds hdl hx2;rw[hN1'] at hns;rw[hD1'] at hds;obtain⟨Q,hQ⟩:∃ Q,zO q=Q:=⟨_,rfl⟩;rw[hQ] at k1 k2 kn kc kl;obtain⟨S1,hS1⟩:∃ S,smI q.num.natAbs=S:=⟨_,rfl⟩;obtain⟨S2,hS2⟩:∃ S,smI (dnN q)=S:=⟨_,rfl⟩;obtain⟨b1,hb1⟩:∃ S,decide (q.num.natAbs<=1073741824)=S:=⟨_,rfl⟩;obtain⟨b2,hb2⟩:∃ S,decide (dnN q<=1073741824)=S:=⟨_,rfl⟩;rw[hS1,hb1] at k1;rw[hS2,hb2] at k2;rw[hS1] at hs1;rw[hS2] at hs2;rw[hb1,hb2] at hsm;have hg2:b1=true->b2=true->∀ u,u∈QS.take (i+1)->smQ u=true:=fun e1 e2 u hu=>by
   rw[List.take_add_one,hq] at hu;rcases List.mem_append.1 hu with hu|hu;{exact g2 u hu}
   ·(have:u=q:=by simpa using hu);rw[this,hsm,e1,e2];rfl
  have hbad:¬(b1=true/\b2=true)->R1=[]/\R2=false:=fun e=>by
   (have:¬QS.all smQ=true:=fun ha=>by have:=(List.all_eq_true.1 ha) q (List.mem_of_getElem? hq);rw[hsm,Bool.and_eq_true] at this;exact e this);rw[if_neg this] at hD;exact⟨congrArg Prod.fst hD,congrArg Prod.snd hD⟩
  (have hv1:b1=true->∀ z:Int,(Q.neg=true->z=0-(S1:Int))->(Q.neg=false->z=(S1:Int))->z=q.num:=fun e z z1 z2=>by rw[<-hb1] at e;have e':=hs1 (of_decide_eq_true e);rw[kn] at z1 z2;by_cases hneg:q.num<0;{rw[z1 (decide_eq_true hneg),e'];omega};{rw[z2 (decide_eq_false hneg),e'];omega});have hsb:b1=true->S1<=1073741824:=fun e=>by rw[<-hb1] at e;have:=of_decide_eq_true e;rw[hs1 this];exact this
  (have hv2:b2=true->imax (S2:Int) 1=(q.den:Int):=fun e=>by rw[<-hb2] at e;rw[hs2 (of_decide_eq_true e),<-hdm];unfold imax;split <;> split <;> omega);rw[hN0',hD0'];clear hb1 hb2 hs1 hs2 hS1 hS2 hdm hsm kn hQ g2 hD cs1 cs2 cco hN0 hD0;cbv;refine kD (σ:=Unit) (fun _=>⟨[(1,.int .i64 (fun _=>(n:Int))),(2,.ptr 2 0),(6,.osl 19 1 (fun _=>0) (fun _=>n+1)),(7,.osl 22 1 (fun _=>0) (fun _=>n+1)),(8,.int .i64 (fun _=>(i:Int))),(9,.ptr 9 0)],
   [(2,.box [tsv ats,.bool (fun _=>ac0.neg),nat ac0.num,nat ac0.den]),(19,.arr 1 (fun _=>enc cz N0)),(22,.arr 1 (fun _=>enc cz D0)),(9,.box [.bool (fun _=>Q.neg),nat Q.num,nat Q.den])]⟩) (fun _=>True) (fun h=>?_) (fun h=>?_) (fun _ _=>?_)
  {have kc:=kc om;cbv;refine cA kc ?_;cbv;exact⟨(),trivial,wkZ⟩};{have kl:=kl om;subst kl;cbv;exact⟨(),trivial,wkZ⟩};clear kc kl;cbv;refine cA k1 ?_;cbv;refine cA k2 ?_;cbv;refine wE (fun e1=>?_) (fun e1=>?_)
  rotate_left
  ·obtain⟨r1,r2⟩:=hbad (fun e=>by rw[e1] at e;cases e.1);subst r1 r2;cbv
   (refine rC ?_;cbv)
   exact okA
  cbv;refine yK (fun e2=>?_) (fun e2=>?_)
  rotate_left
  ·obtain⟨r1,r2⟩:=hbad (fun e=>by rw[e2] at e;cases e.2);subst r1 r2;cbv
   (refine rC ?_;cbv)
   exact okA
  have hg2:=hg2 e1 e2;have hv1:=hv1 e1;have hv2:=hv2 e2;have hsb:=hsb e1;clear hbad k1 k2;cbv;refine zJ0 (σ:=Unit) (fun _=>⟨[(1,.int .i64 (fun _=>(n:Int))),(2,.ptr 2 0),(6,.osl 19 1 (fun _=>0) (fun _=>n+1)),(7,.osl 22 1 (fun _=>0) (fun _=>n+1)),(8,.int .i64 (fun _=>(i:Int))),(10,.int .i64 (fun _=>q.num)),(12,.int .i64 (fun _=>(S2:Int)))],
   [(2,.box [tsv ats,.bool (fun _=>ac0.neg),nat ac0.num,nat ac0.den]),(19,.arr 1 (fun _=>enc cz N0)),(22,.arr 1 (fun _=>enc cz D0))]⟩) (fun _=>True) (fun h=>?_) (fun h=>?_) (fun _ _=>?_)
  {have hz:=hv1 (0-(S1:Int)) (fun _=>rfl) (fun e=>by rw[h] at e;cases e);cbv;exact⟨zD om om,(),trivial,.le (by cbv;repeat' first|exact trivial|exact lR|exact zC hz|apply And.intro) okZ rfl⟩};{have hz:=hv1 (S1:Int) (fun e=>by rw[h] at e;cases e) (fun _=>rfl);cbv;exact⟨(),trivial,.le (by cbv;repeat' first|exact trivial|exact lR|exact zC hz|apply And.intro) okZ rfl⟩};clear hv1 hsb;cbv;refine⟨zQ om om,mG hx1 om ?_⟩;cbv;refine⟨zQ om om,mG hx2 om ?_⟩;cbv;exact⟨zD om om,i+1,⟨om,hg2⟩,om,.le okZ (by cbv;exact⟨okA,zA (by show (enc cz N0).set (0+i) _=enc cz (NL (i+1));rw[Nat.zero_add,hN1',<-hns];exact zGN rfl),zA (by show (enc cz D0).set (0+i) _=enc cz (DL (i+1));rw[Nat.zero_add,hD1',<-hds];exact zGN hv2),trivial⟩) rfl⟩
 ·have hi:i=n+1:=om;subst hi;have hall:QS.all smQ=true:=List.all_eq_true.2 fun q hq=>g2 q (by rw[List.take_of_length_le (by omega)];exact hq);rw[if_pos hall] at hD;have hb:∀ (i:Nat) q,QS[i]?=some q->q.num.natAbs<=1073741824/\q.den<=1073741824/\0<q.den:=fun i q hq=>by have:=(List.all_eq_true.1 hall) q (List.mem_of_getElem? hq);unfold smQ at this;have:=of_decide_eq_true this;exact⟨this.1,this.2,q.den_pos⟩
  (rw[hNe,hDe];have hT:aW (QS.map Rat.den) 1=aW ((QS.drop 0).map Rat.den) 1:=rfl;obtain⟨L,hL⟩:∃ L,aW (QS.map Rat.den) 1=L:=⟨_,rfl⟩;rw[hL] at hT hD;have hDg:∀ (i:Nat) q,QS[i]?=some q->(QS.map fun q=>(q.den:Int))[i]?=some (q.den:Int):=fun i q hq=>by rw[List.getElem?_map,hq];rfl);have hNl2:(QS.map Rat.num).length=n+1:=by rw[List.length_map];exact hql
  obtain⟨NM,hNM⟩:∃ N,QS.map Rat.num=N:=⟨_,rfl⟩;obtain⟨DN,hDN⟩:∃ N,(QS.map fun q=>(q.den:Int))=N:=⟨_,rfl⟩;rw[hDN] at hDg;rw[hNM] at hNl2;rw[hNM,hDN];clear cs1 cs2 cco hN0 hD0 hNs hDs hNl hDl g1 g2 hNe hDe hDN hAc cng hall h;cbv;refine zZ (σ:=Nat×Nat) (fun s=>⟨[(1,.int .i64 (fun _=>(n:Int))),(6,.osl 19 1 (fun _=>0) (fun _=>n+1)),(7,.osl 22 1 (fun _=>0) (fun _=>n+1)),(14,.int .i64 (fun _=>(s.2:Int))),(15,.int .i64 (fun _=>(s.1:Int)))],[(19,.arr 1 (fun _=>enc cz NM)),(22,.arr 1 (fun _=>enc cz DN))]⟩)
   (fun s=>s.1<=n+1/\0<s.2/\s.2<=1073741824/\L=aW ((QS.drop s.1).map Rat.den) s.2) (fun s=>n+1-s.1) (0,1) ⟨Nat.zero_le _,Nat.zero_lt_one,by show 1<=1073741824;decide,hT⟩ (wkZ) ?_
  clear hT;intro s hs;obtain⟨i,a⟩:=s;obtain⟨g1,g2,g3,g4⟩:=hs;dsimp only at g1 g2 g3 g4;cbv;refine zE (fun h=>?_) (fun h=>?_)
  ·(have hin:i<=n:=om;obtain⟨q,hq⟩:=zS (show i<QS.length by omega);obtain⟨b1,b2,b3⟩:=hb i q hq;have hdg:=hDg i q hq;rw[xX hq,List.map_cons,aW] at g4;have hcg:=zPO a q.den;have hgp:0<Nat.gcd a q.den:=Nat.gcd_pos_of_pos_left _ g2;have hgl:a/Nat.gcd a q.den<=a:=Nat.div_le_self _ _;have hgq:0<a/Nat.gcd a q.den:=Nat.div_pos (Nat.le_of_dvd g2 (Nat.gcd_dvd_left _ _)) hgp;have hqo:nx .i64 (iquo (a:Int) ((Nat.gcd a q.den:Nat):Int))=((a/Nat.gcd a q.den:Nat):Int):=by rw[uV];exact d6 (by omega) (by omega));generalize Nat.gcd a q.den=g at *
   generalize hqg:a/g=w at *
   obtain⟨d,hd⟩:∃ d,q.den=d:=⟨_,rfl⟩;rw[hd] at b2 b3 hdg hcg g4;have hwd:w*d<=1073741824*1073741824:=Nat.mul_le_mul (by omega) b2;have hwp:0<w*d:=Nat.mul_pos hgq b3;have hcast:(w:Int)*(d:Int)=((w*d:Nat):Int):=(Int.natCast_mul w d).symm;generalize hW:w*d=W at *
   (have hfin:nx .i64 (iquo (a:Int) (g:Int))*(d:Int)=(W:Int):=by rw[hqo];exact hcast);cbv
   refine zX 12 (by cbv) ?_;cbv;refine⟨zQ om om,mG hdg om ?_⟩;cbv;refine dA hcg ?_;cbv;refine⟨wS om,zQ om om,mG hdg om ?_⟩;cbv;refine⟨zD (by rw[hqo];(try dsimp only [zI] at *);omega) (by rw[hqo];(try dsimp only [zI] at *);omega),?_⟩;cbv;refine zE (fun e=>?_) (fun e=>?_)
   ·(have hbig:¬W<=1073741824:=by rw[hqo] at e;(try dsimp only [zI] at *);omega);rw[if_neg hbig] at g4
    rw[g4] at hD;have r1:R1=[]:=congrArg Prod.fst hD;have r2:R2=false:=congrArg Prod.snd hD;subst r1 r2;cbv
    (refine rC ?_;cbv)
    exact okA
   ·(have hsm:W<=1073741824:=by rw[hqo] at e;(try dsimp only [zI] at *);omega);rw[if_pos hsm] at g4
    cbv;exact⟨zD om om,(i+1,W),⟨om,hwp,hsm,g4⟩,om,.le (by cbv;repeat' first|exact trivial|exact lR|exact zC hfin|exact zC om|apply And.intro) okZ rfl⟩
  ·(have hi:i=n+1:=om;have g5:L=some a:=by rw[g4,hi,List.drop_eq_nil_of_le (by omega)];rfl);subst g5
   (dsimp only at hD;clear g4 g1;have hR1:R1=(jO (QS.map fun q=>q.num*((a/q.den:Nat):Int))).1:=congrArg Prod.fst hD;have hR2:R2=(jO (QS.map fun q=>q.num*((a/q.den:Nat):Int))).2:=congrArg Prod.snd hD;obtain⟨CL,hCL⟩:∃ CL:Nat->List Int,∀ i,CL i=(QS.take i).map (fun q=>q.num*((a/q.den:Nat):Int))++(QS.drop i).map Rat.num:=⟨_,fun _=>rfl⟩;have hC0:NM=CL 0:=by rw[hCL,<-hNM];rfl);have hCe:CL (n+1)=QS.map fun q=>q.num*((a/q.den:Nat):Int):=by rw[hCL,List.take_of_length_le (by omega),List.drop_eq_nil_of_le (by omega)];simp
   (have hCs:∀ (i:Nat) q,QS[i]?=some q->(CL i).set i (q.num*((a/q.den:Nat):Int))=CL (i+1):=fun i q hq=>by rw[hCL,hCL];exact zOQ (g:=fun q:Rat=>q.num*((a/q.den:Nat):Int)) hq);have hCg:∀ (i:Nat) q,QS[i]?=some q->(CL i)[i]?=some q.num:=fun i q hq=>by rw[hCL,List.getElem?_append_right (by rw[List.length_map,List.length_take];have:=yG hq;omega),List.length_map,List.length_take,xX hq];rw[show i-min i QS.length=0 by have:=yG hq;omega];rfl
   rw[hC0];have hbd:∀ x,x∈CL (n+1)->x.natAbs<9223372036854775807:=fun x hx=>by rw[hCe] at hx;obtain⟨q,hq,rfl⟩:=List.mem_map.1 hx;obtain⟨j,hj⟩:=List.mem_iff_getElem?.1 hq;obtain⟨b1,b2,b3⟩:=hb j q hj;have:a/q.den<=a:=Nat.div_le_self _ _;rw[Int.natAbs_mul,Int.natAbs_natCast];have:=Nat.mul_le_mul b1 (show a/q.den<=1073741824 by omega);omega
   (have hCln:(CL (n+1)).length=n+1:=by rw[hCe,List.length_map];exact hql);have crd:=zPN (CL (n+1)) hbd (by omega)
   rw[hCln] at crd;rw[<-hCe] at hR1 hR2;clear hD hCL hNM hC0 hCe h hbd;cbv;refine zZ (σ:=Nat) (fun i=>⟨[(1,.int .i64 (fun _=>(n:Int))),(6,.osl 19 1 (fun _=>0) (fun _=>n+1)),(7,.osl 22 1 (fun _=>0) (fun _=>n+1)),(14,.int .i64 (fun _=>(a:Int))),(16,.int .i64 (fun _=>(i:Int)))],[(19,.arr 1 (fun _=>enc cz (CL i))),(22,.arr 1 (fun _=>enc cz DN))]⟩)
    (fun i=>i<=n+1) (fun i=>n+1-i) 0 (Nat.zero_le _) (wkZ) ?_
   intro i g1;cbv;refine zE (fun h=>?_) (fun h=>?_)
   ·have hin:i<=n:=om;obtain⟨q,hq⟩:=zS (show i<QS.length by omega);obtain⟨b1,b2,b3⟩:=hb i q hq;have hdg:=hDg i q hq;have hcs:=hCs i q hq;have hcg:=hCg i q hq;obtain⟨d,hd⟩:∃ d,q.den=d:=⟨_,rfl⟩;obtain⟨z,hz⟩:∃ z,q.num=z:=⟨_,rfl⟩;rw[hd] at b2 b3 hdg hcs;rw[hz] at b1 hcs hcg;have hle:a/d<=a:=Nat.div_le_self _ _;have hqo:nx .i64 (iquo (a:Int) (d:Int))=((a/d:Nat):Int):=by
     rw[uV];generalize a/d=w at *
     exact d6 (by omega) (by omega)
    generalize a/d=w at *
    (have hm:(z*(w:Int)).natAbs<=1073741824*1073741824:=by rw[Int.natAbs_mul,Int.natAbs_natCast];exact Nat.mul_le_mul b1 (by omega));generalize hW:z*(w:Int)=W at *
    obtain⟨C0,hC0⟩:∃ C,CL i=C:=⟨_,rfl⟩;obtain⟨C1,hC1⟩:∃ C,CL (i+1)=C:=⟨_,rfl⟩;rw[hC0] at hcs hcg;rw[hC1] at hcs;rw[hC0];cbv;refine zX 13 (by cbv) ?_;cbv;refine⟨zQ om om,mG hcg om ?_⟩;cbv;refine⟨zQ om om,mG hdg om ?_⟩;cbv;refine⟨wS om,zD (by rw[hqo];(try dsimp only [zI] at *);omega) (by rw[hqo];(try dsimp only [zI] at *);omega),?_⟩;cbv;refine⟨zQ om om,mG hcg om ?_⟩;cbv;exact⟨zD om om,i+1,om,om,.le okZ (by cbv;exact⟨zA (by show (enc cz C0).set (0+i) _=enc cz (CL (i+1));rw[Nat.zero_add,hC1,<-hcs];exact zGN (by rw[hqo];exact hW)),zA rfl,trivial⟩) rfl⟩
   ·(have hi:i=n+1:=om;subst hi;obtain⟨C1,hC1⟩:∃ C,CL (n+1)=C:=⟨_,rfl⟩;rw[hC1] at crd hR1 hR2 hCln;rw[hC1];have hln:(jO C1).1.length=n+1:=by unfold jO;rw[m7];exact hCln);rw[<-hR1,<-hR2] at crd
    rw[<-hR1] at hln;clear hR1 hR2 hCs hCg hDg hb;cbv;refine yX (fun _=>19) (.refl _) rfl (by exact⟨z4 rfl rfl,trivial⟩) crd (by exact⟨⟨rfl,rfl⟩,trivial⟩) rfl rfl rfl rfl rfl rfl rfl rfl ?_;cbv;refine zGO _ (.trans (.le (ps':=⟨[(4,.osl 19 1 (fun _=>0) (fun _=>R1.length)),(5,.bool (fun _=>R2))],[(19,.arr 1 (fun _=>enc cz R1))]⟩) (by cbv;repeat' first|exact trivial|exact lR|exact z4 rfl hln.symm|apply And.intro) okZ rfl) (.frz 19 rfl rfl (by cbv;repeat' first|exact trivial|exact yF (by simp[zM])|apply And.intro) (by cbv;repeat' first|exact trivial|apply And.intro))) rfl ?_;exact⟨zY (by simp[zM,List.take_of_length_le]),lR,trivial⟩
def frc (p:FR):List PV:=[zlv p.c,.int .u64 (fun _=>(p.fr:Int))]
abbrev frv (l:List FR):PV:=.sl (fun _=>enc frc l)
theorem vA (p:FR):(frc p).length=2:=rfl
theorem wJ (p:FR):yL qS (frc p)=true:=rfl
theorem zOS {a b:Nat}(ha:a<2^64)(hb:b<2^64):ior .u64 (a:Int) (b:Int)=((a ||| b:Nat):Int):=by
 unfold ior;have h1:(BitVec.ofInt 64 (a:Int) ||| BitVec.ofInt 64 (b:Int)).toNat=a ||| b:=by rw[BitVec.toNat_or,BitVec.ofInt_natCast,BitVec.ofInt_natCast,BitVec.toNat_ofNat,BitVec.toNat_ofNat,Nat.mod_eq_of_lt ha,Nat.mod_eq_of_lt hb]
 have h2:a ||| b<2^64:=Nat.or_lt_two_pow ha hb;show IntKind.wrap .u64 ((BitVec.ofInt 64 (a:Int) ||| BitVec.ofInt 64 (b:Int)).toNat:Int)=_;rw[h1];have h3:=y9 h2;unfold nx at h3;exact h3
structure LOk (l:List FR) (W:Nat):Prop where
 len:l.length<=1048576
 w:∀ p,p∈l->p.c.length=W
 ab:∀ p,p∈l->∀ x,x∈p.c->x.natAbs<=1073741824
 fr:∀ p,p∈l->p.fr<2^64
theorem FR.get {p:FR}{v:Nat}(h:v<p.c.length):p.c[v]?=some (p.at' v):=by unfold FR.at';exact yI h
theorem zSP (l:List FR)(v W:Nat)(h:LOk l W)(hv:v<W):zJ 105 [frv l,.int .i64 (fun _=>(v:Int))] (.int .i64 (fun _=>((prs l v:Nat):Int))):=by
 refine sF Tryz.f105 ?_;have hl:=h.len;have hat:∀ (i:Nat) p,l[i]?=some p->p.c[v]?=some (p.at' v):=fun i p hp=>FR.get (by rw[h.w p (List.mem_of_getElem? hp)];exact hv);obtain⟨U,hU⟩:∃ U,(l.filter fun p=>decide (0<p.at' v)).length=U:=⟨_,rfl⟩;obtain⟨D,hD⟩:∃ U,(l.filter fun p=>decide (p.at' v<0)).length=U:=⟨_,rfl⟩;have hUl:U<=1048576:=by rw[<-hU];exact Nat.le_trans (List.length_filter_le _ _) hl
 have hDl:D<=1048576:=by rw[<-hD];exact Nat.le_trans (List.length_filter_le _ _) hl
 have hp:prs l v=U*D:=by unfold prs;rw[hU,hD]
 have hub:U*D<=1048576*1048576:=Nat.mul_le_mul hUl hDl;have hcast:((U*D:Nat):Int)=(U:Int)*(D:Int):=Int.natCast_mul _ _;rw[hp];generalize hP:U*D=T at *
 clear h hp;cbv;refine zZ (σ:=Nat×Nat×Nat) (fun s=>⟨[(0,frv l),(1,.int .i64 (fun _=>(v:Int))),(5,.int .i64 (fun _=>(s.2.1:Int))),(6,.int .i64 (fun _=>(s.2.2:Int))),(7,.int .i64 (fun _=>(s.1:Int)))],[]⟩)
  (fun s=>s.1<=l.length/\s.2.1+((l.drop s.1).filter fun p=>decide (0<p.at' v)).length=U/\s.2.2+((l.drop s.1).filter fun p=>decide (p.at' v<0)).length=D) (fun s=>l.length-s.1) (0,0,0) ⟨Nat.zero_le _,by show 0+_=U;rw[Nat.zero_add];exact hU,by show 0+_=D;rw[Nat.zero_add];exact hD⟩ (wkZ) ?_
 intro s hs;obtain⟨i,a,b⟩:=s;obtain⟨h1,h2,h3⟩:=hs;dsimp only at h1 h2 h3;cbv;refine zE (fun h5=>?_) (fun h5=>?_)
 ·(have hlt:i<l.length:=dE h5;obtain⟨p,hp⟩:=zS hlt;have hc:=hat i p hp;rw[xX hp,List.filter_cons] at h2 h3;obtain⟨x,hx⟩:∃ x,p.at' v=x:=⟨_,rfl⟩;rw[hx] at h2 h3 hc;cbv;refine xB hp wJ vA ?_;cbv;refine xB hc jJ dJ ?_;cbv;refine kD (σ:=Unit) (fun _=>⟨[(0,frv l),(1,.int .i64 (fun _=>(v:Int))),(5,.int .i64 (fun _=>((if 0<x then a+1 else a:Nat):Int))),(6,.int .i64 (fun _=>(b:Int))),(7,.int .i64 (fun _=>(i:Int)))],[]⟩) (fun _=>True) (fun h=>?_) (fun h=>?_) (fun _ _=>?_);{have h':0<x:=om;rw[if_pos (decide_eq_true h'),List.length_cons] at h2;cbv;exact⟨zD om om,(),trivial,.le (by cbv;repeat' first|exact trivial|exact lR|exact zC (by rw[if_pos h'];(try dsimp only [zI] at *);omega)|apply And.intro) okZ rfl⟩};{have h':¬0<x:=om;cbv;exact⟨(),trivial,.le (by cbv;repeat' first|exact trivial|exact lR|exact zC (by rw[if_neg h'])|apply And.intro) okZ rfl⟩};have h2':(if 0<x then a+1 else a)+((l.drop (i+1)).filter fun p=>decide (0<p.at' v)).length=U:=by by_cases h':0<x;{rw[if_pos h'];rw[if_pos (decide_eq_true h'),List.length_cons] at h2;omega};{rw[if_neg h'];rw[if_neg (by rw[decide_eq_false h'];decide)] at h2;exact h2});clear h2;generalize (if 0<x then a+1 else a)=a' at *
  cbv;refine xB hp wJ vA ?_;cbv;refine xB hc jJ dJ ?_;cbv;refine zE (fun h=>?_) (fun h=>?_)
  ·(have h':x<0:=om;rw[if_pos (decide_eq_true h'),List.length_cons] at h3;have h3':b+1+((l.drop (i+1)).filter fun p=>decide (p.at' v<0)).length=D:=by omega);cbv
   exact⟨zD om om,zD om om,(i+1,a',b+1),⟨om,h2',h3'⟩,om,wkZ⟩
  {have h':¬x<0:=om;rw[if_neg (by rw[decide_eq_false h'];decide)] at h3;cbv;exact⟨zD om om,(i+1,a',b),⟨om,h2',h3⟩,om,wkZ⟩}
 ·have hi:i=l.length:=dF h5 h1;rw[hi,List.drop_length] at h2 h3;have e1:a=U:=h2;have e2:b=D:=h3;subst e1 e2;cbv;refine⟨zD (by rw[<-hcast];(try dsimp only [zI] at *);omega) (by rw[<-hcast];(try dsimp only [zI] at *);omega),?_⟩;cbv
  (refine rC ?_;cbv)
  exact zC hcast.symm
end Go.Proofs.YtfainocfaddbdaaGreat
