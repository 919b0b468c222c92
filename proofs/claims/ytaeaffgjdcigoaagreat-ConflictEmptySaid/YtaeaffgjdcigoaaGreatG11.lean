/- A part of the proof: PmO. -/
import Derived.Test.YtaeaffgjdcigoaaGreatG10
set_option linter.all false
namespace Go.Proofs.YtaeaffgjdcigoaaGreat
open Go
section
variable {K:PV->Prop}
theorem NB {v x y:PV}(h:brV v (λ_=>K x) (λ_=>K y)):∃ pv,K pv/\∀ K':PV->Prop,K' pv->brV v (λ_=>K' x) (λ_=>K' y):=by
 unfold brV at *;split at h;{grind};{grind}
 ·rename_i b;cases hb:b () with
  |true=>exact⟨x,h.t hb,λ_ q=>⟨λ_=>q,λe=>by grind⟩⟩| false=>exact⟨y,h.f hb,λ_ q=>⟨λe=>(by grind),λ_=>q⟩⟩
 ·rename_i b;cases hb:b () with
  |true=>exact⟨y,h.t hb,λ_ q=>⟨λ_=>q,λe=>by grind⟩⟩| false=>exact⟨x,h.f hb,λ_ q=>⟨λe=>(by grind),λ_=>q⟩⟩
 grind
theorem ZT {t:Ty}{cs:List PV}{off:Nat}(h:rdK t cs off K):∃ pv,K pv/\∀ K':PV->Prop,K' pv->rdK t cs off K':=by unfold rdK at *;grind
theorem Kd {k:IntKind}{z:Unit->Int}(h:arK k z K):∃ pv,K pv/\∀ K':PV->Prop,K' pv->arK k z K':=by unfold arK at *;grind
theorem Pe {op:BinOp}{k k':IntKind}{a b:Unit->Int}(h:DR op k a k' b K):∃ pv,K pv/\∀ K':PV->Prop,K' pv->DR op k a k' b K':=by
 unfold DR at *;split at h;{grind};{grind}
 ·cases hk:GU k k' with
  |false=>grind| true =>
   simp only[hk,cond_true] at h ⊢;split at h;{exact Kd h};{exact Kd h};{exact Kd h}
   all_goals grind
end
theorem SY {K:PV->Prop}{bop:BinOp}{a b:Unit->ByteArray}(h:Dk bop a b K):∃ pv,K pv/\∀ K':PV->Prop,K' pv->Dk bop a b K':=by unfold Dk at *;grind
theorem Py {K:PV->Prop}{bop:BinOp}{t:TypeId}{x y:Operand}{u v:PV}(h:Cc bop t x y u v K):∃ pv,K pv/\∀ K':PV->Prop,K' pv->Cc bop t x y u v K':=by
 unfold Cc at *;split at h;{exact Pe h};{exact SY h};{split at h;{obtain⟨r,h1,h2⟩:=h.h;exact⟨_,h2,λ_ q=>⟨⟨r,h1,q⟩⟩⟩};grind}
 ·split at h;{grind}
  all_goals grind
theorem M4 {objs:List (Nat×Obj')}{v:PV}{K:PV->Prop}(h:ldV objs v K):∃ pv,K pv/\∀ K':PV->Prop,K' pv->ldV objs v K':=by
 unfold ldV at *;cases hn:lnt objs v with
 |false=>grind| true =>
  rw[hn] at h;rcases h.h with hK|⟨n,s,els,h1,h2,h3⟩;{exact⟨v,hK,λK' q=>⟨.inl q⟩⟩};{exact⟨_,h3,λK' q=>⟨.inr ⟨n,s,els,h1,h2,q⟩⟩⟩}
theorem Uy {objs objs':List (Nat×Obj')}(hx:∀ n o,yO objs n=some o->yO objs' n=some o){v:PV}(h:DE objs v=true):DE objs' v=true:=by
 cases v with
 |osl m s i len =>
  grind [DE]
 |_=>cases h
theorem BO {objs objs':List (Nat×Obj')}(hx:∀ n o,yO objs n=some o->yO objs' n=some o){v:PV}(h:lnt objs v=true):lnt objs' v=true:=by
 cases v with
 |agg cs =>
  simp only[lnt] at h ⊢;induction cs with
  |nil=>exact h| cons c cs ih =>
   simp only[NF] at h ⊢;cases hc:DE objs c with
   |true=>rw[Uy hx hc]| false =>
    grind
 |osl m s i len=>exact Uy (v:=.osl m s i len) hx h| _=>cases h
theorem BZ {objs objs':List (Nat×Obj')}(hx:∀ n o,yO objs n=some o->yO objs' n=some o){v:PV}{K:PV->Prop}(h:ldV objs v K):ldV objs' v K:=by
 unfold ldV at *;cases hn:lnt objs v with
 |false =>
  rw[hn] at h;cases lnt objs' v with
  |false=>exact h| true=>exact⟨.inl h⟩
 |true =>
  rw[hn] at h;rw[BO hx hn];rcases h.h with hK|⟨n,s,els,h1,h2,h3⟩;{exact⟨.inl hK⟩};{exact⟨.inr ⟨n,s,els,hx _ _ h1,h2,h3⟩⟩}
theorem Bh {objs objs':List (Nat×Obj')}(hx:∀ n o,yO objs n=some o->yO objs' n=some o){t:Ty}{cs:List PV}{off:Nat}{K:PV->Prop}(h:rdK t cs off (λv=>ldV objs v K)):rdK t cs off (λv=>ldV objs' v K):=by grind [ZT,BZ]
theorem JW {b:Bool}{objs:List (Nat×Obj')}{g:FuncId}{args:List PV}{K:PV->Prop}(h:CallS b objs g args K):∃ pv,K pv/\∀ K':PV->Prop,K' pv->CallS b objs g args K':=by rcases h.h with⟨args',r,h1,h2,h3,h4⟩|⟨hb,hn,cargs,kept,r,h1,h2,h3,h4,h5,h6,h7,h8,h9,h10⟩;{exact⟨r,h4,λK' q=>⟨.inl ⟨args',r,h1,h2,h3,q⟩⟩⟩};{exact⟨_,h10,λK' q=>⟨.inr ⟨hb,hn,cargs,kept,r,h1,h2,h3,h4,h5,h6,h7,h8,h9,q⟩⟩⟩}
theorem CD {objs:List (Nat×Obj')}{op:Op}{e:Operand->PV}{K:PV->Prop}(h:sop objs op e K):∃ pv,K pv/\∀ K':PV->Prop,K' pv->sop objs op e K':=by
 unfold sop at *;split at h;{grind};{grind};{exact NB h};{grind}
 ·split at h
  all_goals grind
 ·split at h;{exact ZT h};{grind [ZT,M4]}
  ·rename_i n s i off _;split at h
   ·rename_i s' els _;cases hss:nqb s s' with
    |false=>grind| true =>
     simp only[hss,cond_true] at h ⊢;obtain⟨c,h1,h2,h3,h4⟩:=h.h;obtain⟨pv,h5,h6⟩:=ZT h4;exact⟨pv,h5,λK' q=>⟨⟨c,h1,h2,h3,h6 K' q⟩⟩⟩
   ·rename_i s' rows hs _;cases hss:(nqb s 1&&nqb off 0) with
    |false=>grind| true =>
     simp only[hss] at h ⊢;obtain⟨v0,k0,h1,h2,h4⟩:=h.h;obtain⟨pv,h5,h6⟩:=ZT h4;exact⟨pv,h5,λK' q=>⟨⟨v0,k0,h1,h2,h6 K' q⟩⟩⟩
   ·rename_i cs _;cases hss:(nqb s 1&&nqb off 0) with
    |false=>grind| true =>
     simp only[hss] at h ⊢;obtain⟨h1,h4⟩:=h.h;obtain⟨pv,h5,h6⟩:=ZT h4;exact⟨pv,h5,λK' q=>⟨⟨h1,h6 K' q⟩⟩⟩
   grind
  grind
 {exact Py h};{split at h;{grind};{grind};{grind};{grind};{exact Kd h};grind}
 ·rename_i src dst x;cases hno:(ty src).isNo with
  |true=>grind| false =>
   simp only[hno,cond_false] at h ⊢;split at h;{grind};{obtain⟨h1,h2,ns,h3,h4⟩:=h.h;exact⟨_,h4,λ_ q=>⟨h1,h2,ns,h3,q⟩⟩};grind
 ·split at h
  all_goals grind
 ·split at h
  ·split at h
   ·rename_i off sz ag hi;cases ag with
    |false =>
     (try simp only at h ⊢)
     grind
    |true =>
     (try simp only at h ⊢)
     grind
   grind
  grind
 {split at h;{obtain⟨h0,c,h1,h2,h3,h4⟩:=h.h;exact⟨_,h4,λ_ q=>⟨⟨h0,c,h1,h2,h3,q⟩⟩⟩};{grind};{obtain⟨j,h1,h2,h3⟩:=h.h;exact⟨_,h3,λ_ q=>⟨⟨j,h1,h2,q⟩⟩⟩};grind}
 ·split at h
  ·rename_i len z cs k kv _ _ _;cases hll:nqb len cs.length with
   |false=>grind| true =>
    simp only[hll,cond_true] at h ⊢;obtain⟨j,h1,h2,h3⟩:=h.h;exact⟨_,h3,λ_ q=>⟨⟨j,h1,h2,q⟩⟩⟩
  grind
 {grind}
 ·split at h
  all_goals grind
 {grind};{grind};{split at h;{split at h;{unfold MZ at *;grind};grind};{grind};{grind};{split at h;{exact JW h};grind};grind};grind
theorem pY {e e':Operand->PV}:∀ {l:List Operand},(∀ x,x∈l->e x=e' x)->evs e l=evs e' l
 |[],_=>rfl| x::r,h=>by simp only[evs];rw[h x xV,pY λy hy=>h y (xQ _ hy)]
theorem pB {e e':Operand->PV}:∀ {l:List (Nat×Operand)},(∀ x,x∈l.map (·.2)->e x=e' x)->v7 e l=v7 e' l
 |[],_=>rfl| (i,x)::r,h=>by simp only[v7];rw[h x (by simp),pB λy hy=>h y (by grind)]
theorem XU {e e':Operand->PV}{d:Unit->Int}{o:Option Operand}(h:∀ x,o=some x->e x=e' x):i8 e d o=i8 e' d o:=by
 cases o with
 |none=>rfl| some x=>simp only[i8];grind
theorem V8 {objs:List (Nat×Obj')}{op:Op}{e e':Operand->PV}{K:PV->Prop}(h:∀ x,x∈op.operands.toList->e x=e' x)(hs:sop objs op e K):sop objs op e' K:=by
 cases op with
 |move x=>simp only[sop] at hs ⊢;rwa [<-h x (by simp[Op.operands])]| assign x=>simp only[sop] at hs ⊢;rwa [<-h x (by simp[Op.operands])]| pick c x y=>simp only[sop] at hs ⊢;rwa [<-h x (by simp[Op.operands]),<-h y (by simp[Op.operands]),<-h c (by simp[Op.operands])]| build t parts=>simp only[sop] at hs ⊢;rwa [<-pB (e:=e) λx hx=>h x (by grind [Op.operands])]| buildSlice t len parts=>simp only[sop] at hs ⊢;grind [pB,Op.operands]| load t a=>simp only[sop] at hs ⊢;rwa [<-h a (by simp[Op.operands])]| binOp b t x y yt=>simp only[sop] at hs ⊢;rwa [<-h x (by simp[Op.operands]),<-h y (by simp[Op.operands])]| unOp u t x=>simp only[sop] at hs ⊢;rwa [<-h x (by simp[Op.operands])]| convert s d x=>simp only[sop] at hs ⊢;rwa [<-h x (by simp[Op.operands])]| fieldAddr s x f=>simp only[sop] at hs ⊢;rwa [<-h x (by simp[Op.operands])]| field t x i=>simp only[sop] at hs ⊢;rwa [<-h x (by simp[Op.operands])]| indexAddr t x i=>simp only[sop] at hs ⊢;rwa [<-h x (by simp[Op.operands]),<-h i (by simp[Op.operands])]| index t x i=>simp only[sop] at hs ⊢;rwa [<-h x (by simp[Op.operands]),<-h i (by simp[Op.operands])]| extract x i=>simp only[sop] at hs ⊢;rwa [<-h x (by simp[Op.operands])]| slice t x lo hi mx =>
  have hx:=h x (by simp[Op.operands]);have hlo:∀ d,i8 e d lo=i8 e' d lo:=λd=>XU λy hy=>h y (by subst hy;simp[Op.operands]);have hhi:∀ d,i8 e d hi=i8 e' d hi:=λd=>XU λy hy=>h y (by subst hy;simp[Op.operands]);cases mx with
  |some m=>simp only[sop] at hs| none=>simp only[sop] at hs ⊢;simp only[<-hx,<-hlo,<-hhi];exact hs
 |nilCheck x=>simp only[sop] at hs ⊢;rwa [<-h x (by simp[Op.operands])]| makeFunc fn first caps =>
  cases fn with
  |func f =>
   simp only[sop] at hs ⊢;grind [pY,Op.operands]
  |_=>simp only[sop] at hs
 |call c =>
  have hargs:∀ x,x∈c.args.toList->e x=e' x:=λx hx=>h x (by grind [Op.operands,Call.operands]);simp only[sop] at hs ⊢;split at hs;{grind};{grind};{grind}
  all_goals grind [Op.operands,Call.operands,pY]
 |_=>simp only[sop] at hs
theorem Pz {n b:Nat}{base x:PV}{K:PV->Prop}(h:J6 n b base x K):∃ pv,K pv/\∀ K':PV->Prop,K' pv->J6 n b base x K':=by unfold J6 at *;grind
theorem Kh {op:Op}{e:Operand->PV}{K:PV->Prop}(h:A5 op e K):∃ (c:Call) (b x:Operand) (t tx:TypeId) (n bb:Nat) (z:List PV),op=.call c/\c.args=#[b,x]/\c.argTypes=#[t,tx]/\Zk (ty tx)=true/\ty t=.sli n bb z/\jK (e b)=true/\J6 n bb (e b) (e x) K:=by
 unfold A5 at h;split at h
 ·rename_i c;split at h
  ·rename_i b x t tx hb ht;cases hi:Zk (ty tx) with
   |false=>grind| true =>
    rw[hi] at h;simp only at h;split at h
    ·rename_i n bb z h1 h2;refine⟨c,b,x,t,tx,n,bb,z,rfl,?_,?_,hi,h1,h2,h⟩
     all_goals grind
    grind
  grind
 grind
theorem F7 {c:Call}{b x:Operand}{t tx:TypeId}{n bb:Nat}{z:List PV}{e:Operand->PV}{K:PV->Prop}(h1:c.args=#[b,x])(h2:c.argTypes=#[t,tx])(h3:Zk (ty tx)=true)(h4:ty t=.sli n bb z)(h5:jK (e b)=true)(h6:J6 n bb (e b) (e x) K):A5 (.call c) e K:=by grind [A5]
variable {nb:Bool}
theorem Dg {op:Op}{c:Call}(h:Ku op=some c):op=.call c/\∃ f,c.callee=.value f:=by unfold Ku at h;grind
theorem n7 {objs:List (Nat×Obj')}{op:Op}{e:Operand->PV}{K:PV->Prop}(h:oG objs op e K):(Ku op=none/\sop objs op e K)\/∃ c f g caps,op=.call c/\c.callee=.value f/\Ku op=some c/\e f=.fn g caps/\CallS true objs g (evs e c.args.toList++caps) K:=by
 unfold oG at h;cases hv:Ku op with
 |none=>grind| some c =>
  obtain⟨h1,f,h2⟩:=Dg hv;grind
theorem Qc {objs:List (Nat×Obj')}{op:Op}{e:Operand->PV}{K:PV->Prop}{c:Call}{f:Operand}{g:FuncId}{caps:List PV}(hv:Ku op=some c)(h2:c.callee=.value f)(he:e f=.fn g caps)(h:CallS true objs g (evs e c.args.toList++caps) K):oG objs op e K:=by grind [oG]
theorem Xx {objs:List (Nat×Obj')}{op:Op}{e:Operand->PV}{K:PV->Prop}(hv:Ku op=none)(h:sop objs op e K):oG objs op e K:=by grind [oG]
theorem SZ {objs:List (Nat×Obj')}{op:Op}{e:Operand->PV}{K:PV->Prop}(h:oG objs op e K):∃ pv,K pv/\∀ K':PV->Prop,K' pv->oG objs op e K':=by grind [n7,CD,Xx,JW,Qc]
theorem WN {e e':Operand->PV}:∀ {l:List Operand},(∀ x,x∈l->e x=e' x)->evs e l=evs e' l
 |[],_=>rfl| x::r,h=>by simp only[evs];rw[h x xV,WN λy hy=>h y (xQ _ hy)]
theorem Hw {objs:List (Nat×Obj')}{op:Op}{e e':Operand->PV}{K:PV->Prop}(h:∀ x,x∈op.operands.toList->e x=e' x)(hs:oG objs op e K):oG objs op e' K:=by rcases n7 hs with⟨h1,h2⟩|⟨c,f,g,caps,h1,h2,h3,h4,h5⟩;{grind [Xx,V8]};{subst h1;have hf:e f=e' f:=h f (by simp[Op.operands,Call.operands,h2]);refine Qc h3 h2 (hf ▸ h4) ?_;rw[<-WN (e:=e) (e':=e') λx hx=>h x (by simp only[Op.operands,Call.operands,h2];simp;simp at hx;first|grind|exact .inl hx|exact hx)];exact h5}
theorem S5 {objs:List (Nat×Obj')}{op:Op}{e:Operand->PV}{K:PV->Prop}(h:bL nb objs op e K):∃ pv,K pv/\∀ K':PV->Prop,K' pv->bL nb objs op e K':=by
 unfold bL at *;cases hi:YC op with
 |false =>
  rw[hi] at h;cases nb with
  |true=>exact SZ h| false=>exact CD h
 |true =>
  rw[hi] at h;obtain⟨c,b,x,t,tx,n,bb,z,rfl,h1,h2,h3,h4,h5,h6⟩:=Kh h;grind [Pz,F7]
theorem Jn {op:Op}(h:YC op=true):∃ c,op=.call c/\c.callee=.builtin .append:=by unfold YC at h;grind
theorem Hx {objs:List (Nat×Obj')}{op:Op}{e e':Operand->PV}{K:PV->Prop}(h:∀ x,x∈op.operands.toList->e x=e' x)(hs:bL nb objs op e K):bL nb objs op e' K:=by
 unfold bL at *;cases hi:YC op with
 |false =>
  rw[hi] at hs;cases nb with
  |true=>exact Hw h hs| false=>exact V8 h hs
 |true =>
  rw[hi] at hs;obtain⟨c',hc1,hc2⟩:=Jn hi;obtain⟨c,b,x,t,tx,n,bb,z,rfl,h1,h2,h3,h4,h5,h6⟩:=Kh hs;grind [Op.operands,Call.operands,F7]
def pH (nb:Bool) (objs:List (Nat×Obj')) (all:List Oper) (o:Oper) (τ:Nat->PV) (pv:PV):Prop :=
 j5 all o τ (λ_=>bL nb objs o.op (ev τ) (λv=>Le v pv)) (λ_=>pv=.tup [])
theorem JA {all:List Oper}{o:Oper}{τ:Nat->PV}{A B A' B':Unit->Prop}(hA:A ()->A' ())(hB:B ()->B' ())(h:j5 all o τ A B):j5 all o τ A' B':=by
 have br:∀ {v:PV} {A B A' B':Unit->Prop},(A ()->A' ())->(B ()->B' ())->brV v A B->brV v A' B':=by intro v A B A' B' hA hB h;unfold brV at *;split at h;{grind};{grind};{exact⟨λe=>hA (h.t e),λe=>hB (h.f e)⟩};{exact⟨λe=>hB (h.t e),λe=>hA (h.f e)⟩};omega
 unfold j5 at *;split at h;{grind};{rename_i j want hg;split at h;{rename_i oj hj;split at h;{rename_i d hd;by_cases hu:τ d=.tup [];{rw[hu] at h ⊢;exact hB h};rw[QS hu] at h ⊢;grind};omega};omega}
theorem KF {objs:List (Nat×Obj')}{all:List Oper}{o:Oper}{τ:Nat->PV}{K:PV->Prop}{K2:Prop}(h:j5 all o τ (λ_=>bL nb objs o.op (ev τ) K) (λ_=>K2)):(∃ pv,K pv/\∀ pv',Le pv pv'->pH nb objs all o τ pv')\/(K2/\pH nb objs all o τ (.tup [])):=by
 have pv1:bL nb objs o.op (ev τ) K->∃ pv,K pv/\∀ pv',Le pv pv'->bL nb objs o.op (ev τ) (λv=>Le v pv'):=λhs=>by grind [S5]
 unfold j5 at h;split at h;{grind [pH,j5]}
 ·rename_i j want hg;split at h
  ·rename_i oj hj;split at h
   ·rename_i d hd;by_cases hu:τ d=.tup [];{rw[hu] at h;exact .inr ⟨h,by unfold pH j5;rw[hg];simp only[hj,hd,hu];exact trivial⟩}
    (rw[QS hu] at h;have st:∀ pv',(if want then brV (τ d) (λ_=>bL nb objs o.op (ev τ) (λv=>Le v pv')) (λ_=>pv'=.tup []) else brV (τ d) (λ_=>pv'=.tup []) (λ_=>bL nb objs o.op (ev τ) (λv=>Le v pv')))->pH nb objs all o τ pv':=by grind [pH,j5,QS]);have br:∀ {v:PV} {A:Prop},brV v (λ_=>A) (λ_=>K2)->(A/\∀ X Y:Unit->Prop,X ()->brV v X Y)\/(K2/\∀ X Y:Unit->Prop,Y ()->brV v X Y):=by
     intro v A hb;unfold brV at *;cases v with
     |tt=>grind| ff=>grind| bool b =>
      cases hv:b () with
      |true=>exact .inl ⟨hb.t hv,λ_ _ q=>⟨λ_=>q,λe=>by grind⟩⟩| false=>exact .inr ⟨hb.f hv,λ_ _ q=>⟨λe=>(by grind),λ_=>q⟩⟩
     |nbool b =>
      cases hv:b () with
      |true=>exact .inr ⟨hb.t hv,λ_ _ q=>⟨λ_=>q,λe=>by grind⟩⟩| false=>exact .inl ⟨hb.f hv,λ_ _ q=>⟨λe=>(by grind),λ_=>q⟩⟩
     |_=>exact hb.elim
    have br':∀ {v:PV} {A:Prop},brV v (λ_=>K2) (λ_=>A)->(A/\∀ X Y:Unit->Prop,Y ()->brV v X Y)\/(K2/\∀ X Y:Unit->Prop,X ()->brV v X Y):=by
     intro v A hb;unfold brV at *;cases v with
     |tt=>grind| ff=>grind| bool b =>
      cases hv:b () with
      |true=>exact .inr ⟨hb.t hv,λ_ _ q=>⟨λ_=>q,λe=>by grind⟩⟩| false=>exact .inl ⟨hb.f hv,λ_ _ q=>⟨λe=>(by grind),λ_=>q⟩⟩
     |nbool b =>
      cases hv:b () with
      |true=>exact .inl ⟨hb.t hv,λ_ _ q=>⟨λ_=>q,λe=>by grind⟩⟩| false=>exact .inr ⟨hb.f hv,λ_ _ q=>⟨λe=>(by grind),λ_=>q⟩⟩
     |_=>exact hb.elim
    cases want with
    |true =>
     simp only[cond_true] at h;rcases br h with⟨hA,hX⟩|⟨h2,hY⟩
     all_goals grind
    |false =>
     simp only[cond_false] at h;rcases br' h with⟨hA,hX⟩|⟨h2,hY⟩
     all_goals grind
   grind
  grind
theorem K6 {all:List Oper}{o:Oper}{ps:PS}{pv:PV}{K:PS->Prop}(h:XZ all o (put ps o.dst pv) K):∃ pv' ps',Le pv pv'/\K ps'/\ps'.objs=ps.objs/\zF ps'.tmps=upd (zF ps.tmps) o.dst pv':=by
 unfold XZ at h;cases hg:isG all o with
 |false=>simp only[hg,cond_false] at h;grind [Le.refl,fX,w7]| true =>
  simp only[hg,cond_true] at h;split at h
  ·(rename_i d hd;have hpv:zF (put ps o.dst pv).tmps d=pv:=by rw[w7,hd];simp[upd]);have fin:∀ x,zF (uG (put ps o.dst pv).tmps d x)=upd (zF ps.tmps) o.dst x:=by grind [bB,w7,upd]
   rw[hpv] at h;split at h
   ·rename_i b;cases hv:b () with
    |true=>exact⟨.tt,_,by grind [Le],h.t hv,fX _ _ _,fin _⟩| false=>exact⟨.ff,_,by grind [Le],h.f hv,fX _ _ _,fin _⟩
   ·rename_i b;cases hv:b () with
    |true=>exact⟨.ff,_,by grind [Le],h.t hv,fX _ _ _,fin _⟩| false=>exact⟨.tt,_,by grind [Le],h.f hv,fX _ _ _,fin _⟩
   grind [Le.refl,fX,w7]
  grind [Le.refl,fX,w7]
theorem Yo {objs:List (Nat×Obj')}{all:List Oper}{o:Oper}{τ τ':Nat->PV}{pv:PV}(h:∀ t,t∈fD all o->τ t=τ' t)(hs:pH nb objs all o τ pv):pH nb objs all o τ' pv:=by
 have hop:∀ x,x∈o.op.operands.toList->ev τ x=ev τ' x:=by
  intro x hx;cases x with
  |tmp t=>exact h t (by unfold fD;grind)| _=>rfl
 have hs':j5 all o τ (λ_=>bL nb objs o.op (ev τ') (λv=>Le v pv)) (λ_=>pv=.tup []):=JA (λh=>Hx hop h) id hs;unfold pH;unfold j5 at hs' ⊢;split at hs'
 all_goals grind [fD]
def bY:List Oper->List PV->(Nat->PV)->(Nat->PV)
 |o::l,v::vs,τ=>bY l vs (upd τ o.dst v)| _,_,τ=>τ
theorem KH {objs objs':List (Nat×Obj')}{op:Op}{e:Operand->PV}{K:PV->Prop}(hx:∀ n o,yO objs n=some o->yO objs' n=some o)(h:sop objs op e K):sop objs' op e K:=by
 cases op with
 |load t a =>
  unfold sop at h ⊢;simp only at h ⊢;split at h;{exact h}
  ·rename_i n off he;cases ho:yO objs n with
   |none=>grind| some o =>
    rw[ho] at h;rw[hx _ _ ho];cases o with
    |box cs=>exact Bh hx h| _=>exact h.elim
  all_goals grind
 |makeFunc fn first caps=>cases fn <;> exact h
 |slice t x lo hi mx=>cases mx <;> exact h
 |_=>exact h
theorem Zq {objs objs':List (Nat×Obj')}{h:Nat->Nat}(hx:∀ n o,yO objs n=some o->yO objs' n=some o):∀ {l:List (Nat×Obj')},uU h objs l->uU h objs' l
 |[],_=>trivial| (n,o)::r,H=>⟨⟨hx _ _ H.1.1,H.1.2⟩,Zq hx H.2⟩
theorem Dr {objs objs':List (Nat×Obj')}{op:Op}{e:Operand->PV}{K:PV->Prop}(hx:∀ n o,yO objs n=some o->yO objs' n=some o)(h:oG objs op e K):oG objs' op e K:=by rcases n7 h with⟨h1,h2⟩|⟨c,f,g,caps,h1,h2,h3,h4,h5⟩;{grind [Xx,KH]};{refine Qc h3 h2 h4 ?_;rcases h5.h with q|⟨hb,hn,cargs,kept,r,q1,q2,q3,q4⟩;{exact⟨.inl q⟩};{exact⟨.inr ⟨hb,hn,cargs,kept,r,q1,q2,Zq hx q3,q4⟩⟩}}
theorem Ds {objs objs':List (Nat×Obj')}{op:Op}{e:Operand->PV}{K:PV->Prop}(hx:∀ n o,yO objs n=some o->yO objs' n=some o)(h:bL nb objs op e K):bL nb objs' op e K:=by
 unfold bL at *;cases hi:YC op with
 |false =>
  rw[hi] at h;cases nb with
  |true=>exact Dr hx h| false=>exact KH hx h
 |true=>grind
theorem tK {o:Oper}{d:Nat}{x:Obj'}(h:uA o=some (d,x)):o.guard=none/\o.dst=some d/\∃ t,o.op=.alloc t/\(ty t).isNo=false/\x=.box (ty t).zero:=by unfold uA at h;grind
theorem Ky:∀ {l:List Oper} {pvs:List PV} {τ:Nat->PV} {j t:Nat} {o:Oper} {pv:PV},dE l=true->l[j]?=some o->pvs[j]?=some pv->o.dst=some t->bY l pvs τ t=pv
 |o'::r,v::vs,τ,0,t,o,pv,hd,hl,hp,ht=>by
  simp only[mH,pE] at hl hp;subst hl hp;simp only[dE,yK,ht] at hd;have:∀ (l:List Oper) (vs:List PV) (τ:Nat->PV),(l.all λx=>!(x.dst == some t))=true->bY l vs τ t=τ t:=by
   intro l;induction l with
   |nil=>intro vs τ _;cases vs <;> rfl
   |cons x l ih =>
    intro vs τ h;cases vs with
    |nil=>rfl| cons v vs =>
     simp only[List.all_cons,yK] at h;simp only[bY];rw[ih vs _ h.2];cases hx:x.dst with
     |none=>rfl| some d =>
      (have:d≠t:=by grind);simp[upd,Ne.symm this]
  simp only[bY];rw[this r vs _ hd.1];simp[upd,ht]
 |o'::r,v::vs,τ,j+1,t,o,pv,hd,hl,hp,ht=>by simp only[p9] at hl hp;simp only[dE,yK] at hd;simp only[bY];exact Ky hd.2 hl hp ht| [],_,_,_,_,_,_,_,hl,_,_=>by grind| _::_,[],_,_,_,_,_,_,_,hp,_=>by grind
theorem V0:∀ {l:List Oper} {pvs:List PV} {τ:Nat->PV} {t:Nat},(∀ (j:Nat) (o:Oper),l[j]?=some o->o.dst≠some t)->bY l pvs τ t=τ t
 |o::r,v::vs,τ,t,h=>by
  simp only[bY];rw[V0 λj o' hj=>h (j+1) o' (by grind)];have:=h 0 o (by simp);cases hx:o.dst with
  |none=>rfl| some d =>
   (have hne:d≠t:=by grind);simp[upd,Ne.symm hne]
 |[],_,_,_,_=>by simp[bY]| _::_,[],_,_,_=>by simp[bY]
theorem YE:∀ {l:List Oper} (k:Nat),dE l=true->dE (l.take k)=true
 |[],k,_=>by grind| o::r,0,_=>rfl| o::r,k+1,h=>by simp only[List.take_succ_cons,dE,yK] at h ⊢;refine⟨?_,YE k h.2⟩;grind
theorem p6:∀ {l:List Oper} {i j:Nat} {o o':Oper} {t:Nat},dE l=true->l[i]?=some o->l[j]?=some o'->o.dst=some t->o'.dst=some t->i=j
 |x::r,0,0,o,o',t,_,_,_,_,_=>rfl| x::r,0,j+1,o,o',t,h,hi,hj,ht,ht'=>by simp only[mH,pE] at hi;simp only[p9] at hj;subst hi;simp only[dE,yK,ht,gG] at h;grind| x::r,i+1,0,o,o',t,h,hi,hj,ht,ht'=>by simp only[mH,pE] at hj;simp only[p9] at hi;subst hj;simp only[dE,yK,ht',gG] at h;grind| x::r,i+1,j+1,o,o',t,h,hi,hj,ht,ht'=>by simp only[p9] at hi hj;simp only[dE,yK] at h;rw[p6 h.2 hi hj ht ht']| [],_,_,_,_,_,_,hi,_,_,_=>by grind
end Go.Proofs.YtaeaffgjdcigoaaGreat
