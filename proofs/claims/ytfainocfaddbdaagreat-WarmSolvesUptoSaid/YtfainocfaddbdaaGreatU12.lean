/- A part of the proof: PmO. -/
import Derived.Test.YtfainocfaddbdaaGreatU11
set_option linter.all false
namespace Go.Proofs.YtfainocfaddbdaaGreat
open Go
section
variable {K:PV->Prop}
theorem zZJ {v x y:PV}(h:brV v (fun _=>K x) (fun _=>K y)):∃ pv,K pv/\∀ K':PV->Prop,K' pv->brV v (fun _=>K' x) (fun _=>K' y):=by
 unfold brV at *
 split at h;{exact⟨x,h,fun _ q=>q⟩};{exact⟨y,h,fun _ q=>q⟩}
 ·rename_i b;cases hb:b () with
  |true=>exact⟨x,h.t hb,fun _ q=>⟨fun _=>q,fun e=>by rw[hb] at e;cases e⟩⟩| false=>exact⟨y,h.f hb,fun _ q=>⟨fun e=>(by rw[hb] at e;cases e),fun _=>q⟩⟩
 ·rename_i b;cases hb:b () with
  |true=>exact⟨y,h.t hb,fun _ q=>⟨fun _=>q,fun e=>by rw[hb] at e;cases e⟩⟩| false=>exact⟨x,h.f hb,fun _ q=>⟨fun e=>(by rw[hb] at e;cases e),fun _=>q⟩⟩
 {exact h.elim}
theorem zEY {t:Ty}{cs:List PV}{off:Nat}(h:rdK t cs off K):∃ pv,K pv/\∀ K':PV->Prop,K' pv->rdK t cs off K':=by
 unfold rdK at *
 cases hno:t.isNo with
 |true=>simp[hno] at h| false =>
  simp only[hno,cond_false] at h ⊢;cases hle:nle (off+t.cells) cs.length with
  |false=>simp[hle] at h| true=>simp only[hle,cond_true] at h ⊢;exact⟨_,h,fun _ q=>q⟩
theorem zIR {k:IntKind}{z:Unit->Int}(h:arK k z K):∃ pv,K pv/\∀ K':PV->Prop,K' pv->arK k z K':=by
 unfold arK at *
 split at h;{exact⟨_,h.2,fun _ q=>⟨h.1,q⟩⟩};{exact⟨_,h,fun _ q=>q⟩}
theorem zVT {op:BinOp}{k k':IntKind}{a b:Unit->Int}(h:intK op k a k' b K):∃ pv,K pv/\∀ K':PV->Prop,K' pv->intK op k a k' b K':=by
 unfold intK at *
 split at h;{exact⟨_,h.2,fun _ q=>⟨h.1,q⟩⟩};{exact⟨_,h.2,fun _ q=>⟨h.1,q⟩⟩}
 ·cases hk:zQP k k' with
  |false=>simp[hk] at h| true =>
   simp only[hk,cond_true] at h ⊢;split at h;{exact zIR h};{exact zIR h};{exact zIR h};{exact⟨_,h.2,fun _ q=>⟨h.1,q⟩⟩};{exact⟨_,h.2,fun _ q=>⟨h.1,q⟩⟩};{exact⟨_,h,fun _ q=>q⟩};{exact⟨_,h,fun _ q=>q⟩};{exact⟨_,h,fun _ q=>q⟩};{exact⟨_,h,fun _ q=>q⟩};{exact⟨_,h,fun _ q=>q⟩};{exact⟨_,h,fun _ q=>q⟩};{exact⟨_,h,fun _ q=>q⟩};{exact⟨_,h,fun _ q=>q⟩};{exact h.elim}
end
theorem zUZ {K:PV->Prop}{bop:BinOp}{a b:Unit->ByteArray}(h:strK bop a b K):∃ pv,K pv/\∀ K':PV->Prop,K' pv->strK bop a b K':=by
 unfold strK at *
 split at h;{exact⟨_,h.2,fun _ q=>⟨h.1,q⟩⟩};{exact⟨_,h,fun _ q=>q⟩};{exact⟨_,h,fun _ q=>q⟩};{exact h.elim}
theorem zWD {K:PV->Prop}{bop:BinOp}{t:TypeId}{x y:Operand}{u v:PV}(h:binK bop t x y u v K):∃ pv,K pv/\∀ K':PV->Prop,K' pv->binK bop t x y u v K':=by
 unfold binK at *
 split at h;{exact zVT h};{exact zUZ h};{split at h;{obtain⟨r,h1,h2⟩:=h.h;exact⟨_,h2,fun _ q=>⟨⟨r,h1,q⟩⟩⟩};{exact h.elim}}
 ·split at h;{split at h;{exact⟨_,h,fun _ q=>q⟩};{exact⟨_,h,fun _ q=>q⟩};{exact h.elim}}
  ·split at h
   ·rename_i a b _ _;cases hab:a || b with
    |false=>simp only[hab] at h| true=>simp only[hab] at h;exact⟨_,h,fun _ q=>by simpa only [hab] using q⟩
   ·rename_i a b _ _;cases hab:a || b with
    |false=>simp only[hab] at h| true=>simp only[hab] at h;exact⟨_,h,fun _ q=>by simpa only [hab] using q⟩
   {exact h.elim}
  {exact h.elim}
theorem zYW {objs:List (Nat×Obj')}{v:PV}{K:PV->Prop}(h:ldV objs v K):∃ pv,K pv/\∀ K':PV->Prop,K' pv->ldV objs v K':=by
 unfold ldV at *
 cases hn:lnt objs v with
 |false=>rw[hn] at h;exact⟨v,h,fun _ q=>q⟩| true =>
  rw[hn] at h;rcases h.h with hK|⟨n,s,els,h1,h2,h3⟩;{exact⟨v,hK,fun K' q=>⟨.inl q⟩⟩};{exact⟨_,h3,fun K' q=>⟨.inr ⟨n,s,els,h1,h2,q⟩⟩⟩}
theorem zF7 {objs objs':List (Nat×Obj')}(hx:∀ n o,yA objs n=some o->yA objs' n=some o){v:PV}(h:lnt0 objs v=true):lnt0 objs' v=true:=by
 cases v with
 |osl m s i len =>
  simp only[lnt0] at h ⊢;cases hg:yA objs m with
  |none=>rw[hg] at h;cases h
  |some o=>rw[hg] at h;rw[hx _ _ hg];exact h
 |_=>cases h
theorem zRW {objs objs':List (Nat×Obj')}(hx:∀ n o,yA objs n=some o->yA objs' n=some o){v:PV}(h:lnt objs v=true):lnt objs' v=true:=by
 cases v with
 |agg cs =>
  simp only[lnt] at h ⊢;induction cs with
  |nil=>exact h| cons c cs ih =>
   simp only[anyL] at h ⊢;cases hc:lnt0 objs c with
   |true=>rw[zF7 hx hc]| false =>
    rw[hc] at h;cases lnt0 objs' c with
    |true=>rfl| false=>exact ih h
 |osl m s i len=>exact zF7 (v:=.osl m s i len) hx h| _=>cases h
theorem zRZ {objs objs':List (Nat×Obj')}(hx:∀ n o,yA objs n=some o->yA objs' n=some o){v:PV}{K:PV->Prop}(h:ldV objs v K):ldV objs' v K:=by
 unfold ldV at *
 cases hn:lnt objs v with
 |false =>
  rw[hn] at h;cases lnt objs' v with
  |false=>exact h| true=>exact⟨.inl h⟩
 |true =>
  rw[hn] at h;rw[zRW hx hn];rcases h.h with hK|⟨n,s,els,h1,h2,h3⟩;{exact⟨.inl hK⟩};{exact⟨.inr ⟨n,s,els,hx _ _ h1,h2,h3⟩⟩}
theorem zRM {objs objs':List (Nat×Obj')}(hx:∀ n o,yA objs n=some o->yA objs' n=some o){t:Ty}{cs:List PV}{off:Nat}{K:PV->Prop}(h:rdK t cs off (fun v=>ldV objs v K)):rdK t cs off (fun v=>ldV objs' v K):=by obtain⟨pv,h1,h2⟩:=zEY h;exact h2 _ (zRZ hx h1)
theorem zKS {b:Bool}{objs:List (Nat×Obj')}{g:FuncId}{args:List PV}{K:PV->Prop}(h:CallS b objs g args K):∃ pv,K pv/\∀ K':PV->Prop,K' pv->CallS b objs g args K':=by rcases h.h with⟨args',r,h1,h2,h3,h4⟩|⟨hb,hn,cargs,kept,r,h1,h2,h3,h4,h5,h6,h7,h8,h9,h10⟩;{exact⟨r,h4,fun K' q=>⟨.inl ⟨args',r,h1,h2,h3,q⟩⟩⟩};{exact⟨_,h10,fun K' q=>⟨.inr ⟨hb,hn,cargs,kept,r,h1,h2,h3,h4,h5,h6,h7,h8,h9,q⟩⟩⟩}
theorem zSX {objs:List (Nat×Obj')}{op:Op}{e:Operand->PV}{K:PV->Prop}(h:sop objs op e K):∃ pv,K pv/\∀ K':PV->Prop,K' pv->sop objs op e K':=by
 unfold sop at *
 split at h;{exact⟨_,h,fun _ q=>q⟩};{exact⟨_,h,fun _ q=>q⟩};{exact zZJ h};{split at h;{split at h;{exact⟨_,h,fun _ q=>q⟩};{exact h.elim}};{split at h;{exact⟨_,h,fun _ q=>q⟩};{exact h.elim}};{exact h.elim}}
 ·split at h
  ·split at h
   ·rename_i els hf;cases hc:(nle _ 1000&&tC els) with
    |false=>simp only[hc,cond_false] at h| true=>simp only[hc,cond_true] at h ⊢;exact⟨_,h,fun _ q=>q⟩
   {exact h.elim}
  {exact h.elim}
 ·split at h;{exact zEY h};{split at h;{obtain⟨pv,h5,h6⟩:=zEY h;obtain⟨pv',h7,h8⟩:=zYW h5;exact⟨pv',h7,fun K' q=>h6 _ (h8 K' q)⟩};{exact h.elim}}
  ·rename_i n s i off _;split at h
   ·rename_i s' els _;cases hss:nqb s s' with
    |false=>simp[hss] at h| true =>
     simp only[hss,cond_true] at h ⊢;obtain⟨c,h1,h2,h3,h4⟩:=h.h;obtain⟨pv,h5,h6⟩:=zEY h4;exact⟨pv,h5,fun K' q=>⟨⟨c,h1,h2,h3,h6 K' q⟩⟩⟩
   ·rename_i s' rows hs _;cases hss:(nqb s 1&&nqb off 0) with
    |false=>simp only[hss] at h| true =>
     simp only[hss] at h ⊢;obtain⟨v0,k0,h1,h2,h4⟩:=h.h;obtain⟨pv,h5,h6⟩:=zEY h4;exact⟨pv,h5,fun K' q=>⟨⟨v0,k0,h1,h2,h6 K' q⟩⟩⟩
   {exact h.elim}
  {exact h.elim}
 {exact zWD h};{split at h;{exact⟨_,h,fun _ q=>q⟩};{exact⟨_,h,fun _ q=>q⟩};{exact⟨_,h,fun _ q=>q⟩};{exact⟨_,h,fun _ q=>q⟩};{exact zIR h};{exact h.elim}}
 ·rename_i src dst x;cases hno:(ty src).isNo with
  |true=>simp[hno] at h| false =>
   simp only[hno,cond_false] at h ⊢;split at h;{exact⟨_,h,fun _ q=>q⟩};{obtain⟨h1,h2,ns,h3,h4⟩:=h.h;exact⟨_,h4,fun _ q=>⟨h1,h2,ns,h3,q⟩⟩};{exact h.elim}
 {split at h;{split at h;{split at h;{exact⟨_,h,fun _ q=>q⟩};{exact⟨_,h,fun _ q=>q⟩};{exact⟨_,h,fun _ q=>q⟩};{exact h.elim}};{exact h.elim}};{exact h.elim}}
 ·split at h
  ·split at h
   ·rename_i off sz ag hi;cases ag with
    |false=>exact h.elim| true =>
     (try simp only at h ⊢)
     split at h
     ·rename_i cs _;cases hle:nle (off+sz) cs.length with
      |false=>simp[hle] at h| true=>simp only[hle] at h ⊢;exact⟨_,h,fun _ q=>q⟩
     {exact h.elim}
   {exact h.elim}
  {exact h.elim}
 ·split at h;{obtain⟨h0,c,h1,h2,h3,h4⟩:=h.h;exact⟨_,h4,fun _ q=>⟨⟨h0,c,h1,h2,h3,q⟩⟩⟩}
  ·rename_i n b z m s o len k kv _ _ _;cases hss:nqb n s with
   |false=>simp[hss] at h| true=>simp only[hss,cond_true] at h ⊢;exact⟨_,h.2,fun _ q=>⟨h.1,q⟩⟩
  {obtain⟨j,h1,h2,h3⟩:=h.h;exact⟨_,h3,fun _ q=>⟨⟨j,h1,h2,q⟩⟩⟩};{exact h.elim}
 ·split at h
  ·rename_i len z cs k kv _ _ _;cases hll:nqb len cs.length with
   |false=>simp[hll] at h| true =>
    simp only[hll,cond_true] at h ⊢;obtain⟨j,h1,h2,h3⟩:=h.h;exact⟨_,h3,fun _ q=>⟨⟨j,h1,h2,q⟩⟩⟩
  {exact h.elim}
 ·rename_i x i;split at h
  ·rename_i vs _;cases hlt:nlt i vs.length with
   |false=>simp[hlt] at h| true=>simp only[hlt,cond_true] at h ⊢;exact⟨_,h,fun _ q=>q⟩
  {exact h.elim}
 ·split at h;{split at h;{exact⟨_,h.2.2,fun _ q=>⟨h.1,h.2.1,q⟩⟩};{exact h.elim}}
  ·rename_i n b z m s o len _ _;split at h
   ·cases hss:nqb n s with
    |false=>simp[hss] at h| true=>simp only[hss,cond_true] at h ⊢;exact⟨_,h.2.2,fun _ q=>⟨h.1,h.2.1,q⟩⟩
   {exact h.elim}
  {split at h;{exact⟨_,h.2,fun _ q=>⟨h.1,q⟩⟩};{exact h.elim}};{exact h.elim}
 {split at h;{exact⟨_,h,fun _ q=>q⟩};{exact⟨_,h,fun _ q=>q⟩};{exact⟨_,h,fun _ q=>q⟩};{exact h.elim}};{split at h;{exact⟨_,h,fun _ q=>q⟩};{exact h.elim}}
 ·split at h
  ·split at h
   ·unfold lenK at *
    split at h;{split at h;{exact⟨_,h,fun _ q=>q⟩};{exact⟨_,h,fun _ q=>q⟩};{exact⟨_,h,fun _ q=>q⟩};{exact⟨_,h,fun _ q=>q⟩};{exact h.elim}};{exact h.elim}
   {exact h.elim}
  {split at h;{split at h;{exact⟨_,h,fun _ q=>q⟩};{exact h.elim}};{exact h.elim}};{split at h;{split at h;{exact⟨_,h,fun _ q=>q⟩};{exact h.elim}};{exact h.elim}};{split at h;{exact zKS h};{exact h.elim}};{exact h.elim}
 {exact h.elim}
theorem rW {e e':Operand->PV}:∀ {l:List Operand},(∀ x,x∈l->e x=e' x)->evs e l=evs e' l
 |[],_=>rfl| x::r,h=>by simp only[evs];rw[h x xD,rW fun y hy=>h y (xI _ hy)]
theorem sV {e e':Operand->PV}:∀ {l:List (Nat×Operand)},(∀ x,x∈l.map (·.2)->e x=e' x)->uP e l=uP e' l
 |[],_=>rfl| (i,x)::r,h=>by simp only[uP];rw[h x (by simp),sV fun y hy=>h y (by simp only[uC,z9];exact .inr hy)]
theorem zB6 {e e':Operand->PV}{d:Unit->Int}{o:Option Operand}(h:∀ x,o=some x->e x=e' x):lX e d o=lX e' d o:=by
 cases o with
 |none=>rfl| some x=>simp only[lX];rw[h x rfl]
theorem zFQ {objs:List (Nat×Obj')}{op:Op}{e e':Operand->PV}{K:PV->Prop}(h:∀ x,x∈op.operands.toList->e x=e' x)(hs:sop objs op e K):sop objs op e' K:=by
 cases op with
 |move x=>simp only[sop] at hs ⊢;rwa [<-h x (by simp[Op.operands])]| assign x=>simp only[sop] at hs ⊢;rwa [<-h x (by simp[Op.operands])]| pick c x y=>simp only[sop] at hs ⊢;rwa [<-h x (by simp[Op.operands]),<-h y (by simp[Op.operands]),<-h c (by simp[Op.operands])]| build t parts=>simp only[sop] at hs ⊢;rwa [<-sV (e:=e) fun x hx=>h x (by simpa[Op.operands] using hx)]| buildSlice t len parts=>simp only[sop] at hs ⊢;rwa [<-sV (e:=e) fun x hx=>h x (by simpa[Op.operands] using hx)]| load t a=>simp only[sop] at hs ⊢;rwa [<-h a (by simp[Op.operands])]| binOp b t x y yt=>simp only[sop] at hs ⊢;rwa [<-h x (by simp[Op.operands]),<-h y (by simp[Op.operands])]| unOp u t x=>simp only[sop] at hs ⊢;rwa [<-h x (by simp[Op.operands])]| convert s d x=>simp only[sop] at hs ⊢;rwa [<-h x (by simp[Op.operands])]| fieldAddr s x f=>simp only[sop] at hs ⊢;rwa [<-h x (by simp[Op.operands])]| field t x i=>simp only[sop] at hs ⊢;rwa [<-h x (by simp[Op.operands])]| indexAddr t x i=>simp only[sop] at hs ⊢;rwa [<-h x (by simp[Op.operands]),<-h i (by simp[Op.operands])]| index t x i=>simp only[sop] at hs ⊢;rwa [<-h x (by simp[Op.operands]),<-h i (by simp[Op.operands])]| extract x i=>simp only[sop] at hs ⊢;rwa [<-h x (by simp[Op.operands])]| slice t x lo hi mx =>
  have hx:=h x (by simp[Op.operands]);have hlo:∀ d,lX e d lo=lX e' d lo:=fun d=>zB6 fun y hy=>h y (by subst hy;simp[Op.operands]);have hhi:∀ d,lX e d hi=lX e' d hi:=fun d=>zB6 fun y hy=>h y (by subst hy;simp[Op.operands]);cases mx with
  |some m=>simp only[sop] at hs| none=>simp only[sop] at hs ⊢;simp only[<-hx,<-hlo,<-hhi];exact hs
 |nilCheck x=>simp only[sop] at hs ⊢;rwa [<-h x (by simp[Op.operands])]| makeFunc fn first caps =>
  cases fn with
  |func f =>
   simp only[sop] at hs ⊢;have:evs e caps.toList=evs e' caps.toList:=rW fun x hx=>h x (by simp only[Op.operands,zMM,wQ];exact .inr hx);rwa [<-this]
  |_=>simp only[sop] at hs
 |call c =>
  have hargs:∀ x,x∈c.args.toList->e x=e' x:=fun x hx=>h x (by simp only[Op.operands,Call.operands,zMM,wQ];exact .inr hx);simp only[sop] at hs ⊢;split at hs;{split at hs;{rename_i x t hx ht;rw[hargs x (by rw[hx];simp)] at hs;exact hs};{exact hs.elim}};{split at hs;{rename_i x y hx;rw[hargs x (by rw[hx];simp),hargs y (by rw[hx];simp)] at hs;exact hs};{exact hs.elim}};{split at hs;{rename_i x y hx;rw[hargs x (by rw[hx];simp),hargs y (by rw[hx];simp)] at hs;exact hs};{exact hs.elim}};{rename_i f hcl;have hf:e f=e' f:=h f (by simp[Op.operands,Call.operands,hcl]);rw[<-hf,<-rW hargs];exact hs};{exact hs.elim}
 |_=>simp only[sop] at hs
theorem zWE {n b:Nat}{base x:PV}{K:PV->Prop}(h:appN n b base x K):∃ pv,K pv/\∀ K':PV->Prop,K' pv->appN n b base x K':=by
 unfold appN at *
 split at h;{exact⟨_,h.2.2,fun K' hK=>⟨h.1,h.2.1,hK⟩⟩};{exact⟨_,h,fun K' hK=>hK⟩};{exact h.elim}
theorem zH0 {op:Op}{e:Operand->PV}{K:PV->Prop}(h:app2 op e K):∃ (c:Call) (b x:Operand) (t tx:TypeId) (n bb:Nat) (z:List PV),op=.call c/\c.args=#[b,x]/\c.argTypes=#[t,tx]/\lF (ty tx)=true/\ty t=.sli n bb z/\fB (e b)=true/\appN n bb (e b) (e x) K:=by
 unfold app2 at h;split at h
 ·rename_i c;split at h
  ·rename_i b x t tx hb ht;cases hi:lF (ty tx) with
   |false=>rw[hi] at h;exact h.elim| true =>
    rw[hi] at h;simp only at h;split at h;{rename_i n bb z h1 h2;refine⟨c,b,x,t,tx,n,bb,z,rfl,?_,?_,hi,h1,h2,h⟩;{rw[<-lJ (xs:=c.args),hb]};{rw[<-lJ (xs:=c.argTypes),ht]}};{exact h.elim}
  {exact h.elim}
 {exact h.elim}
theorem zO4 {c:Call}{b x:Operand}{t tx:TypeId}{n bb:Nat}{z:List PV}{e:Operand->PV}{K:PV->Prop}(h1:c.args=#[b,x])(h2:c.argTypes=#[t,tx])(h3:lF (ty tx)=true)(h4:ty t=.sli n bb z)(h5:fB (e b)=true)(h6:appN n bb (e b) (e x) K):app2 (.call c) e K:=by unfold app2;simp only[h1,h2,h3,h4,h5];exact h6
variable {nb:Bool}
theorem zO7 {op:Op}{c:Call}(h:valC op=some c):op=.call c/\∃ f,c.callee=.value f:=by unfold valC at h;split at h;{rename_i c0;split at h;{rename_i f hf;cases h;exact⟨rfl,f,hf⟩};{cases h}};{cases h}
theorem mZ {objs:List (Nat×Obj')}{op:Op}{e:Operand->PV}{K:PV->Prop}(h:lN objs op e K):(valC op=none/\sop objs op e K)\/∃ c f g caps,op=.call c/\c.callee=.value f/\valC op=some c/\e f=.fn g caps/\CallS true objs g (evs e c.args.toList++caps) K:=by
 unfold lN at h;cases hv:valC op with
 |none=>rw[hv] at h;exact .inl ⟨rfl,h⟩| some c =>
  obtain⟨h1,f,h2⟩:=zO7 hv;rw[hv] at h;simp only[h2] at h;split at h;{rename_i g caps he;exact .inr ⟨c,f,g,caps,h1,h2,rfl,he,h⟩};{exact h.elim}
theorem zG5 {objs:List (Nat×Obj')}{op:Op}{e:Operand->PV}{K:PV->Prop}{c:Call}{f:Operand}{g:FuncId}{caps:List PV}(hv:valC op=some c)(h2:c.callee=.value f)(he:e f=.fn g caps)(h:CallS true objs g (evs e c.args.toList++caps) K):lN objs op e K:=by unfold lN;rw[hv];simp only[h2,he];exact h
theorem zDE {objs:List (Nat×Obj')}{op:Op}{e:Operand->PV}{K:PV->Prop}(hv:valC op=none)(h:sop objs op e K):lN objs op e K:=by unfold lN;rw[hv];exact h
theorem zU0 {objs:List (Nat×Obj')}{op:Op}{e:Operand->PV}{K:PV->Prop}(h:lN objs op e K):∃ pv,K pv/\∀ K':PV->Prop,K' pv->lN objs op e K':=by rcases mZ h with⟨h1,h2⟩|⟨c,f,g,caps,h1,h2,h3,h4,h5⟩;{obtain⟨pv,g1,g2⟩:=zSX h2;exact⟨pv,g1,fun K' q=>zDE h1 (g2 K' q)⟩};{obtain⟨pv,g1,g2⟩:=zKS h5;exact⟨pv,g1,fun K' q=>zG5 h3 h2 h4 (g2 K' q)⟩}
theorem zCE {e e':Operand->PV}:∀ {l:List Operand},(∀ x,x∈l->e x=e' x)->evs e l=evs e' l
 |[],_=>rfl| x::r,h=>by simp only[evs];rw[h x xD,zCE fun y hy=>h y (xI _ hy)]
theorem zLK {objs:List (Nat×Obj')}{op:Op}{e e':Operand->PV}{K:PV->Prop}(h:∀ x,x∈op.operands.toList->e x=e' x)(hs:lN objs op e K):lN objs op e' K:=by rcases mZ hs with⟨h1,h2⟩|⟨c,f,g,caps,h1,h2,h3,h4,h5⟩;{exact zDE h1 (zFQ h h2)};{subst h1;have hf:e f=e' f:=h f (by simp[Op.operands,Call.operands,h2]);refine zG5 h3 h2 (hf ▸ h4) ?_;rw[<-zCE (e:=e) (e':=e') fun x hx=>h x (by simp only[Op.operands,Call.operands,h2];simp;simp at hx;first|exact .inr hx|exact .inl hx|exact hx)];exact h5}
theorem zU1 {objs:List (Nat×Obj')}{op:Op}{e:Operand->PV}{K:PV->Prop}(h:jA nb objs op e K):∃ pv,K pv/\∀ K':PV->Prop,K' pv->jA nb objs op e K':=by
 unfold jA at *
 cases hi:lG op with
 |false =>
  rw[hi] at h;cases nb with
  |true=>exact zU0 h| false=>exact zSX h
 |true =>
  rw[hi] at h;obtain⟨c,b,x,t,tx,n,bb,z,rfl,h1,h2,h3,h4,h5,h6⟩:=zH0 h;obtain⟨pv,q1,q2⟩:=zWE h6;exact⟨pv,q1,fun K' hK=>zO4 h1 h2 h3 h4 h5 (q2 K' hK)⟩
theorem zJX {op:Op}(h:lG op=true):∃ c,op=.call c/\c.callee=.builtin .append:=by unfold lG at h;split at h;{rename_i c;split at h;{rename_i hc;exact⟨c,rfl,hc⟩};{cases h}};{cases h}
theorem zLL {objs:List (Nat×Obj')}{op:Op}{e e':Operand->PV}{K:PV->Prop}(h:∀ x,x∈op.operands.toList->e x=e' x)(hs:jA nb objs op e K):jA nb objs op e' K:=by
 unfold jA at *
 cases hi:lG op with
 |false =>
  rw[hi] at hs;cases nb with
  |true=>exact zLK h hs| false=>exact zFQ h hs
 |true =>
  rw[hi] at hs;obtain⟨c',hc1,hc2⟩:=zJX hi;obtain⟨c,b,x,t,tx,n,bb,z,rfl,h1,h2,h3,h4,h5,h6⟩:=zH0 hs;cases hc1;have hb:e b=e' b:=h b (by simp[Op.operands,Call.operands,hc2,h1]);have hx:e x=e' x:=h x (by simp[Op.operands,Call.operands,hc2,h1]);exact zO4 h1 h2 h3 h4 (hb ▸ h5) (hx ▸ hb ▸ h6)
def vM (nb:Bool) (objs:List (Nat×Obj')) (all:List Oper) (o:Oper) (τ:Nat->PV) (pv:PV):Prop :=
 qS all o τ (fun _=>jA nb objs o.op (ev τ) (fun v=>Le v pv)) (fun _=>pv=.tup [])
theorem mF {all:List Oper}{o:Oper}{τ:Nat->PV}{A B A' B':Unit->Prop}(hA:A ()->A' ())(hB:B ()->B' ())(h:qS all o τ A B):qS all o τ A' B':=by
 have br:∀ {v:PV} {A B A' B':Unit->Prop},(A ()->A' ())->(B ()->B' ())->brV v A B->brV v A' B':=by
  intro v A B A' B' hA hB h;unfold brV at *
  split at h;{exact hA h};{exact hB h};{exact⟨fun e=>hA (h.t e),fun e=>hB (h.f e)⟩};{exact⟨fun e=>hB (h.t e),fun e=>hA (h.f e)⟩};{exact h.elim}
 unfold qS at *
 split at h;{exact hA h}
 ·rename_i j want hg;split at h
  ·rename_i oj hj;split at h
   ·rename_i d hd;by_cases hu:τ d=.tup [];{rw[hu] at h ⊢;exact hB h};rw[zIO hu] at h ⊢;cases want with
    |true=>simp only[cond_true] at h ⊢;exact br hA hB h| false=>simp only[cond_false] at h ⊢;exact br hB hA h
   {exact h.elim}
  {exact h.elim}
theorem tN {objs:List (Nat×Obj')}{all:List Oper}{o:Oper}{τ:Nat->PV}{K:PV->Prop}{K2:Prop}(h:qS all o τ (fun _=>jA nb objs o.op (ev τ) K) (fun _=>K2)):(∃ pv,K pv/\∀ pv',Le pv pv'->vM nb objs all o τ pv')\/(K2/\vM nb objs all o τ (.tup [])):=by
 have pv1:jA nb objs o.op (ev τ) K->∃ pv,K pv/\∀ pv',Le pv pv'->jA nb objs o.op (ev τ) (fun v=>Le v pv'):=fun hs=>by obtain⟨pv,h1,h2⟩:=zU1 hs;exact⟨pv,h1,fun pv' hl=>h2 _ hl⟩
 unfold qS at h;split at h;{rename_i hg;obtain⟨pv,h1,h2⟩:=pv1 h;exact .inl ⟨pv,h1,fun pv' hl=>by unfold vM qS;rw[hg];exact h2 pv' hl⟩}
 ·rename_i j want hg;split at h
  ·rename_i oj hj;split at h
   ·rename_i d hd;by_cases hu:τ d=.tup [];{rw[hu] at h;exact .inr ⟨h,by unfold vM qS;rw[hg];simp only[hj,hd,hu];exact trivial⟩};rw[zIO hu] at h;have st:∀ pv',(if want then brV (τ d) (fun _=>jA nb objs o.op (ev τ) (fun v=>Le v pv')) (fun _=>pv'=.tup []) else brV (τ d) (fun _=>pv'=.tup []) (fun _=>jA nb objs o.op (ev τ) (fun v=>Le v pv')))->vM nb objs all o τ pv':=by
     intro pv' hx;unfold vM qS;rw[hg];simp only[hj,hd,zIO hu];cases want with
     |true=>exact hx| false=>exact hx
    have br:∀ {v:PV} {A:Prop},brV v (fun _=>A) (fun _=>K2)->(A/\∀ X Y:Unit->Prop,X ()->brV v X Y)\/(K2/\∀ X Y:Unit->Prop,Y ()->brV v X Y):=by
     intro v A hb;unfold brV at *
     cases v with
     |tt=>exact .inl ⟨hb,fun _ _ q=>q⟩| ff=>exact .inr ⟨hb,fun _ _ q=>q⟩| bool b =>
      cases hv:b () with
      |true=>exact .inl ⟨hb.t hv,fun _ _ q=>⟨fun _=>q,fun e=>by rw[hv] at e;cases e⟩⟩| false=>exact .inr ⟨hb.f hv,fun _ _ q=>⟨fun e=>(by rw[hv] at e;cases e),fun _=>q⟩⟩
     |nbool b =>
      cases hv:b () with
      |true=>exact .inr ⟨hb.t hv,fun _ _ q=>⟨fun _=>q,fun e=>by rw[hv] at e;cases e⟩⟩| false=>exact .inl ⟨hb.f hv,fun _ _ q=>⟨fun e=>(by rw[hv] at e;cases e),fun _=>q⟩⟩
     |_=>exact hb.elim
    have br':∀ {v:PV} {A:Prop},brV v (fun _=>K2) (fun _=>A)->(A/\∀ X Y:Unit->Prop,Y ()->brV v X Y)\/(K2/\∀ X Y:Unit->Prop,X ()->brV v X Y):=by
     intro v A hb;unfold brV at *
     cases v with
     |tt=>exact .inr ⟨hb,fun _ _ q=>q⟩| ff=>exact .inl ⟨hb,fun _ _ q=>q⟩| bool b =>
      cases hv:b () with
      |true=>exact .inr ⟨hb.t hv,fun _ _ q=>⟨fun _=>q,fun e=>by rw[hv] at e;cases e⟩⟩| false=>exact .inl ⟨hb.f hv,fun _ _ q=>⟨fun e=>(by rw[hv] at e;cases e),fun _=>q⟩⟩
     |nbool b =>
      cases hv:b () with
      |true=>exact .inl ⟨hb.t hv,fun _ _ q=>⟨fun _=>q,fun e=>by rw[hv] at e;cases e⟩⟩| false=>exact .inr ⟨hb.f hv,fun _ _ q=>⟨fun e=>(by rw[hv] at e;cases e),fun _=>q⟩⟩
     |_=>exact hb.elim
    cases want with
    |true =>
     simp only[cond_true] at h;rcases br h with⟨hA,hX⟩|⟨h2,hY⟩;{obtain⟨pv,h1,h2⟩:=pv1 hA;exact .inl ⟨pv,h1,fun pv' hl=>st pv' (by rw[if_pos rfl];exact hX (fun _=>jA nb objs o.op (ev τ) (fun v=>Le v pv')) (fun _=>pv'=.tup []) (h2 pv' hl))⟩};{exact .inr ⟨h2,st (.tup []) (by rw[if_pos rfl];exact hY (fun _=>jA nb objs o.op (ev τ) (fun v=>Le v (.tup []))) (fun _=>(PV.tup []=PV.tup [])) rfl)⟩}
    |false =>
     simp only[cond_false] at h;rcases br' h with⟨hA,hX⟩|⟨h2,hY⟩;{obtain⟨pv,h1,h2⟩:=pv1 hA;exact .inl ⟨pv,h1,fun pv' hl=>st pv' (by rw[if_neg (by simp)];exact hX (fun _=>pv'=.tup []) (fun _=>jA nb objs o.op (ev τ) (fun v=>Le v pv')) (h2 pv' hl))⟩};{exact .inr ⟨h2,st (.tup []) (by rw[if_neg (by simp)];exact hY (fun _=>(PV.tup []=PV.tup [])) (fun _=>jA nb objs o.op (ev τ) (fun v=>Le v (.tup []))) rfl)⟩}
   {exact h.elim}
  {exact h.elim}
theorem t6 {all:List Oper}{o:Oper}{ps:PS}{pv:PV}{K:PS->Prop}(h:lD all o (put ps o.dst pv) K):∃ pv' ps',Le pv pv'/\K ps'/\ps'.objs=ps.objs/\zA ps'.tmps=upd (zA ps.tmps) o.dst pv':=by
 unfold lD at h;cases hg:isG all o with
 |false=>simp only[hg,cond_false] at h;exact⟨pv,_,Le.refl _,h,qP _ _ _,xP _ _ _⟩| true =>
  simp only[hg,cond_true] at h;split at h
  ·(rename_i d hd;have hpv:zA (put ps o.dst pv).tmps d=pv:=by rw[xP,hd];simp[upd]);have fin:∀ x,zA (uH (put ps o.dst pv).tmps d x)=upd (zA ps.tmps) o.dst x:=by intro x;funext t;rw[cJ,xP,hd];simp only[upd];by_cases e:t=d <;> simp[e]
   rw[hpv] at h;split at h
   ·rename_i b;cases hv:b () with
    |true=>exact⟨.tt,_,by simpa[Le] using hv,h.t hv,qP _ _ _,fin _⟩| false=>exact⟨.ff,_,by simpa[Le] using hv,h.f hv,qP _ _ _,fin _⟩
   ·rename_i b;cases hv:b () with
    |true=>exact⟨.ff,_,by simpa[Le] using hv,h.t hv,qP _ _ _,fin _⟩| false=>exact⟨.tt,_,by simpa[Le] using hv,h.f hv,qP _ _ _,fin _⟩
   {exact⟨pv,_,Le.refl _,h,qP _ _ _,xP _ _ _⟩}
  {exact⟨pv,_,Le.refl _,h,qP _ _ _,xP _ _ _⟩}
theorem a7 {objs:List (Nat×Obj')}{all:List Oper}{o:Oper}{τ τ':Nat->PV}{pv:PV}(h:∀ t,t∈jI all o->τ t=τ' t)(hs:vM nb objs all o τ pv):vM nb objs all o τ' pv:=by
 have hop:∀ x,x∈o.op.operands.toList->ev τ x=ev τ' x:=by
  intro x hx;cases x with
  |tmp t=>exact h t (by unfold jI;exact dB _ (zML.2 ⟨_,hx,rfl⟩))| _=>rfl
 have hs':qS all o τ (fun _=>jA nb objs o.op (ev τ') (fun v=>Le v pv)) (fun _=>pv=.tup []):=mF (fun h=>zLL hop h) id hs;unfold vM;unfold qS at hs' ⊢;split at hs';{exact hs'};{rename_i j want hg;split at hs';{rename_i oj hj;split at hs';{rename_i d hd;have:τ d=τ' d:=h d (by unfold jI;refine c9 _ ?_;simp[hg,hj,hd]);rw[this] at hs';exact hs'};{exact hs'.elim}};{exact hs'.elim}}
def v8:List Oper->List PV->(Nat->PV)->(Nat->PV)
 |o::l,v::vs,τ=>v8 l vs (upd τ o.dst v)| _,_,τ=>τ
theorem zDD {all:List Oper}{K:PS->Prop}:∀ (l:List Oper) {ps:PS},r8 nb all l ps K->∃ pvs ps',pvs.length=l.length/\K ps'/\ps'.objs=ps.objs/\zA ps'.tmps=v8 l pvs (zA ps.tmps) /\ ∀ i o pv,l[i]?=some o->pvs[i]?=some pv->vM nb ps.objs all o (v8 (l.take i) (pvs.take i) (zA ps.tmps)) pv
 |[],ps,h=>⟨[],ps,rfl,h,rfl,rfl,fun i o pv h=>by simp at h⟩| o::r,ps,h=>by
  (simp only[r8] at h;obtain⟨pv,ps1,h1,ho1,ht1,h2⟩:∃ pv ps1,r8 nb all r ps1 K/\ps1.objs=ps.objs/\zA ps1.tmps=upd (zA ps.tmps) o.dst pv/\vM nb ps.objs all o (zA ps.tmps) pv:=by rcases tN h with⟨pv,q1,q2⟩|⟨q1,q2⟩;{obtain⟨pv',ps',g1,g2,g3,g4⟩:=t6 q1;exact⟨pv',ps',g2,g3,g4,q2 pv' g1⟩};{exact⟨.tup [],_,q1,qP _ _ _,xP _ _ _,q2⟩});obtain⟨pvs,ps',g1,g2,g3,g4,g5⟩:=zDD r h1;refine⟨pv::pvs,ps',by simp[g1],g2,g3.trans ho1,by rw[g4,ht1];rfl,fun i o' pv' hi hp=>?_⟩;cases i with
  |zero =>
   simp only[mK,bL] at hi hp;subst hi hp;exact h2
  |succ i =>
   simp only[aT] at hi hp;have:=g5 i o' pv' hi hp;rw[ho1,ht1] at this;exact this
theorem zI8 {objs objs':List (Nat×Obj')}{op:Op}{e:Operand->PV}{K:PV->Prop}(hx:∀ n o,yA objs n=some o->yA objs' n=some o)(h:sop objs op e K):sop objs' op e K:=by
 cases op with
 |load t a =>
  unfold sop at h ⊢;simp only at h ⊢;split at h;{exact h}
  ·rename_i n off he;cases ho:yA objs n with
   |none=>rw[ho] at h;exact h.elim| some o =>
    rw[ho] at h;rw[hx _ _ ho];cases o with
    |box cs=>exact zRM hx h| _=>exact h.elim
  ·rename_i n s i off he;cases ho:yA objs n with
   |none=>rw[ho] at h;exact h.elim| some o=>rw[ho] at h;rw[hx _ _ ho];exact h
  {exact h.elim}
 |makeFunc fn first caps=>cases fn <;> exact h
 |slice t x lo hi mx=>cases mx <;> exact h
 |_=>exact h
theorem eY {objs objs':List (Nat×Obj')}{h:Nat->Nat}(hx:∀ n o,yA objs n=some o->yA objs' n=some o):∀ {l:List (Nat×Obj')},kM h objs l->kM h objs' l
 |[],_=>trivial| (n,o)::r,H=>⟨⟨hx _ _ H.1.1,H.1.2⟩,eY hx H.2⟩
theorem zPD {objs objs':List (Nat×Obj')}{op:Op}{e:Operand->PV}{K:PV->Prop}(hx:∀ n o,yA objs n=some o->yA objs' n=some o)(h:lN objs op e K):lN objs' op e K:=by rcases mZ h with⟨h1,h2⟩|⟨c,f,g,caps,h1,h2,h3,h4,h5⟩;{exact zDE h1 (zI8 hx h2)};{refine zG5 h3 h2 h4 ?_;rcases h5.h with q|⟨hb,hn,cargs,kept,r,q1,q2,q3,q4⟩;{exact⟨.inl q⟩};{exact⟨.inr ⟨hb,hn,cargs,kept,r,q1,q2,eY hx q3,q4⟩⟩}}
theorem oX {objs objs':List (Nat×Obj')}{op:Op}{e:Operand->PV}{K:PV->Prop}(hx:∀ n o,yA objs n=some o->yA objs' n=some o)(h:jA nb objs op e K):jA nb objs' op e K:=by
 unfold jA at *
 cases hi:lG op with
 |false =>
  rw[hi] at h;cases nb with
  |true=>exact zPD hx h| false=>exact zI8 hx h
 |true=>rw[hi] at h;exact h
theorem zLM {objs objs':List (Nat×Obj')}{o:Oper}{e:Operand->PV}{K:PV->Prop}(hb:zQU o=true)(h:jA false objs o.op e K):jA false objs' o.op e K:=by
 unfold jA at *
 cases hi:lG o.op with
 |true=>rw[hi] at h;exact h| false =>
  rw[hi] at h;simp only at h ⊢;unfold zQU at hb;unfold sop at h ⊢;generalize o.op=op at *
  cases op with
  |load t a=>cases hb
  |makeFunc fn first caps=>cases fn <;> exact h
  |slice t x lo hi mx=>cases mx <;> exact h
  |_=>exact h
def tM (nb:Bool) (objs:List (Nat×Obj')) (all:List Oper) (o:Oper) (τ:Nat->PV) (pv:PV):Prop :=
 match wY o with
 |some (d,_)=>pv=.ptr d 0| none=>vM nb objs all o τ pv
theorem jH {o:Oper}{d:Nat}{x:Obj'}(h:wY o=some (d,x)):o.guard=none/\o.dst=some d/\∃ t,o.op=.alloc t/\(ty t).isNo=false/\x=.box (ty t).zero:=by unfold wY at h;split at h;{cases h};{rename_i hg;split at h;{rename_i t ht;split at h;{cases h};{rename_i hn;split at h;{rename_i d' hd;cases h;exact⟨hg,hd,t,ht,hn,rfl⟩};{cases h}}};{cases h}}
theorem zCP {objs:List (Nat×Obj')}{all:List Oper}{o:Oper}{τ:Nat->PV}{pv:PV}(h:vM nb objs all o τ pv):wY o=none/\tM nb objs all o τ pv:=by
 cases hm:wY o with
 |none=>exact⟨rfl,by unfold tM;rw[hm];exact h⟩| some x =>
  obtain⟨d,x⟩:=x;obtain⟨hg,hd,t,ht,hn,hx⟩:=jH hm;unfold vM qS at h;rw[hg] at h;simp only[ht] at h;unfold jA lG at h;simp only at h;cases nb with
  |true =>
   simp only[lN,valC] at h;unfold sop at h;exact h.elim
  |false =>
   simp only at h;unfold sop at h;exact h.elim
theorem zFX {all:List Oper}{K:PS->Prop}:∀ (l:List Oper) {ps:PS},bC all l ps K->∃ pvs ps',pvs.length=l.length/\K ps'/\ps'.objs=ps.objs/\zA ps'.tmps=v8 l pvs (zA ps.tmps) /\ ∀ i o pv,l[i]?=some o->pvs[i]?=some pv->tM true ps.objs all o (v8 (l.take i) (pvs.take i) (zA ps.tmps)) pv
 |[],ps,h=>⟨[],ps,rfl,h,rfl,rfl,fun i o pv h=>by simp at h⟩| o::r,ps,h=>by
  obtain⟨pv,ps1,h1,ho1,ht1,h2⟩:∃ pv ps1,bC all r ps1 K/\ps1.objs=ps.objs/\zA ps1.tmps=upd (zA ps.tmps) o.dst pv/\tM true ps.objs all o (zA ps.tmps) pv:=by
   cases hm:wY o with
   |some x =>
    obtain⟨d,x⟩:=x;simp only[bC,hm] at h;obtain⟨hg,hd,_⟩:=jH hm;exact⟨.ptr d 0,_,h,qP _ _ _,by rw[xP,hd],by unfold tM;rw[hm]⟩
   |none =>
    simp only[bC,hm] at h;rcases tN h with⟨pv,q1,q2⟩|⟨q1,q2⟩;{obtain⟨pv',ps',g1,g2,g3,g4⟩:=t6 q1;exact⟨pv',ps',g2,g3,g4,(zCP (q2 pv' g1)).2⟩};{exact⟨.tup [],_,q1,qP _ _ _,xP _ _ _,(zCP q2).2⟩}
  obtain⟨pvs,ps',g1,g2,g3,g4,g5⟩:=zFX r h1;refine⟨pv::pvs,ps',by simp[g1],g2,g3.trans ho1,by rw[g4,ht1];rfl,fun i o' pv' hi hp=>?_⟩;cases i with
  |zero =>
   simp only[mK,bL] at hi hp;subst hi hp;exact h2
  |succ i =>
   simp only[aT] at hi hp;have:=g5 i o' pv' hi hp;rw[ho1,ht1] at this;exact this
theorem zI5:∀ {l:List Oper} {pvs:List PV} {τ:Nat->PV} {j t:Nat} {o:Oper} {pv:PV},fD l=true->l[j]?=some o->pvs[j]?=some pv->o.dst=some t->v8 l pvs τ t=pv
 |o'::r,v::vs,τ,0,t,o,pv,hd,hl,hp,ht=>by
  simp only[mK,bL] at hl hp;subst hl hp;simp only[fD,y9,ht] at hd;have:∀ (l:List Oper) (vs:List PV) (τ:Nat->PV),(l.all fun x=>!(x.dst == some t))=true->v8 l vs τ t=τ t:=by
   intro l;induction l with
   |nil=>intro vs τ _;cases vs <;> rfl
   |cons x l ih =>
    intro vs τ h;cases vs with
    |nil=>rfl| cons v vs =>
     simp only[zLB,y9] at h;simp only[v8];rw[ih vs _ h.2];cases hx:x.dst with
     |none=>rfl| some d =>
      (have:d≠t:=by intro e;subst e;simp[hx] at h);simp[upd,Ne.symm this]
  simp only[v8];rw[this r vs _ hd.1];simp[upd,ht]
 |o'::r,v::vs,τ,j+1,t,o,pv,hd,hl,hp,ht=>by simp only[aT] at hl hp;simp only[fD,y9] at hd;simp only[v8];exact zI5 hd.2 hl hp ht| [],_,_,_,_,_,_,_,hl,_,_=>by simp at hl| _::_,[],_,_,_,_,_,_,_,hp,_=>by simp at hp
theorem zFM:∀ {l:List Oper} {pvs:List PV} {τ:Nat->PV} {t:Nat},(∀ (j:Nat) (o:Oper),l[j]?=some o->o.dst≠some t)->v8 l pvs τ t=τ t
 |o::r,v::vs,τ,t,h=>by
  simp only[v8];rw[zFM fun j o' hj=>h (j+1) o' (by simpa using hj)];have:=h 0 o (by simp);cases hx:o.dst with
  |none=>rfl| some d =>
   (have hne:d≠t:=by intro e;subst e;exact this hx);simp[upd,Ne.symm hne]
 |[],_,_,_,_=>by simp[v8]| _::_,[],_,_,_=>by simp[v8]
theorem zA7:∀ {l:List Oper} (k:Nat),fD l=true->fD (l.take k)=true
 |[],k,_=>by simp[fD]| o::r,0,_=>rfl| o::r,k+1,h=>by
  simp only[zQW,fD,y9] at h ⊢;refine⟨?_,zA7 k h.2⟩;cases hd:o.dst with
  |none=>rfl| some d =>
   simp only[hd] at h;simp only[f8] at h ⊢;exact fun x hx=>h.1 x (zEU hx)
theorem bR:∀ {l:List Oper} {i j:Nat} {o o':Oper} {t:Nat},fD l=true->l[i]?=some o->l[j]?=some o'->o.dst=some t->o'.dst=some t->i=j
 |x::r,0,0,o,o',t,_,_,_,_,_=>rfl| x::r,0,j+1,o,o',t,h,hi,hj,ht,ht'=>by simp only[mK,bL] at hi;simp only[aT] at hj;subst hi;simp only[fD,y9,ht,f8] at h;have:=h.1 o' (zZ hj);simp[ht'] at this| x::r,i+1,0,o,o',t,h,hi,hj,ht,ht'=>by simp only[mK,bL] at hj;simp only[aT] at hi;subst hj;simp only[fD,y9,ht',f8] at h;have:=h.1 o (zZ hi);simp[ht] at this| x::r,i+1,j+1,o,o',t,h,hi,hj,ht,ht'=>by simp only[aT] at hi hj;simp only[fD,y9] at h;rw[bR h.2 hi hj ht ht']| [],_,_,_,_,_,_,hi,_,_,_=>by simp at hi
end Go.Proofs.YtfainocfaddbdaaGreat
