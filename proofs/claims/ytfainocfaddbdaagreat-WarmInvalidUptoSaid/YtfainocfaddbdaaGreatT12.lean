/- A part of the proof: PmO. -/
import Derived.Test.YtfainocfaddbdaaGreatT11
set_option linter.all false
namespace Go.Proofs.YtfainocfaddbdaaGreat
open Go
section
variable {K:PV->Prop}
theorem zOB {v x y:PV}(h:brV v (fun _=>K x) (fun _=>K y)):∃ pv,K pv/\∀ K':PV->Prop,K' pv->brV v (fun _=>K' x) (fun _=>K' y):=by
 unfold brV at *
 split at h;{exact⟨x,h,fun _ q=>q⟩};{exact⟨y,h,fun _ q=>q⟩}
 ·rename_i b;cases hb:b () with
  |true=>exact⟨x,h.t hb,fun _ q=>⟨fun _=>q,fun e=>by rw[hb] at e;cases e⟩⟩| false=>exact⟨y,h.f hb,fun _ q=>⟨fun e=>(by rw[hb] at e;cases e),fun _=>q⟩⟩
 ·rename_i b;cases hb:b () with
  |true=>exact⟨y,h.t hb,fun _ q=>⟨fun _=>q,fun e=>by rw[hb] at e;cases e⟩⟩| false=>exact⟨x,h.f hb,fun _ q=>⟨fun e=>(by rw[hb] at e;cases e),fun _=>q⟩⟩
 {exact h.elim}
theorem lT {t:Ty}{cs:List PV}{off:Nat}(h:rdK t cs off K):∃ pv,K pv/\∀ K':PV->Prop,K' pv->rdK t cs off K':=by
 unfold rdK at *
 cases hno:t.isNo with
 |true=>simp[hno] at h| false =>
  simp only[hno,cond_false] at h ⊢;cases hle:nle (off+t.cells) cs.length with
  |false=>simp[hle] at h| true=>simp only[hle,cond_true] at h ⊢;exact⟨_,h,fun _ q=>q⟩
theorem zB7 {k:IntKind}{z:Unit->Int}(h:arK k z K):∃ pv,K pv/\∀ K':PV->Prop,K' pv->arK k z K':=by
 unfold arK at *
 split at h;{exact⟨_,h.2,fun _ q=>⟨h.1,q⟩⟩};{exact⟨_,h,fun _ q=>q⟩}
theorem zLF {op:BinOp}{k k':IntKind}{a b:Unit->Int}(h:intK op k a k' b K):∃ pv,K pv/\∀ K':PV->Prop,K' pv->intK op k a k' b K':=by
 unfold intK at *
 split at h;{exact⟨_,h.2,fun _ q=>⟨h.1,q⟩⟩};{exact⟨_,h.2,fun _ q=>⟨h.1,q⟩⟩}
 ·cases hk:zHR k k' with
  |false=>simp[hk] at h| true =>
   simp only[hk,cond_true] at h ⊢;split at h;{exact zB7 h};{exact zB7 h};{exact zB7 h};{exact⟨_,h.2,fun _ q=>⟨h.1,q⟩⟩};{exact⟨_,h.2,fun _ q=>⟨h.1,q⟩⟩};{exact⟨_,h,fun _ q=>q⟩};{exact⟨_,h,fun _ q=>q⟩};{exact⟨_,h,fun _ q=>q⟩};{exact⟨_,h,fun _ q=>q⟩};{exact⟨_,h,fun _ q=>q⟩};{exact⟨_,h,fun _ q=>q⟩};{exact⟨_,h,fun _ q=>q⟩};{exact⟨_,h,fun _ q=>q⟩};{exact h.elim}
end
theorem zKT {K:PV->Prop}{bop:BinOp}{a b:Unit->ByteArray}(h:strK bop a b K):∃ pv,K pv/\∀ K':PV->Prop,K' pv->strK bop a b K':=by
 unfold strK at *
 split at h;{exact⟨_,h.2,fun _ q=>⟨h.1,q⟩⟩};{exact⟨_,h,fun _ q=>q⟩};{exact⟨_,h,fun _ q=>q⟩};{exact h.elim}
theorem zLR {K:PV->Prop}{bop:BinOp}{t:TypeId}{x y:Operand}{u v:PV}(h:binK bop t x y u v K):∃ pv,K pv/\∀ K':PV->Prop,K' pv->binK bop t x y u v K':=by
 unfold binK at *
 split at h;{exact zLF h};{exact zKT h};{split at h;{obtain⟨r,h1,h2⟩:=h.h;exact⟨_,h2,fun _ q=>⟨⟨r,h1,q⟩⟩⟩};{exact h.elim}}
 ·split at h;{split at h;{exact⟨_,h,fun _ q=>q⟩};{exact⟨_,h,fun _ q=>q⟩};{exact h.elim}}
  ·split at h
   ·rename_i a b _ _;cases hab:a || b with
    |false=>simp only[hab] at h| true=>simp only[hab] at h;exact⟨_,h,fun _ q=>by simpa only [hab] using q⟩
   ·rename_i a b _ _;cases hab:a || b with
    |false=>simp only[hab] at h| true=>simp only[hab] at h;exact⟨_,h,fun _ q=>by simpa only [hab] using q⟩
   {exact h.elim}
  {exact h.elim}
theorem zNU {objs:List (Nat×Obj')}{v:PV}{K:PV->Prop}(h:ldV objs v K):∃ pv,K pv/\∀ K':PV->Prop,K' pv->ldV objs v K':=by
 unfold ldV at *
 cases hn:lnt objs v with
 |false=>rw[hn] at h;exact⟨v,h,fun _ q=>q⟩| true =>
  rw[hn] at h;rcases h.h with hK|⟨n,s,els,h1,h2,h3⟩;{exact⟨v,hK,fun K' q=>⟨.inl q⟩⟩};{exact⟨_,h3,fun K' q=>⟨.inr ⟨n,s,els,h1,h2,q⟩⟩⟩}
theorem zAA {objs objs':List (Nat×Obj')}(hx:∀ n o,z7 objs n=some o->z7 objs' n=some o){v:PV}(h:lnt0 objs v=true):lnt0 objs' v=true:=by
 cases v with
 |osl m s i len =>
  simp only[lnt0] at h ⊢;cases hg:z7 objs m with
  |none=>rw[hg] at h;cases h
  |some o=>rw[hg] at h;rw[hx _ _ hg];exact h
 |_=>cases h
theorem zIP {objs objs':List (Nat×Obj')}(hx:∀ n o,z7 objs n=some o->z7 objs' n=some o){v:PV}(h:lnt objs v=true):lnt objs' v=true:=by
 cases v with
 |agg cs =>
  simp only[lnt] at h ⊢;induction cs with
  |nil=>exact h| cons c cs ih =>
   simp only[anyL] at h ⊢;cases hc:lnt0 objs c with
   |true=>rw[zAA hx hc]| false =>
    rw[hc] at h;cases lnt0 objs' c with
    |true=>rfl| false=>exact ih h
 |osl m s i len=>exact zAA (v:=.osl m s i len) hx h| _=>cases h
theorem zIQ {objs objs':List (Nat×Obj')}(hx:∀ n o,z7 objs n=some o->z7 objs' n=some o){v:PV}{K:PV->Prop}(h:ldV objs v K):ldV objs' v K:=by
 unfold ldV at *
 cases hn:lnt objs v with
 |false =>
  rw[hn] at h;cases lnt objs' v with
  |false=>exact h| true=>exact⟨.inl h⟩
 |true =>
  rw[hn] at h;rw[zIP hx hn];rcases h.h with hK|⟨n,s,els,h1,h2,h3⟩;{exact⟨.inl hK⟩};{exact⟨.inr ⟨n,s,els,hx _ _ h1,h2,h3⟩⟩}
theorem zIG {objs objs':List (Nat×Obj')}(hx:∀ n o,z7 objs n=some o->z7 objs' n=some o){t:Ty}{cs:List PV}{off:Nat}{K:PV->Prop}(h:rdK t cs off (fun v=>ldV objs v K)):rdK t cs off (fun v=>ldV objs' v K):=by obtain⟨pv,h1,h2⟩:=lT h;exact h2 _ (zIQ hx h1)
theorem zDN {b:Bool}{objs:List (Nat×Obj')}{g:FuncId}{args:List PV}{K:PV->Prop}(h:CallS b objs g args K):∃ pv,K pv/\∀ K':PV->Prop,K' pv->CallS b objs g args K':=by rcases h.h with⟨args',r,h1,h2,h3,h4⟩|⟨hb,hn,cargs,kept,r,h1,h2,h3,h4,h5,h6,h7,h8,h9,h10⟩;{exact⟨r,h4,fun K' q=>⟨.inl ⟨args',r,h1,h2,h3,q⟩⟩⟩};{exact⟨_,h10,fun K' q=>⟨.inr ⟨hb,hn,cargs,kept,r,h1,h2,h3,h4,h5,h6,h7,h8,h9,q⟩⟩⟩}
theorem zJF {objs:List (Nat×Obj')}{op:Op}{e:Operand->PV}{K:PV->Prop}(h:sop objs op e K):∃ pv,K pv/\∀ K':PV->Prop,K' pv->sop objs op e K':=by
 unfold sop at *
 split at h;{exact⟨_,h,fun _ q=>q⟩};{exact⟨_,h,fun _ q=>q⟩};{exact zOB h};{split at h;{split at h;{exact⟨_,h,fun _ q=>q⟩};{exact h.elim}};{split at h;{exact⟨_,h,fun _ q=>q⟩};{exact h.elim}};{exact h.elim}}
 ·split at h
  ·split at h
   ·rename_i els hf;cases hc:(nle _ 1000&&c6 els) with
    |false=>simp only[hc,cond_false] at h| true=>simp only[hc,cond_true] at h ⊢;exact⟨_,h,fun _ q=>q⟩
   {exact h.elim}
  {exact h.elim}
 ·split at h;{exact lT h};{split at h;{obtain⟨pv,h5,h6⟩:=lT h;obtain⟨pv',h7,h8⟩:=zNU h5;exact⟨pv',h7,fun K' q=>h6 _ (h8 K' q)⟩};{exact h.elim}}
  ·rename_i n s i off _;split at h
   ·rename_i s' els _;cases hss:nqb s s' with
    |false=>simp[hss] at h| true =>
     simp only[hss,cond_true] at h ⊢;obtain⟨c,h1,h2,h3,h4⟩:=h.h;obtain⟨pv,h5,h6⟩:=lT h4;exact⟨pv,h5,fun K' q=>⟨⟨c,h1,h2,h3,h6 K' q⟩⟩⟩
   ·rename_i s' rows hs _;cases hss:(nqb s 1&&nqb off 0) with
    |false=>simp only[hss] at h| true =>
     simp only[hss] at h ⊢;obtain⟨v0,k0,h1,h2,h4⟩:=h.h;obtain⟨pv,h5,h6⟩:=lT h4;exact⟨pv,h5,fun K' q=>⟨⟨v0,k0,h1,h2,h6 K' q⟩⟩⟩
   {exact h.elim}
  {exact h.elim}
 {exact zLR h};{split at h;{exact⟨_,h,fun _ q=>q⟩};{exact⟨_,h,fun _ q=>q⟩};{exact⟨_,h,fun _ q=>q⟩};{exact⟨_,h,fun _ q=>q⟩};{exact zB7 h};{exact h.elim}}
 ·rename_i src dst x;cases hno:(ty src).isNo with
  |true=>simp[hno] at h| false =>
   simp only[hno,cond_false] at h ⊢;split at h;{exact⟨_,h,fun _ q=>q⟩};{obtain⟨h1,h2,ns,h3,h4⟩:=h.h;exact⟨_,h4,fun _ q=>⟨h1,h2,ns,h3,q⟩⟩};{exact h.elim}
 {split at h;{split at h;{split at h;{exact⟨_,h,fun _ q=>q⟩};{exact⟨_,h,fun _ q=>q⟩};{exact⟨_,h,fun _ q=>q⟩};{exact h.elim}};{exact h.elim}};{exact h.elim}}
 ·split at h
  ·split at h
   ·rename_i off sz ag hi;cases ag with
    |false =>
     (try simp only at h ⊢)
     split at h
     ·rename_i cs _;cases hle:(nqb sz 1&&nlt off cs.length) with
      |false=>simp[hle] at h| true=>simp only[hle] at h ⊢;exact⟨_,h,fun _ q=>q⟩
     {exact h.elim}
    |true =>
     (try simp only at h ⊢)
     split at h
     ·rename_i cs _;cases hle:nle (off+sz) cs.length with
      |false=>simp[hle] at h| true=>simp only[hle] at h ⊢;exact⟨_,h,fun _ q=>q⟩
     {exact h.elim}
   {exact h.elim}
  {exact h.elim}
 ·split at h;{obtain⟨h0,c,h1,h2,h3,h4⟩:=h.h;exact⟨_,h4,fun _ q=>⟨⟨h0,c,h1,h2,h3,q⟩⟩⟩}
  ·rename_i n b z m s o len k kv _ _ _;cases hss:nqb n s with
   |false=>simp[hss] at h| true=>simp only[hss,cond_true] at h ⊢;exact⟨_,h.2,fun _ q=>⟨h.1,q⟩⟩
  {obtain⟨j,h1,h2,h3⟩:=h.h;exact⟨_,h3,fun _ q=>⟨⟨j,h1,h2,q⟩⟩⟩};{exact h.elim}
 ·split at h
  ·rename_i len z cs k kv _ _ _;cases hll:nqb len cs.length with
   |false=>simp[hll] at h| true =>
    simp only[hll,cond_true] at h ⊢;obtain⟨j,h1,h2,h3⟩:=h.h;exact⟨_,h3,fun _ q=>⟨⟨j,h1,h2,q⟩⟩⟩
  {exact h.elim}
 ·rename_i x i;split at h
  ·rename_i vs _;cases hlt:nlt i vs.length with
   |false=>simp[hlt] at h| true=>simp only[hlt,cond_true] at h ⊢;exact⟨_,h,fun _ q=>q⟩
  {exact h.elim}
 ·split at h;{split at h;{exact⟨_,h.2.2,fun _ q=>⟨h.1,h.2.1,q⟩⟩};{exact h.elim}}
  ·rename_i n b z m s o len _ _;split at h
   ·cases hss:nqb n s with
    |false=>simp[hss] at h| true=>simp only[hss,cond_true] at h ⊢;exact⟨_,h.2.2,fun _ q=>⟨h.1,h.2.1,q⟩⟩
   {exact h.elim}
  {split at h;{exact⟨_,h.2,fun _ q=>⟨h.1,q⟩⟩};{exact h.elim}};{exact h.elim}
 {split at h;{exact⟨_,h,fun _ q=>q⟩};{exact⟨_,h,fun _ q=>q⟩};{exact⟨_,h,fun _ q=>q⟩};{exact h.elim}};{split at h;{exact⟨_,h,fun _ q=>q⟩};{exact h.elim}}
 ·split at h
  ·split at h
   ·unfold lenK at *
    split at h;{split at h;{exact⟨_,h,fun _ q=>q⟩};{exact⟨_,h,fun _ q=>q⟩};{exact⟨_,h,fun _ q=>q⟩};{exact⟨_,h,fun _ q=>q⟩};{exact h.elim}};{exact h.elim}
   {exact h.elim}
  {split at h;{split at h;{exact⟨_,h,fun _ q=>q⟩};{exact h.elim}};{exact h.elim}};{split at h;{split at h;{exact⟨_,h,fun _ q=>q⟩};{exact h.elim}};{exact h.elim}};{split at h;{exact zDN h};{exact h.elim}};{exact h.elim}
 {exact h.elim}
theorem d6 {e e':Operand->PV}:∀ {l:List Operand},(∀ x,x∈l->e x=e' x)->evs e l=evs e' l
 |[],_=>rfl| x::r,h=>by simp only[evs];rw[h x List.mem_cons_self,d6 fun y hy=>h y (List.mem_cons_of_mem _ hy)]
theorem dG {e e':Operand->PV}:∀ {l:List (Nat×Operand)},(∀ x,x∈l.map (·.2)->e x=e' x)->wY e l=wY e' l
 |[],_=>rfl| (i,x)::r,h=>by simp only[wY];rw[h x (by simp),dG fun y hy=>h y (by simp only[List.map_cons,List.mem_cons];exact .inr hy)]
theorem lY {e e':Operand->PV}{d:Unit->Int}{o:Option Operand}(h:∀ x,o=some x->e x=e' x):sV e d o=sV e' d o:=by
 cases o with
 |none=>rfl| some x=>simp only[sV];rw[h x rfl]
theorem oQ {objs:List (Nat×Obj')}{op:Op}{e e':Operand->PV}{K:PV->Prop}(h:∀ x,x∈op.operands.toList->e x=e' x)(hs:sop objs op e K):sop objs op e' K:=by
 cases op with
 |move x=>simp only[sop] at hs ⊢;rwa [<-h x (by simp[Op.operands])]| assign x=>simp only[sop] at hs ⊢;rwa [<-h x (by simp[Op.operands])]| pick c x y=>simp only[sop] at hs ⊢;rwa [<-h x (by simp[Op.operands]),<-h y (by simp[Op.operands]),<-h c (by simp[Op.operands])]| build t parts=>simp only[sop] at hs ⊢;rwa [<-dG (e:=e) fun x hx=>h x (by simpa[Op.operands] using hx)]| buildSlice t len parts=>simp only[sop] at hs ⊢;rwa [<-dG (e:=e) fun x hx=>h x (by simpa[Op.operands] using hx)]| load t a=>simp only[sop] at hs ⊢;rwa [<-h a (by simp[Op.operands])]| binOp b t x y yt=>simp only[sop] at hs ⊢;rwa [<-h x (by simp[Op.operands]),<-h y (by simp[Op.operands])]| unOp u t x=>simp only[sop] at hs ⊢;rwa [<-h x (by simp[Op.operands])]| convert s d x=>simp only[sop] at hs ⊢;rwa [<-h x (by simp[Op.operands])]| fieldAddr s x f=>simp only[sop] at hs ⊢;rwa [<-h x (by simp[Op.operands])]| field t x i=>simp only[sop] at hs ⊢;rwa [<-h x (by simp[Op.operands])]| indexAddr t x i=>simp only[sop] at hs ⊢;rwa [<-h x (by simp[Op.operands]),<-h i (by simp[Op.operands])]| index t x i=>simp only[sop] at hs ⊢;rwa [<-h x (by simp[Op.operands]),<-h i (by simp[Op.operands])]| extract x i=>simp only[sop] at hs ⊢;rwa [<-h x (by simp[Op.operands])]| slice t x lo hi mx =>
  have hx:=h x (by simp[Op.operands]);have hlo:∀ d,sV e d lo=sV e' d lo:=fun d=>lY fun y hy=>h y (by subst hy;simp[Op.operands]);have hhi:∀ d,sV e d hi=sV e' d hi:=fun d=>lY fun y hy=>h y (by subst hy;simp[Op.operands]);cases mx with
  |some m=>simp only[sop] at hs| none=>simp only[sop] at hs ⊢;simp only[<-hx,<-hlo,<-hhi];exact hs
 |nilCheck x=>simp only[sop] at hs ⊢;rwa [<-h x (by simp[Op.operands])]| makeFunc fn first caps =>
  cases fn with
  |func f =>
   simp only[sop] at hs ⊢;have:evs e caps.toList=evs e' caps.toList:=d6 fun x hx=>h x (by simp only[Op.operands,Array.toList_append,List.mem_append];exact .inr hx);rwa [<-this]
  |_=>simp only[sop] at hs
 |call c =>
  have hargs:∀ x,x∈c.args.toList->e x=e' x:=fun x hx=>h x (by simp only[Op.operands,Call.operands,Array.toList_append,List.mem_append];exact .inr hx);simp only[sop] at hs ⊢;split at hs;{split at hs;{rename_i x t hx ht;rw[hargs x (by rw[hx];simp)] at hs;exact hs};{exact hs.elim}};{split at hs;{rename_i x y hx;rw[hargs x (by rw[hx];simp),hargs y (by rw[hx];simp)] at hs;exact hs};{exact hs.elim}};{split at hs;{rename_i x y hx;rw[hargs x (by rw[hx];simp),hargs y (by rw[hx];simp)] at hs;exact hs};{exact hs.elim}};{rename_i f hcl;have hf:e f=e' f:=h f (by simp[Op.operands,Call.operands,hcl]);rw[<-hf,<-d6 hargs];exact hs};{exact hs.elim}
 |_=>simp only[sop] at hs
theorem zLS {n b:Nat}{base x:PV}{K:PV->Prop}(h:appN n b base x K):∃ pv,K pv/\∀ K':PV->Prop,K' pv->appN n b base x K':=by
 unfold appN at *
 split at h;{exact⟨_,h.2.2,fun K' hK=>⟨h.1,h.2.1,hK⟩⟩};{exact⟨_,h,fun K' hK=>hK⟩};{exact h.elim}
theorem zBI {op:Op}{e:Operand->PV}{K:PV->Prop}(h:app2 op e K):∃ (c:Call) (b x:Operand) (t tx:TypeId) (n bb:Nat) (z:List PV),op=.call c/\c.args=#[b,x]/\c.argTypes=#[t,tx]/\sE (ty tx)=true/\ty t=.sli n bb z/\kE (e b)=true/\appN n bb (e b) (e x) K:=by
 unfold app2 at h;split at h
 ·rename_i c;split at h
  ·rename_i b x t tx hb ht;cases hi:sE (ty tx) with
   |false=>rw[hi] at h;exact h.elim| true =>
    rw[hi] at h;simp only at h;split at h;{rename_i n bb z h1 h2;refine⟨c,b,x,t,tx,n,bb,z,rfl,?_,?_,hi,h1,h2,h⟩;{rw[<-Array.toArray_toList (xs:=c.args),hb]};{rw[<-Array.toArray_toList (xs:=c.argTypes),ht]}};{exact h.elim}
  {exact h.elim}
 {exact h.elim}
theorem zGK {c:Call}{b x:Operand}{t tx:TypeId}{n bb:Nat}{z:List PV}{e:Operand->PV}{K:PV->Prop}(h1:c.args=#[b,x])(h2:c.argTypes=#[t,tx])(h3:sE (ty tx)=true)(h4:ty t=.sli n bb z)(h5:kE (e b)=true)(h6:appN n bb (e b) (e x) K):app2 (.call c) e K:=by unfold app2;simp only[h1,h2,h3,h4,h5];exact h6
variable {nb:Bool}
theorem zGN {op:Op}{c:Call}(h:valC op=some c):op=.call c/\∃ f,c.callee=.value f:=by unfold valC at h;split at h;{rename_i c0;split at h;{rename_i f hf;cases h;exact⟨rfl,f,hf⟩};{cases h}};{cases h}
theorem aC {objs:List (Nat×Obj')}{op:Op}{e:Operand->PV}{K:PV->Prop}(h:sK objs op e K):(valC op=none/\sop objs op e K)\/∃ c f g caps,op=.call c/\c.callee=.value f/\valC op=some c/\e f=.fn g caps/\CallS true objs g (evs e c.args.toList++caps) K:=by
 unfold sK at h;cases hv:valC op with
 |none=>rw[hv] at h;exact .inl ⟨rfl,h⟩| some c =>
  obtain⟨h1,f,h2⟩:=zGN hv;rw[hv] at h;simp only[h2] at h;split at h;{rename_i g caps he;exact .inr ⟨c,f,g,caps,h1,h2,rfl,he,h⟩};{exact h.elim}
theorem zAW {objs:List (Nat×Obj')}{op:Op}{e:Operand->PV}{K:PV->Prop}{c:Call}{f:Operand}{g:FuncId}{caps:List PV}(hv:valC op=some c)(h2:c.callee=.value f)(he:e f=.fn g caps)(h:CallS true objs g (evs e c.args.toList++caps) K):sK objs op e K:=by unfold sK;rw[hv];simp only[h2,he];exact h
theorem lA {objs:List (Nat×Obj')}{op:Op}{e:Operand->PV}{K:PV->Prop}(hv:valC op=none)(h:sop objs op e K):sK objs op e K:=by unfold sK;rw[hv];exact h
theorem zKU {objs:List (Nat×Obj')}{op:Op}{e:Operand->PV}{K:PV->Prop}(h:sK objs op e K):∃ pv,K pv/\∀ K':PV->Prop,K' pv->sK objs op e K':=by rcases aC h with⟨h1,h2⟩|⟨c,f,g,caps,h1,h2,h3,h4,h5⟩;{obtain⟨pv,g1,g2⟩:=zJF h2;exact⟨pv,g1,fun K' q=>lA h1 (g2 K' q)⟩};{obtain⟨pv,g1,g2⟩:=zDN h5;exact⟨pv,g1,fun K' q=>zAW h3 h2 h4 (g2 K' q)⟩}
theorem iW {e e':Operand->PV}:∀ {l:List Operand},(∀ x,x∈l->e x=e' x)->evs e l=evs e' l
 |[],_=>rfl| x::r,h=>by simp only[evs];rw[h x List.mem_cons_self,iW fun y hy=>h y (List.mem_cons_of_mem _ hy)]
theorem zDW {objs:List (Nat×Obj')}{op:Op}{e e':Operand->PV}{K:PV->Prop}(h:∀ x,x∈op.operands.toList->e x=e' x)(hs:sK objs op e K):sK objs op e' K:=by rcases aC hs with⟨h1,h2⟩|⟨c,f,g,caps,h1,h2,h3,h4,h5⟩;{exact lA h1 (oQ h h2)};{subst h1;have hf:e f=e' f:=h f (by simp[Op.operands,Call.operands,h2]);refine zAW h3 h2 (hf ▸ h4) ?_;rw[<-iW (e:=e) (e':=e') fun x hx=>h x (by simp only[Op.operands,Call.operands,h2];simp;simp at hx;first|exact .inr hx|exact .inl hx|exact hx)];exact h5}
theorem zKV {objs:List (Nat×Obj')}{op:Op}{e:Operand->PV}{K:PV->Prop}(h:uH nb objs op e K):∃ pv,K pv/\∀ K':PV->Prop,K' pv->uH nb objs op e K':=by
 unfold uH at *
 cases hi:sG op with
 |false =>
  rw[hi] at h;cases nb with
  |true=>exact zKU h| false=>exact zJF h
 |true =>
  rw[hi] at h;obtain⟨c,b,x,t,tx,n,bb,z,rfl,h1,h2,h3,h4,h5,h6⟩:=zBI h;obtain⟨pv,q1,q2⟩:=zLS h6;exact⟨pv,q1,fun K' hK=>zGK h1 h2 h3 h4 h5 (q2 K' hK)⟩
theorem zC0 {op:Op}(h:sG op=true):∃ c,op=.call c/\c.callee=.builtin .append:=by unfold sG at h;split at h;{rename_i c;split at h;{rename_i hc;exact⟨c,rfl,hc⟩};{cases h}};{cases h}
theorem zDX {objs:List (Nat×Obj')}{op:Op}{e e':Operand->PV}{K:PV->Prop}(h:∀ x,x∈op.operands.toList->e x=e' x)(hs:uH nb objs op e K):uH nb objs op e' K:=by
 unfold uH at *
 cases hi:sG op with
 |false =>
  rw[hi] at hs;cases nb with
  |true=>exact zDW h hs| false=>exact oQ h hs
 |true =>
  rw[hi] at hs;obtain⟨c',hc1,hc2⟩:=zC0 hi;obtain⟨c,b,x,t,tx,n,bb,z,rfl,h1,h2,h3,h4,h5,h6⟩:=zBI hs;cases hc1;have hb:e b=e' b:=h b (by simp[Op.operands,Call.operands,hc2,h1]);have hx:e x=e' x:=h x (by simp[Op.operands,Call.operands,hc2,h1]);exact zGK h1 h2 h3 h4 (hb ▸ h5) (hx ▸ hb ▸ h6)
def x7 (nb:Bool) (objs:List (Nat×Obj')) (all:List Oper) (o:Oper) (τ:Nat->PV) (pv:PV):Prop :=
 vS all o τ (fun _=>uH nb objs o.op (ev τ) (fun v=>Le v pv)) (fun _=>pv=.tup [])
theorem bW {all:List Oper}{o:Oper}{τ:Nat->PV}{A B A' B':Unit->Prop}(hA:A ()->A' ())(hB:B ()->B' ())(h:vS all o τ A B):vS all o τ A' B':=by
 have br:∀ {v:PV} {A B A' B':Unit->Prop},(A ()->A' ())->(B ()->B' ())->brV v A B->brV v A' B':=by
  intro v A B A' B' hA hB h;unfold brV at *
  split at h;{exact hA h};{exact hB h};{exact⟨fun e=>hA (h.t e),fun e=>hB (h.f e)⟩};{exact⟨fun e=>hB (h.t e),fun e=>hA (h.f e)⟩};{exact h.elim}
 unfold vS at *
 split at h;{exact hA h}
 ·rename_i j want hg;split at h
  ·rename_i oj hj;split at h
   ·rename_i d hd;by_cases hu:τ d=.tup [];{rw[hu] at h ⊢;exact hB h};rw[zB6 hu] at h ⊢;cases want with
    |true=>simp only[cond_true] at h ⊢;exact br hA hB h| false=>simp only[cond_false] at h ⊢;exact br hB hA h
   {exact h.elim}
  {exact h.elim}
theorem bA {objs:List (Nat×Obj')}{all:List Oper}{o:Oper}{τ:Nat->PV}{K:PV->Prop}{K2:Prop}(h:vS all o τ (fun _=>uH nb objs o.op (ev τ) K) (fun _=>K2)):(∃ pv,K pv/\∀ pv',Le pv pv'->x7 nb objs all o τ pv')\/(K2/\x7 nb objs all o τ (.tup [])):=by
 have pv1:uH nb objs o.op (ev τ) K->∃ pv,K pv/\∀ pv',Le pv pv'->uH nb objs o.op (ev τ) (fun v=>Le v pv'):=fun hs=>by obtain⟨pv,h1,h2⟩:=zKV hs;exact⟨pv,h1,fun pv' hl=>h2 _ hl⟩
 unfold vS at h;split at h;{rename_i hg;obtain⟨pv,h1,h2⟩:=pv1 h;exact .inl ⟨pv,h1,fun pv' hl=>by unfold x7 vS;rw[hg];exact h2 pv' hl⟩}
 ·rename_i j want hg;split at h
  ·rename_i oj hj;split at h
   ·rename_i d hd;by_cases hu:τ d=.tup [];{rw[hu] at h;exact .inr ⟨h,by unfold x7 vS;rw[hg];simp only[hj,hd,hu];exact trivial⟩};rw[zB6 hu] at h;have st:∀ pv',(if want then brV (τ d) (fun _=>uH nb objs o.op (ev τ) (fun v=>Le v pv')) (fun _=>pv'=.tup []) else brV (τ d) (fun _=>pv'=.tup []) (fun _=>uH nb objs o.op (ev τ) (fun v=>Le v pv')))->x7 nb objs all o τ pv':=by
     intro pv' hx;unfold x7 vS;rw[hg];simp only[hj,hd,zB6 hu];cases want with
     |true=>exact hx| false=>exact hx
    have br:∀ {v:PV} {A:Prop},brV v (fun _=>A) (fun _=>K2)->(A/\∀ X Y:Unit->Prop,X ()->brV v X Y)\/(K2/\∀ X Y:Unit->Prop,Y ()->brV v X Y):=by
     intro v A hb;unfold brV at *
     cases v with
     |tt=>exact .inl ⟨hb,fun _ _ q=>q⟩| ff=>exact .inr ⟨hb,fun _ _ q=>q⟩| bool b =>
      cases hv:b () with
      |true=>exact .inl ⟨hb.t hv,fun _ _ q=>⟨fun _=>q,fun e=>by rw[hv] at e;cases e⟩⟩| false=>exact .inr ⟨hb.f hv,fun _ _ q=>⟨fun e=>(by rw[hv] at e;cases e),fun _=>q⟩⟩
     |nbool b =>
      cases hv:b () with
      |true=>exact .inr ⟨hb.t hv,fun _ _ q=>⟨fun _=>q,fun e=>by rw[hv] at e;cases e⟩⟩| false=>exact .inl ⟨hb.f hv,fun _ _ q=>⟨fun e=>(by rw[hv] at e;cases e),fun _=>q⟩⟩
     |_=>exact hb.elim
    have br':∀ {v:PV} {A:Prop},brV v (fun _=>K2) (fun _=>A)->(A/\∀ X Y:Unit->Prop,Y ()->brV v X Y)\/(K2/\∀ X Y:Unit->Prop,X ()->brV v X Y):=by
     intro v A hb;unfold brV at *
     cases v with
     |tt=>exact .inr ⟨hb,fun _ _ q=>q⟩| ff=>exact .inl ⟨hb,fun _ _ q=>q⟩| bool b =>
      cases hv:b () with
      |true=>exact .inr ⟨hb.t hv,fun _ _ q=>⟨fun _=>q,fun e=>by rw[hv] at e;cases e⟩⟩| false=>exact .inl ⟨hb.f hv,fun _ _ q=>⟨fun e=>(by rw[hv] at e;cases e),fun _=>q⟩⟩
     |nbool b =>
      cases hv:b () with
      |true=>exact .inl ⟨hb.t hv,fun _ _ q=>⟨fun _=>q,fun e=>by rw[hv] at e;cases e⟩⟩| false=>exact .inr ⟨hb.f hv,fun _ _ q=>⟨fun e=>(by rw[hv] at e;cases e),fun _=>q⟩⟩
     |_=>exact hb.elim
    cases want with
    |true =>
     simp only[cond_true] at h;rcases br h with⟨hA,hX⟩|⟨h2,hY⟩;{obtain⟨pv,h1,h2⟩:=pv1 hA;exact .inl ⟨pv,h1,fun pv' hl=>st pv' (by rw[if_pos rfl];exact hX (fun _=>uH nb objs o.op (ev τ) (fun v=>Le v pv')) (fun _=>pv'=.tup []) (h2 pv' hl))⟩};{exact .inr ⟨h2,st (.tup []) (by rw[if_pos rfl];exact hY (fun _=>uH nb objs o.op (ev τ) (fun v=>Le v (.tup []))) (fun _=>(PV.tup []=PV.tup [])) rfl)⟩}
    |false =>
     simp only[cond_false] at h;rcases br' h with⟨hA,hX⟩|⟨h2,hY⟩;{obtain⟨pv,h1,h2⟩:=pv1 hA;exact .inl ⟨pv,h1,fun pv' hl=>st pv' (by rw[if_neg (by simp)];exact hX (fun _=>pv'=.tup []) (fun _=>uH nb objs o.op (ev τ) (fun v=>Le v pv')) (h2 pv' hl))⟩};{exact .inr ⟨h2,st (.tup []) (by rw[if_neg (by simp)];exact hY (fun _=>(PV.tup []=PV.tup [])) (fun _=>uH nb objs o.op (ev τ) (fun v=>Le v (.tup []))) rfl)⟩}
   {exact h.elim}
  {exact h.elim}
theorem bM {all:List Oper}{o:Oper}{ps:PS}{pv:PV}{K:PS->Prop}(h:sC all o (put ps o.dst pv) K):∃ pv' ps',Le pv pv'/\K ps'/\ps'.objs=ps.objs/\zB ps'.tmps=upd (zB ps.tmps) o.dst pv':=by
 unfold sC at h;cases hg:isG all o with
 |false=>simp only[hg,cond_false] at h;exact⟨pv,_,Le.refl _,h,vQ _ _ _,yY _ _ _⟩| true =>
  simp only[hg,cond_true] at h;split at h
  ·(rename_i d hd;have hpv:zB (put ps o.dst pv).tmps d=pv:=by rw[yY,hd];simp[upd]);have fin:∀ x,zB (w9 (put ps o.dst pv).tmps d x)=upd (zB ps.tmps) o.dst x:=by intro x;funext t;rw[jV,yY,hd];simp only[upd];by_cases e:t=d <;> simp[e]
   rw[hpv] at h;split at h
   ·rename_i b;cases hv:b () with
    |true=>exact⟨.tt,_,by simpa[Le] using hv,h.t hv,vQ _ _ _,fin _⟩| false=>exact⟨.ff,_,by simpa[Le] using hv,h.f hv,vQ _ _ _,fin _⟩
   ·rename_i b;cases hv:b () with
    |true=>exact⟨.ff,_,by simpa[Le] using hv,h.t hv,vQ _ _ _,fin _⟩| false=>exact⟨.tt,_,by simpa[Le] using hv,h.f hv,vQ _ _ _,fin _⟩
   {exact⟨pv,_,Le.refl _,h,vQ _ _ _,yY _ _ _⟩}
  {exact⟨pv,_,Le.refl _,h,vQ _ _ _,yY _ _ _⟩}
theorem fV {objs:List (Nat×Obj')}{all:List Oper}{o:Oper}{τ τ':Nat->PV}{pv:PV}(h:∀ t,t∈uM all o->τ t=τ' t)(hs:x7 nb objs all o τ pv):x7 nb objs all o τ' pv:=by
 have hop:∀ x,x∈o.op.operands.toList->ev τ x=ev τ' x:=by
  intro x hx;cases x with
  |tmp t=>exact h t (by unfold uM;exact List.mem_append_left _ (List.mem_filterMap.2 ⟨_,hx,rfl⟩))| _=>rfl
 have hs':vS all o τ (fun _=>uH nb objs o.op (ev τ') (fun v=>Le v pv)) (fun _=>pv=.tup []):=bW (fun h=>zDX hop h) id hs;unfold x7;unfold vS at hs' ⊢;split at hs';{exact hs'};{rename_i j want hg;split at hs';{rename_i oj hj;split at hs';{rename_i d hd;have:τ d=τ' d:=h d (by unfold uM;refine List.mem_append_right _ ?_;simp[hg,hj,hd]);rw[this] at hs';exact hs'};{exact hs'.elim}};{exact hs'.elim}}
def wK:List Oper->List PV->(Nat->PV)->(Nat->PV)
 |o::l,v::vs,τ=>wK l vs (upd τ o.dst v)| _,_,τ=>τ
theorem n9 {all:List Oper}{K:PS->Prop}:∀ (l:List Oper) {ps:PS},cC nb all l ps K->∃ pvs ps',pvs.length=l.length/\K ps'/\ps'.objs=ps.objs/\zB ps'.tmps=wK l pvs (zB ps.tmps) /\ ∀ i o pv,l[i]?=some o->pvs[i]?=some pv->x7 nb ps.objs all o (wK (l.take i) (pvs.take i) (zB ps.tmps)) pv
 |[],ps,h=>⟨[],ps,rfl,h,rfl,rfl,fun i o pv h=>by simp at h⟩| o::r,ps,h=>by
  (simp only[cC] at h;obtain⟨pv,ps1,h1,ho1,ht1,h2⟩:∃ pv ps1,cC nb all r ps1 K/\ps1.objs=ps.objs/\zB ps1.tmps=upd (zB ps.tmps) o.dst pv/\x7 nb ps.objs all o (zB ps.tmps) pv:=by rcases bA h with⟨pv,q1,q2⟩|⟨q1,q2⟩;{obtain⟨pv',ps',g1,g2,g3,g4⟩:=bM q1;exact⟨pv',ps',g2,g3,g4,q2 pv' g1⟩};{exact⟨.tup [],_,q1,vQ _ _ _,yY _ _ _,q2⟩});obtain⟨pvs,ps',g1,g2,g3,g4,g5⟩:=n9 r h1;refine⟨pv::pvs,ps',by simp[g1],g2,g3.trans ho1,by rw[g4,ht1];rfl,fun i o' pv' hi hp=>?_⟩;cases i with
  |zero =>
   simp only[List.getElem?_cons_zero,Option.some.injEq] at hi hp;subst hi hp;exact h2
  |succ i =>
   simp only[List.getElem?_cons_succ] at hi hp;have:=g5 i o' pv' hi hp;rw[ho1,ht1] at this;exact this
theorem zCD {objs objs':List (Nat×Obj')}{op:Op}{e:Operand->PV}{K:PV->Prop}(hx:∀ n o,z7 objs n=some o->z7 objs' n=some o)(h:sop objs op e K):sop objs' op e K:=by
 cases op with
 |load t a =>
  unfold sop at h ⊢;simp only at h ⊢;split at h;{exact h}
  ·rename_i n off he;cases ho:z7 objs n with
   |none=>rw[ho] at h;exact h.elim| some o =>
    rw[ho] at h;rw[hx _ _ ho];cases o with
    |box cs=>exact zIG hx h| _=>exact h.elim
  ·rename_i n s i off he;cases ho:z7 objs n with
   |none=>rw[ho] at h;exact h.elim| some o=>rw[ho] at h;rw[hx _ _ ho];exact h
  {exact h.elim}
 |makeFunc fn first caps=>cases fn <;> exact h
 |slice t x lo hi mx=>cases mx <;> exact h
 |_=>exact h
theorem pP {objs objs':List (Nat×Obj')}{h:Nat->Nat}(hx:∀ n o,z7 objs n=some o->z7 objs' n=some o):∀ {l:List (Nat×Obj')},v5 h objs l->v5 h objs' l
 |[],_=>trivial| (n,o)::r,H=>⟨⟨hx _ _ H.1.1,H.1.2⟩,pP hx H.2⟩
theorem zGT {objs objs':List (Nat×Obj')}{op:Op}{e:Operand->PV}{K:PV->Prop}(hx:∀ n o,z7 objs n=some o->z7 objs' n=some o)(h:sK objs op e K):sK objs' op e K:=by rcases aC h with⟨h1,h2⟩|⟨c,f,g,caps,h1,h2,h3,h4,h5⟩;{exact lA h1 (zCD hx h2)};{refine zAW h3 h2 h4 ?_;rcases h5.h with q|⟨hb,hn,cargs,kept,r,q1,q2,q3,q4⟩;{exact⟨.inl q⟩};{exact⟨.inr ⟨hb,hn,cargs,kept,r,q1,q2,pP hx q3,q4⟩⟩}}
theorem tF {objs objs':List (Nat×Obj')}{op:Op}{e:Operand->PV}{K:PV->Prop}(hx:∀ n o,z7 objs n=some o->z7 objs' n=some o)(h:uH nb objs op e K):uH nb objs' op e K:=by
 unfold uH at *
 cases hi:sG op with
 |false =>
  rw[hi] at h;cases nb with
  |true=>exact zGT hx h| false=>exact zCD hx h
 |true=>rw[hi] at h;exact h
theorem zDY {objs objs':List (Nat×Obj')}{o:Oper}{e:Operand->PV}{K:PV->Prop}(hb:zHW o=true)(h:uH false objs o.op e K):uH false objs' o.op e K:=by
 unfold uH at *
 cases hi:sG o.op with
 |true=>rw[hi] at h;exact h| false =>
  rw[hi] at h;simp only at h ⊢;unfold zHW at hb;unfold sop at h ⊢;generalize o.op=op at *
  cases op with
  |load t a=>cases hb
  |makeFunc fn first caps=>cases fn <;> exact h
  |slice t x lo hi mx=>cases mx <;> exact h
  |_=>exact h
def c9 (nb:Bool) (objs:List (Nat×Obj')) (all:List Oper) (o:Oper) (τ:Nat->PV) (pv:PV):Prop :=
 match xR o with
 |some (d,_)=>pv=.ptr d 0| none=>x7 nb objs all o τ pv
theorem uL {o:Oper}{d:Nat}{x:Obj'}(h:xR o=some (d,x)):o.guard=none/\o.dst=some d/\∃ t,o.op=.alloc t/\(ty t).isNo=false/\x=.box (ty t).zero:=by unfold xR at h;split at h;{cases h};{rename_i hg;split at h;{rename_i t ht;split at h;{cases h};{rename_i hn;split at h;{rename_i d' hd;cases h;exact⟨hg,hd,t,ht,hn,rfl⟩};{cases h}}};{cases h}}
theorem nE {objs:List (Nat×Obj')}{all:List Oper}{o:Oper}{τ:Nat->PV}{pv:PV}(h:x7 nb objs all o τ pv):xR o=none/\c9 nb objs all o τ pv:=by
 cases hm:xR o with
 |none=>exact⟨rfl,by unfold c9;rw[hm];exact h⟩| some x =>
  obtain⟨d,x⟩:=x;obtain⟨hg,hd,t,ht,hn,hx⟩:=uL hm;unfold x7 vS at h;rw[hg] at h;simp only[ht] at h;unfold uH sG at h;simp only at h;cases nb with
  |true =>
   simp only[sK,valC] at h;unfold sop at h;exact h.elim
  |false =>
   simp only at h;unfold sop at h;exact h.elim
theorem oX {all:List Oper}{K:PS->Prop}:∀ (l:List Oper) {ps:PS},j7 all l ps K->∃ pvs ps',pvs.length=l.length/\K ps'/\ps'.objs=ps.objs/\zB ps'.tmps=wK l pvs (zB ps.tmps) /\ ∀ i o pv,l[i]?=some o->pvs[i]?=some pv->c9 true ps.objs all o (wK (l.take i) (pvs.take i) (zB ps.tmps)) pv
 |[],ps,h=>⟨[],ps,rfl,h,rfl,rfl,fun i o pv h=>by simp at h⟩| o::r,ps,h=>by
  obtain⟨pv,ps1,h1,ho1,ht1,h2⟩:∃ pv ps1,j7 all r ps1 K/\ps1.objs=ps.objs/\zB ps1.tmps=upd (zB ps.tmps) o.dst pv/\c9 true ps.objs all o (zB ps.tmps) pv:=by
   cases hm:xR o with
   |some x =>
    obtain⟨d,x⟩:=x;simp only[j7,hm] at h;obtain⟨hg,hd,_⟩:=uL hm;exact⟨.ptr d 0,_,h,vQ _ _ _,by rw[yY,hd],by unfold c9;rw[hm]⟩
   |none =>
    simp only[j7,hm] at h;rcases bA h with⟨pv,q1,q2⟩|⟨q1,q2⟩;{obtain⟨pv',ps',g1,g2,g3,g4⟩:=bM q1;exact⟨pv',ps',g2,g3,g4,(nE (q2 pv' g1)).2⟩};{exact⟨.tup [],_,q1,vQ _ _ _,yY _ _ _,(nE q2).2⟩}
  obtain⟨pvs,ps',g1,g2,g3,g4,g5⟩:=oX r h1;refine⟨pv::pvs,ps',by simp[g1],g2,g3.trans ho1,by rw[g4,ht1];rfl,fun i o' pv' hi hp=>?_⟩;cases i with
  |zero =>
   simp only[List.getElem?_cons_zero,Option.some.injEq] at hi hp;subst hi hp;exact h2
  |succ i =>
   simp only[List.getElem?_cons_succ] at hi hp;have:=g5 i o' pv' hi hp;rw[ho1,ht1] at this;exact this
theorem zCA:∀ {l:List Oper} {pvs:List PV} {τ:Nat->PV} {j t:Nat} {o:Oper} {pv:PV},kG l=true->l[j]?=some o->pvs[j]?=some pv->o.dst=some t->wK l pvs τ t=pv
 |o'::r,v::vs,τ,0,t,o,pv,hd,hl,hp,ht=>by
  simp only[List.getElem?_cons_zero,Option.some.injEq] at hl hp;subst hl hp;simp only[kG,Bool.and_eq_true,ht] at hd;have:∀ (l:List Oper) (vs:List PV) (τ:Nat->PV),(l.all fun x=>!(x.dst == some t))=true->wK l vs τ t=τ t:=by
   intro l;induction l with
   |nil=>intro vs τ _;cases vs <;> rfl
   |cons x l ih =>
    intro vs τ h;cases vs with
    |nil=>rfl| cons v vs =>
     simp only[List.all_cons,Bool.and_eq_true] at h;simp only[wK];rw[ih vs _ h.2];cases hx:x.dst with
     |none=>rfl| some d =>
      (have:d≠t:=by intro e;subst e;simp[hx] at h);simp[upd,Ne.symm this]
  simp only[wK];rw[this r vs _ hd.1];simp[upd,ht]
 |o'::r,v::vs,τ,j+1,t,o,pv,hd,hl,hp,ht=>by simp only[List.getElem?_cons_succ] at hl hp;simp only[kG,Bool.and_eq_true] at hd;simp only[wK];exact zCA hd.2 hl hp ht| [],_,_,_,_,_,_,_,hl,_,_=>by simp at hl| _::_,[],_,_,_,_,_,_,_,hp,_=>by simp at hp
theorem oI:∀ {l:List Oper} {pvs:List PV} {τ:Nat->PV} {t:Nat},(∀ (j:Nat) (o:Oper),l[j]?=some o->o.dst≠some t)->wK l pvs τ t=τ t
 |o::r,v::vs,τ,t,h=>by
  simp only[wK];rw[oI fun j o' hj=>h (j+1) o' (by simpa using hj)];have:=h 0 o (by simp);cases hx:o.dst with
  |none=>rfl| some d =>
   (have hne:d≠t:=by intro e;subst e;exact this hx);simp[upd,Ne.symm hne]
 |[],_,_,_,_=>by simp[wK]| _::_,[],_,_,_=>by simp[wK]
theorem mY:∀ {l:List Oper} (k:Nat),kG l=true->kG (l.take k)=true
 |[],k,_=>by simp[kG]| o::r,0,_=>rfl| o::r,k+1,h=>by
  simp only[List.take_succ_cons,kG,Bool.and_eq_true] at h ⊢;refine⟨?_,mY k h.2⟩;cases hd:o.dst with
  |none=>rfl| some d =>
   simp only[hd] at h;simp only[List.all_eq_true] at h ⊢;exact fun x hx=>h.1 x (List.mem_of_mem_take hx)
theorem gL:∀ {l:List Oper} {i j:Nat} {o o':Oper} {t:Nat},kG l=true->l[i]?=some o->l[j]?=some o'->o.dst=some t->o'.dst=some t->i=j
 |x::r,0,0,o,o',t,_,_,_,_,_=>rfl| x::r,0,j+1,o,o',t,h,hi,hj,ht,ht'=>by simp only[List.getElem?_cons_zero,Option.some.injEq] at hi;simp only[List.getElem?_cons_succ] at hj;subst hi;simp only[kG,Bool.and_eq_true,ht,List.all_eq_true] at h;have:=h.1 o' (List.mem_of_getElem? hj);simp[ht'] at this| x::r,i+1,0,o,o',t,h,hi,hj,ht,ht'=>by simp only[List.getElem?_cons_zero,Option.some.injEq] at hj;simp only[List.getElem?_cons_succ] at hi;subst hj;simp only[kG,Bool.and_eq_true,ht',List.all_eq_true] at h;have:=h.1 o (List.mem_of_getElem? hi);simp[ht] at this| x::r,i+1,j+1,o,o',t,h,hi,hj,ht,ht'=>by simp only[List.getElem?_cons_succ] at hi hj;simp only[kG,Bool.and_eq_true] at h;rw[gL h.2 hi hj ht ht']| [],_,_,_,_,_,_,hi,_,_,_=>by simp at hi
end Go.Proofs.YtfainocfaddbdaaGreat
