/- A part of the proof: PmO. -/
import Derived.Test.YtfainocfaddbdaaGreatV11
set_option linter.all false
namespace Go.Proofs.YtfainocfaddbdaaGreat
open Go
section
variable {K:PV->Prop}
theorem zO0 {v x y:PV}(h:brV v (fun _=>K x) (fun _=>K y)):∃ pv,K pv/\∀ K':PV->Prop,K' pv->brV v (fun _=>K' x) (fun _=>K' y):=by
 unfold brV at *
 split at h;{exact⟨x,h,fun _ q=>q⟩};{exact⟨y,h,fun _ q=>q⟩}
 ·rename_i b;cases hb:b () with
  |true=>exact⟨x,h.t hb,fun _ q=>⟨fun _=>q,fun e=>by rw[hb] at e;cases e⟩⟩| false=>exact⟨y,h.f hb,fun _ q=>⟨fun e=>(by rw[hb] at e;cases e),fun _=>q⟩⟩
 ·rename_i b;cases hb:b () with
  |true=>exact⟨y,h.t hb,fun _ q=>⟨fun _=>q,fun e=>by rw[hb] at e;cases e⟩⟩| false=>exact⟨x,h.f hb,fun _ q=>⟨fun e=>(by rw[hb] at e;cases e),fun _=>q⟩⟩
 {exact h.elim}
theorem iK {t:Ty}{cs:List PV}{off:Nat}(h:rdK t cs off K):∃ pv,K pv/\∀ K':PV->Prop,K' pv->rdK t cs off K':=by
 unfold rdK at *
 cases hno:t.isNo with
 |true=>simp[hno] at h| false =>
  simp only[hno,cond_false] at h ⊢;cases hle:nle (off+t.cells) cs.length with
  |false=>simp[hle] at h| true=>simp only[hle,cond_true] at h ⊢;exact⟨_,h,fun _ q=>q⟩
theorem zCN {k:IntKind}{z:Unit->Int}(h:arK k z K):∃ pv,K pv/\∀ K':PV->Prop,K' pv->arK k z K':=by
 unfold arK at *
 split at h;{exact⟨_,h.2,fun _ q=>⟨h.1,q⟩⟩};{exact⟨_,h,fun _ q=>q⟩}
theorem zMA {op:BinOp}{k k':IntKind}{a b:Unit->Int}(h:intK op k a k' b K):∃ pv,K pv/\∀ K':PV->Prop,K' pv->intK op k a k' b K':=by
 unfold intK at *
 split at h;{exact⟨_,h.2,fun _ q=>⟨h.1,q⟩⟩};{exact⟨_,h.2,fun _ q=>⟨h.1,q⟩⟩}
 ·cases hk:zIA k k' with
  |false=>simp[hk] at h| true =>
   simp only[hk,cond_true] at h ⊢;split at h;{exact zCN h};{exact zCN h};{exact zCN h};{exact⟨_,h.2,fun _ q=>⟨h.1,q⟩⟩};{exact⟨_,h.2,fun _ q=>⟨h.1,q⟩⟩};{exact⟨_,h,fun _ q=>q⟩};{exact⟨_,h,fun _ q=>q⟩};{exact⟨_,h,fun _ q=>q⟩};{exact⟨_,h,fun _ q=>q⟩};{exact⟨_,h,fun _ q=>q⟩};{exact⟨_,h,fun _ q=>q⟩};{exact⟨_,h,fun _ q=>q⟩};{exact⟨_,h,fun _ q=>q⟩};{exact h.elim}
end
theorem zLN {K:PV->Prop}{bop:BinOp}{a b:Unit->ByteArray}(h:strK bop a b K):∃ pv,K pv/\∀ K':PV->Prop,K' pv->strK bop a b K':=by
 unfold strK at *
 split at h;{exact⟨_,h.2,fun _ q=>⟨h.1,q⟩⟩};{exact⟨_,h,fun _ q=>q⟩};{exact⟨_,h,fun _ q=>q⟩};{exact h.elim}
theorem zMM {K:PV->Prop}{bop:BinOp}{t:TypeId}{x y:Operand}{u v:PV}(h:binK bop t x y u v K):∃ pv,K pv/\∀ K':PV->Prop,K' pv->binK bop t x y u v K':=by
 unfold binK at *
 split at h;{exact zMA h};{exact zLN h};{split at h;{obtain⟨r,h1,h2⟩:=h.h;exact⟨_,h2,fun _ q=>⟨⟨r,h1,q⟩⟩⟩};{exact h.elim}}
 ·split at h;{split at h;{exact⟨_,h,fun _ q=>q⟩};{exact⟨_,h,fun _ q=>q⟩};{exact h.elim}}
  ·split at h
   ·rename_i a b _ _;cases hab:a || b with
    |false=>simp only[hab] at h| true=>simp only[hab] at h;exact⟨_,h,fun _ q=>by simpa only [hab] using q⟩
   ·rename_i a b _ _;cases hab:a || b with
    |false=>simp only[hab] at h| true=>simp only[hab] at h;exact⟨_,h,fun _ q=>by simpa only [hab] using q⟩
   {exact h.elim}
  {exact h.elim}
theorem zOI {objs:List (Nat×Obj')}{v:PV}{K:PV->Prop}(h:ldV objs v K):∃ pv,K pv/\∀ K':PV->Prop,K' pv->ldV objs v K':=by
 unfold ldV at *
 cases hn:lnt objs v with
 |false=>rw[hn] at h;exact⟨v,h,fun _ q=>q⟩| true =>
  rw[hn] at h;rcases h.h with hK|⟨n,s,els,h1,h2,h3⟩;{exact⟨v,hK,fun K' q=>⟨.inl q⟩⟩};{exact⟨_,h3,fun K' q=>⟨.inr ⟨n,s,els,h1,h2,q⟩⟩⟩}
theorem zAR {objs objs':List (Nat×Obj')}(hx:∀ n o,yA objs n=some o->yA objs' n=some o){v:PV}(h:lnt0 objs v=true):lnt0 objs' v=true:=by
 cases v with
 |osl m s i len =>
  simp only[lnt0] at h ⊢;cases hg:yA objs m with
  |none=>rw[hg] at h;cases h
  |some o=>rw[hg] at h;rw[hx _ _ hg];exact h
 |_=>cases h
theorem zI8 {objs objs':List (Nat×Obj')}(hx:∀ n o,yA objs n=some o->yA objs' n=some o){v:PV}(h:lnt objs v=true):lnt objs' v=true:=by
 cases v with
 |agg cs =>
  simp only[lnt] at h ⊢;induction cs with
  |nil=>exact h| cons c cs ih =>
   simp only[anyL] at h ⊢;cases hc:lnt0 objs c with
   |true=>rw[zAR hx hc]| false =>
    rw[hc] at h;cases lnt0 objs' c with
    |true=>rfl| false=>exact ih h
 |osl m s i len=>exact zAR (v:=.osl m s i len) hx h| _=>cases h
theorem zI9 {objs objs':List (Nat×Obj')}(hx:∀ n o,yA objs n=some o->yA objs' n=some o){v:PV}{K:PV->Prop}(h:ldV objs v K):ldV objs' v K:=by
 unfold ldV at *
 cases hn:lnt objs v with
 |false =>
  rw[hn] at h;cases lnt objs' v with
  |false=>exact h| true=>exact⟨.inl h⟩
 |true =>
  rw[hn] at h;rw[zI8 hx hn];rcases h.h with hK|⟨n,s,els,h1,h2,h3⟩;{exact⟨.inl hK⟩};{exact⟨.inr ⟨n,s,els,hx _ _ h1,h2,h3⟩⟩}
theorem zIZ {objs objs':List (Nat×Obj')}(hx:∀ n o,yA objs n=some o->yA objs' n=some o){t:Ty}{cs:List PV}{off:Nat}{K:PV->Prop}(h:rdK t cs off (fun v=>ldV objs v K)):rdK t cs off (fun v=>ldV objs' v K):=by obtain⟨pv,h1,h2⟩:=iK h;exact h2 _ (zI9 hx h1)
theorem zD0 {b:Bool}{objs:List (Nat×Obj')}{g:FuncId}{args:List PV}{K:PV->Prop}(h:CallS b objs g args K):∃ pv,K pv/\∀ K':PV->Prop,K' pv->CallS b objs g args K':=by rcases h.h with⟨args',r,h1,h2,h3,h4⟩|⟨hb,hn,cargs,kept,r,h1,h2,h3,h4,h5,h6,h7,h8,h9,h10⟩;{exact⟨r,h4,fun K' q=>⟨.inl ⟨args',r,h1,h2,h3,q⟩⟩⟩};{exact⟨_,h10,fun K' q=>⟨.inr ⟨hb,hn,cargs,kept,r,h1,h2,h3,h4,h5,h6,h7,h8,h9,q⟩⟩⟩}
theorem zJ0 {objs:List (Nat×Obj')}{op:Op}{e:Operand->PV}{K:PV->Prop}(h:sop objs op e K):∃ pv,K pv/\∀ K':PV->Prop,K' pv->sop objs op e K':=by
 unfold sop at *
 split at h;{exact⟨_,h,fun _ q=>q⟩};{exact⟨_,h,fun _ q=>q⟩};{exact zO0 h};{split at h;{split at h;{exact⟨_,h,fun _ q=>q⟩};{exact h.elim}};{split at h;{exact⟨_,h,fun _ q=>q⟩};{exact h.elim}};{exact h.elim}}
 ·split at h
  ·split at h
   ·rename_i els hf;cases hc:(nle _ 1000&&bJ els) with
    |false=>simp only[hc,cond_false] at h| true=>simp only[hc,cond_true] at h ⊢;exact⟨_,h,fun _ q=>q⟩
   {exact h.elim}
  {exact h.elim}
 ·split at h;{exact iK h};{split at h;{obtain⟨pv,h5,h6⟩:=iK h;obtain⟨pv',h7,h8⟩:=zOI h5;exact⟨pv',h7,fun K' q=>h6 _ (h8 K' q)⟩};{exact h.elim}}
  ·rename_i n s i off _;split at h
   ·rename_i s' els _;cases hss:nqb s s' with
    |false=>simp[hss] at h| true =>
     simp only[hss,cond_true] at h ⊢;obtain⟨c,h1,h2,h3,h4⟩:=h.h;obtain⟨pv,h5,h6⟩:=iK h4;exact⟨pv,h5,fun K' q=>⟨⟨c,h1,h2,h3,h6 K' q⟩⟩⟩
   ·rename_i s' rows hs _;cases hss:(nqb s 1&&nqb off 0) with
    |false=>simp only[hss] at h| true =>
     simp only[hss] at h ⊢;obtain⟨v0,k0,h1,h2,h4⟩:=h.h;obtain⟨pv,h5,h6⟩:=iK h4;exact⟨pv,h5,fun K' q=>⟨⟨v0,k0,h1,h2,h6 K' q⟩⟩⟩
   {exact h.elim}
  {exact h.elim}
 {exact zMM h};{split at h;{exact⟨_,h,fun _ q=>q⟩};{exact⟨_,h,fun _ q=>q⟩};{exact⟨_,h,fun _ q=>q⟩};{exact⟨_,h,fun _ q=>q⟩};{exact zCN h};{exact h.elim}}
 ·rename_i src dst x;cases hno:(ty src).isNo with
  |true=>simp[hno] at h| false =>
   simp only[hno,cond_false] at h ⊢;split at h;{exact⟨_,h,fun _ q=>q⟩};{obtain⟨h1,h2,ns,h3,h4⟩:=h.h;exact⟨_,h4,fun _ q=>⟨h1,h2,ns,h3,q⟩⟩};{exact h.elim}
 {split at h;{split at h;{split at h;{exact⟨_,h,fun _ q=>q⟩};{exact⟨_,h,fun _ q=>q⟩};{exact⟨_,h,fun _ q=>q⟩};{exact h.elim}};{exact h.elim}};{exact h.elim}}
 ·split at h
  ·split at h
   ·rename_i off sz ag hi;cases ag with
    |false=>exact h.elim| true =>
     (try simp only at h ⊢)
     split at h
     ·rename_i cs _;cases hle:nle (off+sz) cs.length with
      |false=>simp[hle] at h| true=>simp only[hle] at h ⊢;exact⟨_,h,fun _ q=>q⟩
     {exact h.elim}
   {exact h.elim}
  {exact h.elim}
 ·split at h;{obtain⟨h0,c,h1,h2,h3,h4⟩:=h.h;exact⟨_,h4,fun _ q=>⟨⟨h0,c,h1,h2,h3,q⟩⟩⟩}
  ·rename_i n b z m s o len k kv _ _ _;cases hss:nqb n s with
   |false=>simp[hss] at h| true=>simp only[hss,cond_true] at h ⊢;exact⟨_,h.2,fun _ q=>⟨h.1,q⟩⟩
  {obtain⟨j,h1,h2,h3⟩:=h.h;exact⟨_,h3,fun _ q=>⟨⟨j,h1,h2,q⟩⟩⟩};{exact h.elim}
 ·split at h
  ·rename_i len z cs k kv _ _ _;cases hll:nqb len cs.length with
   |false=>simp[hll] at h| true =>
    simp only[hll,cond_true] at h ⊢;obtain⟨j,h1,h2,h3⟩:=h.h;exact⟨_,h3,fun _ q=>⟨⟨j,h1,h2,q⟩⟩⟩
  {exact h.elim}
 ·rename_i x i;split at h
  ·rename_i vs _;cases hlt:nlt i vs.length with
   |false=>simp[hlt] at h| true=>simp only[hlt,cond_true] at h ⊢;exact⟨_,h,fun _ q=>q⟩
  {exact h.elim}
 ·split at h;{split at h;{exact⟨_,h.2.2,fun _ q=>⟨h.1,h.2.1,q⟩⟩};{exact h.elim}}
  ·rename_i n b z m s o len _ _;split at h
   ·cases hss:nqb n s with
    |false=>simp[hss] at h| true=>simp only[hss,cond_true] at h ⊢;exact⟨_,h.2.2,fun _ q=>⟨h.1,h.2.1,q⟩⟩
   {exact h.elim}
  {split at h;{exact⟨_,h.2,fun _ q=>⟨h.1,q⟩⟩};{exact h.elim}};{exact h.elim}
 {split at h;{exact⟨_,h,fun _ q=>q⟩};{exact⟨_,h,fun _ q=>q⟩};{exact⟨_,h,fun _ q=>q⟩};{exact h.elim}};{split at h;{exact⟨_,h,fun _ q=>q⟩};{exact h.elim}}
 ·split at h
  ·split at h
   ·unfold lenK at *
    split at h;{split at h;{exact⟨_,h,fun _ q=>q⟩};{exact⟨_,h,fun _ q=>q⟩};{exact⟨_,h,fun _ q=>q⟩};{exact⟨_,h,fun _ q=>q⟩};{exact h.elim}};{exact h.elim}
   {exact h.elim}
  {split at h;{split at h;{exact⟨_,h,fun _ q=>q⟩};{exact h.elim}};{exact h.elim}};{split at h;{split at h;{exact⟨_,h,fun _ q=>q⟩};{exact h.elim}};{exact h.elim}};{split at h;{exact zD0 h};{exact h.elim}};{exact h.elim}
 {exact h.elim}
theorem cG {e e':Operand->PV}:∀ {l:List Operand},(∀ x,x∈l->e x=e' x)->evs e l=evs e' l
 |[],_=>rfl| x::r,h=>by simp only[evs];rw[h x List.mem_cons_self,cG fun y hy=>h y (List.mem_cons_of_mem _ hy)]
theorem dR {e e':Operand->PV}:∀ {l:List (Nat×Operand)},(∀ x,x∈l.map (·.2)->e x=e' x)->w5 e l=w5 e' l
 |[],_=>rfl| (i,x)::r,h=>by simp only[w5];rw[h x (by simp),dR fun y hy=>h y (by simp only[List.map_cons,List.mem_cons];exact .inr hy)]
theorem iP {e e':Operand->PV}{d:Unit->Int}{o:Option Operand}(h:∀ x,o=some x->e x=e' x):rF e d o=rF e' d o:=by
 cases o with
 |none=>rfl| some x=>simp only[rF];rw[h x rfl]
theorem zAC {objs:List (Nat×Obj')}{op:Op}{e e':Operand->PV}{K:PV->Prop}(h:∀ x,x∈op.operands.toList->e x=e' x)(hs:sop objs op e K):sop objs op e' K:=by
 cases op with
 |move x=>simp only[sop] at hs ⊢;rwa [<-h x (by simp[Op.operands])]| assign x=>simp only[sop] at hs ⊢;rwa [<-h x (by simp[Op.operands])]| pick c x y=>simp only[sop] at hs ⊢;rwa [<-h x (by simp[Op.operands]),<-h y (by simp[Op.operands]),<-h c (by simp[Op.operands])]| build t parts=>simp only[sop] at hs ⊢;rwa [<-dR (e:=e) fun x hx=>h x (by simpa[Op.operands] using hx)]| buildSlice t len parts=>simp only[sop] at hs ⊢;rwa [<-dR (e:=e) fun x hx=>h x (by simpa[Op.operands] using hx)]| load t a=>simp only[sop] at hs ⊢;rwa [<-h a (by simp[Op.operands])]| binOp b t x y yt=>simp only[sop] at hs ⊢;rwa [<-h x (by simp[Op.operands]),<-h y (by simp[Op.operands])]| unOp u t x=>simp only[sop] at hs ⊢;rwa [<-h x (by simp[Op.operands])]| convert s d x=>simp only[sop] at hs ⊢;rwa [<-h x (by simp[Op.operands])]| fieldAddr s x f=>simp only[sop] at hs ⊢;rwa [<-h x (by simp[Op.operands])]| field t x i=>simp only[sop] at hs ⊢;rwa [<-h x (by simp[Op.operands])]| indexAddr t x i=>simp only[sop] at hs ⊢;rwa [<-h x (by simp[Op.operands]),<-h i (by simp[Op.operands])]| index t x i=>simp only[sop] at hs ⊢;rwa [<-h x (by simp[Op.operands]),<-h i (by simp[Op.operands])]| extract x i=>simp only[sop] at hs ⊢;rwa [<-h x (by simp[Op.operands])]| slice t x lo hi mx =>
  have hx:=h x (by simp[Op.operands]);have hlo:∀ d,rF e d lo=rF e' d lo:=fun d=>iP fun y hy=>h y (by subst hy;simp[Op.operands]);have hhi:∀ d,rF e d hi=rF e' d hi:=fun d=>iP fun y hy=>h y (by subst hy;simp[Op.operands]);cases mx with
  |some m=>simp only[sop] at hs| none=>simp only[sop] at hs ⊢;simp only[<-hx,<-hlo,<-hhi];exact hs
 |nilCheck x=>simp only[sop] at hs ⊢;rwa [<-h x (by simp[Op.operands])]| makeFunc fn first caps =>
  cases fn with
  |func f =>
   simp only[sop] at hs ⊢;have:evs e caps.toList=evs e' caps.toList:=cG fun x hx=>h x (by simp only[Op.operands,Array.toList_append,List.mem_append];exact .inr hx);rwa [<-this]
  |_=>simp only[sop] at hs
 |call c =>
  have hargs:∀ x,x∈c.args.toList->e x=e' x:=fun x hx=>h x (by simp only[Op.operands,Call.operands,Array.toList_append,List.mem_append];exact .inr hx);simp only[sop] at hs ⊢;split at hs;{split at hs;{rename_i x t hx ht;rw[hargs x (by rw[hx];simp)] at hs;exact hs};{exact hs.elim}};{split at hs;{rename_i x y hx;rw[hargs x (by rw[hx];simp),hargs y (by rw[hx];simp)] at hs;exact hs};{exact hs.elim}};{split at hs;{rename_i x y hx;rw[hargs x (by rw[hx];simp),hargs y (by rw[hx];simp)] at hs;exact hs};{exact hs.elim}};{rename_i f hcl;have hf:e f=e' f:=h f (by simp[Op.operands,Call.operands,hcl]);rw[<-hf,<-cG hargs];exact hs};{exact hs.elim}
 |_=>simp only[sop] at hs
theorem zMN {n b:Nat}{base x:PV}{K:PV->Prop}(h:appN n b base x K):∃ pv,K pv/\∀ K':PV->Prop,K' pv->appN n b base x K':=by
 unfold appN at *
 split at h;{exact⟨_,h.2.2,fun K' hK=>⟨h.1,h.2.1,hK⟩⟩};{exact⟨_,h,fun K' hK=>hK⟩};{exact h.elim}
theorem zBY {op:Op}{e:Operand->PV}{K:PV->Prop}(h:app2 op e K):∃ (c:Call) (b x:Operand) (t tx:TypeId) (n bb:Nat) (z:List PV),op=.call c/\c.args=#[b,x]/\c.argTypes=#[t,tx]/\sW (ty tx)=true/\ty t=.sli n bb z/\kM (e b)=true/\appN n bb (e b) (e x) K:=by
 unfold app2 at h;split at h
 ·rename_i c;split at h
  ·rename_i b x t tx hb ht;cases hi:sW (ty tx) with
   |false=>rw[hi] at h;exact h.elim| true =>
    rw[hi] at h;simp only at h;split at h;{rename_i n bb z h1 h2;refine⟨c,b,x,t,tx,n,bb,z,rfl,?_,?_,hi,h1,h2,h⟩;{rw[<-Array.toArray_toList (xs:=c.args),hb]};{rw[<-Array.toArray_toList (xs:=c.argTypes),ht]}};{exact h.elim}
  {exact h.elim}
 {exact h.elim}
theorem zG2 {c:Call}{b x:Operand}{t tx:TypeId}{n bb:Nat}{z:List PV}{e:Operand->PV}{K:PV->Prop}(h1:c.args=#[b,x])(h2:c.argTypes=#[t,tx])(h3:sW (ty tx)=true)(h4:ty t=.sli n bb z)(h5:kM (e b)=true)(h6:appN n bb (e b) (e x) K):app2 (.call c) e K:=by unfold app2;simp only[h1,h2,h3,h4,h5];exact h6
variable {nb:Bool}
theorem zG5 {op:Op}{c:Call}(h:valC op=some c):op=.call c/\∃ f,c.callee=.value f:=by unfold valC at h;split at h;{rename_i c0;split at h;{rename_i f hf;cases h;exact⟨rfl,f,hf⟩};{cases h}};{cases h}
theorem aO {objs:List (Nat×Obj')}{op:Op}{e:Operand->PV}{K:PV->Prop}(h:s6 objs op e K):(valC op=none/\sop objs op e K)\/∃ c f g caps,op=.call c/\c.callee=.value f/\valC op=some c/\e f=.fn g caps/\CallS true objs g (evs e c.args.toList++caps) K:=by
 unfold s6 at h;cases hv:valC op with
 |none=>rw[hv] at h;exact .inl ⟨rfl,h⟩| some c =>
  obtain⟨h1,f,h2⟩:=zG5 hv;rw[hv] at h;simp only[h2] at h;split at h;{rename_i g caps he;exact .inr ⟨c,f,g,caps,h1,h2,rfl,he,h⟩};{exact h.elim}
theorem zBD {objs:List (Nat×Obj')}{op:Op}{e:Operand->PV}{K:PV->Prop}{c:Call}{f:Operand}{g:FuncId}{caps:List PV}(hv:valC op=some c)(h2:c.callee=.value f)(he:e f=.fn g caps)(h:CallS true objs g (evs e c.args.toList++caps) K):s6 objs op e K:=by unfold s6;rw[hv];simp only[h2,he];exact h
theorem lU {objs:List (Nat×Obj')}{op:Op}{e:Operand->PV}{K:PV->Prop}(hv:valC op=none)(h:sop objs op e K):s6 objs op e K:=by unfold s6;rw[hv];exact h
theorem zLO {objs:List (Nat×Obj')}{op:Op}{e:Operand->PV}{K:PV->Prop}(h:s6 objs op e K):∃ pv,K pv/\∀ K':PV->Prop,K' pv->s6 objs op e K':=by rcases aO h with⟨h1,h2⟩|⟨c,f,g,caps,h1,h2,h3,h4,h5⟩;{obtain⟨pv,g1,g2⟩:=zJ0 h2;exact⟨pv,g1,fun K' q=>lU h1 (g2 K' q)⟩};{obtain⟨pv,g1,g2⟩:=zD0 h5;exact⟨pv,g1,fun K' q=>zBD h3 h2 h4 (g2 K' q)⟩}
theorem eM {e e':Operand->PV}:∀ {l:List Operand},(∀ x,x∈l->e x=e' x)->evs e l=evs e' l
 |[],_=>rfl| x::r,h=>by simp only[evs];rw[h x List.mem_cons_self,eM fun y hy=>h y (List.mem_cons_of_mem _ hy)]
theorem zEC {objs:List (Nat×Obj')}{op:Op}{e e':Operand->PV}{K:PV->Prop}(h:∀ x,x∈op.operands.toList->e x=e' x)(hs:s6 objs op e K):s6 objs op e' K:=by rcases aO hs with⟨h1,h2⟩|⟨c,f,g,caps,h1,h2,h3,h4,h5⟩;{exact lU h1 (zAC h h2)};{subst h1;have hf:e f=e' f:=h f (by simp[Op.operands,Call.operands,h2]);refine zBD h3 h2 (hf ▸ h4) ?_;rw[<-eM (e:=e) (e':=e') fun x hx=>h x (by simp only[Op.operands,Call.operands,h2];simp;simp at hx;first|exact .inr hx|exact .inl hx|exact hx)];exact h5}
theorem zLP {objs:List (Nat×Obj')}{op:Op}{e:Operand->PV}{K:PV->Prop}(h:uO nb objs op e K):∃ pv,K pv/\∀ K':PV->Prop,K' pv->uO nb objs op e K':=by
 unfold uO at *
 cases hi:sX op with
 |false =>
  rw[hi] at h;cases nb with
  |true=>exact zLO h| false=>exact zJ0 h
 |true =>
  rw[hi] at h;obtain⟨c,b,x,t,tx,n,bb,z,rfl,h1,h2,h3,h4,h5,h6⟩:=zBY h;obtain⟨pv,q1,q2⟩:=zMN h6;exact⟨pv,q1,fun K' hK=>zG2 h1 h2 h3 h4 h5 (q2 K' hK)⟩
theorem zDE {op:Op}(h:sX op=true):∃ c,op=.call c/\c.callee=.builtin .append:=by unfold sX at h;split at h;{rename_i c;split at h;{rename_i hc;exact⟨c,rfl,hc⟩};{cases h}};{cases h}
theorem zED {objs:List (Nat×Obj')}{op:Op}{e e':Operand->PV}{K:PV->Prop}(h:∀ x,x∈op.operands.toList->e x=e' x)(hs:uO nb objs op e K):uO nb objs op e' K:=by
 unfold uO at *
 cases hi:sX op with
 |false =>
  rw[hi] at hs;cases nb with
  |true=>exact zEC h hs| false=>exact zAC h hs
 |true =>
  rw[hi] at hs;obtain⟨c',hc1,hc2⟩:=zDE hi;obtain⟨c,b,x,t,tx,n,bb,z,rfl,h1,h2,h3,h4,h5,h6⟩:=zBY hs;cases hc1;have hb:e b=e' b:=h b (by simp[Op.operands,Call.operands,hc2,h1]);have hx:e x=e' x:=h x (by simp[Op.operands,Call.operands,hc2,h1]);exact zG2 h1 h2 h3 h4 (hb ▸ h5) (hx ▸ hb ▸ h6)
def x9 (nb:Bool) (objs:List (Nat×Obj')) (all:List Oper) (o:Oper) (τ:Nat->PV) (pv:PV):Prop :=
 vV all o τ (fun _=>uO nb objs o.op (ev τ) (fun v=>Le v pv)) (fun _=>pv=.tup [])
theorem aE {all:List Oper}{o:Oper}{τ:Nat->PV}{A B A' B':Unit->Prop}(hA:A ()->A' ())(hB:B ()->B' ())(h:vV all o τ A B):vV all o τ A' B':=by
 have br:∀ {v:PV} {A B A' B':Unit->Prop},(A ()->A' ())->(B ()->B' ())->brV v A B->brV v A' B':=by
  intro v A B A' B' hA hB h;unfold brV at *
  split at h;{exact hA h};{exact hB h};{exact⟨fun e=>hA (h.t e),fun e=>hB (h.f e)⟩};{exact⟨fun e=>hB (h.t e),fun e=>hA (h.f e)⟩};{exact h.elim}
 unfold vV at *
 split at h;{exact hA h}
 ·rename_i j want hg;split at h
  ·rename_i oj hj;split at h
   ·rename_i d hd;by_cases hu:τ d=.tup [];{rw[hu] at h ⊢;exact hB h};rw[zCM hu] at h ⊢;cases want with
    |true=>simp only[cond_true] at h ⊢;exact br hA hB h| false=>simp only[cond_false] at h ⊢;exact br hB hA h
   {exact h.elim}
  {exact h.elim}
theorem bN {objs:List (Nat×Obj')}{all:List Oper}{o:Oper}{τ:Nat->PV}{K:PV->Prop}{K2:Prop}(h:vV all o τ (fun _=>uO nb objs o.op (ev τ) K) (fun _=>K2)):(∃ pv,K pv/\∀ pv',Le pv pv'->x9 nb objs all o τ pv')\/(K2/\x9 nb objs all o τ (.tup [])):=by
 have pv1:uO nb objs o.op (ev τ) K->∃ pv,K pv/\∀ pv',Le pv pv'->uO nb objs o.op (ev τ) (fun v=>Le v pv'):=fun hs=>by obtain⟨pv,h1,h2⟩:=zLP hs;exact⟨pv,h1,fun pv' hl=>h2 _ hl⟩
 unfold vV at h;split at h;{rename_i hg;obtain⟨pv,h1,h2⟩:=pv1 h;exact .inl ⟨pv,h1,fun pv' hl=>by unfold x9 vV;rw[hg];exact h2 pv' hl⟩}
 ·rename_i j want hg;split at h
  ·rename_i oj hj;split at h
   ·rename_i d hd;by_cases hu:τ d=.tup [];{rw[hu] at h;exact .inr ⟨h,by unfold x9 vV;rw[hg];simp only[hj,hd,hu];exact trivial⟩};rw[zCM hu] at h;have st:∀ pv',(if want then brV (τ d) (fun _=>uO nb objs o.op (ev τ) (fun v=>Le v pv')) (fun _=>pv'=.tup []) else brV (τ d) (fun _=>pv'=.tup []) (fun _=>uO nb objs o.op (ev τ) (fun v=>Le v pv')))->x9 nb objs all o τ pv':=by
     intro pv' hx;unfold x9 vV;rw[hg];simp only[hj,hd,zCM hu];cases want with
     |true=>exact hx| false=>exact hx
    have br:∀ {v:PV} {A:Prop},brV v (fun _=>A) (fun _=>K2)->(A/\∀ X Y:Unit->Prop,X ()->brV v X Y)\/(K2/\∀ X Y:Unit->Prop,Y ()->brV v X Y):=by
     intro v A hb;unfold brV at *
     cases v with
     |tt=>exact .inl ⟨hb,fun _ _ q=>q⟩| ff=>exact .inr ⟨hb,fun _ _ q=>q⟩| bool b =>
      cases hv:b () with
      |true=>exact .inl ⟨hb.t hv,fun _ _ q=>⟨fun _=>q,fun e=>by rw[hv] at e;cases e⟩⟩| false=>exact .inr ⟨hb.f hv,fun _ _ q=>⟨fun e=>(by rw[hv] at e;cases e),fun _=>q⟩⟩
     |nbool b =>
      cases hv:b () with
      |true=>exact .inr ⟨hb.t hv,fun _ _ q=>⟨fun _=>q,fun e=>by rw[hv] at e;cases e⟩⟩| false=>exact .inl ⟨hb.f hv,fun _ _ q=>⟨fun e=>(by rw[hv] at e;cases e),fun _=>q⟩⟩
     |_=>exact hb.elim
    have br':∀ {v:PV} {A:Prop},brV v (fun _=>K2) (fun _=>A)->(A/\∀ X Y:Unit->Prop,Y ()->brV v X Y)\/(K2/\∀ X Y:Unit->Prop,X ()->brV v X Y):=by
     intro v A hb;unfold brV at *
     cases v with
     |tt=>exact .inr ⟨hb,fun _ _ q=>q⟩| ff=>exact .inl ⟨hb,fun _ _ q=>q⟩| bool b =>
      cases hv:b () with
      |true=>exact .inr ⟨hb.t hv,fun _ _ q=>⟨fun _=>q,fun e=>by rw[hv] at e;cases e⟩⟩| false=>exact .inl ⟨hb.f hv,fun _ _ q=>⟨fun e=>(by rw[hv] at e;cases e),fun _=>q⟩⟩
     |nbool b =>
      cases hv:b () with
      |true=>exact .inl ⟨hb.t hv,fun _ _ q=>⟨fun _=>q,fun e=>by rw[hv] at e;cases e⟩⟩| false=>exact .inr ⟨hb.f hv,fun _ _ q=>⟨fun e=>(by rw[hv] at e;cases e),fun _=>q⟩⟩
     |_=>exact hb.elim
    cases want with
    |true =>
     simp only[cond_true] at h;rcases br h with⟨hA,hX⟩|⟨h2,hY⟩;{obtain⟨pv,h1,h2⟩:=pv1 hA;exact .inl ⟨pv,h1,fun pv' hl=>st pv' (by rw[if_pos rfl];exact hX (fun _=>uO nb objs o.op (ev τ) (fun v=>Le v pv')) (fun _=>pv'=.tup []) (h2 pv' hl))⟩};{exact .inr ⟨h2,st (.tup []) (by rw[if_pos rfl];exact hY (fun _=>uO nb objs o.op (ev τ) (fun v=>Le v (.tup []))) (fun _=>(PV.tup []=PV.tup [])) rfl)⟩}
    |false =>
     simp only[cond_false] at h;rcases br' h with⟨hA,hX⟩|⟨h2,hY⟩;{obtain⟨pv,h1,h2⟩:=pv1 hA;exact .inl ⟨pv,h1,fun pv' hl=>st pv' (by rw[if_neg (by simp)];exact hX (fun _=>pv'=.tup []) (fun _=>uO nb objs o.op (ev τ) (fun v=>Le v pv')) (h2 pv' hl))⟩};{exact .inr ⟨h2,st (.tup []) (by rw[if_neg (by simp)];exact hY (fun _=>(PV.tup []=PV.tup [])) (fun _=>uO nb objs o.op (ev τ) (fun v=>Le v (.tup []))) rfl)⟩}
   {exact h.elim}
  {exact h.elim}
theorem bZ {all:List Oper}{o:Oper}{ps:PS}{pv:PV}{K:PS->Prop}(h:sU all o (put ps o.dst pv) K):∃ pv' ps',Le pv pv'/\K ps'/\ps'.objs=ps.objs/\zB ps'.tmps=upd (zB ps.tmps) o.dst pv':=by
 unfold sU at h;cases hg:isG all o with
 |false=>simp only[hg,cond_false] at h;exact⟨pv,_,Le.refl _,h,vS _ _ _,yZ _ _ _⟩| true =>
  simp only[hg,cond_true] at h;split at h
  ·(rename_i d hd;have hpv:zB (put ps o.dst pv).tmps d=pv:=by rw[yZ,hd];simp[upd]);have fin:∀ x,zB (vD (put ps o.dst pv).tmps d x)=upd (zB ps.tmps) o.dst x:=by intro x;funext t;rw[j5,yZ,hd];simp only[upd];by_cases e:t=d <;> simp[e]
   rw[hpv] at h;split at h
   ·rename_i b;cases hv:b () with
    |true=>exact⟨.tt,_,by simpa[Le] using hv,h.t hv,vS _ _ _,fin _⟩| false=>exact⟨.ff,_,by simpa[Le] using hv,h.f hv,vS _ _ _,fin _⟩
   ·rename_i b;cases hv:b () with
    |true=>exact⟨.ff,_,by simpa[Le] using hv,h.t hv,vS _ _ _,fin _⟩| false=>exact⟨.tt,_,by simpa[Le] using hv,h.f hv,vS _ _ _,fin _⟩
   {exact⟨pv,_,Le.refl _,h,vS _ _ _,yZ _ _ _⟩}
  {exact⟨pv,_,Le.refl _,h,vS _ _ _,yZ _ _ _⟩}
theorem dD {objs:List (Nat×Obj')}{all:List Oper}{o:Oper}{τ τ':Nat->PV}{pv:PV}(h:∀ t,t∈uU all o->τ t=τ' t)(hs:x9 nb objs all o τ pv):x9 nb objs all o τ' pv:=by
 have hop:∀ x,x∈o.op.operands.toList->ev τ x=ev τ' x:=by
  intro x hx;cases x with
  |tmp t=>exact h t (by unfold uU;exact List.mem_append_left _ (List.mem_filterMap.2 ⟨_,hx,rfl⟩))| _=>rfl
 have hs':vV all o τ (fun _=>uO nb objs o.op (ev τ') (fun v=>Le v pv)) (fun _=>pv=.tup []):=aE (fun h=>zED hop h) id hs;unfold x9;unfold vV at hs' ⊢;split at hs';{exact hs'};{rename_i j want hg;split at hs';{rename_i oj hj;split at hs';{rename_i d hd;have:τ d=τ' d:=h d (by unfold uU;refine List.mem_append_right _ ?_;simp[hg,hj,hd]);rw[this] at hs';exact hs'};{exact hs'.elim}};{exact hs'.elim}}
def wO:List Oper->List PV->(Nat->PV)->(Nat->PV)
 |o::l,v::vs,τ=>wO l vs (upd τ o.dst v)| _,_,τ=>τ
theorem lT {all:List Oper}{K:PS->Prop}:∀ (l:List Oper) {ps:PS},cN nb all l ps K->∃ pvs ps',pvs.length=l.length/\K ps'/\ps'.objs=ps.objs/\zB ps'.tmps=wO l pvs (zB ps.tmps) /\ ∀ i o pv,l[i]?=some o->pvs[i]?=some pv->x9 nb ps.objs all o (wO (l.take i) (pvs.take i) (zB ps.tmps)) pv
 |[],ps,h=>⟨[],ps,rfl,h,rfl,rfl,fun i o pv h=>by simp at h⟩| o::r,ps,h=>by
  (simp only[cN] at h;obtain⟨pv,ps1,h1,ho1,ht1,h2⟩:∃ pv ps1,cN nb all r ps1 K/\ps1.objs=ps.objs/\zB ps1.tmps=upd (zB ps.tmps) o.dst pv/\x9 nb ps.objs all o (zB ps.tmps) pv:=by rcases bN h with⟨pv,q1,q2⟩|⟨q1,q2⟩;{obtain⟨pv',ps',g1,g2,g3,g4⟩:=bZ q1;exact⟨pv',ps',g2,g3,g4,q2 pv' g1⟩};{exact⟨.tup [],_,q1,vS _ _ _,yZ _ _ _,q2⟩});obtain⟨pvs,ps',g1,g2,g3,g4,g5⟩:=lT r h1;refine⟨pv::pvs,ps',by simp[g1],g2,g3.trans ho1,by rw[g4,ht1];rfl,fun i o' pv' hi hp=>?_⟩;cases i with
  |zero =>
   simp only[List.getElem?_cons_zero,Option.some.injEq] at hi hp;subst hi hp;exact h2
  |succ i =>
   simp only[List.getElem?_cons_succ] at hi hp;have:=g5 i o' pv' hi hp;rw[ho1,ht1] at this;exact this
theorem zCT {objs objs':List (Nat×Obj')}{op:Op}{e:Operand->PV}{K:PV->Prop}(hx:∀ n o,yA objs n=some o->yA objs' n=some o)(h:sop objs op e K):sop objs' op e K:=by
 cases op with
 |load t a =>
  unfold sop at h ⊢;simp only at h ⊢;split at h;{exact h}
  ·rename_i n off he;cases ho:yA objs n with
   |none=>rw[ho] at h;exact h.elim| some o =>
    rw[ho] at h;rw[hx _ _ ho];cases o with
    |box cs=>exact zIZ hx h| _=>exact h.elim
  ·rename_i n s i off he;cases ho:yA objs n with
   |none=>rw[ho] at h;exact h.elim| some o=>rw[ho] at h;rw[hx _ _ ho];exact h
  {exact h.elim}
 |makeFunc fn first caps=>cases fn <;> exact h
 |slice t x lo hi mx=>cases mx <;> exact h
 |_=>exact h
theorem tC {objs objs':List (Nat×Obj')}{h:Nat->Nat}(hx:∀ n o,yA objs n=some o->yA objs' n=some o):∀ {l:List (Nat×Obj')},v8 h objs l->v8 h objs' l
 |[],_=>trivial| (n,o)::r,H=>⟨⟨hx _ _ H.1.1,H.1.2⟩,tC hx H.2⟩
theorem zHB {objs objs':List (Nat×Obj')}{op:Op}{e:Operand->PV}{K:PV->Prop}(hx:∀ n o,yA objs n=some o->yA objs' n=some o)(h:s6 objs op e K):s6 objs' op e K:=by rcases aO h with⟨h1,h2⟩|⟨c,f,g,caps,h1,h2,h3,h4,h5⟩;{exact lU h1 (zCT hx h2)};{refine zBD h3 h2 h4 ?_;rcases h5.h with q|⟨hb,hn,cargs,kept,r,q1,q2,q3,q4⟩;{exact⟨.inl q⟩};{exact⟨.inr ⟨hb,hn,cargs,kept,r,q1,q2,tC hx q3,q4⟩⟩}}
theorem t8 {objs objs':List (Nat×Obj')}{op:Op}{e:Operand->PV}{K:PV->Prop}(hx:∀ n o,yA objs n=some o->yA objs' n=some o)(h:uO nb objs op e K):uO nb objs' op e K:=by
 unfold uO at *
 cases hi:sX op with
 |false =>
  rw[hi] at h;cases nb with
  |true=>exact zHB hx h| false=>exact zCT hx h
 |true=>rw[hi] at h;exact h
theorem zEE {objs objs':List (Nat×Obj')}{o:Oper}{e:Operand->PV}{K:PV->Prop}(hb:zIF o=true)(h:uO false objs o.op e K):uO false objs' o.op e K:=by
 unfold uO at *
 cases hi:sX o.op with
 |true=>rw[hi] at h;exact h| false =>
  rw[hi] at h;simp only at h ⊢;unfold zIF at hb;unfold sop at h ⊢;generalize o.op=op at *
  cases op with
  |load t a=>cases hb
  |makeFunc fn first caps=>cases fn <;> exact h
  |slice t x lo hi mx=>cases mx <;> exact h
  |_=>exact h
def bM (nb:Bool) (objs:List (Nat×Obj')) (all:List Oper) (o:Oper) (τ:Nat->PV) (pv:PV):Prop :=
 match xS o with
 |some (d,_)=>pv=.ptr d 0| none=>x9 nb objs all o τ pv
theorem uT {o:Oper}{d:Nat}{x:Obj'}(h:xS o=some (d,x)):o.guard=none/\o.dst=some d/\∃ t,o.op=.alloc t/\(ty t).isNo=false/\x=.box (ty t).zero:=by unfold xS at h;split at h;{cases h};{rename_i hg;split at h;{rename_i t ht;split at h;{cases h};{rename_i hn;split at h;{rename_i d' hd;cases h;exact⟨hg,hd,t,ht,hn,rfl⟩};{cases h}}};{cases h}}
theorem nW {objs:List (Nat×Obj')}{all:List Oper}{o:Oper}{τ:Nat->PV}{pv:PV}(h:x9 nb objs all o τ pv):xS o=none/\bM nb objs all o τ pv:=by
 cases hm:xS o with
 |none=>exact⟨rfl,by unfold bM;rw[hm];exact h⟩| some x =>
  obtain⟨d,x⟩:=x;obtain⟨hg,hd,t,ht,hn,hx⟩:=uT hm;unfold x9 vV at h;rw[hg] at h;simp only[ht] at h;unfold uO sX at h;simp only at h;cases nb with
  |true =>
   simp only[s6,valC] at h;unfold sop at h;exact h.elim
  |false =>
   simp only at h;unfold sop at h;exact h.elim
theorem zAH {all:List Oper}{K:PS->Prop}:∀ (l:List Oper) {ps:PS},gF all l ps K->∃ pvs ps',pvs.length=l.length/\K ps'/\ps'.objs=ps.objs/\zB ps'.tmps=wO l pvs (zB ps.tmps) /\ ∀ i o pv,l[i]?=some o->pvs[i]?=some pv->bM true ps.objs all o (wO (l.take i) (pvs.take i) (zB ps.tmps)) pv
 |[],ps,h=>⟨[],ps,rfl,h,rfl,rfl,fun i o pv h=>by simp at h⟩| o::r,ps,h=>by
  obtain⟨pv,ps1,h1,ho1,ht1,h2⟩:∃ pv ps1,gF all r ps1 K/\ps1.objs=ps.objs/\zB ps1.tmps=upd (zB ps.tmps) o.dst pv/\bM true ps.objs all o (zB ps.tmps) pv:=by
   cases hm:xS o with
   |some x =>
    obtain⟨d,x⟩:=x;simp only[gF,hm] at h;obtain⟨hg,hd,_⟩:=uT hm;exact⟨.ptr d 0,_,h,vS _ _ _,by rw[yZ,hd],by unfold bM;rw[hm]⟩
   |none =>
    simp only[gF,hm] at h;rcases bN h with⟨pv,q1,q2⟩|⟨q1,q2⟩;{obtain⟨pv',ps',g1,g2,g3,g4⟩:=bZ q1;exact⟨pv',ps',g2,g3,g4,(nW (q2 pv' g1)).2⟩};{exact⟨.tup [],_,q1,vS _ _ _,yZ _ _ _,(nW q2).2⟩}
  obtain⟨pvs,ps',g1,g2,g3,g4,g5⟩:=zAH r h1;refine⟨pv::pvs,ps',by simp[g1],g2,g3.trans ho1,by rw[g4,ht1];rfl,fun i o' pv' hi hp=>?_⟩;cases i with
  |zero =>
   simp only[List.getElem?_cons_zero,Option.some.injEq] at hi hp;subst hi hp;exact h2
  |succ i =>
   simp only[List.getElem?_cons_succ] at hi hp;have:=g5 i o' pv' hi hp;rw[ho1,ht1] at this;exact this
theorem zCQ:∀ {l:List Oper} {pvs:List PV} {τ:Nat->PV} {j t:Nat} {o:Oper} {pv:PV},kO l=true->l[j]?=some o->pvs[j]?=some pv->o.dst=some t->wO l pvs τ t=pv
 |o'::r,v::vs,τ,0,t,o,pv,hd,hl,hp,ht=>by
  simp only[List.getElem?_cons_zero,Option.some.injEq] at hl hp;subst hl hp;simp only[kO,Bool.and_eq_true,ht] at hd;have:∀ (l:List Oper) (vs:List PV) (τ:Nat->PV),(l.all fun x=>!(x.dst == some t))=true->wO l vs τ t=τ t:=by
   intro l;induction l with
   |nil=>intro vs τ _;cases vs <;> rfl
   |cons x l ih =>
    intro vs τ h;cases vs with
    |nil=>rfl| cons v vs =>
     simp only[List.all_cons,Bool.and_eq_true] at h;simp only[wO];rw[ih vs _ h.2];cases hx:x.dst with
     |none=>rfl| some d =>
      (have:d≠t:=by intro e;subst e;simp[hx] at h);simp[upd,Ne.symm this]
  simp only[wO];rw[this r vs _ hd.1];simp[upd,ht]
 |o'::r,v::vs,τ,j+1,t,o,pv,hd,hl,hp,ht=>by simp only[List.getElem?_cons_succ] at hl hp;simp only[kO,Bool.and_eq_true] at hd;simp only[wO];exact zCQ hd.2 hl hp ht| [],_,_,_,_,_,_,_,hl,_,_=>by simp at hl| _::_,[],_,_,_,_,_,_,_,hp,_=>by simp at hp
theorem o5:∀ {l:List Oper} {pvs:List PV} {τ:Nat->PV} {t:Nat},(∀ (j:Nat) (o:Oper),l[j]?=some o->o.dst≠some t)->wO l pvs τ t=τ t
 |o::r,v::vs,τ,t,h=>by
  simp only[wO];rw[o5 fun j o' hj=>h (j+1) o' (by simpa using hj)];have:=h 0 o (by simp);cases hx:o.dst with
  |none=>rfl| some d =>
   (have hne:d≠t:=by intro e;subst e;exact this hx);simp[upd,Ne.symm hne]
 |[],_,_,_,_=>by simp[wO]| _::_,[],_,_,_=>by simp[wO]
theorem nJ:∀ {l:List Oper} (k:Nat),kO l=true->kO (l.take k)=true
 |[],k,_=>by simp[kO]| o::r,0,_=>rfl| o::r,k+1,h=>by
  simp only[List.take_succ_cons,kO,Bool.and_eq_true] at h ⊢;refine⟨?_,nJ k h.2⟩;cases hd:o.dst with
  |none=>rfl| some d =>
   simp only[hd] at h;simp only[List.all_eq_true] at h ⊢;exact fun x hx=>h.1 x (List.mem_of_mem_take hx)
theorem gU:∀ {l:List Oper} {i j:Nat} {o o':Oper} {t:Nat},kO l=true->l[i]?=some o->l[j]?=some o'->o.dst=some t->o'.dst=some t->i=j
 |x::r,0,0,o,o',t,_,_,_,_,_=>rfl| x::r,0,j+1,o,o',t,h,hi,hj,ht,ht'=>by simp only[List.getElem?_cons_zero,Option.some.injEq] at hi;simp only[List.getElem?_cons_succ] at hj;subst hi;simp only[kO,Bool.and_eq_true,ht,List.all_eq_true] at h;have:=h.1 o' (List.mem_of_getElem? hj);simp[ht'] at this| x::r,i+1,0,o,o',t,h,hi,hj,ht,ht'=>by simp only[List.getElem?_cons_zero,Option.some.injEq] at hj;simp only[List.getElem?_cons_succ] at hi;subst hj;simp only[kO,Bool.and_eq_true,ht',List.all_eq_true] at h;have:=h.1 o (List.mem_of_getElem? hi);simp[ht] at this| x::r,i+1,j+1,o,o',t,h,hi,hj,ht,ht'=>by simp only[List.getElem?_cons_succ] at hi hj;simp only[kO,Bool.and_eq_true] at h;rw[gU h.2 hi hj ht ht']| [],_,_,_,_,_,_,hi,_,_,_=>by simp at hi
end Go.Proofs.YtfainocfaddbdaaGreat
