/- A part of the proof: PmN. -/
import Derived.Test.YtfainocfaddbdaaGreatT10
set_option linter.all false
namespace Go.Proofs.YtfainocfaddbdaaGreat
open Go
section
variable {w0:World} {S0:Nat->Nat->Prop} {K0:Nat->Prop} {N:Cx} {τ:Nat->PV} {objs:List (Nat×Obj')} {a:Act} {w w':World} {S S':Nat->Nat->Prop} {β:Bm}
theorem jG {o:Oper}{ps:PS}{K:PS->Prop}{Km:Act->World->Prop}{Q:Exit->Act->World->Prop}(h:Sim w0 S0 K0 N (zB ps.tmps) ps.objs a w S β)(hs:j2 o ps K)(hd:∀ t,o.dst=some t->t<N) (hk:∀ ps' a' w' S' β',K ps'->Sim w0 S0 K0 N (zB ps'.tmps) ps'.objs a' w' S' β'->Km a' w'):o.wp Pg a w Km Q:=by
 have hsop:sop ps.objs o.op (ev (zB ps.tmps)) (fun v=>K (put ps o.dst v))->o.wp Pg a w Km Q:=fun hs =>
  tE h hs fun pv w' S' v hK l hr=>hk _ _ _ _ _ hK (x5 (h.go l) o.dst hd hr)
 unfold j2 at hs;split at hs;{rename_i t ad hop;split at hs;{obtain⟨ps',hw,hs⟩:=hs.h;obtain⟨S1,β1,h1⟩:=hw.sound h;exact tE h1 (by rw[hop];exact hs) fun pv w' S' v hK l hr=>hk _ _ _ _ _ hK (x5 (h1.go l) o.dst hd hr)};{exact hsop (by rw[hop] at hs ⊢;exact hs)}}
 ·rename_i t hop;split at hs
  ·rename_i d hod;cases hno:(ty t).isNo with
   |true=>simp[hno] at hs| false =>
    simp only[hno,cond_false] at hs;obtain⟨i,zv,h1,h2,h3⟩:=zE8 (w:=w) (S:=S) (β:=β) hno;have hz:xT d (ty t).zero=true:=by
     cases hty:ty t with
     |no=>simp[hty,Ty.isNo] at hno| sc z=>obtain⟨_,_,zv',_,_,_,_,_,_,h7,_⟩:=oJ hty;rw[h7];simp only[Ty.zero,xT,yN,Bool.and_true];unfold x8;split <;> rfl
     |st n fs z =>
      obtain⟨_,_,zs,_,_,_,_,_,_,h7,_⟩:=n6 hty;rw[h7];simp only[Ty.zero];generalize zs.toList=l;induction l with
      |nil=>rfl| cons x l ih=>simp only[List.map_cons,xT,yN,Bool.and_eq_true];exact⟨by unfold x8;split <;> rfl,ih⟩
     |arr len n ag z =>
      obtain⟨_,_,zs,_,_,_,_,_,_,_,_,_,_,h7⟩:=sH hty;rw[h7];simp only[Ty.zero];generalize zs.toList=l;induction l with
      |nil=>rfl| cons x l ih=>simp only[List.map_cons,xT,yN,Bool.and_eq_true];exact⟨by unfold x8;split <;> rfl,ih⟩
     |sli n b z=>rfl
    refine pB (T:=t) hod (hd d hod) h hs h3 ?_ hk hz;simp[execOp,hop,Instr.alloc,bC h1 h2,newVar,newRow]
  {exact hs.elim}
 ·rename_i t x hop;split at hs
  ·rename_i d hod;cases hp:qV (ev (zB ps.tmps) x) with
   |false=>simp[hp] at hs| true =>
    simp only[hp,cond_true] at hs;have hr:=h.eval x;have hz:yE d ps=true->xT d (yF (ev (zB ps.tmps) x))=true:=by
     intro hf;simp only[yE,Bool.and_eq_true] at hf;have hx:y7 d (ev (zB ps.tmps) x)=true:=by
      cases x with
      |tmp t=>exact xZ hf.1 t| const v=>simp only[ev];unfold x8;split <;> rfl
      |global g=>rfl| func f=>rfl
     generalize ev (zB ps.tmps) x=y at hx hp;cases y with
     |agg cs =>
      have:∀ (l:List PV),yN (rf1 d) l=true->xT d l=true:=by
       intro l;induction l with
       |nil=>intro _;rfl
       |cons c l ih =>
        intro hl;simp only[yN,Bool.and_eq_true] at hl;simp only[xT,yN,Bool.and_eq_true];refine⟨?_,ih hl.2⟩;have h1:=hl.1;have up:∀ (l:List PV),yN (rf0 d) l=true->yN (rf1 d) l=true:=by
         intro l;induction l with
         |nil=>intro _;rfl
         |cons e l ih2 =>
          intro hl;simp only[yN,Bool.and_eq_true] at hl ⊢;exact⟨by cases e <;> first|(simp[rf0] at hl;done)|exact hl.1,ih2 hl.2⟩
        cases c <;> first|exact h1|exact up _ h1
      exact this cs hx
     |tup cs=>simp[qV,cO] at hp| _=>simpa only [yF,xT,yN,Bool.and_true] using hx
    have hfree:yE d ps=true:=by
     unfold iA at hs;cases hf:yE d ps with
     |false=>simp[hf] at hs| true=>rfl
    refine pB (T:=t) hod (hd d hod) h hs (uY hr hp) ?_ hk (hz hfree);simp[execOp,hop,Instr.box,newVar,newRow]
  {exact hs.elim}
 ·rename_i t ad vl hop;split at hs
  ·rename_i n off ha;split at hs
   ·rename_i cs ho;cases hc:(nqb (yF (ev (zB ps.tmps) vl)).length (ty t).cells&&nle (off+(ty t).cells) cs.length&&nlt 0 (ty t).cells&&yN cO (yF (ev (zB ps.tmps) vl))) with
    |false=>simp only[hc,cond_false] at hs| true =>
     simp only[hc,cond_true] at hs;simp only[Bool.and_eq_true] at hc;exact zGQ hop hd h ha ho (yC hc.1.1.1) (bO hc.1.1.2) (by have:=hc.1.2;simp[nlt] at this;omega) hc.2 hs hk
   {exact hs.elim}
  ·rename_i n s i off ha;split at hs
   ·rename_i s' els ho;cases hc:(nqb s s'&&nqb (yF (ev (zB ps.tmps) vl)).length (ty t).cells&&nle (off+(ty t).cells) s&&nlt 0 (ty t).cells&&yN p6 (yF (ev (zB ps.tmps) vl))) with
    |false=>simp only[hc,cond_false] at hs| true =>
     simp only[hc,cond_true] at hs;simp only[Bool.and_eq_true] at hc;have:=yC hc.1.1.1.1;subst this;exact zGR hop hd h ha ho (yC hc.1.1.1.2) (bO hc.1.1.2) (by have:=hc.1.2;simp[nlt] at this;omega) hc.2 hs hk
   ·rename_i s' rows hs0 ho;cases hc:(nqb s 1&&nqb off 0&&nqb (ty t).cells 1&&oneC (ev (zB ps.tmps) vl)) with
    |false=>simp only[hc] at hs| true =>
     simp only[hc] at hs;simp only[Bool.and_eq_true] at hc;have e1:=yC hc.1.1.1;have e2:=yC hc.1.1.2;subst e1 e2;exact zGP hop hd h ha ho (yC hc.1.2) hc.2 hs hk
   {exact hs.elim}
  {exact hs.elim}
 ·rename_i t len parts hop;split at hs
  ·rename_i d n b z hod ht;cases hor:zB2 (d5 n (wY (ev (zB ps.tmps)) parts.toList) (cF z len)) with
   |none =>
    rw[hor] at hs;cases he:(nqb len 0&&zA6 parts.toList) with
    |false =>
     simp only[he] at hs;cases hfm:isFm z with
     |false=>simp only[hfm] at hs;exact hsop (by rw[hop] at hs ⊢;exact hs)| true =>
      simp only[hfm] at hs;split at hs
      ·rename_i els hfe;cases hc:(nle (len*n) 1000&&c6 els) with
       |false=>simp only[hc] at hs| true =>
        simp only[hc] at hs;rcases hs.h with hs|⟨hfr,hs⟩;{refine hsop ?_;rw[hop];simp only[sop,ht,hfe,hc];rw[hod];exact hs};{simp only[Bool.and_eq_true] at hc;exact eJ hop hod (hd d hod) h ht hfe (bO hc.1) hc.2 hfr hs hk}
      {exact hs.elim}
    |true =>
     simp only[he] at hs;simp only[Bool.and_eq_true] at he;cases hfr:yE d ps with
     |false=>simp only[hfr] at hs| true=>simp only[hfr] at hs;exact zAS hop hod (hd d hod) h ht (yC he.1) he.2 hfr hs hk
   |some p =>
    obtain⟨k,s,o',len'⟩:=p;simp only[hor] at hs;cases hc:(nqb n 1&&nqb len 1 && !(nqb k d)&&yE d ps) with
    |false=>simp only[hc] at hs| true =>
     simp only[hc] at hs;simp only[Bool.and_eq_true] at hc;have e1:=yC hc.1.1.1;have e2:=yC hc.1.1.2;subst e1 e2;exact eK hop hod (hd d hod) h ht rfl (zBO hor) (by simpa only [y7,rf0] using hc.1.2) hc.2 hs hk
  {exact hsop (by rw[hop] at hs ⊢;exact hs)}
 ·rename_i t l c hop;split at hs
  ·rename_i n b z d x y ht hod hl hc;obtain⟨hR,hM,hs⟩:=hs;cases hf:(yE d ps&&yN p6 z) with
   |false=>simp only[hf,cond_false] at hs| true =>
    simp only[hf,cond_true] at hs;simp only[Bool.and_eq_true] at hf;exact zD9 hop hod (hd d hod) h ht hl hc hR hM hf.1 hf.2 hs hk
  {exact hs.elim}
 ·rename_i c hop;split at hs;{rename_i g hcl;obtain⟨ps',hw,f,caps,hf,hs⟩:=hs.h;obtain⟨S1,β1,h1⟩:=hw.sound h;rcases hs with⟨args',r,hle,hso,hnm,hK⟩|⟨hn,cargs,kept,eaten,r,kept',made,hle,hso,hobj,hnd1,hnd2,hclo,hnd3,hfree,hlv,hlr,hnm,hK⟩;{exact b7 hop hcl h1 hf ⟨args',r,hle,hso,hnm,hK⟩ fun pv w' S' v hK' l hr=>hk _ _ _ _ _ hK' (x5 (h1.go l) o.dst hd hr)};{exact zBV hop hcl hd h1 hf hle hso hobj hnd1 hnd2 hclo hnd3 hfree hlv hlr hnm hK hk}}
  ·rename_i hcl;split at hs
   ·rename_i b x t tx ha ht;cases htx:sE (ty tx) with
    |false=>simp[htx] at hs| true =>
     simp only[htx,cond_true] at hs;rcases hs.h with hs|hs
     case inr =>
      obtain⟨ps',d,nm,b',z,m,m',s,o1,len,rows,o2,len',rows',hw,hod,hty,g1,g2,g3,g4,g5,g6,g7,g8,g9,g10,g11,g12,g13⟩:=hs.h;obtain⟨S1,β1,h1⟩:=hw.sound h;exact zEJ hop hcl (by rw[<-Array.toArray_toList (xs:=c.args),ha]) (by rw[<-Array.toArray_toList (xs:=c.argTypes),ht]) htx hod (hd d hod) h1 hty g1 g2 g3 g4 g5 g6 g7 g8 g9 g10 g11 g12 g13 hk
     obtain⟨ps',d,nm,n,b',z,xs,hw,hod,hty,hx,hwid,hs⟩:=hs.h;obtain⟨S1,β1,h1⟩:=hw.sound h;exact zHO hop hcl (by rw[<-Array.toArray_toList (xs:=c.args),ha]) (by rw[<-Array.toArray_toList (xs:=c.argTypes),ht]) htx hod (hd d hod) h1 hty hx hwid hs hk
   {exact hs.elim}
  {exact hsop hs};{exact hs.elim}
 {rename_i t x yt hop;split at hs;{rename_i n b z els ht hx;have hr:=h.eval x;rw[hx] at hr;obtain⟨pv,val,h1,h2,h3⟩:=zAR (w:=w) (S:=S) (β:=β) (x:=x) ht hr hs;refine uJ (v:=val) (w':=w) ?_ (hk _ _ _ _ _ h1 (x5 h o.dst hd h3));simp only[execOp,hop,Sem.run_bind] at h2 ⊢;have:a.eval (.const (.slice none 0 0))=.slice none 0 0:=rfl;simp[this,h2]};{rename_i n b z m s oo len ht hx;have hr:=h.eval x;rw[hx] at hr;obtain⟨pv,val,h1,h2,h3⟩:=zAQ (w:=w) (S:=S) (β:=β) (x:=x) ht hr hs;refine uJ (v:=val) (w':=w) ?_ (hk _ _ _ _ _ h1 (x5 h o.dst hd h3));simp only[execOp,hop,Sem.run_bind] at h2 ⊢;have:a.eval (.const (.slice none 0 0))=.slice none 0 0:=rfl;simp[this,h2]};{rename_i n b z ht hx;have hr:=h.eval x;rw[hx] at hr;have h2:=zD7 (w:=w) (x:=x) ht;refine uJ (v:=.bool true) (w':=w) ?_ (hk _ _ _ _ _ hs (x5 h o.dst hd (dM (fun _=>true))));simp only[execOp,hop,Sem.run_bind] at h2 ⊢;have:a.eval (.const (.slice none 0 0))=.slice none 0 0:=rfl;simp[this,qP hr,h2]};{exact hs.elim}};{rename_i t x yt hop;split at hs;{rename_i n b z els ht hx;have hr:=h.eval x;rw[hx] at hr;obtain⟨pv,val,h1,h2,h3⟩:=eZ (K:=fun v=>K (put ps o.dst v)) (w:=w) (S:=S) (β:=β) (x:=x) ht hr hs;refine uJ (v:=val) (w':=w) ?_ (hk _ _ _ _ _ h1 (x5 h o.dst hd h3));simp only[execOp,hop,Sem.run_bind] at h2 ⊢;have:a.eval (.const (.slice none 0 0))=.slice none 0 0:=rfl;simp[this,h2]};{rename_i n b z m s oo len ht hx;have hr:=h.eval x;rw[hx] at hr;obtain⟨pv,val,h1,h2,h3⟩:=eY (K:=fun v=>K (put ps o.dst v)) (w:=w) (S:=S) (β:=β) (x:=x) ht hr hs;refine uJ (v:=val) (w':=w) ?_ (hk _ _ _ _ _ h1 (x5 h o.dst hd h3));simp only[execOp,hop,Sem.run_bind] at h2 ⊢;have:a.eval (.const (.slice none 0 0))=.slice none 0 0:=rfl;simp[this,h2]};{rename_i n b z ht hx;have hr:=h.eval x;rw[hx] at hr;have h2:=zBP (w:=w) (x:=x) ht;refine uJ (v:=.bool false) (w':=w) ?_ (hk _ _ _ _ _ hs (x5 h o.dst hd (bG (fun _=>true))));simp only[execOp,hop,Sem.run_bind] at h2 ⊢;have:a.eval (.const (.slice none 0 0))=.slice none 0 0:=rfl;simp[this,qP hr,h2]};{exact hs.elim}};{exact hsop hs}
theorem zB6 {want:Bool}{v:PV}{A B:Unit->Prop}(h:v≠.tup []):gdV want v A B=(match want with|true=>brV v A B|false=>brV v B A):=by unfold gdV;split;{exact absurd rfl h};{rfl}
theorem aG (w:World)(S:Nat->Nat->Prop)(β:Bm):Rep w S β undef (.tup []):=.tup rfl fun j hj=>absurd hj (by simp)
theorem uW {ops:List Oper}{o:Oper}{A B:Unit->Prop}(ht:∀ t,Rep w S β (a.tmps.getD t undef) (τ t))(h:vS ops o τ A B):(Region.wanted o (yielded ops.toArray a.tmps)=true/\A ())\/(Region.wanted o (yielded ops.toArray a.tmps)=false/\B ()):=by
 unfold vS at h;split at h;{rename_i hg;exact .inl ⟨by simp[Region.wanted,hg],h⟩}
 ·rename_i j want hg;split at h
  ·rename_i oj hj;split at h
   ·rename_i d hd;have key:∀ b,a.tmps.getD d undef=.bool b->Region.wanted o (yielded ops.toArray a.tmps)=(b == want):=by
     intro b hb;have hlt:a.tmps[d]?=some (.bool b):=by
      cases hx:a.tmps[d]? with
      |none =>
       (have:a.tmps.getD d undef=undef:=by simp[hx]);rw[this] at hb
       cases hb
      |some v =>
       (have:a.tmps.getD d undef=v:=by simp[hx]);rw[this] at hb
       rw[hb]
     simp[Region.wanted,hg,yielded,hj,hd,hlt]
    by_cases hu:τ d=.tup []
    ·have hr:=ht d;rw[hu] at hr h;refine .inr ⟨?_,h⟩;have hv:∀ b,a.tmps.getD d undef≠.bool b:=by
      intro b hb;rw[hb] at hr;cases hr with
      |c hf _=>cases hf
     cases hx:a.tmps[d]? with
     |none=>simp[Region.wanted,hg,yielded,hj,hd,hx]| some v =>
      (have e:a.tmps.getD d undef=v:=by simp[hx]);cases v with
      |bool b=>exact absurd e (hv b)| _=>simp[Region.wanted,hg,yielded,hj,hd,hx]
    rw[zB6 hu] at h;cases want with
    |true =>
     simp only[cond_true] at h;obtain⟨b,hb,h1,h2⟩:=mH (ht d) h;cases b with
     |true=>exact .inl ⟨by rw[key true hb];rfl,h1 rfl⟩| false=>exact .inr ⟨by rw[key false hb];rfl,h2 rfl⟩
    |false =>
     simp only[cond_false] at h;obtain⟨b,hb,h1,h2⟩:=mH (ht d) h;cases b with
     |true=>exact .inr ⟨by rw[key true hb];rfl,h1 rfl⟩| false=>exact .inl ⟨by rw[key false hb];rfl,h2 rfl⟩
   {exact h.elim}
  {exact h.elim}
theorem mQ {ops:List Oper}{o:Oper}{ps:PS}{K:PS->Prop}(h:Sim w0 S0 K0 N (zB ps.tmps) ps.objs a w S β)(hs:sC ops o ps K):∃ ps',K ps'/\Sim w0 S0 K0 N (zB ps'.tmps) ps'.objs a w S β:=by
 unfold sC at hs;cases hg:isG ops o with
 |false=>simp only[hg,cond_false] at hs;exact⟨ps,hs,h⟩| true =>
  simp only[hg,cond_true] at hs;split at hs
  ·rename_i d hd;have hr:=h.tmp d;split at hs
   ·rename_i b hb;rw[hb] at hr;cases hv:b () with
    |true=>exact⟨_,hs.t hv,h.setT (hr.le .tt (by simpa[Le] using hv))⟩| false=>exact⟨_,hs.f hv,h.setT (hr.le .ff (by simpa[Le] using hv))⟩
   ·rename_i b hb;rw[hb] at hr;cases hv:b () with
    |true=>exact⟨_,hs.t hv,h.setT (hr.le .ff (by simpa[Le] using hv))⟩| false=>exact⟨_,hs.f hv,h.setT (hr.le .tt (by simpa[Le] using hv))⟩
   {exact⟨ps,hs,h⟩}
  {exact⟨ps,hs,h⟩}
def d7 (N:Nat) (o:Oper):Bool :=
 match o.dst with
 |none=>true| some d=>decide (d<N)
theorem fM {o:Oper}(h:d7 N o=true):∀ t,o.dst=some t->t<N:=by intro t ht;simpa[d7,ht] using h
theorem f7 {ops:List Oper}{Q:Exit->Act->World->Prop}{K:PS->Prop}(hk:∀ ps' a' w' S' β',K ps'->Sim w0 S0 K0 N (zB ps'.tmps) ps'.objs a' w' S' β'->Q .normal a' w'):∀ (l:List Oper) {ps:PS} {a:Act} {w:World} {S:Nat->Nat->Prop} {β:Bm},(∀ o,o∈l->d7 N o=true)->Sim w0 S0 K0 N (zB ps.tmps) ps.objs a w S β->v8 ops l ps K->wpList Pg ops.toArray Q l a w
 |[],ps,a,w,S,β,_,h,hs=>hk _ _ _ _ _ hs h| o::r,ps,a,w,S,β,hd,h,hs=>by simp only[v8] at hs;simp only[wpList];have hdo:=fM (hd o List.mem_cons_self);rcases uW h.tmp hs with⟨hw,hA⟩|⟨hw,hB⟩;{rw[if_pos hw];exact .inl (jG h hA hdo fun ps' a' w' S' β' hK hsim=>by obtain⟨ps'',hK',hsim'⟩:=mQ hsim hK;exact f7 hk r (fun o ho=>hd o (List.mem_cons_of_mem _ ho)) hsim' hK')};{rw[if_neg (by rw[hw];simp)];exact f7 hk r (fun o ho=>hd o (List.mem_cons_of_mem _ ho)) (x5 h o.dst hdo (aG _ _ _)) hB}
end
end Go.Proofs.YtfainocfaddbdaaGreat
