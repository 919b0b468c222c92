/- A part of the proof: PmN, PmO. -/
import Derived.Test.YtaeaffgjdcigoaaGreatC10
set_option linter.all false
namespace Go.Proofs.YtaeaffgjdcigoaaGreat
open Go
section
variable {w0:World} {S0:Nat->Nat->Prop} {K0:Nat->Prop} {N:Cx} {τ:Nat->PV} {objs:List (Nat×Obj')} {a:Act} {w w':World} {S S':Nat->Nat->Prop} {β:Bm}
theorem dM {o:Oper}{ps:PS}{K:PS->Prop}{Km:Act->World->Prop}{Q:Exit->Act->World->Prop}(h:Sim w0 S0 K0 N (zB ps.tmps) ps.objs a w S β)(hs:bH o ps K)(hd:∀ t,o.dst=some t->t<N) (hk:∀ ps' a' w' S' β',K ps'->Sim w0 S0 K0 N (zB ps'.tmps) ps'.objs a' w' S' β'->Km a' w'):o.wp Pg a w Km Q:=by
 have hsop:sop ps.objs o.op (ev (zB ps.tmps)) (fun v=>K (put ps o.dst v))->o.wp Pg a w Km Q:=fun hs =>
  zAF h hs fun pv w' S' v hK l hr=>hk _ _ _ _ _ hK (wO (h.go l) o.dst hd hr)
 unfold bH at hs;split at hs;{rename_i t ad hop;split at hs;{obtain⟨ps',hw,hs⟩:=hs.h;obtain⟨S1,β1,h1⟩:=hw.sound h;exact zAF h1 (by grind) fun pv w' S' v hK l hr=>hk _ _ _ _ _ hK (wO (h1.go l) o.dst hd hr)};grind}
 ·rename_i t hop;split at hs
  ·rename_i d hod;cases hno:(ty t).isNo with
   |true=>grind| false =>
    simp only[hno,cond_false] at hs;obtain⟨i,zv,h1,h2,h3⟩:=zNN (w:=w) (S:=S) (β:=β) hno;have hz:wD d (ty t).zero=true:=by
     cases hty:ty t with
     |no=>grind [Ty.isNo]| sc z=>obtain⟨_,_,zv',_,_,_,_,_,_,h7,_⟩:=zG2 hty;rw[h7];simp only[Ty.zero,wD,yR,zMK];unfold wN;split <;> rfl
     |st n fs z =>
      obtain⟨_,_,zs,_,_,_,_,_,_,h7,_⟩:=zG1 hty;rw[h7];simp only[Ty.zero];generalize zs.toList=l;induction l with
      |nil=>rfl| cons x l ih=>simp only[kA,wD,yR,yT];exact⟨by unfold wN;split <;> rfl,ih⟩
     |arr len n ag z =>
      obtain⟨_,_,zs,_,_,_,_,_,_,_,_,_,_,h7⟩:=lZ hty;rw[h7];simp only[Ty.zero];generalize zs.toList=l;induction l with
      |nil=>rfl| cons x l ih=>simp only[kA,wD,yR,yT];exact⟨by unfold wN;split <;> rfl,ih⟩
     |sli n b z=>rfl
    refine oF (T:=t) hod (hd d hod) h hs h3 ?_ hk hz;simp[execOp,hop,Instr.alloc,rG h1 h2,newVar,newRow]
  grind
 ·rename_i t x hop;split at hs
  ·rename_i d hod;cases hp:gO (ev (zB ps.tmps) x) with
   |false=>grind| true =>
    simp only[hp,cond_true] at hs;have hr:=h.eval x;have hz:yH d ps=true->wD d (yM (ev (zB ps.tmps) x))=true:=by
     intro hf;simp only[yH,yT] at hf;have hx:xS d (ev (zB ps.tmps) x)=true:=by
      cases x with
      |tmp t=>exact w9 hf.1 t| const v=>simp only[ev];unfold wN;split <;> rfl
      |global g=>rfl| func f=>rfl
     generalize ev (zB ps.tmps) x=y at hx hp;cases y with
     |agg cs =>
      have:∀ (l:List PV),yR (rf1 d) l=true->wD d l=true:=by
       intro l;induction l with
       |nil=>intro _;rfl
       |cons c l ih =>
        intro hl;simp only[yR,yT] at hl;simp only[wD,yR,yT];refine⟨?_,ih hl.2⟩;have h1:=hl.1;have up:∀ (l:List PV),yR (rf0 d) l=true->yR (rf1 d) l=true:=by
         intro l;induction l with
         |nil=>intro _;rfl
         |cons e l ih2 =>
          intro hl;simp only[yR,yT] at hl ⊢;exact⟨by cases e <;> first|(simp[rf0] at hl;done)|exact hl.1,ih2 hl.2⟩
        cases c <;> first|exact h1|exact up _ h1
      exact this cs hx
     |tup cs=>grind [gO,pW]| _=>simpa only [yM,wD,yR,zMK] using hx
    (have hfree:yH d ps=true:=by grind [zFG]);refine oF (T:=t) hod (hd d hod) h hs (jT hr hp) ?_ hk (hz hfree)
    simp[execOp,hop,Instr.box,newVar,newRow]
  grind
 ·rename_i t ad vl hop;split at hs
  ·rename_i n off ha;split at hs
   ·rename_i cs ho;cases hc:(nqb (yM (ev (zB ps.tmps) vl)).length (ty t).cells&&nle (off+(ty t).cells) cs.length&&nlt 0 (ty t).cells&&yR pW (yM (ev (zB ps.tmps) vl))) with
    |false=>grind| true =>
     simp only[hc,cond_true] at hs;simp only[yT] at hc;exact zO8 hop hd h ha ho (yY hc.1.1.1) (mF hc.1.1.2) (by simp_all) hc.2 hs hk
   grind
  ·rename_i n s i off ha;split at hs
   ·rename_i s' els ho;cases hc:(nqb s s'&&nqb (yM (ev (zB ps.tmps) vl)).length (ty t).cells&&nle (off+(ty t).cells) s&&nlt 0 (ty t).cells&&yR o5 (yM (ev (zB ps.tmps) vl))) with
    |false=>grind| true =>
     simp only[hc,cond_true] at hs;simp only[yT] at hc;have:=yY hc.1.1.1.1;subst this;exact zO9 hop hd h ha ho (yY hc.1.1.1.2) (mF hc.1.1.2) (by simp_all) hc.2 hs hk
   ·rename_i s' rows hs0 ho;cases hc:(nqb s 1&&nqb off 0&&nqb (ty t).cells 1&&oneC (ev (zB ps.tmps) vl)) with
    |false=>grind| true =>
     simp only[hc] at hs;simp only[yT] at hc;have e1:=yY hc.1.1.1;have e2:=yY hc.1.1.2;subst e1 e2;exact zO7 hop hd h ha ho (yY hc.1.2) hc.2 hs hk
   grind
  grind
 ·rename_i t len parts hop;split at hs
  ·rename_i d n b z hod ht;cases hor:zI0 (sB n (vZ (ev (zB ps.tmps)) parts.toList) (s5 z len)) with
   |none =>
    rw[hor] at hs;cases he:(nqb len 0&&zHX parts.toList) with
    |false =>
     simp only[he] at hs;split at hs
     ·rename_i cs hap;cases hc:(nqb cs.length len&&nqb n 1&&nle len 1000&&yH d ps&&wD d cs) with
      |false=>grind| true =>
       simp only[hc] at hs;simp only[yT] at hc;have e1:=yY hc.1.1.1.2;exact zE0 hop hod (hd d hod) h ht e1 (e1 ▸ hap) (yY hc.1.1.1.1) (by simp_all) hc.1.2 hc.2 hs hk
     cases hfm:isFm z with
     |false=>grind| true =>
      simp only[hfm] at hs;split at hs
      ·rename_i els hfe;cases hc:(nle (len*n) 1000&&mQ els) with
       |false=>grind| true =>
        simp only[hc] at hs;rcases hs.h with hs|⟨hfr,hs⟩;{refine hsop ?_;rw[hop];simp only[sop,ht,hfe,hc];grind};{simp only[yT] at hc;exact zBM hop hod (hd d hod) h ht hfe (mF hc.1) hc.2 hfr hs hk}
      grind
    |true =>
     simp only[he] at hs;simp only[yT] at he;cases hfr:yH d ps with
     |false=>grind| true=>simp only[hfr] at hs;exact zGZ hop hod (hd d hod) h ht (yY he.1) he.2 hfr hs hk
   |some p =>
    obtain⟨k,s,o',len'⟩:=p;simp only[hor] at hs;cases hc:(nqb n 1&&nqb len 1 && !(nqb k d)&&yH d ps) with
    |false=>grind| true =>
     simp only[hc] at hs;simp only[yT] at hc;have e1:=yY hc.1.1.1;have e2:=yY hc.1.1.2;subst e1 e2;exact zBN hop hod (hd d hod) h ht rfl (zIJ hor) (by grind [xS,rf0]) hc.2 hs hk
  grind
 ·rename_i t l c hop;split at hs
  ·rename_i n b z d x y ht hod hl hc;obtain⟨hR,hM,hs⟩:=hs;cases hf:(yH d ps&&yR o5 z) with
   |false=>grind| true =>
    simp only[hf,cond_true] at hs;simp only[yT] at hf;exact zLV hop hod (hd d hod) h ht hl hc hR hM hf.1 hf.2 hs hk
  grind
 ·rename_i c hop;split at hs;{rename_i g hcl;obtain⟨ps',hw,f,caps,hf,hs⟩:=hs.h;obtain⟨S1,β1,h1⟩:=hw.sound h;rcases hs with⟨args',r,hle,hso,hnm,hK⟩|⟨hn,cargs,kept,eaten,r,kept',made,hle,hso,hobj,hnd1,hnd2,hclo,hnd3,hfree,hlv,hlr,hnm,hK⟩;{exact mS hop hcl h1 hf ⟨args',r,hle,hso,hnm,hK⟩ fun pv w' S' v hK' l hr=>hk _ _ _ _ _ hK' (wO (h1.go l) o.dst hd hr)};{exact zIQ hop hcl hd h1 hf hle hso hobj hnd1 hnd2 hclo hnd3 hfree hlv hlr hnm hK hk}}
  ·rename_i hcl;split at hs
   ·rename_i b x t tx ha ht;cases htx:lQ (ty tx) with
    |false=>grind| true =>
     simp only[htx,cond_true] at hs;rcases hs.h with hs|hs
     case inr =>
      obtain⟨ps',d,nm,b',z,m,m',s,o1,len,rows,o2,len',rows',hw,hod,hty,g1,g2,g3,g4,g5,g6,g7,g8,g9,g10,g11,g12,g13⟩:=hs.h;obtain⟨S1,β1,h1⟩:=hw.sound h;exact zL6 hop hcl (by grind) (by grind) htx hod (hd d hod) h1 hty g1 g2 g3 g4 g5 g6 g7 g8 g9 g10 g11 g12 g13 hk
     obtain⟨ps',d,nm,n,b',z,xs,hw,hod,hty,hx,hwid,hs⟩:=hs.h;obtain⟨S1,β1,h1⟩:=hw.sound h;exact zQB hop hcl (by grind) (by grind) htx hod (hd d hod) h1 hty hx hwid hs hk
   grind
  all_goals grind
 ·rename_i t hop;split at hs
  ·rename_i d hod;cases hf:yH d ps with
   |false=>grind| true=>simp only[hf] at hs;exact zEX hop hod (hd d hod) h hs.1 hf hs.2 hk
  grind
 ·rename_i t m x hop;split at hs
  ·rename_i n k hm hx;split at hs
   ·rename_i t' ks ho;cases ht:nqb t t' with
    |false=>grind| true =>
     simp only[ht] at hs;have e:=yY ht;subst e;exact zGY hop hd h hm hx ho hs.1 hs.2 hk
   grind
  grind
 ·rename_i t m x v hop;split at hs
  ·rename_i n k hm hx hv;split at hs
   ·rename_i t' ks ho;cases ht:nqb t t' with
    |false=>grind| true =>
     simp only[ht] at hs;have e:=yY ht;subst e;exact zBG hop hd h hm hx hv ho hs.1 hs.2.1 hs.2.2 hk
   grind
  grind
 {rename_i t x yt hop;split at hs;{rename_i n b z els ht hx;have hr:=h.eval x;rw[hx] at hr;obtain⟨pv,val,h1,h2,h3⟩:=zGW (w:=w) (S:=S) (β:=β) (x:=x) ht hr hs;refine qN (v:=val) (w':=w) ?_ (hk _ _ _ _ _ h1 (wO h o.dst hd h3));simp only[execOp,hop,Sem.run_bind] at h2 ⊢;have:a.eval (.const (.slice none 0 0))=.slice none 0 0:=rfl;simp_all};{rename_i n b z m s oo len ht hx;have hr:=h.eval x;rw[hx] at hr;obtain⟨pv,val,h1,h2,h3⟩:=zGV (w:=w) (S:=S) (β:=β) (x:=x) ht hr hs;refine qN (v:=val) (w':=w) ?_ (hk _ _ _ _ _ h1 (wO h o.dst hd h3));simp only[execOp,hop,Sem.run_bind] at h2 ⊢;have:a.eval (.const (.slice none 0 0))=.slice none 0 0:=rfl;simp_all};{rename_i n b z ht hx;have hr:=h.eval x;rw[hx] at hr;have h2:=zLT (w:=w) (x:=x) ht;refine qN (v:=.bool true) (w':=w) ?_ (hk _ _ _ _ _ hs (wO h o.dst hd (rK (fun _=>true))));simp only[execOp,hop,Sem.run_bind] at h2 ⊢;have:a.eval (.const (.slice none 0 0))=.slice none 0 0:=rfl;simp[this,fL hr,h2]};grind};{rename_i t x yt hop;split at hs;{rename_i n b z els ht hx;have hr:=h.eval x;rw[hx] at hr;obtain⟨pv,val,h1,h2,h3⟩:=zEW (K:=fun v=>K (put ps o.dst v)) (w:=w) (S:=S) (β:=β) (x:=x) ht hr hs;refine qN (v:=val) (w':=w) ?_ (hk _ _ _ _ _ h1 (wO h o.dst hd h3));simp only[execOp,hop,Sem.run_bind] at h2 ⊢;have:a.eval (.const (.slice none 0 0))=.slice none 0 0:=rfl;simp_all};{rename_i n b z m s oo len ht hx;have hr:=h.eval x;rw[hx] at hr;obtain⟨pv,val,h1,h2,h3⟩:=zEV (K:=fun v=>K (put ps o.dst v)) (w:=w) (S:=S) (β:=β) (x:=x) ht hr hs;refine qN (v:=val) (w':=w) ?_ (hk _ _ _ _ _ h1 (wO h o.dst hd h3));simp only[execOp,hop,Sem.run_bind] at h2 ⊢;have:a.eval (.const (.slice none 0 0))=.slice none 0 0:=rfl;simp_all};{rename_i n b z ht hx;have hr:=h.eval x;rw[hx] at hr;have h2:=zIK (w:=w) (x:=x) ht;refine qN (v:=.bool false) (w':=w) ?_ (hk _ _ _ _ _ hs (wO h o.dst hd (t6 (fun _=>true))));simp only[execOp,hop,Sem.run_bind] at h2 ⊢;have:a.eval (.const (.slice none 0 0))=.slice none 0 0:=rfl;simp[this,fL hr,h2]};grind};grind
theorem zI3 {want:Bool}{v:PV}{A B:Unit->Prop}(h:v≠.tup []):gdV want v A B=(match want with|true=>brV v A B|false=>brV v B A):=by unfold gdV;grind
theorem nG (w:World)(S:Nat->Nat->Prop)(β:Bm):Rep w S β undef (.tup []):=.tup rfl fun j hj=>absurd hj (by simp)
theorem jQ {ops:List Oper}{o:Oper}{A B:Unit->Prop}(ht:∀ t,Rep w S β (a.tmps.getD t undef) (τ t))(h:qS ops o τ A B):(Region.wanted o (yielded ops.toArray a.tmps)=true/\A ())\/(Region.wanted o (yielded ops.toArray a.tmps)=false/\B ()):=by
 unfold qS at h;split at h;{rename_i hg;exact .inl ⟨by simp[Region.wanted,hg],h⟩}
 ·rename_i j want hg;split at h
  ·rename_i oj hj;split at h
   ·rename_i d hd;have key:∀ b,a.tmps.getD d undef=.bool b->Region.wanted o (yielded ops.toArray a.tmps)=(b == want):=by
     intro b hb;have hlt:a.tmps[d]?=some (.bool b):=by
      cases hx:a.tmps[d]? with
      |none =>
       (have:a.tmps.getD d undef=undef:=by simp[hx]);rw[this] at hb
       cases hb
      |some v =>
       simp_all
     grind [Region.wanted,yielded]
    by_cases hu:τ d=.tup []
    ·have hr:=ht d;rw[hu] at hr h;refine .inr ⟨?_,h⟩;have hv:∀ b,a.tmps.getD d undef≠.bool b:=by
      intro b hb;rw[hb] at hr;cases hr with
      |c hf _=>cases hf
     cases hx:a.tmps[d]? with
     |none=>grind [Region.wanted,yielded]| some v =>
      (have e:a.tmps.getD d undef=v:=by simp[hx]);cases v with
      |bool b=>grind| _=>simp[Region.wanted,hg,yielded,hj,hd,hx]
    rw[zI3 hu] at h;cases want with
    |true =>
     simp only[cond_true] at h;obtain⟨b,hb,h1,h2⟩:=zAV (ht d) h;grind
    |false =>
     simp only[cond_false] at h;obtain⟨b,hb,h1,h2⟩:=zAV (ht d) h;grind
   grind
  grind
theorem zA5 {ops:List Oper}{o:Oper}{ps:PS}{K:PS->Prop}(h:Sim w0 S0 K0 N (zB ps.tmps) ps.objs a w S β)(hs:lN ops o ps K):∃ ps',K ps'/\Sim w0 S0 K0 N (zB ps'.tmps) ps'.objs a w S β:=by
 unfold lN at hs;cases hg:isG ops o with
 |false=>grind| true =>
  simp only[hg,cond_true] at hs;split at hs
  ·rename_i d hd;have hr:=h.tmp d;split at hs
   ·rename_i b hb;rw[hb] at hr;cases hv:b () with
    |true=>exact⟨_,hs.t hv,h.setT (hr.le .tt (by grind [Le]))⟩| false=>exact⟨_,hs.f hv,h.setT (hr.le .ff (by grind [Le]))⟩
   ·rename_i b hb;rw[hb] at hr;cases hv:b () with
    |true=>exact⟨_,hs.t hv,h.setT (hr.le .ff (by grind [Le]))⟩| false=>exact⟨_,hs.f hv,h.setT (hr.le .tt (by grind [Le]))⟩
   grind
  grind
def pB (N:Nat) (o:Oper):Bool :=
 match o.dst with
 |none=>true| some d=>decide (d<N)
theorem sE {o:Oper}(h:pB N o=true):∀ t,o.dst=some t->t<N:=by grind [pB]
theorem sT {ops:List Oper}{Q:Exit->Act->World->Prop}{K:PS->Prop}(hk:∀ ps' a' w' S' β',K ps'->Sim w0 S0 K0 N (zB ps'.tmps) ps'.objs a' w' S' β'->Q .normal a' w'):∀ (l:List Oper) {ps:PS} {a:Act} {w:World} {S:Nat->Nat->Prop} {β:Bm},(∀ o,o∈l->pB N o=true)->Sim w0 S0 K0 N (zB ps.tmps) ps.objs a w S β->qP ops l ps K->wpList Pg ops.toArray Q l a w
 |[],ps,a,w,S,β,_,h,hs=>hk _ _ _ _ _ hs h| o::r,ps,a,w,S,β,hd,h,hs=>by simp only[qP] at hs;simp only[wpList];have hdo:=sE (hd o xM);rcases jQ h.tmp hs with⟨hw,hA⟩|⟨hw,hB⟩;{rw[if_pos hw];exact .inl (dM h hA hdo fun ps' a' w' S' β' hK hsim=>by obtain⟨ps'',hK',hsim'⟩:=zA5 hsim hK;exact sT hk r (fun o ho=>hd o (xN _ ho)) hsim' hK')};{rw[if_neg (by grind)];exact sT hk r (fun o ho=>hd o (xN _ ho)) (wO h o.dst hdo (nG _ _ _)) hB}
end
section
variable {K:PV->Prop}
theorem zZW {v x y:PV}(h:brV v (fun _=>K x) (fun _=>K y)):∃ pv,K pv/\∀ K':PV->Prop,K' pv->brV v (fun _=>K' x) (fun _=>K' y):=by
 unfold brV at *
 split at h;{grind};{grind}
 ·rename_i b;cases hb:b () with
  |true=>exact⟨x,h.t hb,fun _ q=>⟨fun _=>q,fun e=>by grind⟩⟩| false=>exact⟨y,h.f hb,fun _ q=>⟨fun e=>(by grind),fun _=>q⟩⟩
 ·rename_i b;cases hb:b () with
  |true=>exact⟨y,h.t hb,fun _ q=>⟨fun _=>q,fun e=>by grind⟩⟩| false=>exact⟨x,h.f hb,fun _ q=>⟨fun e=>(by grind),fun _=>q⟩⟩
 grind
theorem zBU {t:Ty}{cs:List PV}{off:Nat}(h:rdK t cs off K):∃ pv,K pv/\∀ K':PV->Prop,K' pv->rdK t cs off K':=by
 unfold rdK at *
 grind
theorem zJB {k:IntKind}{z:Unit->Int}(h:arK k z K):∃ pv,K pv/\∀ K':PV->Prop,K' pv->arK k z K':=by
 unfold arK at *
 grind
theorem zVZ {op:BinOp}{k k':IntKind}{a b:Unit->Int}(h:intK op k a k' b K):∃ pv,K pv/\∀ K':PV->Prop,K' pv->intK op k a k' b K':=by
 unfold intK at *
 split at h;{grind};{grind}
 ·cases hk:zQE k k' with
  |false=>grind| true =>
   simp only[hk,cond_true] at h ⊢;split at h;{exact zJB h};{exact zJB h};{exact zJB h}
   all_goals grind
end
theorem zU7 {K:PV->Prop}{bop:BinOp}{a b:Unit->ByteArray}(h:strK bop a b K):∃ pv,K pv/\∀ K':PV->Prop,K' pv->strK bop a b K':=by
 unfold strK at *
 grind
theorem zWF {K:PV->Prop}{bop:BinOp}{t:TypeId}{x y:Operand}{u v:PV}(h:binK bop t x y u v K):∃ pv,K pv/\∀ K':PV->Prop,K' pv->binK bop t x y u v K':=by
 unfold binK at *
 split at h;{exact zVZ h};{exact zU7 h};{split at h;{obtain⟨r,h1,h2⟩:=h.h;exact⟨_,h2,fun _ q=>⟨⟨r,h1,q⟩⟩⟩};grind}
 ·split at h;{grind}
  all_goals grind
theorem zZB {objs:List (Nat×Obj')}{v:PV}{K:PV->Prop}(h:ldV objs v K):∃ pv,K pv/\∀ K':PV->Prop,K' pv->ldV objs v K':=by
 unfold ldV at *
 cases hn:lnt objs v with
 |false=>grind| true =>
  rw[hn] at h;rcases h.h with hK|⟨n,s,els,h1,h2,h3⟩;{exact⟨v,hK,fun K' q=>⟨.inl q⟩⟩};{exact⟨_,h3,fun K' q=>⟨.inr ⟨n,s,els,h1,h2,q⟩⟩⟩}
theorem zGF {objs objs':List (Nat×Obj')}(hx:∀ n o,yG objs n=some o->yG objs' n=some o){v:PV}(h:lnt0 objs v=true):lnt0 objs' v=true:=by
 cases v with
 |osl m s i len =>
  grind [lnt0]
 |_=>cases h
theorem zRN {objs objs':List (Nat×Obj')}(hx:∀ n o,yG objs n=some o->yG objs' n=some o){v:PV}(h:lnt objs v=true):lnt objs' v=true:=by
 cases v with
 |agg cs =>
  simp only[lnt] at h ⊢;induction cs with
  |nil=>exact h| cons c cs ih =>
   simp only[anyL] at h ⊢;cases hc:lnt0 objs c with
   |true=>rw[zGF hx hc]| false =>
    grind
 |osl m s i len=>exact zGF (v:=.osl m s i len) hx h| _=>cases h
theorem zRS {objs objs':List (Nat×Obj')}(hx:∀ n o,yG objs n=some o->yG objs' n=some o){v:PV}{K:PV->Prop}(h:ldV objs v K):ldV objs' v K:=by
 unfold ldV at *
 cases hn:lnt objs v with
 |false =>
  rw[hn] at h;cases lnt objs' v with
  |false=>exact h| true=>exact⟨.inl h⟩
 |true =>
  rw[hn] at h;rw[zRN hx hn];rcases h.h with hK|⟨n,s,els,h1,h2,h3⟩;{exact⟨.inl hK⟩};{exact⟨.inr ⟨n,s,els,hx _ _ h1,h2,h3⟩⟩}
theorem zRE {objs objs':List (Nat×Obj')}(hx:∀ n o,yG objs n=some o->yG objs' n=some o){t:Ty}{cs:List PV}{off:Nat}{K:PV->Prop}(h:rdK t cs off (fun v=>ldV objs v K)):rdK t cs off (fun v=>ldV objs' v K):=by grind [zBU,zRS]
theorem zKR {b:Bool}{objs:List (Nat×Obj')}{g:FuncId}{args:List PV}{K:PV->Prop}(h:CallS b objs g args K):∃ pv,K pv/\∀ K':PV->Prop,K' pv->CallS b objs g args K':=by rcases h.h with⟨args',r,h1,h2,h3,h4⟩|⟨hb,hn,cargs,kept,r,h1,h2,h3,h4,h5,h6,h7,h8,h9,h10⟩;{exact⟨r,h4,fun K' q=>⟨.inl ⟨args',r,h1,h2,h3,q⟩⟩⟩};{exact⟨_,h10,fun K' q=>⟨.inr ⟨hb,hn,cargs,kept,r,h1,h2,h3,h4,h5,h6,h7,h8,h9,q⟩⟩⟩}
theorem zSK {objs:List (Nat×Obj')}{op:Op}{e:Operand->PV}{K:PV->Prop}(h:sop objs op e K):∃ pv,K pv/\∀ K':PV->Prop,K' pv->sop objs op e K':=by
 unfold sop at *
 split at h;{grind};{grind};{exact zZW h};{grind}
 ·split at h
  all_goals grind
 ·split at h;{exact zBU h};{grind [zBU,zZB]}
  ·rename_i n s i off _;split at h
   ·rename_i s' els _;cases hss:nqb s s' with
    |false=>grind| true =>
     simp only[hss,cond_true] at h ⊢;obtain⟨c,h1,h2,h3,h4⟩:=h.h;obtain⟨pv,h5,h6⟩:=zBU h4;exact⟨pv,h5,fun K' q=>⟨⟨c,h1,h2,h3,h6 K' q⟩⟩⟩
   ·rename_i s' rows hs _;cases hss:(nqb s 1&&nqb off 0) with
    |false=>grind| true =>
     simp only[hss] at h ⊢;obtain⟨v0,k0,h1,h2,h4⟩:=h.h;obtain⟨pv,h5,h6⟩:=zBU h4;exact⟨pv,h5,fun K' q=>⟨⟨v0,k0,h1,h2,h6 K' q⟩⟩⟩
   ·rename_i cs _;cases hss:(nqb s 1&&nqb off 0) with
    |false=>grind| true =>
     simp only[hss] at h ⊢;obtain⟨h1,h4⟩:=h.h;obtain⟨pv,h5,h6⟩:=zBU h4;exact⟨pv,h5,fun K' q=>⟨⟨h1,h6 K' q⟩⟩⟩
   grind
  grind
 {exact zWF h};{split at h;{grind};{grind};{grind};{grind};{exact zJB h};grind}
 ·rename_i src dst x;cases hno:(ty src).isNo with
  |true=>grind| false =>
   simp only[hno,cond_false] at h ⊢;split at h;{grind};{obtain⟨h1,h2,ns,h3,h4⟩:=h.h;exact⟨_,h4,fun _ q=>⟨h1,h2,ns,h3,q⟩⟩};grind
 ·split at h
  all_goals grind
 ·split at h
  ·split at h
   ·rename_i off sz ag hi;cases ag with
    |false =>
     (try simp only at h ⊢)
     grind
    |true =>
     (try simp only at h ⊢)
     grind
   grind
  grind
 {split at h;{obtain⟨h0,c,h1,h2,h3,h4⟩:=h.h;exact⟨_,h4,fun _ q=>⟨⟨h0,c,h1,h2,h3,q⟩⟩⟩};{grind};{obtain⟨j,h1,h2,h3⟩:=h.h;exact⟨_,h3,fun _ q=>⟨⟨j,h1,h2,q⟩⟩⟩};grind}
 ·split at h
  ·rename_i len z cs k kv _ _ _;cases hll:nqb len cs.length with
   |false=>grind| true =>
    simp only[hll,cond_true] at h ⊢;obtain⟨j,h1,h2,h3⟩:=h.h;exact⟨_,h3,fun _ q=>⟨⟨j,h1,h2,q⟩⟩⟩
  grind
 {grind}
 ·split at h
  all_goals grind
 {grind};{grind}
 ·split at h
  ·split at h
   ·unfold lenK at *
    grind
   grind
  {grind};{grind};{split at h;{exact zKR h};grind};grind
 grind
theorem r9 {e e':Operand->PV}:∀ {l:List Operand},(∀ x,x∈l->e x=e' x)->evs e l=evs e' l
 |[],_=>rfl| x::r,h=>by simp only[evs];rw[h x xM,r9 fun y hy=>h y (xN _ hy)]
theorem rB {e e':Operand->PV}:∀ {l:List (Nat×Operand)},(∀ x,x∈l.map (·.2)->e x=e' x)->vZ e l=vZ e' l
 |[],_=>rfl| (i,x)::r,h=>by simp only[vZ];rw[h x (by simp),rB fun y hy=>h y (by grind)]
theorem zCF {e e':Operand->PV}{d:Unit->Int}{o:Option Operand}(h:∀ x,o=some x->e x=e' x):iH e d o=iH e' d o:=by
 cases o with
 |none=>rfl| some x=>simp only[iH];grind
theorem zFU {objs:List (Nat×Obj')}{op:Op}{e e':Operand->PV}{K:PV->Prop}(h:∀ x,x∈op.operands.toList->e x=e' x)(hs:sop objs op e K):sop objs op e' K:=by
 cases op with
 |move x=>simp only[sop] at hs ⊢;rwa [<-h x (by simp[Op.operands])]| assign x=>simp only[sop] at hs ⊢;rwa [<-h x (by simp[Op.operands])]| pick c x y=>simp only[sop] at hs ⊢;rwa [<-h x (by simp[Op.operands]),<-h y (by simp[Op.operands]),<-h c (by simp[Op.operands])]| build t parts=>simp only[sop] at hs ⊢;rwa [<-rB (e:=e) fun x hx=>h x (by grind [Op.operands])]| buildSlice t len parts=>simp only[sop] at hs ⊢;grind [rB,Op.operands]| load t a=>simp only[sop] at hs ⊢;rwa [<-h a (by simp[Op.operands])]| binOp b t x y yt=>simp only[sop] at hs ⊢;rwa [<-h x (by simp[Op.operands]),<-h y (by simp[Op.operands])]| unOp u t x=>simp only[sop] at hs ⊢;rwa [<-h x (by simp[Op.operands])]| convert s d x=>simp only[sop] at hs ⊢;rwa [<-h x (by simp[Op.operands])]| fieldAddr s x f=>simp only[sop] at hs ⊢;rwa [<-h x (by simp[Op.operands])]| field t x i=>simp only[sop] at hs ⊢;rwa [<-h x (by simp[Op.operands])]| indexAddr t x i=>simp only[sop] at hs ⊢;rwa [<-h x (by simp[Op.operands]),<-h i (by simp[Op.operands])]| index t x i=>simp only[sop] at hs ⊢;rwa [<-h x (by simp[Op.operands]),<-h i (by simp[Op.operands])]| extract x i=>simp only[sop] at hs ⊢;rwa [<-h x (by simp[Op.operands])]| slice t x lo hi mx =>
  have hx:=h x (by simp[Op.operands]);have hlo:∀ d,iH e d lo=iH e' d lo:=fun d=>zCF fun y hy=>h y (by subst hy;simp[Op.operands]);have hhi:∀ d,iH e d hi=iH e' d hi:=fun d=>zCF fun y hy=>h y (by subst hy;simp[Op.operands]);cases mx with
  |some m=>simp only[sop] at hs| none=>simp only[sop] at hs ⊢;simp only[<-hx,<-hlo,<-hhi];exact hs
 |nilCheck x=>simp only[sop] at hs ⊢;rwa [<-h x (by simp[Op.operands])]| makeFunc fn first caps =>
  cases fn with
  |func f =>
   simp only[sop] at hs ⊢;grind [r9,Op.operands]
  |_=>simp only[sop] at hs
 |call c =>
  have hargs:∀ x,x∈c.args.toList->e x=e' x:=fun x hx=>h x (by grind [Op.operands,Call.operands]);simp only[sop] at hs ⊢;split at hs;{grind};{grind};{grind}
  all_goals grind [Op.operands,Call.operands,r9]
 |_=>simp only[sop] at hs
theorem zWG {n b:Nat}{base x:PV}{K:PV->Prop}(h:appN n b base x K):∃ pv,K pv/\∀ K':PV->Prop,K' pv->appN n b base x K':=by
 unfold appN at *
 grind
theorem zIB {op:Op}{e:Operand->PV}{K:PV->Prop}(h:app2 op e K):∃ (c:Call) (b x:Operand) (t tx:TypeId) (n bb:Nat) (z:List PV),op=.call c/\c.args=#[b,x]/\c.argTypes=#[t,tx]/\lQ (ty tx)=true/\ty t=.sli n bb z/\jD (e b)=true/\appN n bb (e b) (e x) K:=by
 unfold app2 at h;split at h
 ·rename_i c;split at h
  ·rename_i b x t tx hb ht;cases hi:lQ (ty tx) with
   |false=>grind| true =>
    rw[hi] at h;simp only at h;split at h
    ·rename_i n bb z h1 h2;refine⟨c,b,x,t,tx,n,bb,z,rfl,?_,?_,hi,h1,h2,h⟩
     all_goals grind
    grind
  grind
 grind
theorem zO3 {c:Call}{b x:Operand}{t tx:TypeId}{n bb:Nat}{z:List PV}{e:Operand->PV}{K:PV->Prop}(h1:c.args=#[b,x])(h2:c.argTypes=#[t,tx])(h3:lQ (ty tx)=true)(h4:ty t=.sli n bb z)(h5:jD (e b)=true)(h6:appN n bb (e b) (e x) K):app2 (.call c) e K:=by grind [app2]
variable {nb:Bool}
theorem zO6 {op:Op}{c:Call}(h:valC op=some c):op=.call c/\∃ f,c.callee=.value f:=by unfold valC at h;grind
theorem nB {objs:List (Nat×Obj')}{op:Op}{e:Operand->PV}{K:PV->Prop}(h:iB objs op e K):(valC op=none/\sop objs op e K)\/∃ c f g caps,op=.call c/\c.callee=.value f/\valC op=some c/\e f=.fn g caps/\CallS true objs g (evs e c.args.toList++caps) K:=by
 unfold iB at h;cases hv:valC op with
 |none=>grind| some c =>
  obtain⟨h1,f,h2⟩:=zO6 hv;grind
theorem zHL {objs:List (Nat×Obj')}{op:Op}{e:Operand->PV}{K:PV->Prop}{c:Call}{f:Operand}{g:FuncId}{caps:List PV}(hv:valC op=some c)(h2:c.callee=.value f)(he:e f=.fn g caps)(h:CallS true objs g (evs e c.args.toList++caps) K):iB objs op e K:=by grind [iB]
theorem zDU {objs:List (Nat×Obj')}{op:Op}{e:Operand->PV}{K:PV->Prop}(hv:valC op=none)(h:sop objs op e K):iB objs op e K:=by grind [iB]
theorem zU8 {objs:List (Nat×Obj')}{op:Op}{e:Operand->PV}{K:PV->Prop}(h:iB objs op e K):∃ pv,K pv/\∀ K':PV->Prop,K' pv->iB objs op e K':=by grind [nB,zSK,zDU,zKR,zHL]
theorem zCR {e e':Operand->PV}:∀ {l:List Operand},(∀ x,x∈l->e x=e' x)->evs e l=evs e' l
 |[],_=>rfl| x::r,h=>by simp only[evs];rw[h x xM,zCR fun y hy=>h y (xN _ hy)]
theorem zLI {objs:List (Nat×Obj')}{op:Op}{e e':Operand->PV}{K:PV->Prop}(h:∀ x,x∈op.operands.toList->e x=e' x)(hs:iB objs op e K):iB objs op e' K:=by rcases nB hs with⟨h1,h2⟩|⟨c,f,g,caps,h1,h2,h3,h4,h5⟩;{grind [zDU,zFU]};{subst h1;have hf:e f=e' f:=h f (by simp[Op.operands,Call.operands,h2]);refine zHL h3 h2 (hf ▸ h4) ?_;rw[<-zCR (e:=e) (e':=e') fun x hx=>h x (by simp only[Op.operands,Call.operands,h2];simp;simp at hx;first|grind|exact .inl hx|exact hx)];exact h5}
theorem zU9 {objs:List (Nat×Obj')}{op:Op}{e:Operand->PV}{K:PV->Prop}(h:j6 nb objs op e K):∃ pv,K pv/\∀ K':PV->Prop,K' pv->j6 nb objs op e K':=by
 unfold j6 at *
 cases hi:lS op with
 |false =>
  rw[hi] at h;cases nb with
  |true=>exact zU8 h| false=>exact zSK h
 |true =>
  rw[hi] at h;obtain⟨c,b,x,t,tx,n,bb,z,rfl,h1,h2,h3,h4,h5,h6⟩:=zIB h;grind [zWG,zO3]
theorem zJ8 {op:Op}(h:lS op=true):∃ c,op=.call c/\c.callee=.builtin .append:=by unfold lS at h;grind
theorem zLJ {objs:List (Nat×Obj')}{op:Op}{e e':Operand->PV}{K:PV->Prop}(h:∀ x,x∈op.operands.toList->e x=e' x)(hs:j6 nb objs op e K):j6 nb objs op e' K:=by
 unfold j6 at *
 cases hi:lS op with
 |false =>
  rw[hi] at hs;cases nb with
  |true=>exact zLI h hs| false=>exact zFU h hs
 |true =>
  rw[hi] at hs;obtain⟨c',hc1,hc2⟩:=zJ8 hi;obtain⟨c,b,x,t,tx,n,bb,z,rfl,h1,h2,h3,h4,h5,h6⟩:=zIB hs;grind [Op.operands,Call.operands,zO3]
def vH (nb:Bool) (objs:List (Nat×Obj')) (all:List Oper) (o:Oper) (τ:Nat->PV) (pv:PV):Prop :=
 qS all o τ (fun _=>j6 nb objs o.op (ev τ) (fun v=>Le v pv)) (fun _=>pv=.tup [])
theorem mO {all:List Oper}{o:Oper}{τ:Nat->PV}{A B A' B':Unit->Prop}(hA:A ()->A' ())(hB:B ()->B' ())(h:qS all o τ A B):qS all o τ A' B':=by
 have br:∀ {v:PV} {A B A' B':Unit->Prop},(A ()->A' ())->(B ()->B' ())->brV v A B->brV v A' B':=by
  intro v A B A' B' hA hB h;unfold brV at *
  split at h;{grind};{grind};{exact⟨fun e=>hA (h.t e),fun e=>hB (h.f e)⟩};{exact⟨fun e=>hB (h.t e),fun e=>hA (h.f e)⟩};omega
 unfold qS at *
 split at h;{grind};{rename_i j want hg;split at h;{rename_i oj hj;split at h;{rename_i d hd;by_cases hu:τ d=.tup [];{rw[hu] at h ⊢;exact hB h};rw[zI3 hu] at h ⊢;grind};omega};omega}
theorem tS {objs:List (Nat×Obj')}{all:List Oper}{o:Oper}{τ:Nat->PV}{K:PV->Prop}{K2:Prop}(h:qS all o τ (fun _=>j6 nb objs o.op (ev τ) K) (fun _=>K2)):(∃ pv,K pv/\∀ pv',Le pv pv'->vH nb objs all o τ pv')\/(K2/\vH nb objs all o τ (.tup [])):=by
 have pv1:j6 nb objs o.op (ev τ) K->∃ pv,K pv/\∀ pv',Le pv pv'->j6 nb objs o.op (ev τ) (fun v=>Le v pv'):=fun hs=>by grind [zU9]
 unfold qS at h;split at h;{grind [vH,qS]}
 ·rename_i j want hg;split at h
  ·rename_i oj hj;split at h
   ·rename_i d hd;by_cases hu:τ d=.tup [];{rw[hu] at h;exact .inr ⟨h,by unfold vH qS;rw[hg];simp only[hj,hd,hu];exact trivial⟩}
    (rw[zI3 hu] at h;have st:∀ pv',(if want then brV (τ d) (fun _=>j6 nb objs o.op (ev τ) (fun v=>Le v pv')) (fun _=>pv'=.tup []) else brV (τ d) (fun _=>pv'=.tup []) (fun _=>j6 nb objs o.op (ev τ) (fun v=>Le v pv')))->vH nb objs all o τ pv':=by grind [vH,qS,zI3]);have br:∀ {v:PV} {A:Prop},brV v (fun _=>A) (fun _=>K2)->(A/\∀ X Y:Unit->Prop,X ()->brV v X Y)\/(K2/\∀ X Y:Unit->Prop,Y ()->brV v X Y):=by
     intro v A hb;unfold brV at *
     cases v with
     |tt=>grind| ff=>grind| bool b =>
      cases hv:b () with
      |true=>exact .inl ⟨hb.t hv,fun _ _ q=>⟨fun _=>q,fun e=>by grind⟩⟩| false=>exact .inr ⟨hb.f hv,fun _ _ q=>⟨fun e=>(by grind),fun _=>q⟩⟩
     |nbool b =>
      cases hv:b () with
      |true=>exact .inr ⟨hb.t hv,fun _ _ q=>⟨fun _=>q,fun e=>by grind⟩⟩| false=>exact .inl ⟨hb.f hv,fun _ _ q=>⟨fun e=>(by grind),fun _=>q⟩⟩
     |_=>exact hb.elim
    have br':∀ {v:PV} {A:Prop},brV v (fun _=>K2) (fun _=>A)->(A/\∀ X Y:Unit->Prop,Y ()->brV v X Y)\/(K2/\∀ X Y:Unit->Prop,X ()->brV v X Y):=by
     intro v A hb;unfold brV at *
     cases v with
     |tt=>grind| ff=>grind| bool b =>
      cases hv:b () with
      |true=>exact .inr ⟨hb.t hv,fun _ _ q=>⟨fun _=>q,fun e=>by grind⟩⟩| false=>exact .inl ⟨hb.f hv,fun _ _ q=>⟨fun e=>(by grind),fun _=>q⟩⟩
     |nbool b =>
      cases hv:b () with
      |true=>exact .inl ⟨hb.t hv,fun _ _ q=>⟨fun _=>q,fun e=>by grind⟩⟩| false=>exact .inr ⟨hb.f hv,fun _ _ q=>⟨fun e=>(by grind),fun _=>q⟩⟩
     |_=>exact hb.elim
    cases want with
    |true =>
     simp only[cond_true] at h;rcases br h with⟨hA,hX⟩|⟨h2,hY⟩
     all_goals grind
    |false =>
     simp only[cond_false] at h;rcases br' h with⟨hA,hX⟩|⟨h2,hY⟩
     all_goals grind
   grind
  grind
theorem t9 {all:List Oper}{o:Oper}{ps:PS}{pv:PV}{K:PS->Prop}(h:lN all o (put ps o.dst pv) K):∃ pv' ps',Le pv pv'/\K ps'/\ps'.objs=ps.objs/\zB ps'.tmps=upd (zB ps.tmps) o.dst pv':=by
 unfold lN at h;cases hg:isG all o with
 |false=>simp only[hg,cond_false] at h;grind [Le.refl,qQ,xE]| true =>
  simp only[hg,cond_true] at h;split at h
  ·(rename_i d hd;have hpv:zB (put ps o.dst pv).tmps d=pv:=by rw[xE,hd];simp[upd]);have fin:∀ x,zB (v7 (put ps o.dst pv).tmps d x)=upd (zB ps.tmps) o.dst x:=by grind [cS,xE,upd]
   rw[hpv] at h;split at h
   ·rename_i b;cases hv:b () with
    |true=>exact⟨.tt,_,by grind [Le],h.t hv,qQ _ _ _,fin _⟩| false=>exact⟨.ff,_,by grind [Le],h.f hv,qQ _ _ _,fin _⟩
   ·rename_i b;cases hv:b () with
    |true=>exact⟨.ff,_,by grind [Le],h.t hv,qQ _ _ _,fin _⟩| false=>exact⟨.tt,_,by grind [Le],h.f hv,qQ _ _ _,fin _⟩
   grind [Le.refl,qQ,xE]
  grind [Le.refl,qQ,xE]
theorem sO {objs:List (Nat×Obj')}{all:List Oper}{o:Oper}{τ τ':Nat->PV}{pv:PV}(h:∀ t,t∈jC all o->τ t=τ' t)(hs:vH nb objs all o τ pv):vH nb objs all o τ' pv:=by
 have hop:∀ x,x∈o.op.operands.toList->ev τ x=ev τ' x:=by
  intro x hx;cases x with
  |tmp t=>exact h t (by unfold jC;grind)| _=>rfl
 have hs':qS all o τ (fun _=>j6 nb objs o.op (ev τ') (fun v=>Le v pv)) (fun _=>pv=.tup []):=mO (fun h=>zLJ hop h) id hs;unfold vH;unfold qS at hs' ⊢;split at hs'
 all_goals grind [jC]
def v6:List Oper->List PV->(Nat->PV)->(Nat->PV)
 |o::l,v::vs,τ=>v6 l vs (upd τ o.dst v)| _,_,τ=>τ
theorem zDT {all:List Oper}{K:PS->Prop}:∀ (l:List Oper) {ps:PS},pI nb all l ps K->∃ pvs ps',pvs.length=l.length/\K ps'/\ps'.objs=ps.objs/\zB ps'.tmps=v6 l pvs (zB ps.tmps) /\ ∀ i o pv,l[i]?=some o->pvs[i]?=some pv->vH nb ps.objs all o (v6 (l.take i) (pvs.take i) (zB ps.tmps)) pv
 |[],ps,h=>⟨[],ps,rfl,h,rfl,rfl,fun i o pv h=>by simp at h⟩| o::r,ps,h=>by
  simp only[pI] at h;obtain⟨pv,ps1,h1,ho1,ht1,h2⟩:∃ pv ps1,pI nb all r ps1 K/\ps1.objs=ps.objs/\zB ps1.tmps=upd (zB ps.tmps) o.dst pv/\vH nb ps.objs all o (zB ps.tmps) pv:=by
   rcases tS h with⟨pv,q1,q2⟩|⟨q1,q2⟩
   all_goals grind [t9,qQ,xE]
  obtain⟨pvs,ps',g1,g2,g3,g4,g5⟩:=zDT r h1;refine⟨pv::pvs,ps',by simp[g1],g2,g3.trans ho1,by rw[g4,ht1];rfl,fun i o' pv' hi hp=>?_⟩;cases i with
  |zero =>
   simp only[lU,p7] at hi hp;subst hi hp;exact h2
  |succ i =>
   simp only[tH] at hi hp;have:=g5 i o' pv' hi hp;rw[ho1,ht1] at this;exact this
theorem zJP {objs objs':List (Nat×Obj')}{op:Op}{e:Operand->PV}{K:PV->Prop}(hx:∀ n o,yG objs n=some o->yG objs' n=some o)(h:sop objs op e K):sop objs' op e K:=by
 cases op with
 |load t a =>
  unfold sop at h ⊢;simp only at h ⊢;split at h;{exact h}
  ·rename_i n off he;cases ho:yG objs n with
   |none=>grind| some o =>
    rw[ho] at h;rw[hx _ _ ho];cases o with
    |box cs=>exact zRE hx h| _=>exact h.elim
  all_goals grind
 |makeFunc fn first caps=>cases fn <;> exact h
 |slice t x lo hi mx=>cases mx <;> exact h
 |_=>exact h
theorem oX {objs objs':List (Nat×Obj')}{h:Nat->Nat}(hx:∀ n o,yG objs n=some o->yG objs' n=some o):∀ {l:List (Nat×Obj')},kF h objs l->kF h objs' l
 |[],_=>trivial| (n,o)::r,H=>⟨⟨hx _ _ H.1.1,H.1.2⟩,oX hx H.2⟩
theorem zPB {objs objs':List (Nat×Obj')}{op:Op}{e:Operand->PV}{K:PV->Prop}(hx:∀ n o,yG objs n=some o->yG objs' n=some o)(h:iB objs op e K):iB objs' op e K:=by rcases nB h with⟨h1,h2⟩|⟨c,f,g,caps,h1,h2,h3,h4,h5⟩;{grind [zDU,zJP]};{refine zHL h3 h2 h4 ?_;rcases h5.h with q|⟨hb,hn,cargs,kept,r,q1,q2,q3,q4⟩;{exact⟨.inl q⟩};{exact⟨.inr ⟨hb,hn,cargs,kept,r,q1,q2,oX hx q3,q4⟩⟩}}
theorem zAG {objs objs':List (Nat×Obj')}{op:Op}{e:Operand->PV}{K:PV->Prop}(hx:∀ n o,yG objs n=some o->yG objs' n=some o)(h:j6 nb objs op e K):j6 nb objs' op e K:=by
 unfold j6 at *
 cases hi:lS op with
 |false =>
  rw[hi] at h;cases nb with
  |true=>exact zPB hx h| false=>exact zJP hx h
 |true=>grind
theorem zLK {objs objs':List (Nat×Obj')}{o:Oper}{e:Operand->PV}{K:PV->Prop}(hb:zQJ o=true)(h:j6 false objs o.op e K):j6 false objs' o.op e K:=by
 unfold j6 at *
 cases hi:lS o.op with
 |true=>grind| false =>
  rw[hi] at h;simp only at h ⊢;unfold zQJ at hb;unfold sop at h ⊢;generalize o.op=op at *
  cases op with
  |load t a=>cases hb
  |makeFunc fn first caps=>cases fn <;> exact h
  |slice t x lo hi mx=>cases mx <;> exact h
  |_=>exact h
def tQ (nb:Bool) (objs:List (Nat×Obj')) (all:List Oper) (o:Oper) (τ:Nat->PV) (pv:PV):Prop :=
 match wW o with
 |some (d,_)=>pv=.ptr d 0| none=>vH nb objs all o τ pv
theorem jB {o:Oper}{d:Nat}{x:Obj'}(h:wW o=some (d,x)):o.guard=none/\o.dst=some d/\∃ t,o.op=.alloc t/\(ty t).isNo=false/\x=.box (ty t).zero:=by unfold wW at h;grind
theorem zHK {objs:List (Nat×Obj')}{all:List Oper}{o:Oper}{τ:Nat->PV}{pv:PV}(h:vH nb objs all o τ pv):wW o=none/\tQ nb objs all o τ pv:=by
 cases hm:wW o with
 |none=>exact⟨rfl,by grind [tQ]⟩| some x =>
  obtain⟨d,x⟩:=x;obtain⟨hg,hd,t,ht,hn,hx⟩:=jB hm;unfold vH qS at h;rw[hg] at h;simp only[ht] at h;unfold j6 lS at h;simp only at h;cases nb with
  |true =>
   simp only[iB,valC] at h;unfold sop at h;exact h.elim
  |false =>
   simp only at h;unfold sop at h;exact h.elim
theorem zF5 {all:List Oper}{K:PS->Prop}:∀ (l:List Oper) {ps:PS},dZ all l ps K->∃ pvs ps',pvs.length=l.length/\K ps'/\ps'.objs=ps.objs/\zB ps'.tmps=v6 l pvs (zB ps.tmps) /\ ∀ i o pv,l[i]?=some o->pvs[i]?=some pv->tQ true ps.objs all o (v6 (l.take i) (pvs.take i) (zB ps.tmps)) pv
 |[],ps,h=>⟨[],ps,rfl,h,rfl,rfl,fun i o pv h=>by simp at h⟩| o::r,ps,h=>by
  obtain⟨pv,ps1,h1,ho1,ht1,h2⟩:∃ pv ps1,dZ all r ps1 K/\ps1.objs=ps.objs/\zB ps1.tmps=upd (zB ps.tmps) o.dst pv/\tQ true ps.objs all o (zB ps.tmps) pv:=by
   cases hm:wW o with
   |some x =>
    obtain⟨d,x⟩:=x;simp only[dZ,hm] at h;obtain⟨hg,hd,_⟩:=jB hm;exact⟨.ptr d 0,_,h,qQ _ _ _,by rw[xE,hd],by grind [tQ]⟩
   |none =>
    simp only[dZ,hm] at h;rcases tS h with⟨pv,q1,q2⟩|⟨q1,q2⟩
    all_goals grind [t9,zHK,qQ,xE]
  obtain⟨pvs,ps',g1,g2,g3,g4,g5⟩:=zF5 r h1;refine⟨pv::pvs,ps',by simp[g1],g2,g3.trans ho1,by rw[g4,ht1];rfl,fun i o' pv' hi hp=>?_⟩;cases i with
  |zero =>
   simp only[lU,p7] at hi hp;subst hi hp;exact h2
  |succ i =>
   simp only[tH] at hi hp;have:=g5 i o' pv' hi hp;rw[ho1,ht1] at this;exact this
theorem zJM:∀ {l:List Oper} {pvs:List PV} {τ:Nat->PV} {j t:Nat} {o:Oper} {pv:PV},fT l=true->l[j]?=some o->pvs[j]?=some pv->o.dst=some t->v6 l pvs τ t=pv
 |o'::r,v::vs,τ,0,t,o,pv,hd,hl,hp,ht=>by
  simp only[lU,p7] at hl hp;subst hl hp;simp only[fT,yT,ht] at hd;have:∀ (l:List Oper) (vs:List PV) (τ:Nat->PV),(l.all fun x=>!(x.dst == some t))=true->v6 l vs τ t=τ t:=by
   intro l;induction l with
   |nil=>intro vs τ _;cases vs <;> rfl
   |cons x l ih =>
    intro vs τ h;cases vs with
    |nil=>rfl| cons v vs =>
     simp only[zMJ,yT] at h;simp only[v6];rw[ih vs _ h.2];cases hx:x.dst with
     |none=>rfl| some d =>
      (have:d≠t:=by grind);simp[upd,Ne.symm this]
  simp only[v6];rw[this r vs _ hd.1];simp[upd,ht]
 |o'::r,v::vs,τ,j+1,t,o,pv,hd,hl,hp,ht=>by simp only[tH] at hl hp;simp only[fT,yT] at hd;simp only[v6];exact zJM hd.2 hl hp ht| [],_,_,_,_,_,_,_,hl,_,_=>by grind| _::_,[],_,_,_,_,_,_,_,hp,_=>by grind
theorem zFR:∀ {l:List Oper} {pvs:List PV} {τ:Nat->PV} {t:Nat},(∀ (j:Nat) (o:Oper),l[j]?=some o->o.dst≠some t)->v6 l pvs τ t=τ t
 |o::r,v::vs,τ,t,h=>by
  simp only[v6];rw[zFR fun j o' hj=>h (j+1) o' (by grind)];have:=h 0 o (by simp);cases hx:o.dst with
  |none=>rfl| some d =>
   (have hne:d≠t:=by grind);simp[upd,Ne.symm hne]
 |[],_,_,_,_=>by simp[v6]| _::_,[],_,_,_=>by simp[v6]
theorem zBB:∀ {l:List Oper} (k:Nat),fT l=true->fT (l.take k)=true
 |[],k,_=>by grind| o::r,0,_=>rfl| o::r,k+1,h=>by simp only[zQM,fT,yT] at h ⊢;refine⟨?_,zBB k h.2⟩;grind
theorem aH:∀ {l:List Oper} {i j:Nat} {o o':Oper} {t:Nat},fT l=true->l[i]?=some o->l[j]?=some o'->o.dst=some t->o'.dst=some t->i=j
 |x::r,0,0,o,o',t,_,_,_,_,_=>rfl| x::r,0,j+1,o,o',t,h,hi,hj,ht,ht'=>by simp only[lU,p7] at hi;simp only[tH] at hj;subst hi;simp only[fT,yT,ht,tG] at h;grind| x::r,i+1,0,o,o',t,h,hi,hj,ht,ht'=>by simp only[lU,p7] at hj;simp only[tH] at hi;subst hj;simp only[fT,yT,ht',tG] at h;grind| x::r,i+1,j+1,o,o',t,h,hi,hj,ht,ht'=>by simp only[tH] at hi hj;simp only[fT,yT] at h;rw[aH h.2 hi hj ht ht']| [],_,_,_,_,_,_,hi,_,_,_=>by grind
end Go.Proofs.YtaeaffgjdcigoaaGreat
