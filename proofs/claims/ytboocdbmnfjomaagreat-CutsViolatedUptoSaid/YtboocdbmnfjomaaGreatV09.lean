/- A part of the proof: PmL. -/
import Derived.Test.YtboocdbmnfjomaaGreatV08
set_option linter.all false
namespace Go.Proofs.YtboocdbmnfjomaaGreat
open Go
section
variable {w0:World} {S0:Nat->Nat->Prop} {K0:Nat->Prop} {N:Cx} {τ:Nat->PV} {objs:List (Nat×Obj')} {a:Act} {w w':World} {S S':Nat->Nat->Prop} {β:Bm}
theorem FN {ps:PS}(h:Sim w0 S0 K0 N (zD ps.tmps) ps.objs a w S β){n:Nat}{o:Obj'}{b:Nat}(hm:(n,o)∈ps.objs)(hβ:β n=some b):∀ m x,(m,x)∈y6 (scr n) (xK ps.objs n)->¬Own β m x b:=by intro m x hx e;obtain⟨y,h1,rfl⟩:=wR _ hx;obtain⟨h2,h3⟩:=wT h1;exact h3 (h.obj.inj _ _ _ _ b h2 hm (v4 e) (.inl hβ))
theorem Sim.wild (h:Sim w0 S0 K0 N τ objs a w S β){b:Nat}{vs vs':Array Value}{T:TypeId}(hnS:∀ i,S b i->vs'[i]?=vs[i]?)(hfree:∀ m x,(m,x)∈objs->¬Own β m x b)(hown:w0.heap.size<=b\/K0 b) (hw:w.heap[b]?=some (.cells vs T (0,0))) (hsz:vs'.size=vs.size):Sim w0 S0 K0 N τ objs a (w.setRow b vs') S β:=by have he:=fD (w:=w) (vs':=vs') hnS hw hsz;refine⟨h.dfr,h.sz,?_,λt=>(h.tmp t).evo he (λ_ _ h=>h),⟨h.obj.nd,λm x hx=>(h.obj.at_ m x hx).evo he λc hc=>setRow_other w b c vs' ?_,λm x c hx hc=>by simpa using h.obj.un m x c hx hc,h.obj.inj⟩,h.own,h.keep⟩;{refine⟨by simpa using h.ld.size,h.ld.os,h.ld.tape,h.ld.output,λc hc hk=>?_,λc us U hc=>?_,λc i hS=>by simpa using h.ld.bnd c i hS,h.ld.sub,h.ld.old⟩;{rw[setRow_other w b c vs' ?_];{exact h.ld.same c hc hk};grind};{obtain⟨us',e1,e2⟩:=h.ld.shape c us U hc;obtain⟨us'',e3,e4⟩:=he.shape c us' U e1;grind}};grind
theorem Sim.addObj {ps:PS}(h:Sim w0 S0 K0 N (zD ps.tmps) ps.objs a w S β){n b:Nat}{o:Obj'}(hf:yO n ps=true)(hnS:∀ i,S b i->j3 o i)(hb':b<w.heap.size)(hfree:∀ m x,(m,x)∈ps.objs->¬Own β m x b)(hown:w0.heap.size<=b\/K0 b) (hat:ObjAt w S (kY β n (some b)) n o) (hr:∀ i,¬vG o i):Sim w0 S0 K0 N (zD ps.tmps) (ps.objs++[(n,o)]) a w S (kY β n (some b)):=by
 simp only[yO,xA] at hf;have hmem:∀ {m x},(m,x)∈ps.objs++[(n,o)]->((m,x)∈ps.objs/\m≠n)\/(m=n/\x=o):=by intro m x hm;simp only[wZ,fZ] at hm;rcases hm with hm|hm;{exact .inl ⟨hm,(yY hf.2 hm).1⟩};grind
 refine⟨h.dfr,h.sz,h.ld,λt=>(h.tmp t).upd (vP hf.1 t),⟨?_,?_,?_,?_⟩,?_,?_⟩;{rw[qS,l9];refine⟨h.obj.nd,by simp,?_⟩;intro x hx y hy e;simp at hy;subst hy e;obtain⟨⟨m,o⟩,h1,rfl⟩:=y9.1 hx;exact (yY hf.2 h1).1 rfl};{intro m x hm;rcases hmem hm with⟨h1,h2⟩|⟨rfl,rfl⟩;{exact (h.obj.at_ m x h1).upd h2 (yY hf.2 h1).2};omega};{intro m x c hm hβ;rcases hmem hm with⟨h1,h2⟩|⟨rfl,rfl⟩;{exact h.obj.un m x c h1 (w9 h2 hβ)};{have hβ:=xF hr hβ;grind [y8]}};{intro m x m' x' c hm hm' hβ hβ';rcases hmem hm with⟨h1,h2⟩|⟨rfl,rfl⟩;{rcases hmem hm' with⟨h3,h4⟩|⟨rfl,rfl⟩;{exact h.obj.inj _ _ _ _ c h1 h3 (w9 h2 hβ) (w9 h4 hβ')};{have hβ':=xF hr hβ';grind [y8,w9]}};{rcases hmem hm' with⟨h3,h4⟩|⟨rfl,rfl⟩;{have hβ:=xF hr hβ;grind [y8,w9]};{rfl}}};{intro m x c hm hβ;rcases hmem hm with⟨h1,h2⟩|⟨rfl,rfl⟩;{exact h.own m x c h1 (w9 h2 hβ)};{have hβ:=xF hr hβ;grind [y8]}};{intro m x hm hb2;rcases hmem hm with⟨h1,h2⟩|⟨rfl,rfl⟩;{rw[w4 h2];exact h.keep m x h1 hb2};{have:=uL hf.2;omega}}
structure Cells (w:World) (S:Nat->Nat->Prop) (n:Nat) (l:List Value) (els:List (List D)):Prop where
 len:l.length=els.length*n
 wid:∀ e,e∈els->e.length=n
 at_:∀ i j,i<els.length->j<n->RepD w S (l.getD (i*n+j) undef) ((els.getD i []).getD j .any)/\(l.getD (i*n+j) undef).oneCell'=true
theorem Cells.evo {n:Nat}{l els}(h:Cells w S n l els)(hs:∀ b i,S b i->w'.cell? ⟨b,i,none⟩=w.cell? ⟨b,i,none⟩)(hS:∀ b i,S b i->S' b i):Cells w' S' n l els :=
 ⟨h.len,h.wid,λi j hi hj=>⟨(h.at_ i j hi hj).1.evo hs hS,(h.at_ i j hi hj).2⟩⟩
theorem ZD {i j n m:Nat}(hi:i<m)(hj:j<n):i*n+j<m*n:=by
 calc i*n+j<i*n+n:=by omega
  _=(i+1)*n:=by grind
  _<=_:=uR _ hi
theorem Cells.append {n:Nat}{l k:List Value}{els xs:List (List D)}(h:Cells w S n l els)(g:Cells w S n k xs):Cells w S n (l++k) (els++xs):=by
 refine⟨by rw[alT53,alT53,h.len,g.len,jK],λe he=>?_,λi j hi hj=>?_⟩;{rcases wZ.1 he with he|he;{exact h.wid e he};{exact g.wid e he}}
 ·by_cases hlt:i<els.length;{have h1:=h.at_ i j hlt hj;have h2:=ZD hlt hj;rw[<-h.len] at h2;grind}
  ·(have hi':i-els.length<xs.length:=by grind);have h1:=g.at_ (i-els.length) j hi' hj
   (have hm:i*n+j=l.length+((i-els.length)*n+j):=by rw[h.len,<-m9,<-jK];grind);grind
theorem Cells.obj {lg:Bool}{n:Nat}{l:List Value}{els:Unit->List (List D)}(h:Cells w S n l (els ())){b d:Nat}{vs:Array Value}{T:TypeId}(hβ:β d=some b)(hb:w.heap[b]?=some (.cells vs T (0,0)))(hle:l.length<=vs.size) (hv:∀ k,k<l.length->vs.getD k undef=l.getD k undef):ObjAt w S β d (fQ lg n els) :=
 Kr <| .inr ⟨b,vs,T,hβ,hb,by rw[<-h.len];exact hle,h.wid,λi j hi hj=>by have:=ZD hi hj;rw[<-h.len] at this;rw[hv _ this];exact h.at_ i j hi hj⟩
theorem Zb {lg:Bool}{n b d:Nat}{els:Unit->List (List D)}(h:ObjAt w S β d (fQ lg n els))(hβ:β d=some b):∃ vs T,w.heap[b]?=some (.cells vs T (0,0))/\(els ()).length*n<=vs.size/\Cells w S n (vs.toList.take ((els ()).length*n)) (els ()):=by
 rcases eV (Sl lg n els) h with⟨hn,_⟩|⟨b',vs,T,hβ',hb,hsz,hwid,hr⟩;{grind}
 ·(rw[hβ] at hβ';cases hβ';refine⟨vs,T,hb,hsz,⟨by grind,hwid,λi j hi hj=>?_⟩⟩;have hlt:=ZD hi hj;have:(vs.toList.take ((els ()).length*n)).getD (i*n+j) undef=vs.getD (i*n+j) undef:=by simp only[wM];rw[uX hlt];simp);grind
theorem Cells.sub {n k j:Nat}{l:List Value}{els:List (List D)}(h:Cells w S n l els)(hk:k+j<=els.length):Cells w S n ((l.drop (k*n)).take (j*n)) ((els.drop k).take j):=by
 have hlen:=h.len;have h1:k*n+j*n<=els.length*n:=by rw[<-jK];exact uR _ hk
 refine⟨by rw[xP,uP,xP,uP,hlen,Ac oM,Ac oM],λe he=>h.wid e (Jw (nC he)),λi q hi hq=>?_⟩;have hi':i<j:=by rw[xP] at hi;omega
 have hlt:=ZD hi' hq;have e1:((l.drop (k*n)).take (j*n)).getD (i*n+q) undef=l.getD ((k+i)*n+q) undef:=by simp only[wM];rw[uX hlt,d5,jK,m9]
 have e2:((els.drop k).take j).getD i []=els.getD (k+i) []:=by simp only[wM];rw[uX hi',d5]
 rw[e1,e2];exact h.at_ (k+i) q oM hq
theorem JG {xs:List (List D)}{v:Value}(h:RepD w S v (.sl xs)){n:Nat}(hn:∀ e,e∈xs->e.length=n){tx e':TypeId}(hk:Pg.underlying tx=some (.slice e')):∃ news,Src Pg n tx v xs.length news w/\Cells w S n news xs:=by
 rcases bB h with⟨rfl,a,cap,rfl⟩|⟨b,o,cap,s,vals,hne,hcap,hS,hs,hc,hrr,hone,rfl⟩
 ·refine⟨[],?_,⟨by simp,λe he=>by grind,λi j hi=>by grind⟩⟩;cases a with
  |none=>grind [Src.ofNil]| some ad=>grind [Src.ofSlice]
 ·have hsn:s=n:=by
   cases xs with
   |nil=>grind| cons x r=>simp_all
  subst hsn;by_cases hs0:s=0;{subst hs0;refine⟨[],Src.ofSlice w hk _ _ cap [] (by simp) (λj u hj=>by grind) (λu hu=>by cases hu),⟨by simp,hs,λi j hi hj=>by omega⟩⟩}
  (have hsp:0<s:=by omega);have hg:∀ k,k<xs.length*s->k/s<xs.length/\k%s<s:=λk hk=>⟨(Zi hsp).2 hk,uQ _ hsp⟩
  (have hgd:∀ k,k<xs.length*s->((List.range (xs.length*s)).map λk=>vals (k/s) (k%s))[k]?=some (vals (k/s) (k%s)):=by grind);refine⟨(List.range (xs.length*s)).map λk=>vals (k/s) (k%s),Src.ofSlice w hk _ _ cap _ (by simp) (λk u hu=>?_) (λu hu=>?_),⟨by simp,hs,λi j hi hj=>?_⟩⟩
  ·(have hk:k<xs.length*s:=by grind);rw[hgd k hk] at hu
   cases hu;rw[jT];have:=hc (k/s) (k%s) (hg k hk).1 (hg k hk).2;rw[<-this];congr 2;grind [Nat.div_add_mod]
  {grind}
  ·have hlt:=ZD hi hj;have:((List.range (xs.length*s)).map λk=>vals (k/s) (k%s)).getD (i*s+j) undef=vals i j:=by
    (rw[wM,hgd _ hlt];have e1:(i*s+j)/s=i:=by grind [Nat.add_mul_div_right,Nat.div_eq_of_lt]);have e2:(i*s+j)%s=j:=by rw[Yq,Nat.add_mul_mod_self_right,kL hj]
    grind
   grind
theorem bV (t tx tr e:TypeId)(i:TypeInfo)(ht:Pg.underlying t=some (.slice e))(hi:Pg.info? e=some i)(b off sLen sCap:Nat)(x:Value)(n:Nat)(news:List Value)(hs:Src Pg i.size tx x n news w) (hroom:sLen+n<=sCap) {cur:Array Value} {T:TypeId} (hb:w.heap[b]?=some (.cells cur T (0,0))) (hfit:off+sLen*i.size+news.length<=cur.size):(Builtin.append_ #[t,tx] tr #[.slice (some ⟨b,off,none⟩) sLen sCap,x]).run Pg w=.ok (.slice (some ⟨b,off,none⟩) (sLen+n) sCap) (w.setRow b (wr cur (off+sLen*i.size) news)):=by have hst:=run_storeCells_at (P:=Pg) b (off+sLen*i.size) T news 0 cur w hb oM hs.one;simp only[tM] at hst;have hst':(storeCells ⟨b,off+sLen*i.size,none⟩ news).run Pg w=.ok () (w.setRow b (wr cur (off+sLen*i.size) news)):=hst;rcases hs.kind with⟨e',hk⟩|hk <;> simp[Builtin.append_,run_underlying ht,run_underlying hk,sizeOf,typeInfo,hi,hs.len,hroom,hs.cells,Addr.add_lit,hst']
theorem tS (t tx tr e:TypeId)(i:TypeInfo)(ht:Pg.underlying t=some (.slice e))(hi:Pg.info? e=some i)(base:Option Addr)(x:Value)(news:List Value)(hs:Src Pg i.size tx x 0 news w):(Builtin.append_ #[t,tx] tr #[.slice base 0 0,x]).run Pg w=.ok (.slice base 0 0) w:=by have hl:news=[]:=gO (by simpa using hs.newsLen);subst hl;cases base <;> rcases hs.kind with⟨e',hk⟩|hk <;> simp[Builtin.append_,run_underlying ht,run_underlying hk,sizeOf,typeInfo,hi,hs.len,hs.cells,storeCells]
theorem aW (z:Array Value)(n:Nat):(Builtin.zeroCells z n).size=n*z.size:=by simp[Builtin.zeroCells]
theorem rS {l:List Value}{z:Array Value}{k:Nat}(hk:k<l.length):(l.toArray++z).getD k undef=l.getD k undef:=by simp[GP,Array.getElem?_append,hk]
theorem FZ {ps : PS} {o : Oper} {c : Call} {t tx : TypeId} {base x : Operand} {d nm : Nat} (hop : o.op = .call c) (hcl : c.callee = .builtin .append) (hargs : c.args = #[base, x]) (htys : c.argTypes = #[t, tx]) (htx : l4 (ty tx) = true) (hod : o.dst = some d) (hd : d < N)
    {K : PS → Prop} {Km : Act → World → Prop} {Q : Exit → Act → World → Prop} (h : Sim w0 S0 K0 N (zD ps.tmps) ps.objs a w S β) {n b : Nat} {z : List PV} {xs : Unit → List (List D)} (hty : ty t = .sli n b z)
    (hx : (ev (zD ps.tmps) x = .sl xs ∨ (ev (zD ps.tmps) x = .nil ∧ xs () = [])) ∨ ∃ (lg' : Bool) (m' : Nat) (o' len' : Unit → Nat) (ys : Unit → List (List D)), ev (zD ps.tmps) x = .osl m' n o' len' ∧ yK ps.objs m' = some (fQ lg' n ys) ∧ o' () + len' () ≤ (ys ()).length ∧ xs () = ((ys ()).drop (o' ())).take (len' ())) (hwid : Wid n xs)
    (hs : (jN (ev (zD ps.tmps) base) = true ∧ Room (fun _ => ((xs ()).length : Nat)) b ∧ yO nm ps = true ∧ K ⟨vQ ps.tmps d (.osl nm n (fun _ => 0) (fun _ => (xs ()).length)), ps.objs ++ [(nm, .arr n xs)]⟩) ∨
     (∃ (lg : Bool) (m : Nat) (o len : Unit → Nat) (els els0 : Unit → List (List D)), ev (zD ps.tmps) base = .osl m n o len ∧ yK ps.objs m = some (fQ lg n els0) ∧ o () = 0 ∧ len () = (els ()).length ∧ els () = (els0 ()).take (len ()) ∧ (lg = true → els0 () = els ()) ∧ Room (fun _ => (((els ()).length + (xs ()).length : Nat) : Int)) b ∧
       yO nm ⟨xW (scr m) ps.tmps, y6 (scr m) (xK ps.objs m)⟩ = true ∧
       K ⟨vQ (xW (scr m) ps.tmps) d (.osl nm n (fun _ => 0) (fun _ => (els ()).length + (xs ()).length)), y6 (scr m) (xK ps.objs m) ++ [(nm, fQ lg n (fun _ => els () ++ xs ()))]⟩))
    (hk : ∀ ps' a' w' S' β', K ps' → Sim w0 S0 K0 N (zD ps'.tmps) ps'.objs a' w' S' β' → Km a' w') : o.wp Pg a w Km Q := by
  obtain ⟨inf, el, j, zv, h1, h2, h3, h4, h5, h6, h7, h8, h9, h10, h11, h12⟩ := uK hty
  obtain ⟨e', hk'⟩ : ∃ e', Pg.underlying tx = some (.slice e') := by
    cases htx' : ty tx with
    | sli n' b' z' => obtain ⟨_, e', _, _, _, _, _, g4, _⟩ := uK htx'; grind
    | _ => rw [htx'] at htx; cases htx
  have hrx := h.eval x; have hrb := h.eval base
  have hsrc0 : ∃ news, Src Pg n tx (a.eval x) (xs ()).length news w ∧ Cells w S n news (xs ()) := by
    rcases hx with hx | ⟨lg', m', o', len', ys, hx, ho', h0', hl'⟩
    · have hxd : RepD w S (a.eval x) (.sl (xs ())) := by
        rcases hx with hx | ⟨hx, hx0⟩
        · rw [hx] at hrx; exact pU hrx
        · rw [hx] at hrx
          rw [dG hrx, hx0]
          exact .sl0 _ _
      exact JG hxd hwid.h hk'
    · rw [hx] at hrx
      rcases uT hrx with ⟨_, _, hl0, av, hv⟩ | ⟨bb, cap, vs, T, hβ, hlc, hw, hsz, hv⟩
      · have he0 : xs () = [] := by rw [hl', hl0]; simp
        rw [hv, he0]
        exact JG (.sl0 _ _) (by simp) hk'
      · obtain ⟨vs', T', hw', hlen', hce0⟩ := Zb (h.obj.at_ m' _ (xH ho')) hβ
        rw [hw] at hw'
        cases hw'
        have hce := hce0.sub h0'
        rw [← hl'] at hce
        have hxl : (xs ()).length = len' () := by rw [hl', xP, uP]; omega
        have hfit' : o' () * n + len' () * n ≤ (ys ()).length * n := by rw [← jK]; exact uR _ h0'
        rw [← hxl] at hce hv hfit'
        refine ⟨_, ?_, hce⟩
        rw [hv]
        have hidx : ∀ k, k < (xs ()).length * n → (((vs.toList.take ((ys ()).length * n)).drop (o' () * n)).take ((xs ()).length * n))[k]? = vs[o' () * n + k]? := fun k hk => by
          rw [uX hk, d5, uX oM]
          simp
        refine Src.ofSlice w hk' _ _ cap _ hce.len (fun k u hu => ?_) (fun u hu => ?_)
        · have hkl : k < (xs ()).length * n := by
            grind
          rw [hidx k hkl] at hu
          rw [jT]
          have hc := gQ hw (o' () * n + k) oM
          simp_all
        · obtain ⟨k, hk0⟩ := Ru.1 hu
          have hkl : k < (xs ()).length * n := by
            grind
          by_cases hn0 : n = 0
          · subst hn0; omega
          have hg := (hce.at_ (k / n) (k % n) ((Zi oM).2 hkl) (uQ _ oM)).2
          rw [show k / n * n + k % n = k by rw [jI]; exact Nat.div_add_mod k n, wM, hk0] at hg
          exact hg
  obtain ⟨news, hsrc, hcells⟩ := hsrc0
  rw [← h7] at hsrc
  have hgo : ∀ v w', (Builtin.append_ #[t, tx] o.type #[a.eval base, a.eval x]).run Pg w = .ok v w' → Km (a.put (some d) v) w' → o.wp Pg a w Km Q := by
    intro v w' hr hkm
    refine jG (v := v) (w' := w') ?_ (by grind)
    simp [execOp, hop, resolve, hcl, invoke, Go.builtin, hargs, htys, hr]
  
  have grow : ∀ (lg : Bool) {qs : PS} {β1 : Bm} (hq : Sim w0 S0 K0 N (zD qs.tmps) qs.objs a w S β1) (hf : yO nm qs = true) (av : Option Addr) (sLen sCap : Nat) (olds : List Value) (els : Unit → List (List D)) (hba : a.eval base = .slice av sLen sCap)
      (hold : (Builtin.firstCells j.size sLen (.slice av sLen sCap)).run Pg w.drew = .ok olds.toArray w.drew) (hce : Cells w S n olds (els ())) (hsl : sLen = (els ()).length) (hg : sCap < sLen + (xs ()).length)
      (hroom : ((sLen + (xs ()).length : Nat) : Int) * (b : Int) ≤ 70368744177664)
      (hK : K ⟨vQ qs.tmps d (.osl nm n (fun _ => 0) (fun _ => (els ()).length + (xs ()).length)), qs.objs ++ [(nm, fQ lg n (fun _ => els () ++ xs ()))]⟩), o.wp Pg a w Km Q := by
    intro lg qs β1 hq hf av sLen sCap olds els hba hold hce hsl hg hroom hK
    have hb1 : sLen + (xs ()).length ≤ (sLen + (xs ()).length) * b := Nat.le_mul_of_pos_right _ h12
    have hroom' : (sLen + (xs ()).length) * b ≤ 70368744177664 := by
      omega
    have hfit : Builtin.nextslicecap (sLen + (xs ()).length) sCap * j.bytes ≤ 281474976710656 := by
      have := nextslicecap_le hg
      rw [h8]
      calc _ ≤ (2 * (sLen + (xs ()).length)) * b := uR _ this
        _ = 2 * ((sLen + (xs ()).length) * b) := by grind
        _ ≤ _ := by omega
    have hrun := run_append_grow_src (P := Pg) w t tx o.type el j zv h4 h5 h6 av sLen sCap olds hold (a.eval x) (xs ()).length news hsrc hg oM hfit
    rw [← hba] at hrun
    refine hgo _ _ hrun ?_
    generalize hcap : grownCap w (sLen + (xs ()).length) sCap el = cap
    have hge : sLen + (xs ()).length ≤ cap := by grind [grownCap_ge]
    have hld1 := fF (w := w) (S := S) h.ld.bnd
    have hbd : ∀ c i, S c i → c < w.drew.heap.size := h.ld.bnd
    have hld2 := uC (w := w.drew) (S := S) hbd (.cells ((olds ++ news).toArray ++ Builtin.zeroCells zv.cells (cap - (sLen + (xs ()).length))) el)
    have hld := hld1.trans hld2
    have hcc := (hce.append hcells)
    have hcl' : (olds ++ news).length = (sLen + (xs ()).length) * n := by rw [hcc.len, alT53, hsl]
    have hsz : ((olds ++ news).toArray ++ Builtin.zeroCells zv.cells (cap - (sLen + (xs ()).length))).size = cap * n := by
      rw [GN, aW, h9, Js, hcl', ← jK]
      congr 1
      omega
    have hblk : (w.drew.alloc (.cells ((olds ++ news).toArray ++ Builtin.zeroCells zv.cells (cap - (sLen + (xs ()).length))) el)).heap[w.heap.size]? = some (.cells ((olds ++ news).toArray ++ Builtin.zeroCells zv.cells (cap - (sLen + (xs ()).length))) el (0, 0)) := heap_alloc_new w.drew _
    have hn := hq.newObj (b := w.heap.size) (o := fQ lg n (fun _ => els () ++ xs ())) hf hld (yQ _) (by simp)
      (Cells.obj (l := olds ++ news) (hcc.evo (hld.evo h.ld.bnd).same (hld.subs h.ld.bnd)) y8 hblk (by rw [hsz, hcl']; exact uR _ hge) (fun k hk => rS hk)) (XI lg _ _)
    refine hk _ _ _ _ _ hK (hn.putT' d hd ?_)
    have := Rep.osl (w := w.drew.alloc (.cells ((olds ++ news).toArray ++ Builtin.zeroCells zv.cells (cap - (sLen + (xs ()).length))) el)) (S := S) (β := kY β1 nm (some w.heap.size)) (n := nm) (s := n) (cap := cap) (b := w.heap.size) (o := fun _ => 0) (len := fun _ => (els ()).length + (xs ()).length)
      y8 (by rw [← hsl]; exact hge) hblk (by rw [hsz, wQ]; exact yQ _)
    rw [nF] at this
    have e : Value.slice (some ⟨w.heap.size, 0, none⟩) (sLen + (xs ()).length) cap = Value.slice (some ⟨w.heap.size, 0, none⟩) ((els ()).length + (xs ()).length) cap := by rw [hsl]
    rw [e]
    exact this
  
  have onNil : ∀ (lg : Bool) {qs : PS} {β1 : Bm} (hq : Sim w0 S0 K0 N (zD qs.tmps) qs.objs a w S β1) (hf : yO nm qs = true) (av : Option Addr) (hba : a.eval base = .slice av 0 0) (els : Unit → List (List D)) (he0 : els () = [])
      (hroom : (((xs ()).length : Nat) : Int) * (b : Int) ≤ 70368744177664)
      (hK : K ⟨vQ qs.tmps d (.osl nm n (fun _ => 0) (fun _ => (els ()).length + (xs ()).length)), qs.objs ++ [(nm, fQ lg n (fun _ => els () ++ xs ()))]⟩), o.wp Pg a w Km Q := by
    intro lg qs β1 hq hf av hba els he0 hroom hK
    by_cases hx0 : (xs ()).length = 0
    · have hsrc' := hsrc
      rw [hx0] at hsrc'
      have hrun := tS (w := w) t tx o.type el j h4 h5 av (a.eval x) news hsrc'
      rw [← hba] at hrun
      refine hgo _ _ hrun ?_
      have hxe : xs () = [] := gO hx0
      have hn := hq.newNil (lg := lg) (n := nm) (s := n) (els := fun _ => els () ++ xs ()) hf (by grind)
      refine hk _ _ _ _ _ hK (hn.putT' d hd ?_)
      rw [hba]
      exact .osl0 y8 rfl (by grind)
    · refine grow lg hq hf av 0 0 [] els hba ?_ ⟨by rw [he0]; simp, fun e he => (by rw [he0] at he; cases he), fun i j hi => (by rw [he0] at hi; simp at hi)⟩ (by rw [he0]; rfl) oM (by grind) hK
      cases av with
      | none => exact run_firstCells_none w.drew j.size 0 0 0
      | some ad => exact run_firstCells_some w.drew j.size 0 ad 0 0 [] (by simp) (fun j u hj => by simp at hj)
  rcases hs with ⟨hb, hR, hf, hK⟩ | ⟨lg, m, oo, len, els, els0, hb, ho, ho0, hlen, htk, hlg, hR, hf, hK⟩
  · obtain ⟨⟨av0, hv⟩, _⟩ := eY hb hrb
    have hK' : K ⟨vQ ps.tmps d (.osl nm n (fun _ => 0) (fun _ => ((fun _ => []) () : List (List D)).length + (xs ()).length)), ps.objs ++ [(nm, .arr n (fun _ => ((fun _ => []) () : List (List D)) ++ xs ()))]⟩ := by
      have e1 : (fun _ : Unit => ([] : List (List D)).length + (xs ()).length) = fun _ => (xs ()).length := by funext _; simp
      have e2 : (fun _ : Unit => ([] : List (List D)) ++ xs ()) = xs := by funext _; rfl
      grind
    exact onNil false h hf av0 hv (fun _ => []) rfl hR.hi hK'
  · rw [hb] at hrb
    have hmem := xH ho
    have hdrop := h.drop m
    have hq : Sim w0 S0 K0 N (zD (PS.mk (xW (scr m) ps.tmps) (y6 (scr m) (xK ps.objs m))).tmps) (PS.mk (xW (scr m) ps.tmps) (y6 (scr m) (xK ps.objs m))).objs a w S β := hdrop
    rcases uT hrb with ⟨hn, _, hl0, av, hv⟩ | ⟨bb, cap, vs, T, hβ, hlc, hw, hsz, hv⟩
    · have he0 : els () = [] := gO oM
      exact onNil lg hq hf av hv els he0 (by have := hR.hi; rw [he0] at this; simpa using this) hK
    · obtain ⟨vs', T', hw', hlen0, hce0⟩ := Zb (h.obj.at_ m _ hmem) hβ
      rw [hw] at hw'
      cases hw'
      have hle : (els ()).length ≤ (els0 ()).length := by rw [htk, xP]; omega
      have hlen' : (els ()).length * n ≤ vs.size := vF (uR _ hle) hlen0
      have hce : Cells w S n (vs.toList.take ((els ()).length * n)) (els ()) := by
        have := hce0.sub (k := 0) (j := (els ()).length) oM
        rw [nF, vS, vS, List.take_take, Ac (uR _ hle), ← hlen, ← htk] at this
        rwa [hlen] at this
      rw [ho0, nF] at hv
      rw [ho0, wQ] at hsz
      obtain ⟨hnS, hlt⟩ := h.obj.un m _ bb hmem (.inl hβ)
      by_cases hroom : len () + (xs ()).length ≤ cap
      · have hnl : news.length = (xs ()).length * n := hcells.len
        have hfit : 0 + len () * j.size + news.length ≤ vs.size := by
          rw [h7, hnl, wQ, ← jK]
          exact vF (uR _ hroom) hsz
        have hrun := bV (w := w) t tx o.type el j h4 h5 bb 0 (len ()) cap (a.eval x) (xs ()).length news hsrc hroom hw hfit
        rw [← hv] at hrun
        refine hgo _ _ hrun ?_
        have hfree := FN h hmem hβ
        have hwsz := eG hfit
        have hold : ∀ i, S bb i → i < (els ()).length * n := fun i hS => by
          have := hnS i hS
          cases lg with
          | true => rw [← hlg rfl]; exact this
          | false => exact this.elim
        have hnS' : ∀ i, S bb i → (wr vs (0 + len () * j.size) news)[i]? = vs[i]? := fun i hS => by
          have h1 := hold i hS
          have h2 : i < vs.size := by
            have : (els ()).length * n ≤ vs.size := hlen'
            omega
          have h3 := pO hfit i
          rw [if_neg (by rw [h7, hlen]; omega)] at h3
          have h4 : i < (wr vs (0 + len () * j.size) news).size := by rw [hwsz]; exact h2
          rw [Ju h4, Ju h2]
          simp only [GP, Ju h4, Ju h2, Jr] at h3
          rw [h3]
        have hwild := Sim.wild hq (vs' := wr vs (0 + len () * j.size) news) hnS' hfree (h.own m _ bb hmem (.inl hβ)) hw hwsz
        have he := fD (w := w) (S := S) (vs' := wr vs (0 + len () * j.size) news) hnS' hw hwsz
        have hcc := hce.append hcells
        have hcl' : (vs.toList.take ((els ()).length * n) ++ news).length = ((els ()).length + (xs ()).length) * n := by rw [hcc.len, alT53]
        have hblk : (w.setRow bb (wr vs (0 + len () * j.size) news)).heap[bb]? = some (.cells (wr vs (0 + len () * j.size) news) T (0, 0)) := setRow_heap w bb vs _ T _ hw
        have hadd := Sim.addObj (ps := PS.mk (xW (scr m) ps.tmps) (y6 (scr m) (xK ps.objs m))) hwild (o := fQ lg n (fun _ => els () ++ xs ())) hf (fun i hS => by
          have h1 := hnS i hS
          cases lg with
          | true =>
            have h2 : i < (els ()).length * n := by rw [← hlg rfl]; exact h1
            show i < (els () ++ xs ()).length * n
            rw [alT53, jK]
            omega
          | false => exact h1.elim) (by simpa using hlt) hfree (h.own m _ bb hmem (.inl hβ))
          (Cells.obj (l := vs.toList.take ((els ()).length * n) ++ news) (hcc.evo he.same (fun _ _ h => h)) y8 hblk (by rw [hwsz, hcl', ← hlen]; exact vF (uR _ hroom) hsz) (fun k hk => by
            rw [pO hfit]
            have htl : (vs.toList.take ((els ()).length * n)).length = (els ()).length * n := by simp; omega
            rw [h7, wQ, hlen]
            rw [hcl', jK] at hk
            by_cases hkl : k < (els ()).length * n
            · rw [if_neg oM, wM, pK (by rw [htl]; exact hkl), uX hkl]
              simp
            · rw [if_pos oM]
              simp only [wM]
              rw [dB (by rw [htl]; omega), htl])) (XI lg _ _)
        refine hk _ _ _ _ _ hK (hadd.putT' d hd ?_)
        have := Rep.osl (w := w.setRow bb (wr vs (0 + len () * j.size) news)) (S := S) (β := kY β nm (some bb)) (n := nm) (s := n) (cap := cap) (b := bb) (o := fun _ => 0) (len := fun _ => (els ()).length + (xs ()).length)
          y8 (by rw [← hlen]; exact hroom) hblk (by rw [hwsz, wQ]; exact hsz)
        rw [nF] at this
        have e : Value.slice (some ⟨bb, 0, none⟩) (len () + (xs ()).length) cap = Value.slice (some ⟨bb, 0, none⟩) ((els ()).length + (xs ()).length) cap := by rw [hlen]
        rw [e]
        exact this
      · refine grow lg hq hf (some ⟨bb, 0, none⟩) (len ()) cap (vs.toList.take ((els ()).length * n)) els hv ?_ hce hlen oM (by rw [hlen]; exact hR.hi) hK
        refine run_firstCells_some w.drew j.size (len ()) ⟨bb, 0, none⟩ (len ()) cap _ (by rw [h7, hlen]; exact hce.len) (fun k u hu => ?_)
        have hkl : k < (els ()).length * n := by
          rcases uG k ((els ()).length * n) with h' | h'
          · exact h'
          · rw [rM (by simp; omega)] at hu; cases hu
        rw [uX hkl] at hu
        rw [jT, wQ]
        have hc := gQ hw k oM
        have : vs.getD k undef = u := by
          have : vs[k]? = some u := by simpa using hu
          simp [this]
        rw [this] at hc
        exact hc
theorem ObjAt.rr {β':Bm}{m:Nat}{o:Obj'}(h:ObjAt w S β m o)(ho:∀ k,β' k=β k)(hr:∀ j,β'.r m j=β.r m j):ObjAt w S β' m o:=by
 have hp:∀ {v pv},Rep w S β v pv->Rep w S β' v pv:=λh=>Rep.place (β:=β) (βf:=β') ho h;cases o with
 |box cs =>
  obtain⟨b,vs,T,e1,e2,e3,e4⟩:=h;exact⟨b,vs,T,by grind,e2,e3,λj hj=>hp (e4 j hj)⟩
 |arr s els=>rcases h with⟨h1,h2⟩|⟨b,vs,T,h1,h2⟩;exact .inl ⟨by grind,h2⟩;exact .inr ⟨b,vs,T,by grind,h2⟩
 |log s els=>rcases h with⟨h1,h2⟩|⟨b,vs,T,h1,h2⟩;exact .inl ⟨by grind,h2⟩;exact .inr ⟨b,vs,T,by grind,h2⟩
 |lent s els =>
  refine⟨?_,λb hb=>h.2 b (by grind)⟩;rcases h.1 with⟨h1,h2⟩|⟨b,vs,T,h1,h2⟩;{exact .inl ⟨by grind,h2⟩};{exact .inr ⟨b,vs,T,by grind,h2⟩}
 |mat s rows hs =>
  obtain⟨h1,h2,h3⟩:=h;refine⟨?_,λj j' b hj hj'=>by grind,λj b hj=>by grind⟩;rcases h1 with h1|⟨b,vs,T,e1,e2,e3,e4,e5⟩;{grind};grind
def plc (β:Bm) (n b:Nat) (ρ:Nat->Option Nat):Bm:=⟨(kY β n (some b)).o,λm j=>if m=n then ρ j else β.r m j⟩
theorem Kk {β:Bm}{n b:Nat}{ρ:Nat->Option Nat}{j:Nat}:(plc β n b ρ).r n j=ρ j:=by simp[plc]
theorem Cr {β:Bm}{n b:Nat}{ρ:Nat->Option Nat}{m j:Nat}(h:m≠n):(plc β n b ρ).r m j=β.r m j:=by simp[plc,h]
theorem VI {β:Bm}{n b:Nat}{ρ:Nat->Option Nat}:(plc β n b ρ) n=some b:=y8
theorem Rep.plc {n b:Nat}{ρ:Nat->Option Nat}{v:Value}{pv:PV}(h:Rep w S β v pv)(hf:xN n pv=true):Rep w S (Go.Proofs.YtboocdbmnfjomaaGreat.plc β n b ρ) v pv :=
 Rep.place (β:=kY β n (some b)) (βf:=Go.Proofs.YtboocdbmnfjomaaGreat.plc β n b ρ) (λ_=>rfl) (h.upd hf)
theorem Sim.addObjR {ps:PS}(h:Sim w0 S0 K0 N (zD ps.tmps) ps.objs a w S β){n b:Nat}{ρ:Nat->Option Nat}{o:Obj'}(hf:yO n ps=true) (hall:∀ c,Own (plc β n b ρ) n o c->(∀ i,S c i->j3 o i)/\c<w.heap.size/\(∀ m x,(m,x)∈ps.objs->¬Own β m x c)/\(w0.heap.size<=c\/K0 c)) (hat:ObjAt w S (plc β n b ρ) n o):Sim w0 S0 K0 N (zD ps.tmps) (ps.objs++[(n,o)]) a w S (plc β n b ρ):=by
 simp only[yO,xA] at hf;have hmem:∀ {m x},(m,x)∈ps.objs++[(n,o)]->((m,x)∈ps.objs/\m≠n)\/(m=n/\x=o):=by intro m x hm;simp only[wZ,fZ] at hm;rcases hm with hm|hm;{exact .inl ⟨hm,(yY hf.2 hm).1⟩};grind
 have hold:∀ {m x c},m≠n->Own (plc β n b ρ) m x c->Own β m x c:=by rintro m x c hm (e|⟨j,hj,e⟩);{exact .inl (by rw[<-w4 (x:=some b) hm];exact e)};{exact .inr ⟨j,hj,by grind [Cr]⟩}
 refine⟨h.dfr,h.sz,h.ld,λt=>(h.tmp t).plc (vP hf.1 t),⟨?_,?_,?_,?_⟩,?_,?_⟩;{rw[qS,l9];refine⟨h.obj.nd,by simp,?_⟩;intro x hx y hy e;simp at hy;subst hy e;obtain⟨⟨m,o⟩,h1,rfl⟩:=y9.1 hx;exact (yY hf.2 h1).1 rfl};{intro m x hm;rcases hmem hm with⟨h1,h2⟩|⟨rfl,rfl⟩;{exact ((h.obj.at_ m x h1).upd (x:=some b) h2 (yY hf.2 h1).2).rr (λ_=>rfl) λj=>Cr h2};omega};{intro m x c hm hβ;rcases hmem hm with⟨h1,h2⟩|⟨rfl,rfl⟩;{exact h.obj.un m x c h1 (hold h2 hβ)};grind};{intro m x m' x' c hm hm' hβ hβ';rcases hmem hm with⟨h1,h2⟩|⟨rfl,rfl⟩;{rcases hmem hm' with⟨h3,h4⟩|⟨rfl,rfl⟩;{exact h.obj.inj _ _ _ _ c h1 h3 (hold h2 hβ) (hold h4 hβ')};grind};grind};{intro m x c hm hβ;rcases hmem hm with⟨h1,h2⟩|⟨rfl,rfl⟩;{exact h.own m x c h1 (hold h2 hβ)};grind};{intro m x hm hb2;rcases hmem hm with⟨h1,h2⟩|⟨rfl,rfl⟩;{show kY β n (some b) m=_;rw[w4 h2];exact h.keep m x h1 hb2};{have:=uL hf.2;omega}}
structure MC (w:World) (S:Nat->Nat->Prop) (ρ:Nat->Option Nat) (s:Nat) (l:List Value) (rows:List (List (List D))):Prop where
 len:l.length=rows.length
 at_:∀ i,i<rows.length->RowIn w S (ρ i) (l.getD i undef) s (rows.getD i [])
theorem RowIn.one {ob:Option Nat}{v:Value}{s:Nat}{els:List (List D)}(h:RowIn w S ob v s els):v.oneCell'=true:=by rcases h with⟨_,_,a,rfl⟩|⟨b,cap,us,T,_,rfl,_⟩ <;> rfl
def apR (n:Nat) (ρ ρ':Nat->Option Nat) (j:Nat):Option Nat:=if j<n then ρ j else ρ' (j-n)
theorem MC.append {ρ ρ':Nat->Option Nat}{s:Nat}{l l':List Value}{rows rows':List (List (List D))}(h:MC w S ρ s l rows)(h':MC w S ρ' s l' rows'):MC w S (apR rows.length ρ ρ') s (l++l') (rows++rows'):=by
 refine⟨by simp[h.len,h'.len],λi hi=>?_⟩;simp only[alT53] at hi;by_cases hlt:i<rows.length
 ·(have e1:(l++l').getD i undef=l.getD i undef:=by simp only[wM];rw[pK (by rw[h.len];exact hlt)]);have e2:(rows++rows').getD i []=rows.getD i []:=by grind
  rw[e1,e2,apR,if_pos hlt];exact h.at_ i hlt
 ·(have e1:(l++l').getD i undef=l'.getD (i-rows.length) undef:=by simp only[wM];rw[dB (by rw[h.len];omega),h.len]);have e2:(rows++rows').getD i []=rows'.getD (i-rows.length) []:=by grind
  rw[e1,e2,apR,if_neg hlt];exact h'.at_ _ oM
theorem MC.evo {ρ:Nat->Option Nat}{s:Nat}{l:List Value}{rows:List (List (List D))}(h:MC w S ρ s l rows)(he:Evo S w w')(hb:∀ i c,i<rows.length->ρ i=some c->w'.heap[c]?=w.heap[c]?):MC w' S ρ s l rows :=
 ⟨h.len,λi hi=>(h.at_ i hi).evo he λc hc=>hb i c hi hc⟩
theorem jO {s:Nat}{rows:Unit->List (List (List D))}{i:Nat}:vG (.mat s rows []) i↔i<(rows ()).length:=⟨λh=>h.1,λh=>⟨h,λv k hk=>by cases hk⟩⟩
theorem Rh {n s b:Nat}{rows:Unit->List (List (List D))}(h:MatAt w S β n s rows [])(hβ:β n=some b):∃ vs T,w.heap[b]?=some (.cells vs T (0,0))/\(rows ()).length<=vs.size/\MC w S (β.r n) s (vs.toList.take (rows ()).length) (rows ()):=by
 rcases h.pl with⟨h1,_⟩|⟨b',vs,T,h1,h2,h3,_,h5⟩;{grind}
 ·(rw[hβ] at h1;cases h1;refine⟨vs,T,h2,h3,⟨by grind,λi hi=>?_⟩⟩;have:(vs.toList.take (rows ()).length).getD i undef=vs.getD i undef:=by simp only[wM];rw[uX hi];simp);grind [jO]
theorem MC.obj {ρ:Nat->Option Nat}{s:Nat}{l:List Value}{rows:Unit->List (List (List D))}(h:MC w S ρ s l (rows ())){b n:Nat}{vs:Array Value}{T:TypeId}(hb:w.heap[b]?=some (.cells vs T (0,0)))(hle:l.length<=vs.size)(hv:∀ k,k<l.length->vs.getD k undef=l.getD k undef) (hinj:∀ i j c,i<(rows ()).length->j<(rows ()).length->ρ i=some c->ρ j=some c->i=j) (hne:∀ i,i<(rows ()).length->ρ i≠some b):ObjAt w S (plc β n b ρ) n (.mat s rows []):=by refine⟨.inr ⟨b,vs,T,VI,hb,by rw[<-h.len];exact hle,λv k hk=>(by cases hk),λi hi=>?_⟩,λi j c hi hj e e'=>?_,λi c hi e=>?_⟩;{rw[hv i (by rw[h.len];exact hi.1),Kk];exact h.at_ i hi.1};{rw[Kk] at e e';exact hinj i j c hi.1 hj.1 e e'};{rw[Kk] at e;rw[VI];rintro e';cases e';exact hne i hi.1 e}
theorem Hv {ps:PS}{o:Oper}{c:Call}{t tx:TypeId}{base x:Operand}{d nm:Nat}(hop:o.op=.call c)(hcl:c.callee=.builtin .append)(hargs:c.args=#[base,x])(htys:c.argTypes=#[t,tx])(htx:l4 (ty tx)=true)(hod:o.dst=some d)(hd:d<N) {K:PS->Prop} {Km:Act->World->Prop} {Q:Exit->Act->World->Prop} (h:Sim w0 S0 K0 N (zD ps.tmps) ps.objs a w S β) {b:Nat} {z:List PV} (hty:ty t=.sli 1 b z) {m m' s:Nat} {oo len oo' len':Unit->Nat} {rows rows':Unit->List (List (List D))} (hb:ev (zD ps.tmps) base=.osl m 1 oo len) (ho:yK ps.objs m=some (.mat s rows [])) (ho0:oo ()=0) (hlen:len ()=(rows ()).length) (hx:ev (zD ps.tmps) x=.osl m' 1 oo' len') (ho':yK ps.objs m'=some (.mat s rows' [])) (ho0':oo' ()=0) (hlen':len' ()=(rows' ()).length) (hmm:nqb m m'=false) (hpos:NeR rows') (hR:Room (λ_=>(((rows ()).length+(rows' ()).length:Nat):Int)) b) (hf:yO nm ⟨xW (scr m') (xW (scr m) ps.tmps),y6 (scr m') (xK (y6 (scr m) (xK ps.objs m)) m')⟩=true) (hK:K ⟨vQ (xW (scr m') (xW (scr m) ps.tmps)) d (.osl nm 1 (λ_=>0) (λ_=>(rows ()).length+(rows' ()).length)),y6 (scr m') (xK (y6 (scr m) (xK ps.objs m)) m')++[(nm,.mat s (λ_=>rows ()++rows' ()) [])]⟩) (hk:∀ ps' a' w' S' β',K ps'->Sim w0 S0 K0 N (zD ps'.tmps) ps'.objs a' w' S' β'->Km a' w'):o.wp Pg a w Km Q:=by
 obtain⟨inf,el,j,zv,h1,h2,h3,h4,h5,h6,h7,h8,h9,h10,h11,h12⟩:=uK hty;obtain⟨e',hk'⟩:∃ e',Pg.underlying tx=some (.slice e'):=by
  cases htx':ty tx with
  |sli n' b' z'=>obtain⟨_,e',_,_,_,_,_,g4,_⟩:=uK htx';grind
  |_=>rw[htx'] at htx;cases htx
 have hne:m≠m':=λe=>by simp_all
 have hrx:=h.eval x;have hrb:=h.eval base;rw[hx] at hrx;rw[hb] at hrb;have hmem:=xH ho;have hmem':=xH ho';have hM:MatAt w S β m s rows []:=h.obj.at_ m _ hmem;have hM':MatAt w S β m' s rows' []:=h.obj.at_ m' _ hmem';have hgo:∀ v w',(Builtin.append_ #[t,tx] o.type #[a.eval base,a.eval x]).run Pg w=.ok v w'->Km (a.put (some d) v) w'->o.wp Pg a w Km Q:=by intro v w' hr hkm;refine jG (v:=v) (w':=w') ?_ (by grind);simp[execOp,hop,resolve,hcl,invoke,Go.builtin,hargs,htys,hr]
 obtain⟨bx,hβx,capx,hvx⟩:∃ bx,β m'=some bx/\∃ capx,a.eval x=.slice (some ⟨bx,0,none⟩) (rows' ()).length capx:=by rcases uT hrx with⟨_,_,hl0,_⟩|⟨bb,cap,vs,T,hβ,_,_,_,hv⟩;{have:=hpos.h;omega};grind
 obtain⟨vsx,Tx,hwx,hszx,hmcx⟩:=Rh hM' hβx;have hsrc:Src Pg 1 tx (a.eval x) (rows' ()).length (vsx.toList.take (rows' ()).length) w:=by
  rw[hvx];refine Src.ofSlice w hk' _ _ capx _ (by grind) (λk u hu=>?_) (λu hu=>?_)
  ·(have hkl:k<(rows' ()).length:=by grind);rw[uX hkl] at hu
   rw[jT,wQ];have hc:=gQ hwx k oM;simp_all
  {obtain⟨k,hk,rfl⟩:=List.getElem_of_mem hu;have:=(hmcx.at_ k (by grind)).one;grind}
 rw[<-h7] at hsrc;generalize hnews:vsx.toList.take (rows' ()).length=news at hsrc hmcx;have hdrop:=(h.drop m);have hq:Sim w0 S0 K0 N (zD (PS.mk (xW (scr m') (xW (scr m) ps.tmps)) (y6 (scr m') (xK (y6 (scr m) (xK ps.objs m)) m'))).tmps) (PS.mk (xW (scr m') (xW (scr m) ps.tmps)) (y6 (scr m') (xK (y6 (scr m) (xK ps.objs m)) m'))).objs a w S β:=(Sim.drop (ps:=⟨xW (scr m) ps.tmps,y6 (scr m) (xK ps.objs m)⟩) hdrop m');have hback:∀ {q y},(q,y)∈y6 (scr m') (xK (y6 (scr m) (xK ps.objs m)) m')->∀ {c},Own β q y c->∃ y',(q,y')∈ps.objs/\q≠m/\q≠m'/\Own β q y' c:=by intro q y hm c hc;obtain⟨y1,g1,rfl⟩:=wR _ hm;obtain⟨g2,g3⟩:=wT g1;obtain⟨y2,g4,rfl⟩:=wR _ g2;grind [wT,v4]
 have hfreeM:∀ c,Own β m (.mat s rows []) c->∀ q y,(q,y)∈y6 (scr m') (xK (y6 (scr m) (xK ps.objs m)) m')->¬Own β q y c:=λc hc q y hm hc'=>by obtain⟨y',g1,g2,_,g4⟩:=hback hm hc';exact g2 (h.obj.inj _ _ _ _ c g1 hmem g4 hc)
 have hfreeM':∀ c,Own β m' (.mat s rows' []) c->∀ q y,(q,y)∈y6 (scr m') (xK (y6 (scr m) (xK ps.objs m)) m')->¬Own β q y c:=λc hc q y hm hc'=>by obtain⟨y',g1,_,g3,g4⟩:=hback hm hc';exact g3 (h.obj.inj _ _ _ _ c g1 hmem' g4 hc)
 have hrowO:∀ {i c},i<(rows ()).length->β.r m i=some c->Own β m (.mat s rows []) c:=λhi e=>.inr ⟨_,jO.2 hi,e⟩;have hrowO':∀ {i c},i<(rows' ()).length->β.r m' i=some c->Own β m' (.mat s rows' []) c:=λhi e=>.inr ⟨_,jO.2 hi,e⟩;have hap:∀ {i c},i<(rows ()++rows' ()).length->apR (rows ()).length (β.r m) (β.r m') i=some c->Own β m (.mat s rows []) c\/Own β m' (.mat s rows' []) c:=by intro i c hi e;simp only[alT53] at hi;unfold apR at e;grind
 have hinj:∀ i j c,i<(rows ()++rows' ()).length->j<(rows ()++rows' ()).length->apR (rows ()).length (β.r m) (β.r m') i=some c->apR (rows ()).length (β.r m) (β.r m') j=some c->i=j:=by
  (intro i j c hi hj e e2;simp only[alT53] at hi hj;unfold apR at e e2;by_cases hl1:i<(rows ()).length <;> by_cases hl2:j<(rows ()).length);{rw[if_pos hl1] at e;rw[if_pos hl2] at e2;exact hM.inj i j c (jO.2 hl1) (jO.2 hl2) e e2}
  {rw[if_pos hl1] at e;rw[if_neg hl2] at e2;exact absurd (h.obj.inj _ _ _ _ c hmem hmem' (hrowO hl1 e) (hrowO' oM e2)) hne};{rw[if_neg hl1] at e;rw[if_pos hl2] at e2;exact absurd (h.obj.inj _ _ _ _ c hmem hmem' (hrowO hl2 e2) (hrowO' oM e)) hne};{rw[if_neg hl1] at e;rw[if_neg hl2] at e2;have:=hM'.inj _ _ c (jO.2 oM) (jO.2 oM) e e2;omega}
 have hunM:∀ c,Own β m (.mat s rows []) c->(∀ i,¬S c i)/\c<w.heap.size/\(w0.heap.size<=c\/K0 c):=λc hc=>⟨λi hS=>(h.obj.un _ _ c hmem hc).1 i hS,(h.obj.un _ _ c hmem hc).2,h.own _ _ c hmem hc⟩;have hunM':∀ c,Own β m' (.mat s rows' []) c->(∀ i,¬S c i)/\c<w.heap.size/\(w0.heap.size<=c\/K0 c):=λc hc=>⟨λi hS=>(h.obj.un _ _ c hmem' hc).1 i hS,(h.obj.un _ _ c hmem' hc).2,h.own _ _ c hmem' hc⟩
 
 have grow:∀ (av:Option Addr) (sLen sCap:Nat) (olds:List Value) (hba:a.eval base=.slice av sLen sCap)
   (hold:(Builtin.firstCells j.size sLen (.slice av sLen sCap)).run Pg w.drew=.ok olds.toArray w.drew) (hce:MC w S (β.r m) s olds (rows ())) (hsl:sLen=(rows ()).length) (hg:sCap<sLen+(rows' ()).length),o.wp Pg a w Km Q:=by
  intro av sLen sCap olds hba hold hce hsl hg;have hroom:=hR.hi;have hb1:sLen+(rows' ()).length<=(sLen+(rows' ()).length)*b:=Nat.le_mul_of_pos_right _ h12;have hroom':(sLen+(rows' ()).length)*b<=70368744177664:=by
   (have:(((sLen+(rows' ()).length)*b:Nat):Int)<=70368744177664:=by rw[Int.natCast_mul,hsl];exact hroom);omega
  have hfit:Builtin.nextslicecap (sLen+(rows' ()).length) sCap*j.bytes<=281474976710656:=by
   have:=nextslicecap_le hg;rw[h8]
   calc _<=(2*(sLen+(rows' ()).length))*b:=uR _ this
    _=2*((sLen+(rows' ()).length)*b):=by rw[gM]
    _<=_:=by omega
  (have hrun:=run_append_grow_src (P:=Pg) w t tx o.type el j zv h4 h5 h6 av sLen sCap olds hold (a.eval x) (rows' ()).length news hsrc hg oM hfit;rw[<-hba] at hrun;refine hgo _ _ hrun ?_;generalize hcap:grownCap w (sLen+(rows' ()).length) sCap el=cap;have hge:sLen+(rows' ()).length<=cap:=by rw[<-hcap];exact grownCap_ge w _ _ _);have hld1:=fF (w:=w) (S:=S) h.ld.bnd
  (have hbd:∀ c i,S c i->c<w.drew.heap.size:=h.ld.bnd;have hld2:=uC (w:=w.drew) (S:=S) hbd (.cells ((olds++news).toArray++Builtin.zeroCells zv.cells (cap-(sLen+(rows' ()).length))) el);have hld:=hld1.trans hld2;have hcc:=(hce.append hmcx);have hcl':(olds++news).length=sLen+(rows' ()).length:=by rw[hcc.len,alT53,hsl]);have hsz:((olds++news).toArray++Builtin.zeroCells zv.cells (cap-(sLen+(rows' ()).length))).size=cap:=by rw[GN,aW,h9,Js,hcl'];omega
  (have hblk:(w.drew.alloc (.cells ((olds++news).toArray++Builtin.zeroCells zv.cells (cap-(sLen+(rows' ()).length))) el)).heap[w.heap.size]?=some (.cells ((olds++news).toArray++Builtin.zeroCells zv.cells (cap-(sLen+(rows' ()).length))) el (0,0)):=heap_alloc_new w.drew _;have hsame:∀ c,c<w.heap.size->(w.drew.alloc (.cells ((olds++news).toArray++Builtin.zeroCells zv.cells (cap-(sLen+(rows' ()).length))) el)).heap[c]?=w.heap[c]?:=λc hc=>hld.same c hc (λhk=>hk);have hltO:∀ {i c},i<(rows ()++rows' ()).length->apR (rows ()).length (β.r m) (β.r m') i=some c->c<w.heap.size:=λhi e=>by rcases hap hi e with g|g;{exact (hunM _ g).2.1};{exact (hunM' _ g).2.1});have hqg:=hq.go hld;have hn:=hqg.addObjR (b:=w.heap.size) (ρ:=apR (rows ()).length (β.r m) (β.r m')) (o:=.mat s (λ_=>rows ()++rows' ()) []) hf (by
   intro c hc;rcases hc with e|⟨i,hi,e⟩;{rw[VI] at e;cases e;exact⟨λi hS=>by have:=h.ld.bnd _ i hS;omega,by simp,λq y hm hc'=>(by obtain⟨y',g1,_,_,g4⟩:=hback hm hc';have:=(h.obj.un _ _ _ g1 g4).2;omega),.inl h.ld.size⟩}
   ·rw[Kk] at e;have hlt:=hltO hi.1 e;rcases hap hi.1 e with g|g;{exact⟨λi hS=>absurd hS ((hunM _ g).1 i),f7 hlt hld.size,hfreeM c g,(hunM _ g).2.2⟩}
    ·exact⟨λi hS=>absurd hS ((hunM' _ g).1 i),f7 hlt hld.size,hfreeM' c g,(hunM' _ g).2.2⟩)
   (MC.obj (l:=olds++news) (hcc.evo (hld.evo h.ld.bnd) (λi c hi e=>hsame c (hltO hi e))) hblk (by rw[hsz,hcl'];exact hge) (λk hk=>rS hk) hinj (λi hi e=>by have:=hltO hi e;omega))
  refine hk _ _ _ _ _ hK (hn.putT' d hd ?_);have:=Rep.osl (w:=w.drew.alloc (.cells ((olds++news).toArray++Builtin.zeroCells zv.cells (cap-(sLen+(rows' ()).length))) el)) (S:=S) (β:=plc β nm w.heap.size (apR (rows ()).length (β.r m) (β.r m'))) (n:=nm) (s:=1) (cap:=cap) (b:=w.heap.size) (o:=λ_=>0) (len:=λ_=>(rows ()).length+(rows' ()).length)
   VI (by rw[<-hsl];exact hge) hblk (by rw[hsz];omega)
  (rw[nF] at this;have e:Value.slice (some ⟨w.heap.size,0,none⟩) (sLen+(rows' ()).length) cap=Value.slice (some ⟨w.heap.size,0,none⟩) ((rows ()).length+(rows' ()).length) cap:=by rw[hsl]);rw[e]
  exact this
 rcases uT hrb with⟨hn,_,hl0,av,hv⟩|⟨bb,cap,vs,T,hβ,hlc,hw,hsz,hv⟩
 ·have he0:rows ()=[]:=gO oM;refine grow av 0 0 [] hv ?_ ⟨by rw[he0];rfl,λi hi=>(by rw[he0] at hi;simp at hi)⟩ (by rw[he0];rfl) (by have:=hpos.h;omega);cases av with
  |none=>exact run_firstCells_none w.drew j.size 0 0 0| some ad=>exact run_firstCells_some w.drew j.size 0 ad 0 0 [] (by simp) (λj u hj=>by simp at hj)
 ·obtain⟨vs',T',hw',hlv,hce⟩:=Rh hM hβ;rw[hw] at hw';cases hw';rw[ho0,nF] at hv;rw[ho0,wQ,Zj] at hsz;have hoM:Own β m (.mat s rows []) bb:=.inl hβ;by_cases hroom:len ()+(rows' ()).length<=cap
  ·(have hnl:news.length=(rows' ()).length:=hmcx.len;have hfit:0+len ()*j.size+news.length<=vs.size:=by rw[h7,hnl];omega);have hrun:=bV (w:=w) t tx o.type el j h4 h5 bb 0 (len ()) cap (a.eval x) (rows' ()).length news hsrc hroom hw hfit
   (rw[<-hv] at hrun;refine hgo _ _ hrun ?_;have hwsz:=eG hfit;have hnS':∀ i,S bb i->(wr vs (0+len ()*j.size) news)[i]?=vs[i]?:=λi hS=>absurd hS ((hunM _ hoM).1 i);have hwild:=Sim.wild hq (vs':=wr vs (0+len ()*j.size) news) hnS' (hfreeM bb hoM) (hunM _ hoM).2.2 hw hwsz;have he:=fD (w:=w) (S:=S) (vs':=wr vs (0+len ()*j.size) news) hnS' hw hwsz;have hcc:=hce.append hmcx;have hcl':(vs.toList.take (rows ()).length++news).length=(rows ()).length+(rows' ()).length:=by rw[hcc.len,alT53]);have hblk:(w.setRow bb (wr vs (0+len ()*j.size) news)).heap[bb]?=some (.cells (wr vs (0+len ()*j.size) news) T (0,0)):=setRow_heap w bb vs _ T _ hw
   (have hneb:∀ {i},i<(rows ()++rows' ()).length->apR (rows ()).length (β.r m) (β.r m') i≠some bb:=λ{i} hi e=>by have hi':=hi;simp only[alT53] at hi';by_cases hlt:i<(rows ()).length;{unfold apR at e;rw[if_pos hlt] at e;exact hM.ne i bb (jO.2 hlt) e hβ};{unfold apR at e;rw[if_neg hlt] at e;exact hne (h.obj.inj _ _ _ _ bb hmem hmem' hoM (hrowO' oM e))});have hadd:=Sim.addObjR (ps:=PS.mk (xW (scr m') (xW (scr m) ps.tmps)) (y6 (scr m') (xK (y6 (scr m) (xK ps.objs m)) m'))) hwild (b:=bb) (ρ:=apR (rows ()).length (β.r m) (β.r m')) (o:=.mat s (λ_=>rows ()++rows' ()) []) hf (by
    intro c hc;rcases hc with e|⟨i,hi,e⟩;{rw[VI] at e;cases e;exact⟨λi hS=>absurd hS ((hunM _ hoM).1 i),by simpa using (hunM _ hoM).2.1,hfreeM _ hoM,(hunM _ hoM).2.2⟩}
    ·rw[Kk] at e;rcases hap hi.1 e with g|g;{exact⟨λi hS=>absurd hS ((hunM _ g).1 i),by simpa using (hunM _ g).2.1,hfreeM c g,(hunM _ g).2.2⟩}
     ·exact⟨λi hS=>absurd hS ((hunM' _ g).1 i),by simpa using (hunM' _ g).2.1,hfreeM' c g,(hunM' _ g).2.2⟩)
    (MC.obj (l:=vs.toList.take (rows ()).length++news) (hcc.evo he (λi c hi e=>setRow_other w bb c _ (λe1=>hneb hi (by rw[e,e1])))) hblk (by rw[hwsz,hcl',<-hlen];omega) (λk hk=>by
     (rw[pO hfit];have htl:(vs.toList.take (rows ()).length).length=(rows ()).length:=by simp;omega);rw[h7,wQ,hlen,Zj]
     rw[hcl'] at hk;by_cases hkl:k<(rows ()).length;{rw[if_neg oM,wM,pK (by rw[htl];exact hkl),uX hkl];simp}
     ·rw[if_pos oM];simp only[wM];rw[dB (by rw[htl];omega),htl]) hinj (λi hi=>hneb hi))
   refine hk _ _ _ _ _ hK (hadd.putT' d hd ?_);have:=Rep.osl (w:=w.setRow bb (wr vs (0+len ()*j.size) news)) (S:=S) (β:=plc β nm bb (apR (rows ()).length (β.r m) (β.r m'))) (n:=nm) (s:=1) (cap:=cap) (b:=bb) (o:=λ_=>0) (len:=λ_=>(rows ()).length+(rows' ()).length)
    VI (by rw[<-hlen];exact hroom) hblk (by rw[hwsz];omega)
   (rw[nF] at this;have e:Value.slice (some ⟨bb,0,none⟩) (len ()+(rows' ()).length) cap=Value.slice (some ⟨bb,0,none⟩) ((rows ()).length+(rows' ()).length) cap:=by rw[hlen]);rw[e]
   exact this
  ·(refine grow (some ⟨bb,0,none⟩) (len ()) cap (vs.toList.take (rows ()).length) hv ?_ hce hlen oM;refine run_firstCells_some w.drew j.size (len ()) ⟨bb,0,none⟩ (len ()) cap _ (by rw[h7,hlen,Zj];exact hce.len) (λk u hu=>?_);have hkl:k<(rows ()).length:=by rcases uG k (rows ()).length with h'|h';{exact h'};{rw[rM (by simp;omega)] at hu;cases hu});rw[uX hkl] at hu;rw[jT,wQ];have hc:=gQ hw k oM;have:vs.getD k undef=u:=by
    (have:vs[k]?=some u:=by simpa using hu);simp[this]
   rw[this] at hc;exact hc
theorem Qy {o:Oper}{c:Call}{t tx:TypeId}{base x:Operand}(hop:o.op=.call c)(hcl:c.callee=.builtin .append)(hargs:c.args=#[base,x])(htys:c.argTypes=#[t,tx])(htx:l4 (ty tx)=true) {K:PV->Prop} {Km:Act->World->Prop} {Q:Exit->Act->World->Prop} (h:Sim w0 S0 K0 N τ objs a w S β) {n b:Nat} {z:List PV} (hty:ty t=.sli n b z) (hbn:jN (ev τ base)=true) (hs:Jl n b (ev τ base) (ev τ x) K) (hk:∀ pv w' S' v,K pv->Leads w S qJ w' S'->Rep w' S' β v pv->Km (a.put o.dst v) w'):o.wp Pg a w Km Q:=by
 obtain⟨inf,el,j,zv,h1,h2,h3,h4,h5,h6,h7,h8,h9,h10,h11,h12⟩:=uK hty;obtain⟨e',hk'⟩:∃ e',Pg.underlying tx=some (.slice e'):=by
  cases htx':ty tx with
  |sli n' b' z'=>obtain⟨_,e',_,_,_,_,_,g4,_⟩:=uK htx';grind
  |_=>rw[htx'] at htx;cases htx
 have hrx:=h.eval x;have hrb:=h.eval base;obtain⟨⟨av,hba⟩,hrb'⟩:=eY hbn hrb;have hgo:∀ v w',(Builtin.append_ #[t,tx] o.type #[a.eval base,a.eval x]).run Pg w=.ok v w'->Km (a.put o.dst v) w'->o.wp Pg a w Km Q:=by intro v w' hr hkm;refine jG (v:=v) (w':=w') ?_ hkm;simp[execOp,hop,resolve,hcl,invoke,Go.builtin,hargs,htys,hr]
 obtain⟨xs,hwid,hR,hxd,hK,hK0⟩:∃ xs:Unit->List (List D),Wid n xs/\Room (λ_=>((xs ()).length:Nat)) b/\RepD w S (a.eval x) (.sl (xs ()))/\(xs ()≠[]->K (.sl xs))/\(xs ()=[]->∃ pv,K pv/\∀ w' S',Rep w' S' β (a.eval base) pv):=by unfold Jl at hs;split at hs;{rename_i xs hx;rw[hx] at hrx;exact⟨xs,hs.1,hs.2.1,pU hrx,λ_=>hs.2.2,λe=>⟨_,hs.2.2,λw' S'=>by rw[hba];exact .c rfl (by show RepD _ _ _ (.sl (xs ()));rw[e];exact .sl0 _ _)⟩⟩};{rename_i hx;rw[hx] at hrx;exact⟨λ_=>[],⟨λe he=>absurd he (by simp)⟩,⟨by simp,by simp⟩,by rw[dG hrx];exact .sl0 _ _,λe=>absurd rfl e,λ_=>⟨_,hs,λw' S'=>hrb'⟩⟩};grind
 obtain⟨news,hsrc,hcells⟩:=JG hxd hwid.h hk';rw[<-h7] at hsrc;by_cases hx0:(xs ()).length=0;{have hsrc':=hsrc;rw[hx0] at hsrc';have hrun:=tS (w:=w) t tx o.type el j h4 h5 av (a.eval x) news hsrc';rw[<-hba] at hrun;obtain⟨pv,q1,q2⟩:=hK0 (gO hx0);refine hgo _ _ hrun ?_;refine hk _ _ _ _ q1 (Leads.refl h.ld.bnd) ?_;grind}
 ·have hne:xs ()≠[]:=λe=>hx0 (by grind);have hold:(Builtin.firstCells j.size 0 (.slice av 0 0)).run Pg w.drew=.ok ([]:List Value).toArray w.drew:=by
   cases av with
   |none=>grind [run_firstCells_none]| some ad=>grind [run_firstCells_some]
  (have hb1:(xs ()).length<=(xs ()).length*b:=Nat.le_mul_of_pos_right _ h12;have hroom':(xs ()).length*b<=70368744177664:=by have:=hR.hi;omega);have hfit:Builtin.nextslicecap (0+(xs ()).length) 0*j.bytes<=281474976710656:=by
   have:=nextslicecap_le (show 0<0+(xs ()).length by omega);rw[h8]
   calc _<=(2*(0+(xs ()).length))*b:=uR _ this
    _=2*((xs ()).length*b):=by grind
    _<=_:=by omega
  (have hrun:=run_append_grow_src (P:=Pg) w t tx o.type el j zv h4 h5 h6 av 0 0 [] hold (a.eval x) (xs ()).length news hsrc oM oM hfit;rw[<-hba] at hrun;refine hgo _ _ hrun ?_;generalize hcap:grownCap w (0+(xs ()).length) 0 el=cap;have hge:0+(xs ()).length<=cap:=by grind [grownCap_ge]);have hld1:=fF (w:=w) (S:=S) h.ld.bnd
  have hbd:∀ c i,S c i->c<w.drew.heap.size:=h.ld.bnd;have hld2:=Yp (w:=w.drew) (S:=S) hbd (.cells (([]++news).toArray++Builtin.zeroCells zv.cells (cap-(0+(xs ()).length))) el);have hld:=hld1.trans hld2;have hsz:(([]++news).toArray++Builtin.zeroCells zv.cells (cap-(0+(xs ()).length))).size=cap*n:=by rw[GN,aW,h9,Js,Ab,hcells.len,<-jK];grind
  (have hblk:(w.drew.alloc (.cells (([]++news).toArray++Builtin.zeroCells zv.cells (cap-(0+(xs ()).length))) el)).heap[w.heap.size]?=some (.cells (([]++news).toArray++Builtin.zeroCells zv.cells (cap-(0+(xs ()).length))) el (0,0)):=heap_alloc_new w.drew _;have hce:=hcells.evo (hld.evo h.ld.bnd).same (hld.subs h.ld.bnd);refine hk _ _ _ _ (hK hne) hld (.c rfl ?_);show RepD _ _ _ (.sl (xs ()));refine (congrArg (λm=>RepD (w.drew.alloc (.cells (([]++news).toArray++Builtin.zeroCells zv.cells (cap-(0+(xs ()).length))) el)) _ (.slice (some ⟨w.heap.size,0,none⟩) m cap) (.sl (xs ()))) (wQ (xs ()).length)).mpr ?_;have hin:∀ i q,i<(xs ()).length->q<n->i*n+q<news.length:=λi q hi hq=>by rw[hcells.len];exact ZD hi hq);have hval:∀ k,k<news.length->(([]++news).toArray++Builtin.zeroCells zv.cells (cap-(0+(xs ()).length))).getD k undef=news.getD k undef:=λk hk=>rS hk
  (refine RepD.sl (s:=n) (λi q=>news.getD (i*n+q) undef) hne oM (λ_ _ _ _=>Or.inr rfl) hcells.wid (λi q hi hq=>?_) (λi q hi hq=>(hce.at_ i q hi hq).2) (λi q hi hq=>(hce.at_ i q hi hq).1);have hlt:=hin i q hi hq;have hlt2:i*n+q<(([]++news).toArray++Builtin.zeroCells zv.cells (cap-(0+(xs ()).length))).size:=by rw[GN,Js,Ab];omega);have hca:=gQ hblk _ hlt2
  rw[hval _ hlt] at hca;rw[show 0+i*n+q=i*n+q by omega];exact hca
end
end Go.Proofs.YtboocdbmnfjomaaGreat
