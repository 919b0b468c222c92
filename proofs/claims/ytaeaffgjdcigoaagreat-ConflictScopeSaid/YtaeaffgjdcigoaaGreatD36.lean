/- A part of the proof: KcT, KpE, KpG, KpH, KpI. -/
import Derived.Test.YtaeaffgjdcigoaaGreatD35
import Derived.Test.YtaeaffgjdcigoaaGreatD20
import Derived.Test.YtaeaffgjdcigoaaGreatD22
import Derived.Test.YtaeaffgjdcigoaaGreatD31
import Derived.Test.YtaeaffgjdcigoaaGreatD27
import Derived.Test.YtaeaffgjdcigoaaGreatD33
import Derived.Test.YtaeaffgjdcigoaaGreatD34
set_option linter.all false
namespace Go.Proofs.YtaeaffgjdcigoaaGreat
open Go
set_option maxRecDepth 100000
set_option maxHeartbeats 4000000
def rnI (to:List Int) (x:Int):Int:=if 0<x/\x<=to.length then (to[(x-1).toNat]?).getD 0 else x
def rnM (to:List Int) (m:Mult):Mult:=⟨⟨m.row.k,m.row.i,rnI to m.row.lo,rnI to m.row.hi⟩,m.c⟩
def Dk {to:List Int}{x:Int}(h:0<x/\x<=to.length):to[(x-1).toNat]?=some (rnI to x):=by unfold rnI;rw[if_pos h];obtain⟨y,hy⟩:=zQ (l:=to) (i:=(x-1).toNat) oM;rw[hy];rfl
def Ng (l : List Mult) (d : List Int) (hl : l.length < 2^38) (hd : d.length < 2^38) : Sound 76 [mlv l, oV 1000000 1 d.length] [(1000000, aV 1 (enc ic d))] [] (mlv (l.map (rnM d))) [(1000000, aV 1 (enc ic d))] [] := by
  refine sF Tryz.f76 ?_
  obtain ⟨J, hJ⟩ : ∃ J : Nat → List Mult, ∀ i, J i = (l.take i).map (rnM d) := ⟨_, fun _ => rfl⟩
  have hJ0 : J 0 = [] := by rw [hJ]; rfl
  have hJs : ∀ i m, l[i]? = some m → J (i + 1) = J i ++ [rnM d m] := fun i m h => by rw [hJ, hJ, tN, h]; simp
  have hJl : ∀ i, i ≤ l.length → (J i).length = i := fun i h => by rw [hJ, wH, dM]; omega
  have hR : l.map (rnM d) = J l.length := by rw [hJ, vP]
  rw [hR]
  clear hJ hR
  cbv
  refine zW (σ := Nat) (fun i => ⟨[(0, mlv l), (1, oV 1000000 1 d.length), (5, oV 5 7 ((J i).length)), (6, iV i)], [(1000000, aV 1 (enc ic d)), (5, aV 7 (enc mc (J i)))]⟩)
    (fun i => i ≤ l.length) (fun i => l.length - i) 0 (yY _) (.trans (.adoptT 5 7 5 rfl rfl) (.le ?_ ?_ rfl)) ?_
  · cbv; exact ⟨lR, lR, z4 rfl (by rw [hJ0]; rfl), lR, trivial⟩
  · cbv; exact ⟨zG rfl, zG (by rw [hJ0]; rfl), trivial⟩
  intro i hi
  cbv
  refine zE (fun h5 => ?_) (fun h5 => ?_)
  · have hlt := vL h5
    obtain ⟨m, hm⟩ := zQ hlt
    have hs := hJs i m hm
    have hln := hJl i hi
    obtain ⟨⟨k, ri, lo, hi'⟩, c⟩ := m
    obtain ⟨lo2, hlo⟩ := ex (rnI d lo)
    obtain ⟨hi2, hhi⟩ := ex (rnI d hi')
    have a1 : 0 < lo ∧ lo ≤ d.length → d[(lo - 1).toNat]? = some lo2 := fun h => by rw [← hlo]; exact Dk h
    have a2 : ¬ (0 < lo ∧ lo ≤ d.length) → lo2 = lo := fun h => by rw [← hlo]; exact if_neg h
    have b1 : 0 < hi' ∧ hi' ≤ d.length → d[(hi' - 1).toNat]? = some hi2 := fun h => by rw [← hhi]; exact Dk h
    have b2 : ¬ (0 < hi' ∧ hi' ≤ d.length) → hi2 = hi' := fun h => by rw [← hhi]; exact if_neg h
    have hs' : J (i + 1) = J i ++ [⟨⟨k, ri, lo2, hi2⟩, c⟩] := by rw [hs, ← hlo, ← hhi]; rfl
    generalize hA : J i = A at *
    clear hs hlo hhi hJs hJl hJ0
    cbv
    refine yE hm wM xI ?_
    cbv
    by_cases cA : 0 < lo ∧ lo ≤ d.length
    · have gA := a1 cA
      by_cases cB : 0 < hi' ∧ hi' ≤ d.length
      · have gB := b1 cB
        repeat' first
          | (exfalso; (try dsimp only [zV] at *); simp only [zA] at *; omega)
          | (refine zO (fun x => ?_) (fun x => ?_) <;> cbv)
          | (refine zE (fun x => ?_) (fun x => ?_) <;> cbv)
          | (refine ⟨zC om om, yX om om, ?_⟩
             cbv
             refine vO (l := d) (lo - 1).toNat (by exact om) (by exact om) kN fI (fun t ht => ?_)
             obtain rfl := qQ (gA.symm.trans ht)
             cbv)
          | (refine ⟨zC om om, yX om om, ?_⟩
             cbv
             refine vO (l := d) (hi' - 1).toNat (by exact om) (by exact om) kN fI (fun t ht => ?_)
             obtain rfl := qQ (gB.symm.trans ht)
             cbv)
          | (refine rN ?_; cbv)
          | (refine vM qU rfl rfl rfl (by rw [zA]) rfl ⟨by simp [zS, xD]⟩ (z6 (by simp [zS, zA] <;> omega) (by simp [zS, zA] at *; exact om)) rfl ?_
             cbv
             refine ⟨zC om om, i + 1, (show i + 1 ≤ _ by omega), om, .le ?_ ?_ rfl⟩
             · cbv; exact ⟨lR, lR, z4 rfl (by rw [hs', zA]; simp [zS]), zB om, trivial⟩
             · cbv; exact ⟨zG rfl, zG (by rw [hs', ← qK]; rfl), trivial⟩)
      · have gB := b2 cB
        subst gB
        repeat' first
          | (exfalso; (try dsimp only [zV] at *); simp only [zA] at *; omega)
          | (refine zO (fun x => ?_) (fun x => ?_) <;> cbv)
          | (refine zE (fun x => ?_) (fun x => ?_) <;> cbv)
          | (refine ⟨zC om om, yX om om, ?_⟩
             cbv
             refine vO (l := d) (lo - 1).toNat (by exact om) (by exact om) kN fI (fun t ht => ?_)
             obtain rfl := qQ (gA.symm.trans ht)
             cbv)
          | (refine ⟨zC om om, yX om om, ?_⟩
             cbv
             refine vO (l := d) (hi' - 1).toNat (by exact om) (by exact om) kN fI (fun t ht => ?_)
             obtain rfl := qQ (gB.symm.trans ht)
             cbv)
          | (refine rN ?_; cbv)
          | (refine vM qU rfl rfl rfl (by rw [zA]) rfl ⟨by simp [zS, xD]⟩ (z6 (by simp [zS, zA] <;> omega) (by simp [zS, zA] at *; exact om)) rfl ?_
             cbv
             refine ⟨zC om om, i + 1, (show i + 1 ≤ _ by omega), om, .le ?_ ?_ rfl⟩
             · cbv; exact ⟨lR, lR, z4 rfl (by rw [hs', zA]; simp [zS]), zB om, trivial⟩
             · cbv; exact ⟨zG rfl, zG (by rw [hs', ← qK]; rfl), trivial⟩)
    · have gA := a2 cA
      subst gA
      by_cases cB : 0 < hi' ∧ hi' ≤ d.length
      · have gB := b1 cB
        repeat' first
          | (exfalso; (try dsimp only [zV] at *); simp only [zA] at *; omega)
          | (refine zO (fun x => ?_) (fun x => ?_) <;> cbv)
          | (refine zE (fun x => ?_) (fun x => ?_) <;> cbv)
          | (refine ⟨zC om om, yX om om, ?_⟩
             cbv
             refine vO (l := d) (lo - 1).toNat (by exact om) (by exact om) kN fI (fun t ht => ?_)
             obtain rfl := qQ (gA.symm.trans ht)
             cbv)
          | (refine ⟨zC om om, yX om om, ?_⟩
             cbv
             refine vO (l := d) (hi' - 1).toNat (by exact om) (by exact om) kN fI (fun t ht => ?_)
             obtain rfl := qQ (gB.symm.trans ht)
             cbv)
          | (refine rN ?_; cbv)
          | (refine vM qU rfl rfl rfl (by rw [zA]) rfl ⟨by simp [zS, xD]⟩ (z6 (by simp [zS, zA] <;> omega) (by simp [zS, zA] at *; exact om)) rfl ?_
             cbv
             refine ⟨zC om om, i + 1, (show i + 1 ≤ _ by omega), om, .le ?_ ?_ rfl⟩
             · cbv; exact ⟨lR, lR, z4 rfl (by rw [hs', zA]; simp [zS]), zB om, trivial⟩
             · cbv; exact ⟨zG rfl, zG (by rw [hs', ← qK]; rfl), trivial⟩)
      · have gB := b2 cB
        subst gB
        repeat' first
          | (exfalso; (try dsimp only [zV] at *); simp only [zA] at *; omega)
          | (refine zO (fun x => ?_) (fun x => ?_) <;> cbv)
          | (refine zE (fun x => ?_) (fun x => ?_) <;> cbv)
          | (refine ⟨zC om om, yX om om, ?_⟩
             cbv
             refine vO (l := d) (lo - 1).toNat (by exact om) (by exact om) kN fI (fun t ht => ?_)
             obtain rfl := qQ (gA.symm.trans ht)
             cbv)
          | (refine ⟨zC om om, yX om om, ?_⟩
             cbv
             refine vO (l := d) (hi' - 1).toNat (by exact om) (by exact om) kN fI (fun t ht => ?_)
             obtain rfl := qQ (gB.symm.trans ht)
             cbv)
          | (refine rN ?_; cbv)
          | (refine vM qU rfl rfl rfl (by rw [zA]) rfl ⟨by simp [zS, xD]⟩ (z6 (by simp [zS, zA] <;> omega) (by simp [zS, zA] at *; exact om)) rfl ?_
             cbv
             refine ⟨zC om om, i + 1, (show i + 1 ≤ _ by omega), om, .le ?_ ?_ rfl⟩
             · cbv; exact ⟨lR, lR, z4 rfl (by rw [hs', zA]; simp [zS]), zB om, trivial⟩
             · cbv; exact ⟨zG rfl, zG (by rw [hs', ← qK]; rfl), trivial⟩)
  · have hi' := qD h5 hi
    subst hi'
    generalize J l.length = A at *
    cbv
    refine eG (.trans (Wk.sel _ [4] [5, 1000000] rfl) (.frz 5 rfl rfl ?_ ?_)) rfl rfl rfl rfl ?_
    · cbv; exact ⟨z5 (by simp [zA]), trivial⟩
    · cbv
    cbv
    exact zR (by rw [wN, yW (by simp [zA])])
def Ov (D N:Nat) (q:Rat):Prop:=∃ z:Int,q*((D:Int):Rat)=(z:Rat)/\z.natAbs<B^N
theorem Ov.mono {D N M:Nat}{q:Rat}(h:Ov D N q)(hm:N<=M):Ov D M q:=by obtain⟨z,h1,h2⟩:=h;exact⟨z,h1,uP h2 (fY wY hm)⟩
theorem Ov.zero {D N:Nat}:Ov D N 0:=⟨0,by grind,Nat.pow_pos wY⟩
theorem Ov.add {D N:Nat}{a b:Rat}(ha:Ov D N a)(hb:Ov D N b):Ov D (N+1) (a+b):=by obtain⟨y,h1,h2⟩:=ha;obtain⟨z,h3,h4⟩:=hb;refine⟨y+z,by grind,?_⟩;grind [B]
theorem Ov.mul {D E N M:Nat}{a b:Rat}(ha:Ov D N a)(hb:Ov E M b):Ov (D*E) (N+M) (a*b):=by obtain⟨y,h1,h2⟩:=ha;obtain⟨z,h3,h4⟩:=hb;refine⟨y*z,?_,by rw[iP];exact xX h2 h4⟩;grind
theorem Ov.neg {D N:Nat}{a:Rat}(ha:Ov D N a):Ov D N (-a):=by obtain⟨y,h1,h2⟩:=ha;exact⟨-y,by grind,by omega⟩
theorem Ov.up {D E N M:Nat}{q:Rat}(h:Ov D N q)(hE:E<B^M):Ov (D*E) (N+M) q:=by obtain⟨z,h1,h2⟩:=h;refine⟨z*E,?_,by rw[iP,ZJ];exact xX h2 hE⟩;grind
def Dv (q:Rat):q*((q.den:Int):Rat)=(q.num:Rat):=by
 have h:q=mkRat q.num q.den:=(Rat.mkRat_self q).symm;have h0:((q.den:Int):Rat)≠0:=λe=>q.den_nz (by simp_all)
 conv=>lhs;lhs;rw[h,Rat.mkRat_eq_div]
 exact Rat.div_mul_cancel h0
theorem Fits.ov {k:Nat}{q:Rat}(h:Fits k q):Ov q.den k q:=⟨q.num,Dv q,h.num⟩
theorem Ov.fits {D N:Nat}{q:Rat}(h0:0<D)(hD:D<B^N)(h:Ov D N q):Fits N q:=by
 obtain⟨z,h1,h2⟩:=h;have hz:((D:Int):Rat)≠0:=λe=>by have:=Rat.intCast_inj.1 (e.trans (by rfl:(0:Rat)=((0:Int):Rat)));omega
 have e:q=mkRat z D:=by rw[Rat.mkRat_eq_div];show q=(z:Rat)/((D:Int):Rat);grind
 grind [aX]
def DC {e y:Int}{N:Nat}{q:Rat}(h:q*(e:Rat)=(y:Rat))(hy:y.natAbs<B^N):Ov e.natAbs N q:=by
 rcases Int.natAbs_eq e with g|g;{exact⟨y,by grind,hy⟩}
 ·(refine⟨-y,?_,by omega⟩;have g2:((e.natAbs:Int))=-e:=by omega);rw[g2,Rat.intCast_neg,Rat.intCast_neg,<-h]
  grind
def F.cd (f:F) (N:Nat):Prop:=∃ D:Nat,0<D/\D<B^N/\(∀ w,Ov D N (co f.ts w))/\Ov D N f.c
theorem F.cd.mono {f:F}{N M:Nat}(h:f.cd N)(hm:N<=M):f.cd M:=by obtain⟨D,h0,h1,h2,h3⟩:=h;exact⟨D,h0,uP h1 (fY wY hm),λw=>(h2 w).mono hm,h3.mono hm⟩
theorem F.cd.cof {f:F}{N:Nat}(h:f.cd N)(w:Int):Fits N (co f.ts w):=by obtain⟨D,h0,h1,h2,h3⟩:=h;exact (h2 w).fits h0 h1
theorem F.cd.fl {f:F}{N n:Nat}(h:f.cd N)(hc:Cn f.ts)(hl:f.ts.length<=n):f.fl N n:=by refine⟨λt ht=>?_,?_,hl⟩;{have:=h.cof t.1;rw[hc.co_mem ht] at this;omega};{obtain⟨D,h0,h1,h2,h3⟩:=h;exact h3.fits h0 h1}
theorem F.cd.pos {f:F}{N:Nat}(h:f.cd N):1<=N:=by
 obtain⟨D,h0,h1,h2,h3⟩:=h;cases N with
 |zero=>grind| succ n=>omega
def CJ {hi:Int}:∀ {l:List (Int×Rat)} {lo:Int},Cn l->(∀ t,t∈l->lo<=t.1/\t.1<hi)->lo<=hi->(l.length:Int)<=hi-lo
 |[],lo,_,_,h=>by grind| t::r,lo,hc,hv,h=>by obtain⟨h1,h2⟩:=hv t wB;have:=CJ (hi:=hi) (l:=r) (lo:=t.1+1) hc.tail (λu hu=>by have g1:=hc.lt u hu;grind) oM;grind
theorem F.wf.len {f:F}{n:Nat}(h:f.wf (n:Int)):f.ts.length<=n:=by have:=CJ h.cn h.v (by omega:(0:Int)<=(n:Int));omega
theorem F.cd.subst {f g:F}{v:Int}{N M:Nat}(hc:Cn f.ts)(hf:f.cd N)(hg:g.cd M):(f.subst v g).cd (N+M+1):=by
 obtain⟨D,d0,d1,d2,d3⟩:=hf;obtain⟨E,e0,e1,e2,e3⟩:=hg;refine⟨D*E,ZH d0 e0,uP (xX d1 e1) (fY wY oM),λw=>?_,?_⟩
 ·(have h2:Ov (D*E) (N+M) (co g.ts w*co f.ts v):=by rw[Rat.mul_comm];exact (d2 v).mul (e2 w));unfold F.subst
  rw[XW,cH];refine Ov.add ?_ h2;show Ov _ _ (co (xK v _ false f.ts) w);rw[oU w hc];split;{rename_i e;rw[<-e,show co f.ts v+-(co f.ts v)=0 by grind];exact Ov.zero};{rw[Rat.add_zero];exact (d2 w).up e1}
 {show Ov _ _ (f.c+(0+g.c*co f.ts v)*1);rw[Rat.zero_add,Rat.mul_one];exact (d3.up e1).add (by rw[Rat.mul_comm];exact (d2 v).mul e3)}
def FI {f g:F}{v:Int}(hc:Cn f.ts)(w:Int):co (f.subst v g).ts w=(if v=w then 0 else co f.ts w)+co g.ts w*co f.ts v:=by grind [F.subst,XW,cH,oU]
def R9 {S:Nat}{lo hi:Rat}(hl:Fits S lo)(hh:Fits S hi)(h:hi-lo≠0):∃ E:Nat,0<E/\E<B^(2*S+1)/\Ov E (2*S) (hi/(hi-lo))/\Ov E (2*S) (-(lo*hi)/(hi-lo)):=by
 have k1:=Dv hi;have k2:=Dv lo;have e2:2*S=S+S:=by omega
 have b1:=xX hh.num hl.den;have b2:=xX hl.num hh.den;have b3:=xX hl.num hh.num;rw[<-e2] at b1 b2 b3;obtain⟨e,he⟩:∃ e:Int,e=hi.num*lo.den-lo.num*hi.den:=⟨_,rfl⟩;have k3:(hi-lo)*(((hi.den:Int):Rat)*((lo.den:Int):Rat))=(e:Rat):=by rw[he,Rat.intCast_sub,Rat.intCast_mul,Rat.intCast_mul,<-k1,<-k2];grind
 have k5:hi/(hi-lo)*(e:Rat)=((hi.num*lo.den:Int):Rat):=by grind
 have k6:-(lo*hi)/(hi-lo)*(e:Rat)=((-(lo.num*hi.num):Int):Rat):=by grind
 have e0:e≠0:=λe0=>by rw[e0] at k3;have z1:((hi.den:Int):Rat)≠0:=λe=>hi.den_nz (by have:=Rat.intCast_inj.1 (e.trans (by rfl:(0:Rat)=((0:Int):Rat)));omega);have z2:((lo.den:Int):Rat)≠0:=λe=>lo.den_nz (by have:=Rat.intCast_inj.1 (e.trans (by rfl:(0:Rat)=((0:Int):Rat)));omega);grind
 refine⟨e.natAbs,by omega,?_,DC k5 (by grind [Int.natAbs_mul]),DC k6 (by grind [Int.natAbs_mul])⟩;have h5:B^(2*S+1)=B^(2*S)*B:=uH _ _;have h6:B^(2*S)*2<=B^(2*S)*B:=vS _ (by decide);have h7:e.natAbs<=hi.num.natAbs*lo.den+lo.num.natAbs*hi.den:=by rw[he];refine vI (Int.natAbs_sub_le _ _) ?_;rw[iP,iP,ZJ,ZJ];omega
 omega
def ME {p:F}{lo hi:Rat}{P S:Nat}(hp:p.cd P)(hl:Fits S lo)(hh:Fits S hi)(h:hi-lo≠0):((p.scale (hi/(hi-lo))).add (F.num (-(lo*hi)/(hi-lo)))).cd (P+2*S+1):=by obtain⟨D,d0,d1,d2,d3⟩:=hp;obtain⟨E,e0,e1,e2,e3⟩:=R9 hl hh h;refine⟨D*E,ZH d0 e0,?_,λw=>?_,?_⟩;{have:=xX d1 e1;omega};{rw[XW,iI,cH,Rat.add_zero];exact ((d2 w).mul e2).mono oM};{show Ov _ _ ((0+p.c*_)+(-(lo*hi)/(hi-lo))*1);rw[Rat.zero_add,Rat.mul_one];have h2:=e3.up d1;rw[qT] at h2;exact (d3.mul e2).add (h2.mono oM)}
def Xs {c:Rat}{N k:Nat}(hc:Fits N c):∀ {b a:List (Row×Rat)} {A:Nat},(∀ t,t∈b->Fits k t.2)->(∀ t,t∈a->Fits A t.2)->∀ t,t∈xS a b c->Fits (A+(k+N+1)*b.length) t.2
 |[],a,A,_,ha,t,ht=>by rw[tM];exact ha t ht| x::r,a,A,hb,ha,t,ht=>by have h1:=eT (r:=x.1) (y7 (hb x wB) hc) ha;have:=Xs hc (b:=r) (a:=plMq a x.1 (x.2*c)) (λu hu=>hb u (x9 _ hu)) h1 t ht;refine this.mono ?_;rw[cX,qG];omega
structure Pays (s:Scp) (N hi:Nat) (G H:Nat->Nat):Prop where
 m:∀ v,v<hi->G v<=G (v+1)/\H v<=H (v+1)
 b:∀ v:Nat,v<hi->∀ up b,s.ofB v up=some b->∃ m k,Fits m b.1.q/\(∀ t,t∈b.2->Fits k t.2)/\b.2.length<=2/\G v+m+1<=G (v+1)/\H v+(k+N+1)*b.2.length<=H (v+1)
def nF {G:Nat->Nat}{hi:Nat}(h:∀ v,v<hi->G v<=G (v+1)){a b:Nat}(hab:a<=b)(hb:b<=hi):G a<=G b:=by
 induction b with
 |zero=>grind| succ b ih =>
  grind
def HI {D E N M e m:Nat}{a c b:Rat}(ha:Ov (D*E) M a)(hc:Ov D N c)(hb:Fits m b)(h1:E<B^e)(h2:e+N<=M):Ov (D*(E*b.den)) (M+m+1) (a+c*b):=by
 have n1:Ov (D*(E*b.den)) (M+m) a:=by have:=ha.up hb.den;grind
 have n2:Ov (D*(E*b.den)) (M+m) (c*b):=by have:=(hc.mul hb.ov).up h1;rw[gU,qT _ E] at this;exact this.mono oM
 exact n1.add n2
def Gf {s:Scp}{D N hi:Nat}{G H:Nat->Nat}(hG:Pays s N hi G H):∀ {ts:List (Int×Rat)} {a a':Rat} {l l':List (Row×Rat)} {lo M e E A:Nat},Cn ts->(∀ t,t∈ts->(lo:Int)<=t.1/\t.1<hi)->lo<=hi->(∀ t,t∈ts->Ov D N t.2/\Fits N t.2)->0<E->E<B^e->e+N<=M->Ov (D*E) M a->(∀ u,u∈l->Fits A u.2)->s.boxL ts a l=some (a',l') ->∃ M' e' E' A',0<E'/\E'<B^e'/\e'+N<=M'/\Ov (D*E') M' a'/\M'+G lo<=M+G hi/\A'+H lo<=A+H hi/\(∀ u,u∈l'->Fits A' u.2)/\l'.length<=l.length+2*ts.length
 |[],a,a',l,l',lo,M,e,E,A,_,_,hlh,_,h0,h1,h2,h3,h4,h=>by cases h;have:=nF (λv hv=>(hG.m v hv).1) hlh (yC _);have:=nF (λv hv=>(hG.m v hv).2) hlh (yC _);exact⟨M,e,E,A,h0,h1,h2,h3,by omega,by omega,h4,by simp⟩
 |t::r,a,a',l,l',lo,M,e,E,A,hc,hv,hlh,hf,h0,h1,h2,h3,h4,h=>by
  obtain⟨g1,g2⟩:=hv t wB;obtain⟨v,hv1⟩:∃ v:Nat,t.1=v:=⟨t.1.toNat,by omega⟩;unfold Scp.boxL at h;rw[hv1] at h;cases hb:s.ofB v (decide (yB t.2<0)) with
  |none=>grind| some b =>
   rw[hb] at h;obtain⟨m,k,b1,b2,b3,b4,b5⟩:=hG.b v oM _ b hb;obtain⟨c1,c2⟩:=hf t wB;have hl2:=nG (vG t.2) b.2 l;obtain⟨M',e',E',A',k1,k2,k3,k4,k5,k6,k7,k8⟩:=Gf hG (lo:=v+1) (M:=M+m+1) (e:=e+m) (A:=A+(k+N+1)*b.2.length) hc.tail
    (λu hu=>by have:=hc.lt u hu;grind) oM (λu hu=>hf u (x9 _ hu))
    (ZH h0 b.1.q.den_pos) (xX h1 b1.den) oM (HI h3 c1 b1 h1 h2) (Xs (jJ c2) b2 h4) h
   have z1:=nF (λv hv=>(hG.m v hv).1) (a:=lo) (b:=v) oM oM;have z2:=nF (λv hv=>(hG.m v hv).2) (a:=lo) (b:=v) oM oM;refine⟨M',e',E',A',k1,k2,k3,k4,by omega,by omega,k7,?_⟩;grind
def JZ {s:Scp}{N hi:Nat}{G H:Nat->Nat}(hG:Pays s N hi G H){f:F}(hf:f.cd N)(hw:f.wf (hi:Int))(i:Nat){a:Rat}{l:List (Row×Rat)}(h:s.boxL (f.ts.take i) f.c []=some (a,l)):Fits (N+1+G hi) a/\(∀ t,t∈l->Fits (H hi) t.2)/\l.length<=2*hi:=by
 have hfl:=hf.fl hw.cn (yC _);obtain⟨D,d0,d1,d2,d3⟩:=hf;obtain⟨M',e',E',A',k1,k2,k3,k4,k5,k6,k7,k8⟩:=Gf (D:=D) (lo:=0) (M:=N+1) (e:=1) (E:=1) (A:=0) hG (hw.cn.take i) (λt ht=>by have:=hw.v t (bB ht);omega) (yY _)
  (λt ht=>by have ht:=bB ht;have:=d2 t.1;rw[hw.cn.co_mem ht] at this;exact⟨this,hfl.t t ht⟩) Nat.one_pos (by decide) oM (by rw[tG];exact d3.mono oM) (λu hu=>absurd hu (by simp)) h
 have hl:=hw.len;have hl2:(f.ts.take i).length<=f.ts.length:=by grind
 refine⟨k4.fits (ZH d0 k1) ?_ |>.mono oM,λt ht=>(k7 t ht).mono oM,?_⟩;{exact uP (xX d1 k2) (fY wY oM)};grind
theorem Ck (raw:List UInt8)(a:Nat):Ov 4 1 (fdQ raw a).1:=by
 have h1:=qZ (raw:=raw) (n:=9) (a:=a) (by decide);have key:∀ m k:Nat,m<9->∃ z:Int,iE ((m:Int)-4) (dnm k)*(((4:Nat):Int):Rat)=(z:Rat)/\z.natAbs<B^1:=λm k hm=>by
  (have e:∀ m:Fin 9,∀ k:Fin 4,∃ z:Fin 33,iE ((m.val:Int)-4) (dnm k.val)*(((4:Nat):Int):Rat)=(((z.val:Int)-16:Int):Rat):=by decide +kernel);have hk:dnm k=dnm (if k<4 then k else 3):=by split;{rfl};{unfold dnm;grind}
  obtain⟨z,hz⟩:=e ⟨m,hm⟩ ⟨if k<4 then k else 3,by grind⟩;refine⟨_,by rw[hk];exact hz,?_⟩;have:=z.isLt;have hB:B^1=4294967296:=rfl;omega
 exact key _ _ h1
def UV (raw:List UInt8):∀ (n v:Nat) (f:F) (a:Nat),(∀ w,Ov 4 1 (co f.ts w))->Ov 4 1 f.c->(∀ w,(v:Int)<=w->co f.ts w=0)->(∀ w,Ov 4 1 (co (tP raw n v f a).1.ts w))/\Ov 4 1 (tP raw n v f a).1.c
 |0,v,f,a,h1,h2,h3=>⟨h1,h2⟩| n+1,v,f,a,h1,h2,h3=>by
  unfold tP;split
  ·(have e:∀ w,co (f.add ((F.var v).scale (fdQ raw (na raw a)).1)).ts w=co f.ts w+dlt v w*(fdQ raw (na raw a)).1:=λw=>by rw[XW,cH,iG]);refine UV raw n (v+1) _ _ (λw=>?_) ?_ (λw hw=>?_)
   {rw[e];unfold dlt;split;{rename_i g;rw[h3 w oM,Rat.zero_add,Rat.one_mul];grind [Ck]};grind};{show Ov 4 1 (f.c+(0+(0:Rat)*(fdQ raw (na raw a)).1)*1);grind};{rw[e,h3 w oM];unfold dlt;grind}
  {exact UV raw n (v+1) f _ h1 h2 (λw hw=>h3 w oM)}
theorem Cr (raw:List UInt8)(n a:Nat):(fdF raw n a).1.cd 1:=by obtain⟨h1,h2⟩:=UV raw n 0 (F.num (fdQ raw a).1) (fdQ raw a).2 (λw=>by rw[iI];exact Ov.zero) (Ck raw a) (λw _=>iI _ w);exact⟨4,by decide,by decide,h1,h2⟩
def Cl {raw:List UInt8}{d:Nat}:∀ {n v a:Nat} {f:F},f∈(fdL raw d n v a).1->f.cd 1
 |0,v,a,f,h=>absurd h (by simp[fdL])| n+1,v,a,f,h=>by rcases yM.1 h with rfl|h;{grind [Cr]};{exact Cl (n:=n) h}
theorem F.cd.neg1 {f:F}{N:Nat}(h:f.cd N):(f.scale (-1)).cd N:=by obtain⟨D,h0,h1,h2,h3⟩:=h;refine⟨D,h0,h1,λw=>?_,?_⟩;{rw[cH,show co f.ts w * -1=-(co f.ts w) by grind];exact (h2 w).neg};{show Ov D N (0+f.c * -1);rw[show 0+f.c * -1=-f.c by grind];exact h3.neg}
structure RoIn (s:Scp) (r:Row):Prop where
 i:0<=r.i/\r.i<1024
 p:r.k=4->r.i<s.path.length
 lo:0<=r.lo/\r.lo<=s.lems.length
 hi:0<=r.hi/\r.hi<=s.lems.length
def KB:Nat->Nat
 |0=>60| 1=>184| 2=>556| _=>1672
def WC (i:Nat):1<=KB i:=by unfold KB;grind
def Gu (i:Nat):KB i<=1672:=by unfold KB;grind
structure Isz (x:FQry) (s:Scp):Prop where
 g:s.q.g=x.q.g
 r:s.q.r=x.q.r
 p:∀ d,d∈s.path->d.x.sz 3
 pl:s.path.length<=1000
 lb:LB KB s.lems
theorem tE (s:Scp)(j:Int):(s.best j).1<=s.lems.length/\(s.best j).2<=s.lems.length:=by constructor;{by_cases h:(s.best j).1=0;{omega};{obtain⟨m,hm,_⟩:=dK (s:=s) (unit:=j) (.inl rfl) h;grind}};{by_cases h:(s.best j).2=0;{omega};{obtain⟨m,hm,_⟩:=dK (s:=s) (unit:=j) (.inr rfl) h;grind}}
theorem aH {s:Scp}{k lo hi:Int}{j:Nat}(hj:j<1024)(hk:k≠4)(h1:0<=lo/\lo<=s.lems.length)(h2:0<=hi/\hi<=s.lems.length):RoIn s ⟨k,j,lo,hi⟩:=⟨by grind,λh=>absurd h hk,h1,h2⟩
def H3 {q:Qry}{up:Bool}{i:Int}{P:Bd->Prop}(n:Nat):∀ {l:List Dec} {k:Nat} {b:Bd},k+l.length<=n->P b->(∀ d,d∈l->∀ k:Nat,k<n->P (d.x,[(⟨4,k,0,0⟩,1)]))->P (inG q up i k l b)
 |[],k,b,_,h,_=>h| d::r,k,b,hn,h,hd=>by unfold inG;rw[cX] at hn;refine H3 n oM ?_ (λe he=>hd e (x9 _ he));grind
def Ps {x:FQry}{s:Scp}(hx:x.small)(h:Isz x s){i:Nat}(hi:i<x.g.n)(up:Bool):(s.inB i up).1.sz 3/\∃ r,(s.inB i up).2=[(r,1)]/\RoIn s r/\r.k<=4:=by
 have hn2:=hx.g.n2;have hpl:=h.pl;have z:(0:Int)<=0/\(0:Int)<=(s.lems.length:Int):=by omega
 have hs:∀ (g:Rat×Rat->Rat),(∀ b,b∈x.r.bs->Fits 3 (g b))->(((x.r.bs.map λb=>zI (g b))[((i:Int)).toNat]?).getD R0).sz 3:=λg hg=>by
  cases hy:(x.r.bs.map λb=>zI (g b))[((i:Int)).toNat]? with
  |none=>exact⟨yY _,yY _⟩| some y =>
   obtain⟨b,hb,rfl⟩:=xB.1 (z8 hy);grind [zU]
 have hlo:((s.q.r.lo[((i:Int)).toNat]?).getD R0).sz 3:=by rw[h.r];exact hs Prod.fst λb hb=>(hx.r.bf b hb).1
 have hhi:((s.q.r.hi[((i:Int)).toNat]?).getD R0).sz 3:=by rw[h.r];exact hs Prod.snd λb hb=>(hx.r.bf b hb).2
 unfold Scp.inB;refine H3 (P:=λb=>b.1.sz 3/\∃ r,b.2=[(r,1)]/\RoIn s r/\r.k<=4) s.path.length oM ?_ (λd hd k hk=>⟨h.p d hd,_,rfl,⟨by grind,λ_=>by grind,z,z⟩,by grind⟩);cases up;{exact⟨hlo,_,rfl,aH oM (by decide) z z,by grind⟩};{exact⟨hhi,_,rfl,aH oM (by decide) z z,by grind⟩}
def Yz {s:Scp}(h:LB KB s.lems){j:Nat}(h0:(s.best j).1≠0):Fits (KB j) (s.vLo j):=Yy h (.inl rfl) h0
def Ql {s:Scp}(h:LB KB s.lems){j:Nat}(h0:(s.best j).2≠0):Fits (KB j) (s.vHi j):=Yy h (.inr rfl) h0
def DH {s:Scp}{j:Nat}(hj:j<1024):RoIn s (s.onR j).1:=by grind [tE,Scp.onR,aH]
theorem HL {s:Scp}{j:Nat}(hj:j<1024):RoIn s (s.offR j).1:=by grind [tE,Scp.offR,aH]
structure BdOk (s:Scp) (b:Bd) (m k n:Nat):Prop where
 sz:b.1.sz m
 c:∀ t,t∈b.2->Fits k t.2
 r:∀ t,t∈b.2->RoIn s t.1
 len:b.2.length<=n
theorem bd1 {s:Scp}{x:R}{m k:Nat}{r:Row}(hx:x.sz m)(hk:1<=k)(hr:RoIn s r):BdOk s (x,[(r,1)]) m k 2 :=
 ⟨hx,λt ht=>by obtain rfl:=jA.1 ht;exact fits_one.mono hk,λt ht=>by grind,by grind⟩
def bd2 {s:Scp}{x:R}{m k:Nat}{r r':Row}{a b:Rat}(hx:x.sz m)(ha:Fits k a)(hb:Fits k b)(hr:RoIn s r)(hr':RoIn s r'):BdOk s (x,[(r,a),(r',b)]) m k 2 :=
 ⟨hx,λt ht=>by
  grind,λt ht=>by
  grind,by grind⟩
def Xe {x:FQry}{s:Scp}(hx:x.small)(h:Isz x s){v:Nat}(hv:v<x.g.n){up:Bool}{b:Bd}(hb:s.ofB v up=some b):BdOk s b 3 1 1/\(∀ t,t∈b.2->t.2=1/\t.1.k<=4):=by
 have hn:s.q.g.n=(x.g.n:Int):=by rw[h.g];rfl
 unfold Scp.ofB at hb;rw[hn,if_pos oM] at hb;cases hb;obtain⟨g1,r,g2,g3,g4⟩:=Ps hx h hv up;rw[g2];exact⟨⟨g1,λt ht=>by rw[g2] at ht;obtain rfl:=jA.1 ht;exact fits_one,λt ht=>by grind,by grind⟩,λt ht=>by grind⟩
def JA {x:FQry}{s:Scp}(h:Isz x s){j:Nat}(hj:j<1024){up:Bool}{b:Bd}(hb:s.ofB ((x.g.n+j:Nat):Int) up=some b):BdOk s b (KB j) (3*KB j+3) 2:=by
 have hn:s.q.g.n=(x.g.n:Int):=by rw[h.g];rfl
 have kp:=WC j;have z0:R0.sz (KB j):=⟨yY _,yY _⟩;have hlb:=h.lb;have b1:=(tE s j).1;have b2:=(tE s j).2;have z:(0:Int)<=0/\(0:Int)<=(s.lems.length:Int):=by omega
 unfold Scp.ofB at hb;rw[hn,if_neg oM,show ((x.g.n+j:Nat):Int)-(x.g.n:Int)=(j:Int) by omega] at hb;split at hb
 ·unfold Scp.moB at hb;split at hb;{grind [bd1,HL]};split at hb;{cases hb};rename_i hc;have f2:=Ql hlb (j:=j) (λe=>hc (.inl e));split at hb;{cases hb;exact bd2 (zU f2) (fits_one.mono oM) (fits_one.mono oM) (DH hj) (aH hj (by decide) z oM)}
  ·(rename_i hon;have f1:=Yz hlb (j:=j) (λe=>hc (.inr ⟨by grind,e⟩));have fi:Fits (2*KB j+2) (1/(s.vHi j-s.vLo j)):=by rw[sJ];exact (y7 fits_one (cC (vR f2 f1))).mono oM);cases hb
   exact bd2 (zU f2) ((y7 fi f2).mono oM) (fi.mono oM) (aH hj (by decide) z oM) (aH hj (by decide) oM oM)
 {unfold Scp.leB at hb;split at hb;{grind [bd1,aH]};{rename_i hc;have f1:=Yz hlb (j:=j) (λe=>hc (.inl e));cases hb;exact bd2 (zU f1) (fits_one.mono oM) (fits_one.mono oM) (aH hj (by decide) z z) (aH hj (by decide) oM z)}}
def pgv (n:Nat):Nat->Nat
 |0=>0| v+1=>pgv n v+(if v<n then 4 else KB (v-n)+1)
def pgm (N n:Nat):Nat->Nat
 |0=>0| v+1=>pgm N n v+(if v<n then N+2 else 6*KB (v-n)+2*N+8)
def Dz {n v:Nat}(h:v<n):pgv n (v+1)=pgv n v+4:=by show pgv n v+(if v<n then 4 else _)=_;grind
def DA {N n v:Nat}(h:v<n):pgm N n (v+1)=pgm N n v+(N+2):=by show pgm N n v+(if v<n then N+2 else _)=_;grind
def Pb (n j:Nat):pgv n (n+j+1)=pgv n (n+j)+(KB j+1):=by show pgv n (n+j)+(if n+j<n then 4 else _)=_;grind
def Pe (N n j:Nat):pgm N n (n+j+1)=pgm N n (n+j)+(6*KB j+2*N+8):=by show pgm N n (n+j)+(if n+j<n then N+2 else _)=_;grind
def Jy (n v:Nat):pgv n v<=pgv n (v+1):=by grind [pgv]
def Pd (N n v:Nat):pgm N n v<=pgm N n (v+1):=by grind [pgm]
def Sd (n:Nat):∀ m,m<=n->pgv n m=4*m
 |0,_=>rfl| m+1,h=>by rw[Dz oM,Sd n m oM];omega
def Se (N n:Nat):∀ m,m<=n->pgm N n m=(N+2)*m
 |0,_=>rfl| m+1,h=>by rw[DA oM,Se N n m oM,Nat.mul_succ]
def QK {x:FQry}{s:Scp}(hx:x.small)(h:Isz x s)(N:Nat){hi:Nat}(hh:hi<=x.g.n+x.g.us.length):Pays s N hi (pgv x.g.n) (pgm N x.g.n):=by have hus:=hx.g.us;refine⟨λv hv=>⟨Jy _ _,Pd _ _ _⟩,λv hv up b hb=>?_⟩;by_cases hvn:v<x.g.n;{obtain⟨g,_⟩:=Xe hx h hvn hb;have e:=Dz hvn;have e':=DA (N:=N) hvn;refine⟨3,1,g.sz.fits (by decide),g.c,vI g.len (by decide),by omega,?_⟩;have:=vS (1+N+1) g.len;omega};{obtain⟨j,rfl⟩:∃ j,v=x.g.n+j:=⟨v-x.g.n,by omega⟩;have g:=JA h (j:=j) oM hb;have e:=Pb x.g.n j;have e':=Pe N x.g.n j;refine⟨KB j,3*KB j+3,g.sz.fits (WC j),g.c,g.len,by omega,?_⟩;have:=vS (3*KB j+3+N+1) g.len;omega}
def Vk {l:List (Row×Rat)}{r:Row}{q:Rat}{P:Row->Prop}(hl:∀ t,t∈l->P t.1)(hr:P r):∀ t,t∈plMq l r q->P t.1:=λt ht=>by grind [plMq,Us]
def sX {c:Rat}{P:Row->Prop}:∀ {b a:List (Row×Rat)},(∀ t,t∈b->P t.1)->(∀ t,t∈a->P t.1)->∀ t,t∈xS a b c->P t.1
 |[],a,_,ha,t,ht=>ha t ht| x::r,a,hb,ha,t,ht=>sX (b:=r) (a:=plMq a x.1 (x.2*c)) (λu hu=>hb u (x9 _ hu)) (Vk ha (hb x wB)) t ht
def Wa {s:Scp}{P:Row->Prop}:∀ {ts:List (Int×Rat)} {a a':Rat} {l l':List (Row×Rat)},(∀ t,t∈ts->∀ up b,s.ofB t.1 up=some b->∀ u,u∈b.2->P u.1)->(∀ u,u∈l->P u.1)->s.boxL ts a l=some (a',l')->∀ u,u∈l'->P u.1
 |[],a,a',l,l',_,hl,h=>by cases h;exact hl
 |t::r,a,a',l,l',hb,hl,h=>by
  unfold Scp.boxL at h;cases hx:s.ofB t.1 (decide (yB t.2<0)) with
  |none=>grind| some b =>
   rw[hx] at h;exact Wa (ts:=r) (λu hu=>hb u (x9 _ hu)) (sX (hb t wB _ b hx) hl) h
def Gg {s:Scp}:∀ {ts:List (Int×Rat)} {a a':Rat} {l l':List (Row×Rat)},(∀ t,t∈ts->∀ up b,s.ofB t.1 up=some b->∀ u,u∈b.2->0<=u.2)->Rs l->s.boxL ts a l=some (a',l')->Rs l'
 |[],a,a',l,l',_,hl,h=>by cases h;exact hl
 |t::r,a,a',l,l',hb,hl,h=>by
  unfold Scp.boxL at h;cases hx:s.ofB t.1 (decide (yB t.2<0)) with
  |none=>grind| some b =>
   rw[hx] at h;exact Gg (ts:=r) (λu hu=>hb u (x9 _ hu)) (WA (Gt _) (hb t wB _ b hx) hl) h
def VK {s:Scp}:∀ {ts:List (Int×Rat)} {a:Rat} {l:List (Row×Rat)},(∀ t,t∈ts->∀ up,(s.ofB t.1 up).isSome=true)->(s.boxL ts a l).isSome=true
 |[],a,l,_=>rfl| t::r,a,l,hb=>by
  unfold Scp.boxL;have:=hb t wB (decide (yB t.2<0));cases hx:s.ofB t.1 (decide (yB t.2<0)) with
  |none=>grind| some b=>exact VK (ts:=r) (λu hu=>hb u (x9 _ hu))
def Dj {a b:Row}(h:vK a b=true):a≠b:=λe=>R3 (by rw[e] at h;exact h)
def HF {r:Row}{q:Rat}:∀ {l:List (Row×Rat)},(∀ t,t∈l->t.1≠r)->∀ t,t∈plM r q l->t∈l\/t=(r,q)
 |[],_,t,h=>.inr (by grind [plM])| a::rest,hl,t,h=>by
  unfold plM at h;split at h
  ·rcases yM.1 h with rfl|h;{grind}
   ·rcases HF (λu hu=>hl u (x9 _ hu)) t h with g|g
    all_goals grind
  grind
def Xr {c:Rat}:∀ {b a:List (Row×Rat)},Rs b->(∀ t,t∈b->∀ u,u∈a->u.1≠t.1)->∀ t,t∈xS a b c->t∈a\/∃ u,u∈b/\t=(u.1,u.2*c)
 |[],a,_,_,t,ht=>.inl ht| x::r,a,hb,hd,t,ht=>by
  (have key:∀ u,u∈plMq a x.1 (x.2*c)->u∈a\/u=(x.1,x.2*c):=λu hu=>by unfold plMq at hu;split at hu;{grind};{exact HF (λw hw=>hd x wB w hw) u hu});rcases Xr (b:=r) (a:=plMq a x.1 (x.2*c)) hb.tail (λu hu w hw=>by
   rcases key w hw with g|g;{grind}
   ·rw[g];exact Dj (hb.lt u hu)) t ht with g|⟨u,hu,e⟩
  all_goals grind
def J7 {N:Nat}(h:1<=N):F.zero.cd N:=⟨1,by decide,uP (show 1<B^1 by decide) (fY wY h),λw=>Ov.zero,Ov.zero⟩
def Ai {x:FQry}{s:Scp}(h:Isz x s){j:Nat}(hj:j<1024){p:F}{c:Rat}{N:Nat}(hc:Fits N c)(hp:p.cd 1){n:Int}(hw:p.wf n){y:Row×F×Rat}(hr:s.repl p c j=some y):y.2.1.cd (2*KB j+2)/\y.2.1.wf n/\Fits (N+2*KB j+2) y.2.2/\RoIn s y.1/\5<=y.1.k:=by
 have ha:=jJ hc;have hlb:=h.lb;have b1:=(tE s j).1;have b2:=(tE s j).2;have z:(0:Int)<=0/\(0:Int)<=(s.lems.length:Int):=by omega
 have k8:5<=(s.onR j).1.k:=by grind [Scp.onR]
 have k10:5<=(s.offR j).1.k:=by grind [Scp.offR]
 unfold Scp.repl at hr;split at hr;{cases hr;refine⟨hp.mono oM,hw,ha.mono oM,?_,?_⟩;{split;{grind [aH]};{exact DH hj}};grind};rename_i hon;split at hr;{cases hr;refine⟨J7 oM,F.wf.zero0 n,ha.mono oM,?_,?_⟩;{split;{exact HL hj};grind [aH]};grind};rename_i hoff;split at hr;{split at hr;{cases hr;exact⟨hp.mono oM,hw,ha.mono oM,aH hj (by decide) z z,by grind⟩};{cases hr;exact⟨J7 oM,F.wf.zero0 n,ha.mono oM,aH hj (by decide) z z,by grind⟩}};split at hr;{cases hr};rename_i hb;have f1:=Yz hlb (j:=j) (λe=>hb (.inl e));have f2:=Ql hlb (j:=j) (λe=>hb (.inr e));have g1:yB (s.vLo j)<0:=by unfold Scp.onR at hon;grind
 have g2:0<yB (s.vHi j):=by unfold Scp.offR at hoff;grind
 have hne:s.vHi j-s.vLo j≠0:=(iX (by grind [lM])).1;cases hr;refine⟨(ME hp f1 f2 hne).mono oM,F.wf.add hw.scale (F.wf.num _ _),?_,aH hj (by decide) oM oM,by grind⟩;show Fits _ (vG c/(s.vHi j-s.vLo j));rw[sJ];exact (y7 ha (cC (vR f2 f1))).mono oM
def sg:Nat->Nat
 |0=>0| i+1=>sg i+(2*KB i+4)
structure BP (x:FQry) (s:Scp) (T J i:Nat) (y:F×List (Row×Rat)):Prop where
 cd:∃ N,y.1.cd N/\N+sg (min i J)<=T
 wf:y.1.wf ((x.g.n+min i J:Nat):Int)
 l:∃ A,(∀ t,t∈y.2->Fits A t.2)/\A+min i J*T<=J*T
 len:y.2.length+min i J<=J
 rows:∀ t,t∈y.2->RoIn s t.1/\5<=t.1.k
def K1 {x:FQry}{s:Scp}(hq:s.q.g=x.q.g){i:Nat}{pa:A}(hp:s.q.g.us[i]?=some pa):∃ g,x.g.us[i]?=some g/\pa=fA g:=by rw[hq] at hp;have hp':(x.g.us.map fA)[i]?=some pa:=hp;grind
def J8 {f:F}{n:Nat}(h:f.wf ((n+1:Nat):Int))(h0:co f.ts (n:Int)=0):f.wf (n:Int):=⟨h.cn,λt ht=>by
 obtain⟨h1,h2⟩:=h.v t ht;refine⟨h1,?_⟩;by_cases e:t.1=(n:Int);{exact absurd (by rw[<-h.cn.co_mem ht,e];exact h0) (h.cn.n t ht)}
 ·omega⟩
def FH {f g:F}{n:Nat}(hf:f.wf ((n+1:Nat):Int))(hg:g.wf (n:Int)):(f.subst (n:Int) g).wf (n:Int):=by
 have h1:(f.subst (n:Int) g).wf ((n+1:Nat):Int):=by refine F.wf.add ⟨Cn.plus hf.cn,λt ht=>?_⟩ (hg.mono oM).scale;rcases pC ht with e|⟨u,hu,e⟩;{omega};{rw[<-e];exact hf.v u hu}
 refine J8 h1 ?_;rw[FI hf.cn,if_pos rfl,tB (l:=g.ts) (λt ht=>by have:=(hg.v t ht).2;omega)];grind
def Vi {x:FQry}{s:Scp}(hx:x.small)(hok:x.ok)(h:Isz x s)(q4:∀ f,f∈x.g.us->f.cd 1){T J i:Nat}{pa:A}(hp:s.q.g.us[i]?=some pa){y z:F×List (Row×Rat)}(hy:BP x s T J (i+1) y)(hr:s.rep1 pa.f i y=some z):BP x s T J i z:=by
 have hn:s.q.g.n=(x.g.n:Int):=by rw[h.g];rfl
 obtain⟨g,hg,rfl⟩:=K1 h.g hp;have hlt:=(vV.1 hg).1;have hus:=hx.g.us;rw[kL] at hr;obtain⟨⟨N,c1,c2⟩,w,⟨A,l1,l2⟩,len,rows⟩:=hy;unfold Scp.rep1 at hr;rw[hn,show (x.g.n:Int)+(i:Int)=((x.g.n+i:Nat):Int) by omega] at hr;by_cases hi:J<=i
 ·(have e1:min (i+1) J=J:=by omega);have e2:min i J=J:=by omega
  rw[e1] at c2 w l2 len;rw[tB (l:=y.1.ts) (λt ht=>by have:=(w.v t ht).2;omega),if_pos (by decide)] at hr;cases hr;exact⟨⟨N,c1,by grind⟩,by grind,⟨A,l1,by grind⟩,by omega,rows⟩
 ·(have e1:min (i+1) J=i+1:=by omega);have e2:min i J=i:=by omega
  have e3:sg (i+1)=sg i+(2*KB i+4):=rfl;have e4:(i+1)*T=i*T+T:=Nat.succ_mul _ _;rw[e1] at c2 w l2 len;rw[e3] at c2;rw[e4] at l2;split at hr;{rename_i h0;cases hr;exact⟨⟨N,c1,by grind⟩,by rw[e2];exact J8 w (FP h0),⟨A,l1,by grind⟩,by omega,rows⟩}
  ·cases hrp:s.repl g (co y.1.ts ((x.g.n+i:Nat):Int)) i with
   |none=>grind| some v =>
    rw[hrp] at hr;cases hr;obtain⟨r1,r2,r3,r4,r5⟩:=Ai h (by omega:i<1024) (c1.cof _) (q4 g (z8 hg)) (hok.us i g hg) hrp;refine⟨⟨_,c1.subst w.cn r1,by grind⟩,by rw[e2];exact FH w r2,⟨_,eT r3 l1,by grind⟩,?_,Vk (P:=λr=>RoIn s r/\5<=r.k) rows ⟨r4,r5⟩⟩;grind [Y7]
def KE {x:FQry}{s:Scp}(hx:x.small)(hok:x.ok)(h:Isz x s)(q4:∀ f,f∈x.g.us->f.cd 1){T J:Nat}:∀ {i:Nat} {y z:F×List (Row×Rat)},BP x s T J i y->s.backG i y=some z->BP x s T J 0 z
 |0,y,z,hy,hz=>by cases hz;exact hy
 |i+1,y,z,hy,hz=>by
  unfold Scp.backG at hz;cases hp:s.q.g.us[i]? with
  |none=>grind| some p =>
   rw[hp] at hz;cases hr:s.rep1 p.f i y with
   |none=>grind| some w =>
    simp only[hr] at hz;exact KE hx hok h q4 (Vi hx hok h q4 hp hy hr) hz
theorem BP.start {x:FQry}{s:Scp}{f:F}{N0 J M:Nat}(hf:f.cd N0)(hw:f.wf ((x.g.n+J:Nat):Int))(hJ:J<=M):BP x s (N0+sg J) J M (f,[]):=by
 have e:min M J=J:=by omega
 exact⟨⟨N0,hf,by grind⟩,by grind,⟨0,λt ht=>absurd ht (by simp),by grind⟩,by grind,λt ht=>absurd ht (by simp)⟩
structure BackRes (x:FQry) (s:Scp) (T J:Nat) (g:F×List (Row×Rat)):Prop where
 cd:∃ N,g.1.cd N/\N<=T
 wf:g.1.wf (x.g.n:Int)
 l:∀ t,t∈g.2->Fits (J*T) t.2
 len:g.2.length<=J
 rows:∀ t,t∈g.2->RoIn s t.1/\5<=t.1.k
def KC {x:FQry}{s:Scp}(hx:x.small)(hok:x.ok)(h:Isz x s)(q4:∀ f,f∈x.g.us->f.cd 1){f:F}{N0 J:Nat}(hf:f.cd N0)(hw:f.wf ((x.g.n+J:Nat):Int))(hJ:J<=x.g.us.length){g:F×List (Row×Rat)}(hg:s.back f=some g):BackRes x s (N0+sg J) J g:=by
 have hul:s.q.g.us.length=x.g.us.length:=by rw[h.g];exact wH _
 have:=KE hx hok h q4 (BP.start (x:=x) (s:=s) hf hw (M:=s.q.g.us.length) oM) hg;have e:min 0 J=0:=by omega
 obtain⟨⟨N,c1,c2⟩,w,⟨A,l1,l2⟩,len,rows⟩:=this;rw[e] at c2 w l2 len;rw[Zd] at l2;exact⟨⟨N,c1,by omega⟩,w,λt ht=>(l1 t ht).mono oM,by omega,rows⟩
structure DomR (s:Scp) (V M:Nat) (o:Option (Rat×List (Row×Rat))):Prop where
 v:Fits V (oVq o)
 m:∀ t,t∈oL o->Fits M t.2
 r:∀ t,t∈oL o->RoIn s t.1
 len:(oL o).length<=20
theorem DomR.no {s:Scp}{V M:Nat}(h:1<=V):DomR s V M none:=⟨v9 h,λt ht=>absurd ht (by simp[oL]),λt ht=>absurd ht (by simp[oL]),by simp[oL]⟩
def LV (J:Nat):Nat:=if J<=3 then KB J else 2^13
def iA {n J:Nat}(h1:1<=n)(h2:n<=3)(h3:J<=4):47+pgv n (n+J)<=LV J/\pgm 46 n (n+J)<=2^16/\46+sg J+13<=LV J/\J*(46+sg J)<=2^16/\3*(46+sg J)+13<=2^16/\LV J<=2^13/\rM KB n (n+J)<=2^16:=by
 have:∀ n:Fin 4,∀ J:Fin 5,1<=n.val->47+pgv n.val (n.val+J.val)<=LV J.val/\pgm 46 n.val (n.val+J.val)<=2^16/\46+sg J.val+13<=LV J.val/\J.val*(46+sg J.val)<=2^16/\3*(46+sg J.val)+13<=2^16/\LV J.val<=2^13/\rM KB n.val (n.val+J.val)<=2^16:=by decide +kernel
 exact this ⟨n,by omega⟩ ⟨J,by omega⟩ h1
def Ky {x:FQry}{s:Scp}(hx:x.small)(h:Isz x s){N hi:Nat}{G H:Nat->Nat}(hP:Pays s N hi G H){f:F}(hf:f.cd N)(hw:f.wf (hi:Int))(hh:hi<=x.g.n+x.g.us.length)(hN:N<=2^26)(hG:N+1+G hi<=2^28)(hH:H hi<=2^28):BoxOk s f:=by
 have hus:=hx.g.us;have hn2:=hx.g.n2;have hvars:s.q.g.vars=((x.g.n+x.g.us.length:Nat):Int):=by rw[h.g];show ((x.g.n:Int))+((x.g.us.map fA).length:Int)=_;grind
 have hl:=hw.len;refine⟨by rw[hvars];exact (hw.mono oM).valid,λt ht=>by have:=hw.v t ht;omega,(hf.fl hw.cn (yC _)).mono hN oM,λi a l hb=>?_,λt ht b hb=>?_⟩;{obtain⟨g1,g2,g3⟩:=JZ hP hf hw i hb;exact⟨g1.mono oM,λt ht=>(g2 t ht).mono oM,by omega⟩};{have hv:=hw.v t ht;obtain⟨v,hv1⟩:∃ v:Nat,t.1=v:=⟨t.1.toNat,by omega⟩;rw[hv1] at hb;by_cases hvn:v<x.g.n;{obtain⟨g,_⟩:=Xe hx h hvn hb;exact⟨g.sz.mono (by decide),λu hu=>(g.c u hu).mono (by decide),vI g.len (by decide)⟩};{obtain⟨j,rfl⟩:∃ j,v=x.g.n+j:=⟨v-x.g.n,by omega⟩;have g:=JA h (j:=j) oM hb;have:=Gu j;exact⟨g.sz.mono oM,λu hu=>(g.c u hu).mono oM,g.len⟩}}
def CQ {x:FQry}{s:Scp}(hx:x.small)(h:Isz x s){f:F}{hi:Nat}(hw:f.wf (hi:Int))(hh:hi<=x.g.n+x.g.us.length){a:Rat}{l:List (Row×Rat)}(hb:s.box f=some (a,l)):∀ t,t∈l->RoIn s t.1:=by have hus:=hx.g.us;refine Wa (λt ht up b hb=>?_) (λu hu=>absurd hu (by simp)) hb;have hv:=hw.v t ht;obtain⟨v,hv1⟩:∃ v:Nat,t.1=v:=⟨t.1.toNat,by omega⟩;rw[hv1] at hb;by_cases hvn:v<x.g.n;{exact (Xe hx h hvn hb).1.r};{obtain⟨j,rfl⟩:∃ j,v=x.g.n+j:=⟨v-x.g.n,by omega⟩;exact (JA h (j:=j) oM hb).r}
def AN {x:FQry}{s:Scp}(hx:x.small)(h:Isz x s){f:F}{N J:Nat}(hf:f.cd N)(hN:N<=46)(hw:f.wf ((x.g.n+J:Nat):Int))(hJ:J<=x.g.us.length):BoxOk s f/\DomR s (LV J) (2^16) (s.box f):=by
 have hus:=hx.g.us;obtain⟨l1,l2,l3,l4,l5,l6,l7⟩:=iA hx.g.n1 hx.g.n2 (by omega:J<=4);have hP:=QK hx h 46 (hi:=x.g.n+J) oM;have hf:=hf.mono hN;refine⟨Ky hx h hP hf hw oM (by decide) oM oM,?_⟩;cases hb:s.box f with
 |none=>exact DomR.no oM| some y =>
  obtain⟨a,l⟩:=y;obtain⟨g1,g2,g3⟩:=JZ hP hf hw f.ts.length (by rw[vP];exact hb);have hn2:=hx.g.n2;exact⟨g1.mono oM,λt ht=>(g2 t ht).mono oM,CQ hx h hw oM hb,by show l.length<=20;omega⟩
def Kz {x:FQry}{s:Scp}(hx:x.small)(h:Isz x s){f:F}{N:Nat}(hf:f.cd N)(hN:N<=2^21)(hw:f.wf (x.g.n:Int)):BoxOk s f/\∃ a l,s.box f=some (a,l)/\Fits (N+13) a/\(∀ t,t∈l->Fits (3*N+6) t.2)/\(∀ t,t∈l->RoIn s t.1/\t.1.k<=4)/\Rs l/\l.length<=6:=by
 have hn2:=hx.g.n2;have hP:=QK hx h N (hi:=x.g.n) oM;have e0:=Sd x.g.n x.g.n (yC _);have e1:=Se N x.g.n x.g.n (yC _);have e2:(N+2)*x.g.n<=(N+2)*3:=vS _ hn2;have hof:∀ t,t∈f.ts->∀ up,∃ b,s.ofB t.1 up=some b/\∃ v:Nat,t.1=v/\v<x.g.n:=λt ht up=>by
  (have hv:=hw.v t ht;obtain⟨v,hv1⟩:∃ v:Nat,t.1=v:=⟨t.1.toNat,by omega⟩;have hn:s.q.g.n=(x.g.n:Int):=by rw[h.g];rfl);exact⟨_,by unfold Scp.ofB;rw[hn,if_pos oM],v,hv1,by omega⟩
 refine⟨Ky hx h hP hf hw oM oM oM oM,?_⟩;have hs:(s.box f).isSome=true:=VK λt ht up=>by obtain⟨b,hb,_⟩:=hof t ht up;grind
 cases hb:s.box f with
 |none=>grind| some y =>
  obtain⟨a,l⟩:=y;obtain⟨g1,g2,g3⟩:=JZ hP hf hw f.ts.length (by rw[vP];exact hb);refine⟨a,l,rfl,g1.mono oM,λt ht=>(g2 t ht).mono oM,?_,?_,by omega⟩;{refine Wa (P:=λr=>RoIn s r/\r.k<=4) (λt ht up b hb=>?_) (λu hu=>absurd hu (by simp)) hb;obtain⟨_,_,v,hv1,hvn⟩:=hof t ht up;rw[hv1] at hb;obtain⟨g,g'⟩:=Xe hx h hvn hb;exact λu hu=>⟨g.r u hu,(g' u hu).2⟩};{refine Gg (λt ht up b hb=>?_) Rs.nil hb;obtain⟨_,_,v,hv1,hvn⟩:=hof t ht up;rw[hv1] at hb;obtain⟨g,g'⟩:=Xe hx h hvn hb;grind}
def Fn {x:FQry}{s:Scp}(hx:x.small)(hok:x.ok)(h:Isz x s)(q4:∀ f,f∈x.g.us->f.cd 1){f:F}{N J:Nat}(hf:f.cd N)(hN:N<=46)(hw:f.wf ((x.g.n+J:Nat):Int))(hJ:J<=x.g.us.length):BackOk s f:=by
 have hus:=hx.g.us;have hn2:=hx.g.n2;obtain⟨l1,l2,l3,l4,l5,l6,l7⟩:=iA hx.g.n1 hx.g.n2 (by omega:J<=4);have hvars:s.q.g.vars=((x.g.n+x.g.us.length:Nat):Int):=by rw[h.g];show ((x.g.n:Int))+((x.g.us.map fA).length:Int)=_;grind
 have hul:s.q.g.us.length=x.g.us.length:=by rw[h.g];exact wH _
 have hl:=hw.len;have hT:J*(N+sg J)<=J*(46+sg J):=vS _ oM;refine⟨by rw[hvars];exact (hw.mono oM).valid,(((hf.fl hw.cn (yC _)).fit oM).fA).mono oM,λj pa hp=>?_,λi y=>BP x s (N+sg J) J i y,BP.start hf hw oM,λi y hy=>?_,λj y pa z hy hp hr=>Vi hx hok h q4 hp hy hr⟩;{obtain⟨g,hg,rfl⟩:=K1 h.g hp;have hwg:=hok.us j g hg;have hlt:=(vV.1 hg).1;rw[kL];exact⟨rfl,hwg.cn,((q4 g (z8 hg)).fl hwg.cn hwg.len).mono (by decide) oM⟩};{obtain⟨⟨M,c1,c2⟩,w,⟨A,a1,a2⟩,len,rows⟩:=hy;have hwl:=w.len;have hm:min i J<=J:=Nat.min_le_right _ _;have hp:=c1.pos;exact⟨w.cn,⟨M,c1.fl w.cn oM,hp,by omega⟩,⟨by omega,λt ht=>(a1 t ht).mono oM⟩⟩}
def Au {x:FQry}{s:Scp}(hx:x.small)(hok:x.ok)(h:Isz x s)(q4:∀ f,f∈x.g.us->f.cd 1){f:F}{N J:Nat}(hf:f.cd N)(hN:N<=46)(hw:f.wf ((x.g.n+J:Nat):Int))(hJ:J<=x.g.us.length):LowOk s f/\DomR s (LV J) (2^16) (s.low f):=by
 have hus:=hx.g.us;have hn2:=hx.g.n2;obtain⟨l1,l2,l3,l4,l5,l6,l7⟩:=iA hx.g.n1 hx.g.n2 (by omega:J<=4);have hT:J*(N+sg J)<=J*(46+sg J):=vS _ oM;refine⟨⟨Fn hx hok h q4 hf hN hw hJ,λg hg=>?_⟩,?_⟩;{obtain⟨⟨M,c1,c2⟩,w,l,len,rows⟩:=KC hx hok h q4 hf hw hJ hg;obtain⟨b1,a,m,b2,b3,b4,b5,b6,b7⟩:=Kz hx h c1 oM w;rw[b2];exact⟨b1,rfl,λt ht=>(l t ht).mono oM,by omega,λt ht=>(b4 t ht).mono oM,by show m.length<=32;omega⟩}
 ·cases hb:s.back f with
  |none =>
   (have:s.low f=none:=by grind [Scp.low]);rw[this]
   exact DomR.no oM
  |some g =>
   (obtain⟨⟨M,c1,c2⟩,w,l,len,rows⟩:=KC hx hok h q4 hf hw hJ hb;obtain⟨b1,a,m,b2,b3,b4,b5,b6,b7⟩:=Kz hx h c1 oM w;have e:s.low f=some (a,xS g.2 m 1):=by unfold Scp.low;rw[hb,Option.map_some,b2];rfl);rw[e]
   have hml:=nG 1 m g.2;refine⟨b3.mono oM,λt ht=>?_,?_,by show (xS g.2 m 1).length<=20;omega⟩;{rcases Xr b6 (λt ht u hu=>λe=>by grind) t ht with g'|⟨u,hu,e⟩;{exact (l t g').mono oM};{rw[e];show Fits _ (u.2*1);rw[Rat.mul_one];exact (b4 u hu).mono oM}};{exact sX (P:=λr=>RoIn s r) (λt ht=>(b5 t ht).1) (λt ht=>(rows t ht).1)}
def U2 {x:FQry}{s:Scp}(hx:x.small)(hok:x.ok)(h:Isz x s)(q4:∀ f,f∈x.g.us->f.cd 1){f:F}{N J:Nat}(hf:f.cd N)(hN:N<=46)(hw:f.wf ((x.g.n+J:Nat):Int))(hJ:J<=x.g.us.length):DomOk s f/\∀ k,DomR s (LV J) (2^16) (s.dom k f):=by have hus:=hx.g.us;obtain⟨l1,l2,l3,l4,l5,l6,l7⟩:=iA hx.g.n1 hx.g.n2 (by omega:J<=4);obtain⟨h1,h2⟩:=AN hx h hf hN hw hJ;obtain⟨h3,h4⟩:=Au hx hok h q4 hf hN hw hJ;refine⟨⟨h1,h3,h2.v.mono oM,h4.v.mono oM⟩,λk=>?_⟩;grind [Scp.dom]
end Go.Proofs.YtaeaffgjdcigoaaGreat
