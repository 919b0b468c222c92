/- A part of the proof: VaA, RwA, RwB, UtA, RvA. -/
import Derived.Test.YtgcpehdkdnkgeaaGreatV24
import Derived.Test.YtgcpehdkdnkgeaaGreatV23
set_option linter.all false
namespace Go.Proofs.YtgcpehdkdnkgeaaGreat
open Go
set_option maxRecDepth 100000
set_option maxHeartbeats 2000000
theorem sGrC (a:A)(vars:Int)(ha:a.sz (2^36)):zE 201 [.agg (ac a),.dptr [.int .i64 (fun _=>vars)] 0] (.bool (fun _=>!a.valid vars)):=by
 refine sF Tryz.f201 ?_
 have c1:=aI a vars ha
 generalize a.valid vars=r at *
 obtain⟨ts,c1',c2,c3⟩:=a
 cbv
 refine cA c1 ?_
 cbv
 (refine rC ?_;cbv)
 exact wU rfl
theorem zCA {α:Type}(p:α→Bool)(l:List α):l.all p=!(l.any fun a=>!(p a)):=by
 induction l with
 | nil=>rfl
 | cons a r ih=>simp only[List.all_cons,List.any_cons,ih,Bool.not_or,Bool.not_not]
theorem sGrV (l:List A)(vars:Int)(hl:Asz (2^36) l):zE 161 [alv l,.int .i64 (fun _=>vars)] (.bool (fun _=>l.all (A.valid vars))):=by
 refine sF Tryz.f161 ?_
 have c1:=zO5 (fun a=>!(a.valid vars)) l (Nat.lt_trans hl.len (by decide)) 201 [.dptr [.int .i64 (fun _=>vars)] 0] (fun a ha=>sGrC a vars (hl.sz a ha))
 rw[zCA]
 generalize (l.any fun a=>!(a.valid vars))=r at *
 cbv
 refine uT (.frz 3 rfl rfl (by repeat' first | exact trivial | apply And.intro) (by repeat' first | exact trivial | apply And.intro)) rfl (by exact⟨lR,⟨rfl,lR,trivial⟩,trivial⟩) c1 rfl ?_
 cbv
 (refine rC ?_;cbv)
 exact wU rfl
theorem zGE (k:Int)(f:A)(r:List A):vU k (f::r)=(f.valid k && vU (k+1) r):=rfl
theorem zJN (g:Grp)(hg:g.sz (2^36)):zE 94 [gv g] (.bool (fun _=>g.valid)):=by
 refine sF Tryz.f94 ?_
 obtain⟨n,us,os⟩:=g
 have hu:=hg.us.sz
 have hul:=hg.us.len
 have hol:=hg.os.len
 have hos:=fun vars=>sGrV os vars hg.os
 clear hg
 simp only at hu hul hol hos
 generalize hr:Grp.valid ⟨n,us,os⟩=r
 have hr0:r=(decide (1≤n∧n≤256∧us.length≤1024∧1≤os.length∧os.length≤256) && vU n us && os.all (A.valid (n+us.length))):=hr.symm
 clear hr
 have hno:¬ (1≤n∧n≤256∧us.length≤1024∧1≤os.length∧os.length≤256)→r=false:=fun h=>by rw[hr0,decide_eq_false h];rfl
 cbv
 refine zR (fun e1=>?_) (fun e1=>?_)
 ·cbv
  (refine rC ?_;cbv)
  exact zN (hno om)
 cbv
 refine zR (fun e2=>?_) (fun e2=>?_)
 ·cbv
  (refine rC ?_;cbv)
  exact zN (hno om)
 cbv
 refine zR (fun e3=>?_) (fun e3=>?_)
 ·cbv
  (refine rC ?_;cbv)
  exact zN (hno (by simp only[zA] at e3;(try dsimp only [zG] at *);omega))
 cbv
 refine zR (fun e4=>?_) (fun e4=>?_)
 ·cbv
  (refine rC ?_;cbv)
  exact zN (hno (by simp only[zA] at e4;(try dsimp only [zG] at *);omega))
 cbv
 refine zH (fun e5=>?_) (fun e5=>?_)
 ·cbv
  (refine rC ?_;cbv)
  exact zN (hno (by simp only[zA] at e5;(try dsimp only [zG] at *);omega))
 rw[zA] at e3 e4 e5
 (try dsimp only [zG] at *)
 rw[decide_eq_true (by omega),Bool.true_and] at hr0
 clear hno
 cbv
 refine zY (σ:=Nat) (fun i=>⟨[(1,.ptr 1 0),(32,alv us),(33,.int .i64 (fun _=>(us.length:Int))),(34,.int .i64 (fun _=>(i:Int)))],[(1,.box [.int .i64 (fun _=>n),alv us,alv os])]⟩)
  (fun i=>i≤us.length∧r=(vU (n+i) (us.drop i) && os.all (A.valid (n+us.length)))) (fun i=>us.length - i) 0 ⟨om,?_⟩ (.le ?_ ?_ rfl) ?_
 ·rw[hr0,List.drop_zero,show n+((0:Nat):Int)=n by simp]
 ·cbv
  exact⟨lR,lR,zC (by (try dsimp only [zG] at *);rw[zA]),lR,trivial⟩
 ·cbv
  exact okA
 clear hr0
 intro i hs
 obtain⟨h1,h2⟩:=hs
 cbv
 refine zH (fun h5=>?_) (fun h5=>?_)
 ·cbv
  refine y5 (l:=us) i om om jA dE (fun t ht=>?_)
  have cv:=aI t (n+i) (hu t (List.mem_of_getElem? ht))
  rw[zZ ht,zGE] at h2
  have e:n+(i:Int)+1=n+((i+1:Nat):Int):=by omega
  rw[e] at h2
  generalize hv:t.valid (n+i)=v at *
  obtain⟨t1,t2,t3,t4⟩:=t
  cbv
  refine⟨zD om om,?_⟩
  cbv
  refine cA cv ?_
  cbv
  refine zS (fun h6=>?_) (fun h6=>?_)
  ·subst h6
   rw[Bool.true_and] at h2
   cbv
   refine⟨zD om om,i+1,⟨om,h2⟩,om,.le ?_ ?_ rfl⟩
   ·cbv
    exact⟨lR,lR,lR,zC om,trivial⟩
   ·cbv
    exact okA
  ·subst h6
   cbv
   (refine rC ?_;cbv)
   exact zN (by rw[h2];rfl)
 ·have hi:i=us.length:=om
  rw[hi,List.drop_length] at h2
  have h2':r=os.all (A.valid (n+us.length)):=h2
  have cv:=hos (n+us.length)
  rw[←h2'] at cv
  clear h2 h2' hos
  cbv
  refine⟨zD (by rw[zA];(try dsimp only [zG] at *);omega) (by rw[zA];(try dsimp only [zG] at *);omega),?_⟩
  cbv
  refine yX rfl (by exact⟨lR,zC (by rw[zA]),trivial⟩) cv rfl ?_
  cbv
  (refine rC ?_;cbv)
  exact lR
theorem sRgC (a:A)(vars:Int)(ha:a.sz (2^36)):zE 163 [.agg (ac a),.dptr [.int .i64 (fun _=>vars)] 0] (.bool (fun _=>!a.valid vars)):=by
 refine sF Tryz.f163 ?_
 have c1:=aI a vars ha
 generalize a.valid vars=r at *
 obtain⟨ts,c1',c2,c3⟩:=a
 cbv
 refine cA c1 ?_
 cbv
 (refine rC ?_;cbv)
 exact wU rfl
theorem zGF (l:R)(ls)(h:R)(hs):vB (l::ls) (h::hs)=(l.ok && h.ok && decide (kL l.q h.q≤0) && vB ls hs):=rfl
theorem yA {α:Type}{l:List α}{i:Nat}(h:i<l.length):∃ a,l[i]?=some a:=⟨l[i],by simp [h]⟩
theorem zJK (g:Reg)(n:Int)(hg:g.sz (2^34)):zE 95 [rgv g,.int .i64 (fun _=>n)] (.bool (fun _=>g.valid n)):=by
 refine sF Tryz.f95 ?_
 obtain⟨lo,hi,rows⟩:=g
 have hlo:=hg.lo.sz
 have hhi:=hg.hi.sz
 have hlol:=hg.lo.len
 have hhil:=hg.hi.len
 have hrl:=hg.rows.len
 have hrs:=hg.rows.sz
 simp only at hlo hhi hlol hhil hrl hrs
 have cr:=zO5 (fun a=>!(a.valid n)) rows (Nat.lt_trans hrl (by decide)) 163 [.dptr [.int .i64 (fun _=>n)] 0] (fun a ha=>sRgC a n ((hrs a ha).mono (by decide)))
 generalize hr:Reg.valid n ⟨lo,hi,rows⟩=r
 have hr0:r=(decide (1≤n∧n≤256∧(lo.length:Int)=n∧(hi.length:Int)=n∧rows.length≤256) && vB lo hi && rows.all (A.valid n)):=hr.symm
 rw[zCA] at hr0
 generalize (rows.any fun a=>!(a.valid n))=bad at *
 clear hr hrs hg
 have hno:¬ (1≤n∧n≤256∧(lo.length:Int)=n∧(hi.length:Int)=n∧rows.length≤256)→r=false:=fun h=>by rw[hr0,decide_eq_false h];rfl
 cbv
 refine zR (fun e1=>?_) (fun e1=>?_)
 ·cbv
  (refine rC ?_;cbv)
  exact zN (hno om)
 cbv
 refine zR (fun e2=>?_) (fun e2=>?_)
 ·cbv
  (refine rC ?_;cbv)
  exact zN (hno om)
 cbv
 refine zR (fun e3=>?_) (fun e3=>?_)
 ·cbv
  refine zR (fun e4=>?_) (fun e4=>?_)
  ·cbv
   refine zH (fun e5=>?_) (fun e5=>?_)
   ·cbv
    (refine rC ?_;cbv)
    exact zN (hno (by simp only[zA] at e5;(try dsimp only [zG] at *);omega))
   rw[zA] at e3 e4 e5
   (try dsimp only [zG] at *)
   rw[decide_eq_true (by omega),Bool.true_and] at hr0
   clear hno
   cbv
   refine zY (σ:=Nat) (fun i=>⟨[(2,.ptr 2 0),(3,.ptr 3 0),(34,rlv lo),(35,.int .i64 (fun _=>(lo.length:Int))),(36,.int .i64 (fun _=>(i:Int)))],[(2,.box [rlv lo,rlv hi,alv rows]),(3,.box [.int .i64 (fun _=>n)])]⟩)
    (fun i=>i≤lo.length∧r=(vB (lo.drop i) (hi.drop i) && !bad)) (fun i=>lo.length - i) 0 ⟨om,hr0⟩ (.le ?_ ?_ rfl) ?_
   ·cbv
    exact⟨lR,lR,lR,zC (by (try dsimp only [zG] at *);rw[zA]),lR,trivial⟩
   ·cbv
    exact okA
   clear hr0
   intro i hs
   obtain⟨h1,h2⟩:=hs
   cbv
   refine zH (fun h5=>?_) (fun h5=>?_)
   ·cbv
    refine y5 (l:=lo) i om om jS dW (fun l hl=>?_)
    obtain⟨h,hh⟩:∃ h,hi[i]?=some h:=yA om
    rw[zZ hl,zZ hh,zGF] at h2
    have hls:=hlo l (List.mem_of_getElem? hl)
    have hhs:=hhi h (List.mem_of_getElem? hh)
    have cl:=s103 l (hls.mono (by decide))
    have ch:=s103 h (hhs.mono (by decide))
    have cc:=s165 l h hls hhs
    generalize kL l.q h.q=cq at *
    generalize l.ok=o1 at *
    generalize h.ok=o2 at *
    obtain⟨l1,l2,l3⟩:=l
    cbv
    refine zO 22 (by cbv) ?_
    cbv
    refine dA cl ?_
    cbv
    refine z4 (fun e6=>?_) (fun e6=>?_)
    ·subst e6
     cbv
     refine y5 (l:=hi) i om om jS dW (fun h' hh'=>?_)
     obtain rfl:h'=h:=by rw[hh] at hh';exact (Option.some.inj hh').symm
     obtain⟨k1,k2,k3⟩:=h'
     cbv
     refine dA ch ?_
     cbv
     refine z4 (fun e7=>?_) (fun e7=>?_)
     ·subst e7
      cbv
      refine y5 (l:=hi) i om om jS dW (fun h'' hh''=>?_)
      obtain rfl:h''=⟨k1,k2,k3⟩:=by rw[hh] at hh'';exact (Option.some.inj hh'').symm
      cbv
      refine dA cc ?_
      cbv
      refine zH (fun e8=>?_) (fun e8=>?_)
      ·cbv
       (refine rC ?_;cbv)
       exact zN (by rw[h2,decide_eq_false (by omega)];rfl)
      ·rw[decide_eq_true (by omega)] at h2
       cbv
       refine⟨zD om om,i+1,⟨om,h2⟩,om,.le ?_ ?_ rfl⟩
       ·cbv
        exact⟨lR,lR,lR,lR,zC om,trivial⟩
       ·cbv
        exact okA
     ·subst e7
      cbv
      (refine rC ?_;cbv)
      exact zN (by rw[h2];simp)
    ·subst e6
     cbv
     (refine rC ?_;cbv)
     exact zN (by rw[h2];rfl)
   ·have hi':i=lo.length:=om
    rw[hi',List.drop_length] at h2
    have h2':r=!bad:=by rw[h2];cases hi.drop lo.length <;> rfl
    clear h2
    cbv
    refine uT (.frz 3 rfl rfl (by repeat' first | exact trivial | apply And.intro) (by repeat' first | exact trivial | apply And.intro)) rfl (by exact⟨lR,⟨rfl,lR,trivial⟩,trivial⟩) cr rfl ?_
    cbv
    (refine rC ?_;cbv)
    exact wU h2'
  ·cbv
   (refine rC ?_;cbv)
   exact zN (hno (by simp only[zA] at e4;(try dsimp only [zG] at *);omega))
 ·cbv
  (refine rC ?_;cbv)
  exact zN (hno (by simp only[zA] at e3;(try dsimp only [zG] at *);omega))
theorem p6 (q:Qry)(hq:q.sz (2^34)):zE 36 [qv q] (.bool (fun _=>q.valid)):=by
 refine sF Tryz.f36 ?_
 have cg:=zJN q.g (hq.g.mono (by decide))
 have crg:=zJK q.r q.g.n hq.r
 have cl:=aI q.goal q.g.vars (hq.goal.mono (by decide))
 have hul:=hq.g.us.len
 have hr:q.valid=(q.g.valid && q.r.valid q.g.n && q.goal.valid q.g.vars):=rfl
 have hn:q.g.valid=true→1≤q.g.n∧q.g.n≤256:=fun h=>by
  unfold Grp.valid at h
  simp only[Bool.and_eq_true,decide_eq_true_eq] at h
  omega
 rw[hr]
 clear hr hq
 obtain⟨⟨n,us,os⟩,⟨lo,hi,rows⟩,⟨ts,c1,c2,c3⟩⟩:=q
 simp only at hn hul cg crg cl ⊢
 have hv:Grp.vars ⟨n,us,os⟩=n+us.length:=rfl
 rw[hv] at cl ⊢
 generalize Grp.valid ⟨n,us,os⟩=b1 at *
 generalize Reg.valid n ⟨lo,hi,rows⟩=b2 at *
 generalize hb3:A.valid (n+us.length) ⟨ts,c1,c2,c3⟩=b3 at *
 cbv
 refine cA cg ?_
 cbv
 refine z4 (fun e6=>?_) (fun e6=>?_)
 ·subst e6
  have hn':=hn rfl
  cbv
  refine cA crg ?_
  cbv
  refine z4 (fun e7=>?_) (fun e7=>?_)
  ·subst e7
   cbv
   refine⟨zD (by rw[zA];(try dsimp only [zG] at *);omega) (by rw[zA];(try dsimp only [zG] at *);omega),?_⟩
   refine yX rfl (by exact⟨okA,zC (by rw[zA]),trivial⟩) cl rfl ?_
   cbv
   (refine rC ?_;cbv)
   exact zV (by rfl)
  ·subst e7
   cbv
   (refine rC ?_;cbv)
   exact zN rfl
 ·subst e6
  cbv
  (refine rC ?_;cbv)
  exact zN rfl
abbrev R0:R:=⟨false,[],[]⟩
theorem zNE (x : R) : zE 164 [rv x] (.bool (fun _ => decide (x = R0))) := by
  refine sF Tryz.f164 ?_
  obtain ⟨a, b, c⟩ := x
  have h0 : ∀ l : List UInt32, ((lm l).length : Int) = 0 ↔ l = [] := fun l => by rw [zK]; constructor
                                                                                 · intro h; exact List.eq_nil_of_length_eq_zero (by omega)
                                                                                 · intro h; rw [h]; rfl
  generalize hr : decide ((⟨a, b, c⟩ : R) = R0) = r
  have hr0 : r = (!a && (decide (((lm b).length : Int) = 0) && decide (((lm c).length : Int) = 0))) := by
    rw [← hr, Bool.eq_iff_iff]
    simp only [decide_eq_true_eq, R.mk.injEq, Bool.and_eq_true, Bool.not_eq_true', h0]
  clear hr
  cbv
  refine z4 (fun e => ?_) (fun e => ?_)
  · subst e
    cbv
    (refine rC ?_; cbv)
    exact zN (by rw [hr0]; rfl)
  · subst e
    cbv
    refine zR (fun e => ?_) (fun e => ?_)
    · rw [decide_eq_true e] at hr0
      cbv
      (refine rC ?_; cbv)
      exact zV (by rw [hr0]; rfl)
    · rw [decide_eq_false e] at hr0
      cbv
      (refine rC ?_; cbv)
      exact zN (by rw [hr0]; rfl)
theorem iW (q:Qry)(d:Dec)(hd:d.x.sz (2^36)):zE 96 [qv q,dv d] (.bool (fun _=>d.fits q)):=by
 refine sF Tryz.f96 ?_
 have cz:=zNE d.x
 have cv:=s103 d.x hd
 have hr:d.fits q=if d.k=1∨d.k=2 then decide (0≤d.i∧d.i<q.g.us.length) && decide (d.x=R0) else if d.k=3∨d.k=4 then decide (0≤d.i∧d.i<q.g.n) && d.x.ok else false:=rfl
 generalize d.fits q=r at *
 generalize decide (d.x=R0)=z at *
 generalize d.x.ok=ok at *
 obtain⟨⟨n,us,os⟩,⟨lo,hi,rows⟩,⟨ts,c1,c2,c3⟩⟩:=q
 obtain⟨k,i,x1,x2,x3⟩:=d
 simp only at hr
 have u1:∀ (hk:k=1∨k=2),(0≤i→i<us.length→r=z)∧(¬ (0≤i∧i<us.length)→r=false):=fun hk=>by
  rw[if_pos hk] at hr
  exact⟨fun h1 h2=>by rw[hr,decide_eq_true ⟨h1,h2⟩,Bool.true_and],fun h=>by rw[hr,decide_eq_false h];rfl⟩
 have u2:∀ (hk:k=3∨k=4),(0≤i→i<n→r=ok)∧(¬ (0≤i∧i<n)→r=false):=fun hk=>by
  rw[if_neg (by omega),if_pos hk] at hr
  exact⟨fun h1 h2=>by rw[hr,decide_eq_true ⟨h1,h2⟩,Bool.true_and],fun h=>by rw[hr,decide_eq_false h];rfl⟩
 have u3:¬ (k=1∨k=2∨k=3∨k=4)→r=false:=fun hk=>by
  rw[if_neg (by omega),if_neg (by omega)] at hr;exact hr
 clear hr
 cbv
 have hk:k=1∨k=2∨k=3∨k=4∨(k≤0∨5≤k):=by omega
 rcases hk with rfl | rfl | rfl | rfl | hk
 ·obtain⟨v1,v2⟩:=u1 (.inl rfl)
  clear u1 u2 u3
  refine xI rfl ?_
  cbv
  refine xI rfl ?_
  cbv
  refine zR (fun e1=>?_) (fun e1=>?_)
  ·cbv
   refine zR (fun e2=>?_) (fun e2=>?_)
   ·cbv
    refine cA cz ?_
    cbv
    (refine rC ?_;cbv)
    exact zV (by rw[v1 om (by rw[zA] at e2;(try dsimp only [zG] at *);omega)])
   ·cbv
    (refine rC ?_;cbv)
    exact zN (v2 (fun h=>by rw[zA] at e2;(try dsimp only [zG] at *);omega))
  ·cbv
   (refine rC ?_;cbv)
   exact zN (v2 (fun h=>by (try dsimp only [zG] at *);omega))
 ·obtain⟨v1,v2⟩:=u1 (.inr rfl)
  clear u1 u2 u3
  refine z3 (by simp) ?_
  cbv
  refine xI rfl ?_
  cbv
  refine zR (fun e1=>?_) (fun e1=>?_)
  ·cbv
   refine zR (fun e2=>?_) (fun e2=>?_)
   ·cbv
    refine cA cz ?_
    cbv
    (refine rC ?_;cbv)
    exact zV (by rw[v1 om (by rw[zA] at e2;(try dsimp only [zG] at *);omega)])
   ·cbv
    (refine rC ?_;cbv)
    exact zN (v2 (fun h=>by rw[zA] at e2;(try dsimp only [zG] at *);omega))
  ·cbv
   (refine rC ?_;cbv)
   exact zN (v2 (fun h=>by (try dsimp only [zG] at *);omega))
 ·obtain⟨v1,v2⟩:=u2 (.inl rfl)
  clear u1 u2 u3
  refine z3 (by simp) ?_
  cbv
  refine z3 (by simp) ?_
  cbv
  refine xI rfl ?_
  cbv
  refine xI rfl ?_
  cbv
  refine zR (fun e1=>?_) (fun e1=>?_)
  ·cbv
   refine zR (fun e2=>?_) (fun e2=>?_)
   ·cbv
    refine cA cv ?_
    cbv
    (refine rC ?_;cbv)
    exact zV (by rw[v1 om om])
   ·cbv
    (refine rC ?_;cbv)
    exact zN (v2 (fun h=>by (try dsimp only [zG] at *);omega))
  ·cbv
   (refine rC ?_;cbv)
   exact zN (v2 (fun h=>by (try dsimp only [zG] at *);omega))
 ·obtain⟨v1,v2⟩:=u2 (.inr rfl)
  clear u1 u2 u3
  refine z3 (by simp) ?_
  cbv
  refine z3 (by simp) ?_
  cbv
  refine z3 (by simp) ?_
  cbv
  refine xI rfl ?_
  cbv
  refine zR (fun e1=>?_) (fun e1=>?_)
  ·cbv
   refine zR (fun e2=>?_) (fun e2=>?_)
   ·cbv
    refine cA cv ?_
    cbv
    (refine rC ?_;cbv)
    exact zV (by rw[v1 om om])
   ·cbv
    (refine rC ?_;cbv)
    exact zN (v2 (fun h=>by (try dsimp only [zG] at *);omega))
  ·cbv
   (refine rC ?_;cbv)
   exact zN (v2 (fun h=>by (try dsimp only [zG] at *);omega))
 ·have hr:=u3 (by omega)
  clear u1 u2 u3
  refine z3 (by dsimp only;omega) ?_
  cbv
  refine z3 (by dsimp only;omega) ?_
  cbv
  refine z3 (by dsimp only;omega) ?_
  cbv
  refine z3 (by dsimp only;omega) ?_
  cbv
  (refine rC ?_;cbv)
  exact zN hr
theorem zNG (q:Qry)(d:Dec)(hq:q.sz (2^34))(hd:d.x.sz (2^36)):zE 37 [qv q,dv d] (.bool (fun _=>q.valid && d.fits q)):=by
 refine sF Tryz.f37 ?_
 have c1:=p6 q hq
 have c2:=iW q d hd
 generalize q.valid=b1 at *
 generalize d.fits q=b2 at *
 obtain⟨⟨n,us,os⟩,⟨lo,hi,rows⟩,⟨ts,c1',c2',c3⟩⟩:=q
 obtain⟨k,i,x1,x2,x3⟩:=d
 cbv
 refine cA c1 ?_
 cbv
 refine z4 (fun e=>?_) (fun e=>?_)
 ·subst e
  cbv
  refine cA c2 ?_
  cbv
  (refine rC ?_;cbv)
  exact zV rfl
 ·subst e
  cbv
  (refine rC ?_;cbv)
  exact zN rfl
def Row.plain (r:Row):Bool:=decide (r.lo=0) && decide (r.hi=0)
theorem zDL (r:Row):zE 148 [rwv r] (.bool (fun _=>r.plain)):=by
 refine sF Tryz.f148 ?_
 have hr:r.plain=(decide (r.lo=0) && decide (r.hi=0)):=rfl
 generalize r.plain=p at *
 obtain⟨k,i,lo,hi⟩:=r
 cbv
 refine zR (fun e=>?_) (fun e=>?_)
 ·simp only at hr
  rw[decide_eq_true e,Bool.true_and] at hr
  cbv
  (refine rC ?_;cbv)
  exact zV hr.symm
 ·simp only at hr
  rw[decide_eq_false e] at hr
  cbv
  (refine rC ?_;cbv)
  exact zN hr
def F.var (v:Int):F:=⟨[(v,1)],0⟩
def F.num (q:Rat):F:=⟨[],q⟩
theorem zCR (v:Int):zE 149 [.int .i64 (fun _=>v)] (fv (F.var v)):=by
 refine sF Tryz.f149 ?_
 have c1:=s104 1 (by decide) (by decide)
 have e:fv (F.var v)=.agg [.sl (fun _=>[yW [.int .i64 (fun _=>v),.bool (fun _=>(zJ ((1:Int):Rat)).neg),nat (zJ ((1:Int):Rat)).num,nat (zJ ((1:Int):Rat)).den]]),.bool (fun _=>R0.neg),nat R0.num,nat R0.den]:=by
  show av ⟨[(v,zJ 1)],zJ 0⟩=_
  rw[kB];rfl
 rw[e]
 clear e
 generalize zJ ((1:Int):Rat)=o at *
 obtain⟨o1,o2,o3⟩:=o
 cbv
 refine cA c1 ?_
 cbv
 (refine rC ?_;cbv)
 exact⟨zP rfl,zN rfl,xC rfl,xC rfl,trivial⟩
theorem mN (x:R)(hx:x.sz (2^36)):zE 106 [rv x] (fv (F.num x.q)):=by
 refine sF Tryz.f106 ?_
 have c1:=s161 x hx
 show wp _ _ (jI _ (.agg [tsv [],.bool (fun _=>(zJ x.q).neg),nat (zJ x.q).num,nat (zJ x.q).den]) [] [])
 generalize zJ x.q=w at *
 obtain⟨w1,w2,w3⟩:=w
 obtain⟨x1,x2,x3⟩:=x
 cbv
 refine cA c1 ?_
 cbv
 (refine rC ?_;cbv)
 exact okA
theorem iV (f:A)(hf:f.sz (2^33)):zE 150 [av f] (fv (f.f.scale (-1))):=by
 refine sF Tryz.f150 ?_
 have c1:=s104 (-1) (by decide) (by decide)
 have c2:=aJ f (zJ ((-1:Int):Rat)) hf ((bN (-1) (by decide) (by decide)).mono (by decide))
 rw[z9] at c2
 have e:f.f.scale ((-1:Int):Rat)=f.f.scale (-1):=rfl
 rw[e] at c2
 generalize fA (f.f.scale (-1))=W at *
 generalize zJ ((-1:Int):Rat)=o at *
 obtain⟨ft,f1,f2,f3⟩:=f
 obtain⟨wt,w1,w2,w3⟩:=W
 cbv
 refine zO 3 (by cbv) ?_
 cbv
 refine dA c1 ?_
 cbv
 refine dA c2 ?_
 cbv
 (refine rC ?_;cbv)
 exact okA
def Scp.lem (s:Scp) (n unit:Int) (up:Bool):Option Rat :=
 if 1≤n∧n≤s.lems.length then
  match s.lems[(n - 1).toNat]? with
  | some m=>if m.u=unit∧m.up=up then some m.v.q else none
  | none=>none
 else none
theorem zF4 {s:Scp}{n unit:Int}{up:Bool}(h:¬ (1≤n∧n≤s.lems.length)):s.lem n unit up=none:=if_neg h
theorem zF5 {s:Scp}{n unit:Int}{up:Bool}{m:Lem}(h:1≤n)(h2:n≤s.lems.length)(hm:s.lems[(n - 1).toNat]?=some m):s.lem n unit up=if m.u=unit∧m.up=up then some m.v.q else none:=by
 unfold Scp.lem
 rw[if_pos ⟨h,h2⟩,hm]
theorem zK4 (s:Scp)(n unit:Int)(up:Bool)(hs:Lsz (2^36) s.lems):zE 152 [sv s,.int .i64 (fun _=>n),.int .i64 (fun _=>unit),.bool (fun _=>up)] (.tup [rv (zJ ((s.lem n unit up).getD 0)),.bool (fun _=>(s.lem n unit up).isSome)]):=by
 refine sF Tryz.f152 ?_
 have hno:¬ (1≤n∧n≤s.lems.length)→s.lem n unit up=none:=fun h=>zF4 h
 have hat:∀ m,1≤n→n≤s.lems.length→s.lems[(n - 1).toNat]?=some m→s.lem n unit up=if m.u=unit∧m.up=up then some m.v.q else none:=fun m h1 h2 h3=>zF5 h1 h2 h3
 have hsl:=hs.len
 have hss:=hs.sz
 generalize s.lem n unit up=o at *
 obtain⟨⟨⟨gn,us,os⟩,⟨lo,hi,rows⟩,⟨ts,c1,c2,c3⟩⟩,path,lems⟩:=s
 simp only at hno hat hsl hss
 have fin:∀ (W:R) (b:Bool),o=none→W=zJ (o.getD 0)∧b=o.isSome→W=R0∧b=false:=fun W b h1 h2=>by
  rw[h1] at h2
  exact⟨by rw[h2.1];exact kB,h2.2⟩
 obtain⟨W,hW⟩:∃ W,W=zJ (o.getD 0):=⟨_,rfl⟩
 obtain⟨b,hb⟩:∃ b,b=o.isSome:=⟨_,rfl⟩
 rw[←hW,←hb]
 have fin':o=none→W=R0∧b=false:=fun h=>fin W b h ⟨hW,hb⟩
 have fin2:∀ q,o=some q→W=zJ q∧b=true:=fun q h=>by rw[h] at hW hb;exact⟨hW,hb⟩
 clear fin hW hb
 obtain⟨W1,W2,W3⟩:=W
 have fin3:o=none→W1=false∧W2=[]∧W3=[]∧b=false:=fun h=>by
  obtain⟨h1,h2⟩:=fin' h
  simp only[R.mk.injEq] at h1
  exact⟨h1.1,h1.2.1,h1.2.2,h2⟩
 clear fin'
 cbv
 refine zR (fun e1=>?_) (fun e1=>?_)
 ·cbv
  obtain⟨g1,g2,g3,g4⟩:=fin3 (hno (by omega))
  subst g1 g2 g3 g4
  (refine rC ?_;cbv)
  exact okA
 cbv
 refine zR (fun e2=>?_) (fun e2=>?_)
 ·cbv
  obtain⟨g1,g2,g3,g4⟩:=fin3 (hno (by rw[zA] at e2;(try dsimp only [zG] at *);omega))
  subst g1 g2 g3 g4
  (refine rC ?_;cbv)
  exact okA
 cbv
 rw[zA] at e2
 obtain⟨m,hm⟩:∃ m,lems[(n - 1).toNat]?=some m:=yA om
 have hat':=hat m (by omega) om hm
 have hms:=hss m (List.mem_of_getElem? hm)
 have cc:=s161 m.v hms
 have idx:∀ {K:List PV→Prop},K (lc m)→IdxOk 6 (fun _=>enc lc lems) (fun _=>n - 1) K:=fun hK=>y5 (l:=lems) (n - 1).toNat (by omega) om wT wQ (fun m' hm'=>by rw[hm] at hm';cases hm';exact hK)
 generalize hq:m.v.q=q at *
 obtain⟨mu,mup,⟨v1,v2,v3⟩,mpf⟩:=m
 simp only at hat'
 clear hat hno hq
 generalize hwq:zJ q=wq at *
 refine⟨zD om om,idx ?_⟩
 cbv
 refine zR (fun e3=>?_) (fun e3=>?_)
 ·cbv
  refine⟨zD om om,idx ?_⟩
  cbv
  refine zH (fun e4=>?_) (fun e4=>?_)
  ·cbv
   obtain⟨g1,g2⟩:=fin2 q (by rw[hat',if_pos ⟨e3,e4⟩])
   rw[hwq] at g1
   subst g1 g2
   refine⟨zD om om,idx ?_⟩
   cbv
   refine cA cc ?_
   cbv
   (refine rC ?_;cbv)
   exact okA
  ·cbv
   obtain⟨g1,g2,g3,g4⟩:=fin3 (by rw[hat',if_neg (fun h=>e4 h.2)])
   subst g1 g2 g3 g4
   (refine rC ?_;cbv)
   exact okA
 ·cbv
  obtain⟨g1,g2,g3,g4⟩:=fin3 (by rw[hat',if_neg (fun h=>e3 h.1)])
  subst g1 g2 g3 g4
  (refine rC ?_;cbv)
  exact okA
def Scp.dcd (s:Scp) (kind unit:Int):Bool:=s.path.any fun d=>decide (d.k=kind) && (decide (d.i=unit) && d.fits s.q)
theorem zNH (s:Scp)(kind unit:Int)(d:Dec)(hd:d.x.sz (2^36)):zE 200 [.agg (dc d),.dptr [.int .i64 (fun _=>kind)] 0,.dptr [.int .i64 (fun _=>unit)] 0,.dptr (sc s) 0] (.bool (fun _=>decide (d.k=kind) && (decide (d.i=unit) && d.fits s.q))):=by
 refine sF Tryz.f200 ?_
 have cf:=iW s.q d hd
 generalize d.fits s.q=ft at *
 obtain⟨⟨⟨gn,us,os⟩,⟨lo,hi,rows⟩,⟨ts,c1,c2,c3⟩⟩,path,lems⟩:=s
 obtain⟨k,i,x1,x2,x3⟩:=d
 generalize hr:(decide (k=kind) && (decide (i=unit) && ft))=r
 cbv
 refine zR (fun e1=>?_) (fun e1=>?_)
 ·rw[decide_eq_true e1,Bool.true_and] at hr
  cbv
  refine zR (fun e2=>?_) (fun e2=>?_)
  ·rw[decide_eq_true e2,Bool.true_and] at hr
   cbv
   refine cA cf ?_
   cbv
   (refine rC ?_;cbv)
   exact zV hr
  ·rw[decide_eq_false e2] at hr
   cbv
   (refine rC ?_;cbv)
   exact zN hr.symm
 ·rw[decide_eq_false e1] at hr
  cbv
  (refine rC ?_;cbv)
  exact zN hr.symm
theorem zK5 (s:Scp)(kind unit:Int)(hs:Dsz (2^36) s.path):zE 151 [sv s,.int .i64 (fun _=>kind),.int .i64 (fun _=>unit)] (.bool (fun _=>s.dcd kind unit)):=by
 refine sF Tryz.f151 ?_
 have c1:=zO4 (fun d=>decide (d.k=kind) && (decide (d.i=unit) && d.fits s.q)) s.path (Nat.lt_trans hs.len (by decide)) 200 [.dptr [.int .i64 (fun _=>kind)] 0,.dptr [.int .i64 (fun _=>unit)] 0,.dptr (sc s) 0] (fun d hd=>zNH s kind unit d (hs.sz d hd))
 have e:(s.path.any fun d=>decide (d.k=kind) && (decide (d.i=unit) && d.fits s.q))=s.dcd kind unit:=rfl
 rw[e] at c1
 generalize s.dcd kind unit=r at *
 obtain⟨⟨⟨gn,us,os⟩,⟨lo,hi,rows⟩,⟨ts,c1',c2,c3⟩⟩,path,lems⟩:=s
 cbv
 refine uT (.trans (.frz 3 rfl rfl (by repeat' first | exact trivial | apply And.intro) (by repeat' first | exact trivial | apply And.intro)) (.trans (.frz 4 rfl rfl (by repeat' first | exact trivial | apply And.intro) (by repeat' first | exact trivial | apply And.intro)) (.frz 5 rfl rfl (by repeat' first | exact trivial | apply And.intro) (by repeat' first | exact trivial | apply And.intro)))) rfl (by exact⟨lR,⟨rfl,lR,lR,lR,trivial⟩,trivial⟩) c1 rfl ?_
 cbv
 (refine rC ?_;cbv)
 exact lR
abbrev usv (s:Scp) (r:Row) (v p:A) (l u:R) (low top:Bool):PV:=.agg [.int .i64 (fun _=>s.q.g.n),alv s.q.g.us,alv s.q.g.os,rlv s.q.r.lo,rlv s.q.r.hi,alv s.q.r.rows,tsv s.q.goal.ts,.bool (fun _=>s.q.goal.c.neg),nat s.q.goal.c.num,nat s.q.goal.c.den,dlv s.path,llv s.lems,
 .int .i64 (fun _=>r.k),.int .i64 (fun _=>r.i),.int .i64 (fun _=>r.lo),.int .i64 (fun _=>r.hi),tsv v.ts,.bool (fun _=>v.c.neg),nat v.c.num,nat v.c.den,tsv p.ts,.bool (fun _=>p.c.neg),nat p.c.num,nat p.c.den,
 .bool (fun _=>l.neg),nat l.num,nat l.den,.bool (fun _=>u.neg),nat u.num,nat u.den,.bool (fun _=>low),.bool (fun _=>top)]
def onB (s:Scp) (r:Row) (l:Rat) (low:Bool):Bool:=decide (r.hi=0) && ((decide (r.lo=0) && s.dcd 1 r.i) || (low && decide (0≤yB l)))
def rH (s:Scp) (r:Row) (u:Rat) (top:Bool):Bool:=decide (r.lo=0) && ((decide (r.hi=0) && s.dcd 2 r.i) || (top && decide (yB u≤0)))
theorem zSB (s:Scp)(r:Row)(v p:A)(l u:R)(low top:Bool)(hs:Dsz (2^36) s.path)(hx:l.num.length<2^40):zE 153 [usv s r v p l u low top] (.bool (fun _=>onB s r l.q low)):=by
 refine sF Tryz.f153 ?_
 have cd:=zK5 s 1 r.i hs
 have cs:=s86 l hx
 generalize hres:onB s r l.q low=res
 have hr:res=(decide (r.hi=0) && ((decide (r.lo=0) && s.dcd 1 r.i) || (low && decide (0≤yB l.q)))):=hres.symm
 clear hres hs
 generalize s.dcd 1 r.i=dd at *
 generalize yB l.q=sg at *
 obtain⟨⟨⟨gn,us,os⟩,⟨lo,hi,rows⟩,⟨ts,c1,c2,c3⟩⟩,path,lems⟩:=s
 obtain⟨k,i,rlo,rhi⟩:=r
 obtain⟨vt,v1,v2,v3⟩:=v
 obtain⟨pt,p1,p2,p3⟩:=p
 obtain⟨l1,l2,l3⟩:=l
 obtain⟨u1,u2,u3⟩:=u
 simp only at hr
 cbv
 refine zLD ?_
 cbv
 refine zR (fun e1=>?_) (fun e1=>?_)
 ·rw[decide_eq_true e1,Bool.true_and] at hr
  cbv
  refine zR (fun e2=>?_) (fun e2=>?_)
  ·rw[decide_eq_true e2,Bool.true_and] at hr
   cbv
   refine cA cd ?_
   cbv
   refine z4 (fun e3=>?_) (fun e3=>?_)
   ·rw[e3,Bool.true_or] at hr
    cbv
    (refine rC ?_;cbv)
    exact yL hr
   ·rw[e3,Bool.false_or] at hr
    cbv
    refine z4 (fun e4=>?_) (fun e4=>?_)
    ·rw[e4,Bool.true_and] at hr
     cbv
     refine cA cs ?_
     cbv
     (refine rC ?_;cbv)
     exact zV hr.symm
    ·rw[e4,Bool.false_and] at hr
     cbv
     (refine rC ?_;cbv)
     exact zN hr
  ·rw[decide_eq_false e2,Bool.false_and,Bool.false_or] at hr
   cbv
   refine z4 (fun e4=>?_) (fun e4=>?_)
   ·rw[e4,Bool.true_and] at hr
    cbv
    refine cA cs ?_
    cbv
    (refine rC ?_;cbv)
    exact zV hr.symm
   ·rw[e4,Bool.false_and] at hr
    cbv
    (refine rC ?_;cbv)
    exact zN hr
 ·rw[decide_eq_false e1,Bool.false_and] at hr
  cbv
  (refine rC ?_;cbv)
  exact zN hr
theorem zQD (s:Scp)(r:Row)(v p:A)(l u:R)(low top:Bool)(hs:Dsz (2^36) s.path)(hx:u.num.length<2^40):zE 154 [usv s r v p l u low top] (.bool (fun _=>rH s r u.q top)):=by
 refine sF Tryz.f154 ?_
 have cd:=zK5 s 2 r.i hs
 have cs:=s86 u hx
 generalize hres:rH s r u.q top=res
 have hr:res=(decide (r.lo=0) && ((decide (r.hi=0) && s.dcd 2 r.i) || (top && decide (yB u.q≤0)))):=hres.symm
 clear hres hs
 generalize s.dcd 2 r.i=dd at *
 generalize yB u.q=sg at *
 obtain⟨⟨⟨gn,us,os⟩,⟨lo,hi,rows⟩,⟨ts,c1,c2,c3⟩⟩,path,lems⟩:=s
 obtain⟨k,i,rlo,rhi⟩:=r
 obtain⟨vt,v1,v2,v3⟩:=v
 obtain⟨pt,p1,p2,p3⟩:=p
 obtain⟨l1,l2,l3⟩:=l
 obtain⟨u1,u2,u3⟩:=u
 simp only at hr
 cbv
 refine zLD ?_
 cbv
 refine zR (fun e1=>?_) (fun e1=>?_)
 ·rw[decide_eq_true e1,Bool.true_and] at hr
  cbv
  refine zR (fun e2=>?_) (fun e2=>?_)
  ·rw[decide_eq_true e2,Bool.true_and] at hr
   cbv
   refine cA cd ?_
   cbv
   refine z4 (fun e3=>?_) (fun e3=>?_)
   ·rw[e3,Bool.true_or] at hr
    cbv
    (refine rC ?_;cbv)
    exact yL hr
   ·rw[e3,Bool.false_or] at hr
    cbv
    refine z4 (fun e4=>?_) (fun e4=>?_)
    ·rw[e4,Bool.true_and] at hr
     cbv
     refine cA cs ?_
     cbv
     (refine rC ?_;cbv)
     exact zV hr.symm
    ·rw[e4,Bool.false_and] at hr
     cbv
     (refine rC ?_;cbv)
     exact zN hr
  ·rw[decide_eq_false e2,Bool.false_and,Bool.false_or] at hr
   cbv
   refine z4 (fun e4=>?_) (fun e4=>?_)
   ·rw[e4,Bool.true_and] at hr
    cbv
    refine cA cs ?_
    cbv
    (refine rC ?_;cbv)
    exact zV hr.symm
   ·rw[e4,Bool.false_and] at hr
    cbv
    (refine rC ?_;cbv)
    exact zN hr
 ·rw[decide_eq_false e1,Bool.false_and] at hr
  cbv
  (refine rC ?_;cbv)
  exact zN hr
theorem wL {α:Type}{p:α→List PV}{n:Nat}{l:List α}{i:Nat}{a:α}{K:List PV→Prop}(h:l[i]?=some a)(hf:∀ a,yT v4 (p a)=true)(hn:∀ a,(p a).length=n)(hK:K (p a)):IdxOk n (fun _=>enc p l) (fun _=>(i:Int)) K :=
 y5 (l:=l) i rfl (List.getElem?_eq_some_iff.1 h).1 hf hn (fun a' ha'=>by rw[h] at ha';cases ha';exact hK)
theorem jW {α:Type}{p:α→List PV}{n:Nat}{l:List α}{i:Nat}{k:Int}{a:α}{K:List PV→Prop}(h:l[i]?=some a)(hk:k=(i:Int))(hf:∀ a,yT v4 (p a)=true)(hn:∀ a,(p a).length=n)(hK:K (p a)):IdxOk n (fun _=>enc p l) (fun _=>k) K :=
 y5 (l:=l) i hk (List.getElem?_eq_some_iff.1 h).1 hf hn (fun a' ha'=>by rw[h] at ha';cases ha';exact hK)
theorem jL {α:Type}{p:α→List PV}{l:List α}{i:Nat}(h:(i:Int)<((enc p l).length:Int)):i<l.length:=by rw[zA] at h;omega
theorem cG {α:Type}{p:α→List PV}{l:List α}{i:Nat}(h:¬ (i:Int)<((enc p l).length:Int))(h2:i≤l.length):i=l.length:=by rw[zA] at h;omega
theorem nP {rs:List ResultVar}{r:PV}{ps ps':PS}{n:Nat}{o:Obj'}(hw:Wk ps ps')(h3:lv r=true)(h4:yG ps'.objs n=some o)(h5:wO o=true)(h6:Nat.ble 1000000 n=true)(h:match dV ps' rs with
  | some l=>les (mV l) (ren id r)
  | none=>False):RetOk rs r [(n,o)] [] ps:=by
 cases h1:dV ps' rs with
 | none=>rw[h1] at h;exact h.elim
 | some l=>rw[h1] at h;exact⟨ps',l,id,hw,h1,cC h,h3,⟨⟨h4,h5⟩,trivial⟩,rfl,⟨rfl,Nat.le_of_ble_eq_true h6⟩,trivial⟩
theorem sR7V (a:A)(vars:Int)(ha:a.sz (2^32)):zE 48 [av a,.int .i64 (fun _=>vars)] (.bool (fun _=>a.valid vars)):=by
 refine sF Tryz.f48 ?_
 obtain⟨ts,c⟩:=a
 have hl:=ha.t.len
 have hts:=ha.t.sz
 have cc:=s129 c ha.c
 generalize hr:A.valid vars ⟨ts,c⟩=r
 have hr0:r=(vT vars (-1) ts && c.ok):=hr.symm
 simp only at hl hts cc
 generalize c.ok=co at *
 clear hr ha
 cbv
 refine zY (σ:=Nat × Int) (fun s=>⟨[(1,.int .i64 (fun _=>vars)),(2,.ptr 2 0),(5,.int .i64 (fun _=>(s.1:Int)))],[(2,.box [tsv ts,.bool (fun _=>c.neg),nat c.num,nat c.den])]⟩)
  (fun s=>s.1≤ts.length∧r=(vT vars s.2 (ts.drop s.1) && co)∧(s.1=0→s.2=-1)∧(s.1≠0→∃ u,ts[s.1 - 1]?=some u∧u.1=s.2)) (fun s=>ts.length - s.1)
  (0,-1) ⟨om,hr0,fun _=>rfl,fun h=>absurd rfl h⟩ (wkZ) ?_
 intro s hs
 obtain⟨h1,hv,h3,h4⟩:=hs
 generalize s.1=i at *
 generalize s.2=p at *
 cbv
 refine zH (fun h5=>?_) (fun h5=>?_)
 ·obtain⟨t,ht⟩:=yA (jL h5)
  rw[zZ ht,lL] at hv
  have htz:=hts t (List.mem_of_getElem? ht)
  have cs:=s35 t.2 (by have:=htz.n;omega)
  have cv:=s129 t.2 htz
  have hq:decide (t.2.q≠0)=decide (yB t.2.q≠0):=by rw[decide_eq_decide];exact sgnQ_ne.symm
  rw[hq] at hv
  generalize yB t.2.q=sg at *
  generalize hok:t.2.ok=ok at *
  generalize hrest:(vT vars t.1 (ts.drop (i+1)) && co)=rest
  have hv':r=(decide (0≤t.1) && decide (t.1<vars) && decide (p<t.1) && decide (sg≠0) && ok && rest):=by rw[hv,←hrest];simp only[Bool.and_assoc]
  have hi0:i<2^38:=by have:=(List.getElem?_eq_some_iff.1 ht).1;omega
  clear hv
  cbv
  refine wL ht x7 x5 ?_
  cbv
  refine zO 37 (by cbv) ?_
  cbv
  refine zR (fun e1=>?_) (fun e1=>?_)
  ·cbv
   (refine rC ?_;cbv)
   exact zN (by rw[hv',decide_eq_false (by omega)];rfl)
  cbv
  refine zR (fun e2=>?_) (fun e2=>?_)
  ·cbv
   (refine rC ?_;cbv)
   exact zN (by rw[hv',decide_eq_false (p:=t.1<vars) (by omega)];simp)
  cbv
  have fin:(¬ (p<t.1)→r=false):=fun h=>by rw[hv',decide_eq_false (p:=p<t.1) h];simp
  have hmain:(p<t.1)→r=(decide (sg≠0) && ok && rest):=fun h=>by
   rw[hv',decide_eq_true (p:=p<t.1) h,decide_eq_true (p:=0≤t.1) (by omega),decide_eq_true (p:=t.1<vars) (by omega)];simp only[Bool.true_and]
  clear hv'
  have tail:r=(decide (sg≠0) && ok && rest)→True:=fun _=>trivial
  refine zR (fun e3=>?_) (fun e3=>?_)
  ·obtain⟨u,hu,hu2⟩:=h4 om
   cbv
   refine⟨zD om om,jW hu om x7 x5 ?_⟩
   cbv
   refine zR (fun e4=>?_) (fun e4=>?_)
   ·cbv
    (refine rC ?_;cbv)
    exact zN (fin (by omega))
   have hm:=hmain (by omega)
   cbv
   refine dA cs ?_
   cbv
   refine zR (fun e5=>?_) (fun e5=>?_)
   ·cbv
    (refine rC ?_;cbv)
    exact zN (by rw[hm,decide_eq_false (by simpa using e5)];rfl)
   rw[decide_eq_true e5,Bool.true_and] at hm
   cbv
   refine dA cv ?_
   cbv
   refine zS (fun e6=>?_) (fun e6=>?_)
   ·rw[e6,Bool.true_and] at hm
    cbv
    exact⟨zD om om,(i+1,t.1),⟨by have:=(List.getElem?_eq_some_iff.1 ht).1;omega,by rw[hm,hrest],fun h=>absurd h (by simp),fun _=>⟨_,ht,rfl⟩⟩,by have:=(List.getElem?_eq_some_iff.1 ht).1;omega,wkZ⟩
   ·cbv
    (refine rC ?_;cbv)
    exact zN (by rw[hm,e6];rfl)
  ·have hp:=h3 om
   have hm:=hmain (by omega)
   cbv
   refine dA cs ?_
   cbv
   refine zR (fun e5=>?_) (fun e5=>?_)
   ·cbv
    (refine rC ?_;cbv)
    exact zN (by rw[hm,decide_eq_false (by simpa using e5)];rfl)
   rw[decide_eq_true e5,Bool.true_and] at hm
   cbv
   refine dA cv ?_
   cbv
   refine zS (fun e6=>?_) (fun e6=>?_)
   ·rw[e6,Bool.true_and] at hm
    cbv
    exact⟨zD om om,(i+1,t.1),⟨by have:=(List.getElem?_eq_some_iff.1 ht).1;omega,by rw[hm,hrest],fun h=>absurd h (by simp),fun _=>⟨_,ht,rfl⟩⟩,by have:=(List.getElem?_eq_some_iff.1 ht).1;omega,wkZ⟩
   ·cbv
    (refine rC ?_;cbv)
    exact zN (by rw[hm,e6];rfl)
 ·have he:=cG h5 h1
  rw[he,List.drop_length] at hv
  have hv':r=co:=by rw[hv];rfl
  cbv
  refine cA cc ?_
  cbv
  (refine rC ?_;cbv)
  exact zV hv'.symm
theorem sR7A (l:List A)(vars:Int)(hl:Asz (2^32) l):zE 157 [alv l,.int .i64 (fun _=>vars)] (.bool (fun _=>l.all (A.valid vars))):=by
 refine sF Tryz.f157 ?_
 have hll:=hl.len
 have hls:=hl.sz
 have hc:∀ a,a∈l→zE 48 [av a,.int .i64 (fun _=>vars)] (.bool (fun _=>a.valid vars)):=fun a h=>sR7V a vars (hls a h)
 obtain⟨P,hP⟩:∃ P,A.valid vars=P:=⟨_,rfl⟩
 rw[hP] at hc ⊢
 generalize hr:l.all P=r
 have hr0:r=(l.drop 0).all P:=hr.symm
 clear hr hls hl
 cbv
 refine zY (σ:=Nat) (fun i=>⟨[(0,alv l),(1,.int .i64 (fun _=>vars)),(5,.int .i64 (fun _=>(i:Int)))],[]⟩) (fun i=>i≤l.length∧r=(l.drop i).all P) (fun i=>l.length - i) 0 ⟨by omega,hr0⟩ (wkZ) ?_
 intro i hi
 obtain⟨h1,h2⟩:=hi
 cbv
 refine zH (fun h5=>?_) (fun h5=>?_)
 ·have hlt:=jL h5
  obtain⟨a,ha⟩:=yA hlt
  have ca:=hc a (List.mem_of_getElem? ha)
  rw[zZ ha,List.all_cons] at h2
  generalize P a=pa at *
  generalize hrest:(l.drop (i+1)).all P=rest at *
  cbv
  refine wL ha jA dE ?_
  cbv
  refine cA ca ?_
  cbv
  refine zS (fun e=>?_) (fun e=>?_)
  ·cbv
   exact⟨zD om om,i+1,⟨om,by rw[h2,e,hrest];rfl⟩,om,wkZ⟩
  ·cbv
   (refine rC ?_;cbv)
   exact zN (by rw[h2,e];rfl)
 ·have he:=cG h5 h1
  rw[he,List.drop_length] at h2
  have h2':r=true:=h2
  cbv
  (refine rC ?_;cbv)
  exact yL h2'
theorem sR3A (l:List R)(hl:Rsz (2^32) l):zE 189 [rlv l] (.bool (fun _=>l.all R.ok)):=by
 refine sF Tryz.f189 ?_
 have hll:=hl.len
 have hls:=hl.sz
 have hc:∀ a,a∈l→zE 109 [rv a] (.bool (fun _=>a.ok)):=fun a h=>s129 a (hls a h)
 obtain⟨P,hP⟩:∃ P,R.ok=P:=⟨_,rfl⟩
 rw[hP] at hc ⊢
 generalize hr:l.all P=r
 have hr0:r=(l.drop 0).all P:=hr.symm
 clear hr hls hl
 cbv
 refine zY (σ:=Nat) (fun i=>⟨[(0,rlv l),(3,.int .i64 (fun _=>(i:Int)))],[]⟩) (fun i=>i≤l.length∧r=(l.drop i).all P) (fun i=>l.length - i) 0 ⟨by omega,hr0⟩ (wkZ) ?_
 intro i hi
 obtain⟨h1,h2⟩:=hi
 cbv
 refine zH (fun h5=>?_) (fun h5=>?_)
 ·have hlt:=jL h5
  obtain⟨a,ha⟩:=yA hlt
  have ca:=hc a (List.mem_of_getElem? ha)
  rw[zZ ha,List.all_cons] at h2
  generalize P a=pa at *
  generalize hrest:(l.drop (i+1)).all P=rest at *
  cbv
  refine wL ha jS dW ?_
  cbv
  refine cA ca ?_
  cbv
  refine zS (fun e=>?_) (fun e=>?_)
  ·cbv
   exact⟨zD om om,i+1,⟨om,by rw[h2,e,hrest];rfl⟩,om,wkZ⟩
  ·cbv
   (refine rC ?_;cbv)
   exact zN (by rw[h2,e];rfl)
 ·have he:=cG h5 h1
  rw[he,List.drop_length] at h2
  have h2':r=true:=h2
  cbv
  (refine rC ?_;cbv)
  exact yL h2'
end Go.Proofs.YtgcpehdkdnkgeaaGreat
