/- A part of the proof: RvB, DvA, RwC. -/
import Derived.Test.YtgcpehdkdnkgeaaGreatV25
set_option linter.all false
namespace Go.Proofs.YtgcpehdkdnkgeaaGreat
open Go
set_option maxRecDepth 100000
set_option maxHeartbeats 2000000
theorem zO2 (g:Grp)(hg:g.sz (2^32)):zE 90 [gv g] (.bool (fun _=>g.valid)):=by
 refine sF Tryz.f90 ?_
 obtain⟨n,us,os⟩:=g
 have hus:=hg.us
 have hos:=hg.os
 have hc:∀ a,a∈us→∀ k,zE 48 [av a,.int .i64 (fun _=>k)] (.bool (fun _=>a.valid k)):=fun a h k=>sR7V a k (hus.sz a h)
 have ca:=sR7A os (n+us.length) hos
 have hul:=hus.len
 have hol:=hos.len
 dsimp only at hul hol
 generalize hr:Grp.valid ⟨n,us,os⟩=r
 have hr0:r=(decide (1≤n∧n≤256∧us.length≤1024∧1≤os.length∧os.length≤256) && vU n us && os.all (A.valid (n+us.length))):=hr.symm
 obtain⟨U,hU⟩:∃ U,vU=U:=⟨_,rfl⟩
 have hU0:∀ k,U k []=true:=fun k=>by rw[←hU];rfl
 have hU1:∀ k f l,U k (f::l)=(f.valid k && U (k+1) l):=fun k f l=>by rw[←hU];rfl
 rw[hU] at hr0
 generalize os.all (A.valid (n+us.length))=oa at *
 have hf:¬ (1≤n∧n≤256∧us.length≤1024∧1≤os.length∧os.length≤256)→r=false:=fun h=>by rw[hr0,decide_eq_false h];rfl
 have ht:(1≤n∧n≤256∧us.length≤1024∧1≤os.length∧os.length≤256)→r=(U n us && oa):=fun h=>by rw[hr0,decide_eq_true h,Bool.true_and]
 clear hr hr0 hU hg hus hos
 cbv
 refine zR (fun e1=>?_) (fun e1=>?_)
 ·cbv
  (refine rC ?_;cbv)
  exact zN (hf okQ)
 cbv
 refine zR (fun e2=>?_) (fun e2=>?_)
 ·cbv
  (refine rC ?_;cbv)
  exact zN (hf okQ)
 cbv
 refine zR (fun e3=>?_) (fun e3=>?_)
 ·cbv
  (refine rC ?_;cbv)
  exact zN (hf okQ)
 cbv
 refine zR (fun e4=>?_) (fun e4=>?_)
 ·cbv
  (refine rC ?_;cbv)
  exact zN (hf okQ)
 cbv
 refine zH (fun e5=>?_) (fun e5=>?_)
 ·cbv
  (refine rC ?_;cbv)
  exact zN (hf okQ)
 have hv:=ht okQ
 have hn1:1≤n:=okQ
 have hn2:n≤256:=okQ
 have hu2:us.length≤1024:=okQ
 clear ht hf e1 e2 e3 e4 e5
 cbv
 refine zY (σ:=Nat) (fun i=>⟨[(1,.ptr 1 0),(3,.int .i64 (fun _=>(i:Int)))],[(1,.box [.int .i64 (fun _=>n),alv us,alv os])]⟩) (fun i=>i≤us.length∧r=(U (n+i) (us.drop i) && oa)) (fun i=>us.length - i) 0 ⟨by omega,by rw[hv,show n+((0:Nat):Int)=n by omega];rfl⟩ (wkZ) ?_
 clear hv
 intro i hi
 obtain⟨h1,h2⟩:=hi
 cbv
 refine zH (fun h5=>?_) (fun h5=>?_)
 ·have hlt:=jL h5
  obtain⟨a,ha⟩:=yA hlt
  have cv:=hc a (List.mem_of_getElem? ha) (n+i)
  rw[zZ ha,hU1] at h2
  generalize a.valid (n+i)=pa at *
  generalize hrest:U (n+i+1) (us.drop (i+1))=rest at *
  have hrest':U (n+((i+1:Nat):Int)) (us.drop (i+1))=rest:=by rw[←hrest];congr 1;omega
  cbv
  refine zO 9 (by cbv) ?_
  cbv
  refine wL ha jA dE ?_
  cbv
  refine⟨zD om om,?_⟩
  cbv
  refine cA cv ?_
  cbv
  refine zS (fun e=>?_) (fun e=>?_)
  ·cbv
   exact⟨zD om om,i+1,⟨om,by rw[h2,e,hrest',Bool.true_and]⟩,om,wkZ⟩
  ·cbv
   (refine rC ?_;cbv)
   exact zN (by rw[h2,e];rfl)
 ·have he:=cG h5 h1
  rw[he,List.drop_length,hU0] at h2
  have h2':r=oa:=h2
  cbv
  refine⟨zD okQ okQ,?_⟩
  cbv
  refine yX rfl (by refine⟨lR,zC ?_,trivial⟩;rw[zA]) ca rfl ?_
  cbv
  (refine rC ?_;cbv)
  exact zV h2'.symm
theorem zJM (g:Grp)(hg:g.sz (2^32)):zE 39 [gv g] (.int .i64 (fun _=>if g.valid=true then g.vars else 0)):=by
 refine sF Tryz.f39 ?_
 have cv:=zO2 g hg
 have hb:g.valid=true→1≤g.n∧g.n≤256∧g.us.length≤1024:=fun h=>by
  unfold Grp.valid at h
  simp only[Bool.and_eq_true,decide_eq_true_eq] at h
  omega
 have hd:g.vars=g.n+g.us.length:=rfl
 generalize g.vars=w at *
 generalize g.valid=b at *
 obtain⟨n,us,os⟩:=g
 dsimp only at hb hd
 cbv
 refine cA cv ?_
 cbv
 refine zS (fun e=>?_) (fun e=>?_)
 ·have hb':=hb e
  cbv
  refine⟨zD okQ okQ,?_⟩
  cbv
  (refine rC ?_;cbv)
  exact zC (by rw[zA,if_pos e,hd])
 ·cbv
  (refine rC ?_;cbv)
  exact zC (by rw[if_neg (by rw[e];decide)])
def cB:List R→List R→Bool
 | l::ls,h::hs=>decide (kL l.q h.q≤0) && cB ls hs
 | _,_=>true
theorem iF:∀ {lo hi:List R},lo.length=hi.length→vB lo hi=(lo.all R.ok && (hi.all R.ok && cB lo hi))
 | [],[],_=>rfl
 | l::ls,h::hs,e=>by
  have ih:=iF (lo:=ls) (hi:=hs) (by simpa using e)
  rw[zGF,ih,List.all_cons,List.all_cons]
  show _=(l.ok && ls.all R.ok && (h.ok && hs.all R.ok && (decide (kL l.q h.q≤0) && cB ls hs)))
  generalize l.ok=a
  generalize h.ok=b
  generalize decide (kL l.q h.q≤0)=c
  generalize ls.all R.ok=d
  generalize hs.all R.ok=f
  generalize cB ls hs=g
  cases a <;> cases b <;> cases c <;> cases d <;> cases f <;> cases g <;> rfl
 | [],h::hs,e=>by simp at e
 | l::ls,[],e=>by simp at e
theorem zSF (g:Reg)(n:Int)(hg:g.sz (2^31)):zE 132 [rgv g,.int .i64 (fun _=>n)] (.bool (fun _=>g.valid n)):=by
 refine sF Tryz.f132 ?_
 obtain⟨lo,hi,rows⟩:=g
 have cl:=sR3A lo (hg.lo.mono (by decide))
 have ch:=sR3A hi (hg.hi.mono (by decide))
 have cr:=sR7A rows n (hg.rows.mono (by decide))
 have hlo:=hg.lo.sz
 have hhi:=hg.hi.sz
 have hll:=hg.lo.len
 have hhl:=hg.hi.len
 have hrl:=hg.rows.len
 dsimp only at hlo hhi hll hhl hrl
 have cc:∀ a b,a∈lo→b∈hi→zE 54 [rv a,rv b] (.int .i64 (fun _=>kL a.q b.q)):=fun a b h1 h2=>s42 a b (hlo a h1) (hhi b h2)
 generalize hr:Reg.valid n ⟨lo,hi,rows⟩=r
 have hr0:r=(decide (1≤n∧n≤256∧(lo.length:Int)=n∧(hi.length:Int)=n∧rows.length≤256) && vB lo hi && rows.all (A.valid n)):=hr.symm
 have hf:¬ (1≤n∧n≤256∧(lo.length:Int)=n∧(hi.length:Int)=n∧rows.length≤256)→r=false:=fun h=>by rw[hr0,decide_eq_false h];rfl
 have ht:(1≤n∧n≤256∧(lo.length:Int)=n∧(hi.length:Int)=n∧rows.length≤256)→r=(lo.all R.ok && (hi.all R.ok && cB lo hi) && rows.all (A.valid n)):=fun h=>by rw[hr0,decide_eq_true h,Bool.true_and,iF (by omega)]
 obtain⟨C,hC⟩:∃ C,cB=C:=⟨_,rfl⟩
 have hC0:C [] []=true:=by rw[←hC];rfl
 have hC1:∀ a l b m,C (a::l) (b::m)=(decide (kL a.q b.q≤0) && C l m):=fun _ _ _ _=>by rw[←hC];rfl
 rw[hC] at ht
 generalize lo.all R.ok=la at *
 generalize hi.all R.ok=ha at *
 generalize rows.all (A.valid n)=ra at *
 clear hr hr0 hC hlo hhi hg
 cbv
 refine zR (fun e1=>?_) (fun e1=>?_)
 ·cbv
  (refine rC ?_;cbv)
  exact zN (hf okQ)
 cbv
 refine zR (fun e2=>?_) (fun e2=>?_)
 ·cbv
  (refine rC ?_;cbv)
  exact zN (hf okQ)
 cbv
 refine zR (fun e3=>?_) (fun e3=>?_)
 rotate_left
 ·cbv
  (refine rC ?_;cbv)
  exact zN (hf okQ)
 cbv
 refine zR (fun e4=>?_) (fun e4=>?_)
 rotate_left
 ·cbv
  (refine rC ?_;cbv)
  exact zN (hf okQ)
 cbv
 refine zH (fun e5=>?_) (fun e5=>?_)
 ·cbv
  (refine rC ?_;cbv)
  exact zN (hf okQ)
 have hv:=ht okQ
 have hn1:1≤n:=okQ
 have hn2:n≤256:=okQ
 have hn3:(lo.length:Int)=n:=okQ
 have hn4:(hi.length:Int)=n:=okQ
 clear ht hf e1 e2 e3 e4 e5
 cbv
 refine cA cl ?_
 cbv
 refine z4 (fun e=>?_) (fun e=>?_)
 rotate_left
 ·cbv
  (refine rC ?_;cbv)
  exact zN (by rw[hv,e];rfl)
 rw[e,Bool.true_and] at hv
 cbv
 refine cA ch ?_
 cbv
 refine z4 (fun e=>?_) (fun e=>?_)
 rotate_left
 ·cbv
  (refine rC ?_;cbv)
  exact zN (by rw[hv,e];rfl)
 rw[e,Bool.true_and] at hv
 cbv
 refine cA cr ?_
 cbv
 refine zS (fun e=>?_) (fun e=>?_)
 rotate_left
 ·cbv
  (refine rC ?_;cbv)
  exact zN (by rw[hv,e];simp)
 rw[e,Bool.and_true] at hv
 cbv
 refine zY (σ:=Nat) (fun i=>⟨[(1,.int .i64 (fun _=>n)),(2,.ptr 2 0),(5,.int .i64 (fun _=>(i:Int)))],[(2,.box [rlv lo,rlv hi,alv rows])]⟩) (fun i=>i≤lo.length∧r=C (lo.drop i) (hi.drop i)) (fun i=>lo.length - i) 0 ⟨by omega,hv⟩ (wkZ) ?_
 clear hv
 intro i hi'
 obtain⟨h1,h2⟩:=hi'
 cbv
 refine zH (fun h5=>?_) (fun h5=>?_)
 ·have hlt:i<lo.length:=okQ
  obtain⟨a,ha⟩:=yA hlt
  obtain⟨b,hb⟩:=yA (l:=hi) (i:=i) okQ
  have cv:=cc a b (List.mem_of_getElem? ha) (List.mem_of_getElem? hb)
  rw[zZ ha,zZ hb,hC1] at h2
  generalize kL a.q b.q=cq at *
  generalize hrest:C (lo.drop (i+1)) (hi.drop (i+1))=rest at *
  cbv
  refine zO 10 (by cbv) ?_
  cbv
  refine wL ha jS dW ?_
  cbv
  refine wL hb jS dW ?_
  cbv
  refine cA cv ?_
  cbv
  refine zH (fun e=>?_) (fun e=>?_)
  ·cbv
   (refine rC ?_;cbv)
   exact zN (by rw[h2,decide_eq_false (by omega)];rfl)
  ·cbv
   exact⟨zD om om,i+1,⟨om,by rw[h2,decide_eq_true (by omega),hrest];rfl⟩,om,wkZ⟩
 ·have he:i=lo.length:=okQ
  have he2:i=hi.length:=okQ
  rw[show lo.drop i=[] by rw[he,List.drop_length],show hi.drop i=[] by rw[he2,List.drop_length],hC0] at h2
  cbv
  (refine rC ?_;cbv)
  exact yL h2
theorem zFL (q:Qry)(hq:q.sz (2^31)):zE 66 [qv q] (.bool (fun _=>q.valid)):=by
 refine sF Tryz.f66 ?_
 have c1:=zO2 q.g (hq.g.mono (by decide))
 have c2:=zSF q.r q.g.n hq.r
 have c3:=zJM q.g (hq.g.mono (by decide))
 have c4:=sR7V q.goal q.g.vars (hq.goal.mono (by decide))
 have hr:q.valid=(q.g.valid && q.r.valid q.g.n && q.goal.valid q.g.vars):=rfl
 generalize q.valid=r at *
 generalize q.g.valid=b1 at *
 generalize q.r.valid q.g.n=b2 at *
 generalize q.goal.valid q.g.vars=b3 at *
 generalize q.g.vars=w at *
 obtain⟨⟨n,us,os⟩,⟨lo,hi,rows⟩,⟨ts,x1,x2,x3⟩⟩:=q
 cbv
 refine zO 19 (by cbv) ?_
 cbv
 refine dA c1 ?_
 cbv
 refine z4 (fun e=>?_) (fun e=>?_)
 rotate_left
 ·cbv
  (refine rC ?_;cbv)
  exact zN (by rw[hr,e];rfl)
 rw[e,Bool.true_and] at hr
 cbv
 refine dA c2 ?_
 cbv
 refine z4 (fun e2=>?_) (fun e2=>?_)
 rotate_left
 ·cbv
  (refine rC ?_;cbv)
  exact zN (by rw[hr,e2];rfl)
 rw[e2,Bool.true_and] at hr
 cbv
 refine dA c3 ?_
 cbv
 refine yU (by exact⟨okA,zC (if_pos e),trivial⟩) c4 rfl ?_
 cbv
 (refine rC ?_;cbv)
 exact zV hr.symm
theorem zFW (q:Qry)(d:Dec)(hd:d.x.sz (2^32)):zE 97 [qv q,dv d] (.bool (fun _=>d.fits q)):=by
 refine sF Tryz.f97 ?_
 have cz:=s69 d.x R0 hd ⟨by decide,by decide⟩
 have cv:=s129 d.x hd
 have hr:d.fits q=if d.k=1∨d.k=2 then decide (0≤d.i∧d.i<q.g.us.length) && decide (d.x=R0) else if d.k=3∨d.k=4 then decide (0≤d.i∧d.i<q.g.n) && d.x.ok else false:=rfl
 generalize d.fits q=r at *
 generalize decide (d.x=R0)=z at *
 generalize d.x.ok=ok at *
 obtain⟨⟨n,us,os⟩,⟨lo,hi,rows⟩,⟨ts,c1,c2,c3⟩⟩:=q
 obtain⟨k,i,x1,x2,x3⟩:=d
 simp only at hr
 have u1:∀ (hk:k=1∨k=2),(0≤i→i<us.length→r=z)∧(¬ (0≤i∧i<us.length)→r=false):=fun hk=>by
  rw[if_pos hk] at hr
  exact⟨fun h1 h2=>by rw[hr,decide_eq_true ⟨h1,h2⟩,Bool.true_and],fun h=>by rw[hr,decide_eq_false h];rfl⟩
 have u2:∀ (hk:k=3∨k=4),(0≤i→i<n→r=ok)∧(¬ (0≤i∧i<n)→r=false):=fun hk=>by
  rw[if_neg (by omega),if_pos hk] at hr
  exact⟨fun h1 h2=>by rw[hr,decide_eq_true ⟨h1,h2⟩,Bool.true_and],fun h=>by rw[hr,decide_eq_false h];rfl⟩
 have u3:¬ (k=1∨k=2∨k=3∨k=4)→r=false:=fun hk=>by
  rw[if_neg (by omega),if_neg (by omega)] at hr;exact hr
 clear hr
 cbv
 have hk:(k=1∨k=2)∨(k=3∨k=4)∨(k≤0∨5≤k):=by omega
 rcases hk with hk | hk | hk
 ·obtain⟨v1,v2⟩:=u1 hk
  clear u1 u2 u3
  refine j9 (σ:=Unit) (fun _=>⟨[(2,.ptr 2 0),(3,.ptr 3 0),(6,.int .i64 (fun _=>k)),(7,.tt)],[(2,.box [.int .i64 (fun _=>n),alv us,alv os,rlv lo,rlv hi,alv rows,tsv ts,.bool (fun _=>c1),nat c2,nat c3]),(3,.box [.int .i64 (fun _=>k),.int .i64 (fun _=>i),.bool (fun _=>x1),nat x2,nat x3])]⟩) (fun _=>True) (fun e=>?_) (fun e=>?_) (fun _ _=>?_)
  ·cbv
   exact⟨(),trivial,.le (by cbv;exact⟨lR,lR,lR,⟨by simp only[Le,decide_eq_true_eq];exact e⟩,trivial⟩) okZ rfl⟩
  ·cbv
   exact⟨(),trivial,.le (by cbv;exact⟨lR,lR,lR,⟨by simp only[Le,decide_eq_true_eq];(try dsimp only [zG] at *);omega⟩,trivial⟩) okZ rfl⟩
  ·cbv
   refine zR (fun e1=>?_) (fun e1=>?_)
   ·cbv
    refine zR (fun e2=>?_) (fun e2=>?_)
    ·cbv
     refine cA cz ?_
     cbv
     (refine rC ?_;cbv)
     exact zV (by rw[v1 okQ okQ])
    ·cbv
     (refine rC ?_;cbv)
     exact zN (v2 okQ)
   ·cbv
    (refine rC ?_;cbv)
    exact zN (v2 okQ)
 ·obtain⟨v1,v2⟩:=u2 hk
  clear u1 u2 u3
  refine z3 om ?_
  cbv
  refine z3 om ?_
  cbv
  refine j9 (σ:=Unit) (fun _=>⟨[(2,.ptr 2 0),(3,.ptr 3 0),(28,.tt)],[(2,.box [.int .i64 (fun _=>n),alv us,alv os,rlv lo,rlv hi,alv rows,tsv ts,.bool (fun _=>c1),nat c2,nat c3]),(3,.box [.int .i64 (fun _=>k),.int .i64 (fun _=>i),.bool (fun _=>x1),nat x2,nat x3])]⟩) (fun _=>True) (fun e=>?_) (fun e=>?_) (fun _ _=>?_)
  ·cbv
   exact⟨(),trivial,.le (by cbv;exact⟨lR,lR,⟨by simp only[Le,decide_eq_true_eq];exact e⟩,trivial⟩) okZ rfl⟩
  ·cbv
   exact⟨(),trivial,.le (by cbv;exact⟨lR,lR,⟨by simp only[Le,decide_eq_true_eq];(try dsimp only [zG] at *);omega⟩,trivial⟩) okZ rfl⟩
  ·cbv
   refine zR (fun e1=>?_) (fun e1=>?_)
   ·cbv
    refine zR (fun e2=>?_) (fun e2=>?_)
    ·cbv
     refine cA cv ?_
     cbv
     (refine rC ?_;cbv)
     exact zV (by rw[v1 okQ okQ])
    ·cbv
     (refine rC ?_;cbv)
     exact zN (v2 okQ)
   ·cbv
    (refine rC ?_;cbv)
    exact zN (v2 okQ)
 ·have hr:=u3 (by omega)
  refine z3 om ?_
  cbv
  refine z3 om ?_
  cbv
  refine z3 om ?_
  cbv
  refine z3 om ?_
  cbv
  (refine rC ?_;cbv)
  exact zN hr
theorem zSE (q:Qry)(d:Dec)(hq:q.sz (2^31))(hd:d.x.sz (2^32)):zE 38 [qv q,dv d] (.bool (fun _=>q.valid && d.fits q)):=by
 refine sF Tryz.f38 ?_
 have c1:=zFL q hq
 have c2:=zFW q d hd
 generalize hr:(q.valid && d.fits q)=r
 generalize q.valid=b1 at *
 generalize d.fits q=b2 at *
 obtain⟨⟨n,us,os⟩,⟨lo,hi,rows⟩,⟨ts,x1,x2,x3⟩⟩:=q
 obtain⟨k,i,y1,y2,y3⟩:=d
 cbv
 refine cA c1 ?_
 cbv
 refine z4 (fun e=>?_) (fun e=>?_)
 ·cbv
  refine cA c2 ?_
  cbv
  (refine rC ?_;cbv)
  exact zV (by rw[←hr,e];rfl)
 ·cbv
  (refine rC ?_;cbv)
  exact zN (by rw[←hr,e];rfl)
def cI (x y:Int):Int:=if x<y then -1 else if y<x then 1 else 0
def orI (x y:Int):Int:=if x≠0 then x else y
def xP (a b:Row):Int:=orI (cI a.k b.k) (orI (cI a.i b.i) (orI (cI a.lo b.lo) (cI a.hi b.hi)))
theorem zJ3 {b:Bool}(h:b=true):LeS (.nbool (fun _=>b)) .ff:=⟨by simp [Le,h]⟩
theorem sNaN (x:Int):zE 206 [.int .i64 (fun _=>x)] .ff:=by
 refine sF Tryz.f206 ?_
 cbv
 (refine rC ?_;cbv)
 exact zJ3 (by simp)
theorem zIX (x y:Int):zE 176 [.int .i64 (fun _=>x),.int .i64 (fun _=>y)] (.int .i64 (fun _=>cI x y)):=by
 refine sF Tryz.f176 ?_
 have cx:=sNaN x
 have cy:=sNaN y
 have h1:x<y→cI x y=-1:=fun h=>if_pos h
 have h2:¬ x<y→y<x→cI x y=1:=fun h g=>by unfold cI;rw[if_neg h,if_pos g]
 have h3:¬ x<y→¬ y<x→cI x y=0:=fun h g=>by unfold cI;rw[if_neg h,if_neg g]
 generalize cI x y=c at *
 cbv
 refine cA cx ?_
 cbv
 refine cA cy ?_
 cbv
 refine zH (fun h=>?_) (fun h=>?_)
 ·cbv
  (refine rC ?_;cbv)
  exact zC (h1 h).symm
 ·cbv
  refine zH (fun g=>?_) (fun g=>?_)
  ·cbv
   (refine rC ?_;cbv)
   exact zC (h2 h g).symm
  ·cbv
   (refine rC ?_;cbv)
   exact zC (h3 h g).symm
def oneI (x:Int):List PV:=[.int .i64 (fun _=>x)]
theorem zH6 (a:Int):yT v4 (oneI a)=true:=rfl
theorem zJZ (a:Int):(oneI a).length=1:=rfl
def orL:List Int→Int
 | []=>0
 | x::r=>orI x (orL r)
theorem sOr (l:List Int)(hl:l.length<2^40):zE 175 [.sl (fun _=>enc oneI l)] (.int .i64 (fun _=>orL l)):=by
 refine sF Tryz.f175 ?_
 generalize hr:orL l=r
 cbv
 refine zY (σ:=Nat) (fun i=>⟨[(3,.int .i64 (fun _=>0)),(6,.sl (fun _=>enc oneI l)),(7,.int .i64 (fun _=>(l.length:Int))),(8,.int .i64 (fun _=>(i:Int)))],[]⟩)
  (fun i=>i≤l.length∧r=orL (l.drop i)) (fun i=>l.length - i) 0 ⟨om,hr.symm⟩ (.le ?_ ?_ rfl) ?_
 ·cbv
  exact⟨lR,lR,zC (by (try dsimp only [zG] at *);rw[zA]),lR,trivial⟩
 ·cbv
 clear hr
 intro i hs
 obtain⟨h1,h2⟩:=hs
 cbv
 refine zH (fun h5=>?_) (fun h5=>?_)
 ·cbv
  refine y5 (l:=l) i om om zH6 zJZ (fun t ht=>?_)
  rw[zZ ht,show orL (t::l.drop (i+1))=orI t (orL (l.drop (i+1))) from rfl] at h2
  have h3:t≠0→r=t:=fun h=>by rw[h2];exact if_pos h
  have h4:t=0→r=orL (l.drop (i+1)):=fun h=>by rw[h2];exact if_neg (fun g=>g h)
  clear h2
  cbv
  refine zH (fun h6=>?_) (fun h6=>?_)
  ·have h4':=h4 h6
   cbv
   refine⟨zD om om,i+1,⟨om,h4'⟩,om,.le ?_ ?_ rfl⟩
   ·cbv
    exact⟨lR,lR,lR,zC om,trivial⟩
   ·cbv
  ·have h3':=h3 h6
   cbv
   (refine rC ?_;cbv)
   exact zC h3'.symm
 ·have:i=l.length:=om
  rw[this,List.drop_length] at h2
  cbv
  (refine rC ?_;cbv)
  exact zC h2.symm
theorem zK8 (a b:Row):zE 120 [rwv a,rwv b] (.int .i64 (fun _=>xP a b)):=by
 refine sF Tryz.f120 ?_
 have c1:=zIX a.k b.k
 have c2:=zIX a.i b.i
 have c3:=zIX a.lo b.lo
 have c4:=zIX a.hi b.hi
 have c5:=sOr [cI a.k b.k,cI a.i b.i,cI a.lo b.lo,cI a.hi b.hi] (by simp)
 have e:orL [cI a.k b.k,cI a.i b.i,cI a.lo b.lo,cI a.hi b.hi]=xP a b:=by
  unfold xP orL orL orL orL orL
  have:∀ x,orI x 0=x:=fun x=>by unfold orI;split <;> omega
  rw[this]
 rw[e] at c5
 generalize xP a b=r at *
 generalize cI a.k b.k=x1 at *
 generalize cI a.i b.i=x2 at *
 generalize cI a.lo b.lo=x3 at *
 generalize cI a.hi b.hi=x4 at *
 cbv
 refine zO 22 (by cbv) ?_
 cbv
 refine dA c1 ?_
 cbv
 refine dA c2 ?_
 cbv
 refine dA c3 ?_
 cbv
 refine dA c4 ?_
 cbv
 refine yU (by exact⟨zP rfl,trivial⟩) c5 rfl ?_
 cbv
 (refine rC ?_;cbv)
 exact lR
theorem zIW (a b:Mult):zE 119 [.agg (mc a),.agg (mc b)] (.int .i64 (fun _=>xP a.row b.row)):=by
 refine sF Tryz.f119 ?_
 have c1:=zK8 a.row b.row
 generalize xP a.row b.row=r at *
 cbv
 refine cA c1 ?_
 cbv
 (refine rC ?_;cbv)
 exact lR
theorem zSM (a:Mult)(ha:a.c.num.length<2^40):zE 116 [.agg (mc a)] (.bool (fun _=>decide (yB a.c.q<0))):=by
 refine sF Tryz.f116 ?_
 have c1:=s86 a.c ha
 generalize yB a.c.q=r at *
 cbv
 refine cA c1 ?_
 cbv
 (refine rC ?_;cbv)
 exact lR
def v6:Option Row→List Mult→Bool
 | _,[]=>true
 | p,m::r=>decide (0<yB m.c.q) && (m.c.ok && ((match p with
  | none=>true
  | some w=>decide (xP w m.row<0)) && v6 (some m.row) r))
theorem zK9 (l:List Mult)(hl:Msz (2^36) l):zE 62 [mlv l] (.bool (fun _=>v6 none l)):=by
 refine sF Tryz.f62 ?_
 have hll:=hl.len
 have hls:=hl.sz
 generalize hr:v6 none l=r
 cbv
 refine zY (σ:=Nat × Option Row) (fun s=>⟨[(0,mlv l),(5,mlv l),(6,.int .i64 (fun _=>(l.length:Int))),(7,.int .i64 (fun _=>(s.1:Int)))],[]⟩)
  (fun s=>s.1≤l.length∧r=v6 s.2 (l.drop s.1)∧(s.1=0→s.2=none)∧(s.1≠0→∃ u,l[s.1 - 1]?=some u∧s.2=some u.row)) (fun s=>l.length - s.1)
  (0,none) ⟨om,hr.symm,fun _=>rfl,fun h=>absurd rfl h⟩ (.le ?_ ?_ rfl) ?_
 ·cbv
  exact⟨lR,lR,zC (by (try dsimp only [zG] at *);rw[zA]),lR,trivial⟩
 ·cbv
 clear hr
 intro s hs
 obtain⟨h1,hv,h3,h4⟩:=hs
 generalize s.1=i at *
 generalize s.2=p at *
 cbv
 refine zH (fun h5=>?_) (fun h5=>?_)
 ·cbv
  refine y5 (l:=l) i om om yS yO (fun t ht=>?_)
  have htz:=hls t (List.mem_of_getElem? ht)
  have cs:=s86 t.c (by have:=htz.n;omega)
  have cv:=s103 t.c htz
  have hd:l.drop i=t::l.drop (i+1):=zZ ht
  have hvn:(¬ 0<yB t.c.q→r=false):=fun h=>by rw[hv,hd];unfold v6;rw[decide_eq_false h];rfl
  have hvo:t.c.ok=false→r=false:=fun h=>by rw[hv,hd];unfold v6;rw[h];simp
  have hv0:0<yB t.c.q→t.c.ok=true→p=none→r=v6 (some t.row) (l.drop (i+1)):=fun h g e=>by
   rw[hv,hd,e]
   show (decide (0<yB t.c.q) && (t.c.ok && (true && v6 (some t.row) (l.drop (i+1)))))=_
   rw[decide_eq_true h,g];simp
  have hv1:∀ w,0<yB t.c.q→t.c.ok=true→p=some w→r=(decide (xP w t.row<0) && v6 (some t.row) (l.drop (i+1))):=fun w h g e=>by
   rw[hv,hd,e]
   show (decide (0<yB t.c.q) && (t.c.ok && (decide (xP w t.row<0) && v6 (some t.row) (l.drop (i+1)))))=_
   rw[decide_eq_true h,g];simp
  clear hv
  generalize yB t.c.q=sg at *
  generalize t.c.ok=ok at *
  generalize hrest:v6 (some t.row) (l.drop (i+1))=rest at *
  cbv
  refine zO 26 (by cbv) ?_
  cbv
  refine dA cs ?_
  cbv
  refine zR (fun e1=>?_) (fun e1=>?_)
  ·cbv
   (refine rC ?_;cbv)
   exact zN (hvn (by omega))
  cbv
  refine dA cv ?_
  cbv
  refine z4 (fun e2=>?_) (fun e2=>?_)
  rotate_left
  ·cbv
   (refine rC ?_;cbv)
   exact zN (hvo e2)
  cbv
  refine zR (fun e3=>?_) (fun e3=>?_)
  ·cbv
   obtain⟨u,hu,hu2⟩:=h4 om
   have cc:=zK8 u.row t.row
   have hvv:=hv1 u.row (by omega) e2 hu2
   generalize xP u.row t.row=cr at *
   refine⟨zD om om,y5 (l:=l) (i - 1) om om yS yO (fun u' hu'=>?_)⟩
   obtain rfl:u'=u:=by rw[hu] at hu';exact (Option.some.inj hu').symm
   cbv
   refine dA cc ?_
   cbv
   refine zH (fun e4=>?_) (fun e4=>?_)
   ·cbv
    (refine rC ?_;cbv)
    exact zN (by rw[hvv,decide_eq_false (by omega)];rfl)
   ·rw[decide_eq_true (show cr<0 by omega),Bool.true_and] at hvv
    cbv
    exact⟨zD om om,(i+1,some t.row),⟨om,hvv.trans hrest.symm,fun h=>absurd h (by simp),fun _=>⟨_,ht,rfl⟩⟩,om,.le (by cbv;exact⟨lR,lR,lR,zC om,trivial⟩) (by cbv) rfl⟩
  ·cbv
   have hvv:=hv0 (by omega) e2 (h3 om)
   exact⟨zD om om,(i+1,some t.row),⟨om,hvv.trans hrest.symm,fun h=>absurd h (by simp),fun _=>⟨_,ht,rfl⟩⟩,om,.le (by cbv;exact⟨lR,lR,lR,zC om,trivial⟩) (by cbv) rfl⟩
 ·have:i=l.length:=om
  rw[this,List.drop_length] at hv
  have hv':r=true:=hv
  cbv
  (refine rC ?_;cbv)
  exact yL hv'
def F.zero:F:=⟨[],0⟩
theorem uF:fA F.zero=⟨[],R0⟩:=by show (⟨[],zJ 0⟩:A)=_;rw[kB]
theorem fits_one:Fits 1 1:=zD9 (z:=1) (by decide) (by decide)
theorem bD (v:Int):(F.var v).fit 1:=⟨⟨by show 1<_;decide,fun t ht=>by
 have:t=(v,1):=by simpa [F.var] using ht
 rw[this];exact fits_one⟩,w8 (by decide)⟩
theorem jT {k:Nat}{q:Rat}(h:Fits k q):(F.num q).fit k:=⟨⟨by show 0<_;decide,fun t ht=>absurd ht (by simp [F.num])⟩,h⟩
theorem zAQ {f g:F}{c:Rat}{k m:Nat}(hf:f.fit k)(hg:g.fit k)(hc:Fits m c)(hl:f.ts.length+g.ts.length<2^38):(f.merge g c).fit (2 * k+m+1) :=
 ⟨⟨Nat.lt_of_le_of_lt (gT _ _ _) hl,sP hc hf.t.fit hg.t.fit⟩,(vI hf.c (wB hg.c hc)).mono (by omega)⟩
theorem xM:Fits 1 (-1):=aY fits_one
theorem zBL {f g:F}{k:Nat}(hf:f.fit k)(hg:g.fit k)(hl:f.ts.length+g.ts.length<2^38):(f.sub g).fit (2 * k+2):=(zAQ hf hg xM hl).mono (by omega)
theorem sG {f:F}{c:Rat}{k m:Nat}(hf:f.fit k)(hc:Fits m c)(hk:1≤k):(f.scale c).fit (2 * k+m+1):=zAQ ⟨⟨by show 0<_;decide,fun t ht=>absurd ht (by simp)⟩,w8 hk⟩ hf hc (by show 0+_<_;have:=hf.t.len;omega)
theorem zM6 (f g:F):(f.sub g).ts.length≤f.ts.length+g.ts.length:=gT _ _ _
theorem zAI (f:F)(c:Rat):(f.scale c).ts.length≤f.ts.length:=Nat.le_trans (gT _ _ _) (by simp)
def Scp.fIn (s:Scp) (r:Row):Option F :=
 if r.plain=true∧0≤r.i then
  if r.k=1 then s.q.r.lo[r.i.toNat]?.map fun x=>(F.var r.i).sub (F.num x.q)
  else if r.k=2 then s.q.r.hi[r.i.toNat]?.map fun x=>(F.num x.q).sub (F.var r.i)
  else if r.k=3 then s.q.r.rows[r.i.toNat]?.map fun f=>f.f.add F.zero
  else if r.k=4 then match s.path[r.i.toNat]? with
   | some d=>if d.fits s.q=true then (if d.k=3 then some ((F.var d.i).sub (F.num d.x.q)) else if d.k=4 then some (((F.var d.i).sub (F.num d.x.q)).scale (-1)) else none) else none
   | none=>none
  else none
 else none
theorem zSC (s:Scp)(r:Row)(hs:s.sz (2^28)):zE 81 [sv s,rwv r] (.tup [fv ((s.fIn r).getD F.zero),.bool (fun _=>(s.fIn r).isSome)]):=by
 refine sF Tryz.f81 ?_
 have cpl:=zDL r
 have hlo:=hs.q.r.lo.sz
 have hhi:=hs.q.r.hi.sz
 have hrw:=hs.q.r.rows.sz
 have hpa:=hs.path.sz
 have hrl:=hs.q.r.rows.len
 have hft:∀ d,d∈s.path→zE 96 [qv s.q,dv d] (.bool (fun _=>d.fits s.q)):=fun d hd=>iW s.q d ((hpa d hd).mono (by decide))
 have hno:¬ (r.plain=true∧0≤r.i)→s.fIn r=none:=fun h=>if_neg h
 have hyes:r.plain=true→0≤r.i→s.fIn r=if r.k=1 then s.q.r.lo[r.i.toNat]?.map fun x=>(F.var r.i).sub (F.num x.q)
  else if r.k=2 then s.q.r.hi[r.i.toNat]?.map fun x=>(F.num x.q).sub (F.var r.i)
  else if r.k=3 then s.q.r.rows[r.i.toNat]?.map fun f=>f.f.add F.zero
  else if r.k=4 then match s.path[r.i.toNat]? with
   | some d=>if d.fits s.q=true then (if d.k=3 then some ((F.var d.i).sub (F.num d.x.q)) else if d.k=4 then some (((F.var d.i).sub (F.num d.x.q)).scale (-1)) else none) else none
   | none=>none
  else none:=fun h1 h2=>if_pos ⟨h1,h2⟩
 obtain⟨o,ho⟩:∃ o,o=s.fIn r:=⟨_,rfl⟩
 rw[←ho] at hno hyes ⊢
 obtain⟨W,hW⟩:∃ W,W=fA (o.getD F.zero):=⟨_,rfl⟩
 obtain⟨b,hb⟩:∃ b,b=o.isSome:=⟨_,rfl⟩
 rw[show fv (o.getD F.zero)=av W by rw[hW],←hb]
 have fin2:∀ f,o=some f→W=fA f∧b=true:=fun f h=>by rw[h] at hW hb;exact⟨hW,hb⟩
 have fin1:o=none→W=⟨[],R0⟩∧b=false:=fun h=>by
  rw[h] at hW hb
  exact⟨hW.trans uF,hb⟩
 clear hW hb ho hs
 obtain⟨wt,w1,w2,w3⟩:=W
 have fin3:o=none→wt=[]∧w1=false∧w2=[]∧w3=[]∧b=false:=fun h=>by
  obtain⟨h1,h2⟩:=fin1 h
  simp only[A.mk.injEq,R.mk.injEq] at h1
  exact⟨h1.1,h1.2.1,h1.2.2.1,h1.2.2.2,h2⟩
 clear fin1
 generalize r.plain=pl at *
 obtain⟨⟨⟨gn,us,os⟩,⟨lo,hi,rows⟩,⟨ts,c1,c2,c3⟩⟩,path,lems⟩:=s
 obtain⟨k,i,rlo,rhi⟩:=r
 simp only at hlo hhi hrw hpa hft hno hyes hrl
 cbv
 refine u7 7 (by cbv) (by cbv) ?_
 cbv
 refine cA cpl ?_
 cbv
 refine z4 (fun e1=>?_) (fun e1=>?_)
 rotate_left
 ·subst e1
  cbv
  obtain⟨g0,g1,g2,g3,g4⟩:=fin3 (hno (fun h=>absurd h.1 (by decide)))
  subst g0 g1 g2 g3 g4
  (refine rC ?_;cbv)
  exact okA
 subst e1
 cbv
 refine zH (fun e2=>?_) (fun e2=>?_)
 ·cbv
  obtain⟨g0,g1,g2,g3,g4⟩:=fin3 (hno (fun h=>absurd h.2 (by dsimp only at e2;omega)))
  subst g0 g1 g2 g3 g4
  (refine rC ?_;cbv)
  exact okA
 cbv
 have hi0:0≤i:=by (try dsimp only [zG] at *);omega
 have hit:((i.toNat:Nat):Int)=i:=by omega
 have ho:=hyes rfl hi0
 clear hno hyes e2
 have hk:k=1∨k=2∨k=3∨k=4∨(k≤0∨5≤k):=by omega
 rcases hk with rfl | rfl | rfl | rfl | hk
 ·refine xR (by simp) ?_
  cbv
  refine zH (fun e3=>?_) (fun e3=>?_)
  ·cbv
   rw[zA] at e3
   obtain⟨x,hx⟩:∃ x,lo[i.toNat]?=some x:=yA om
   have hxs:=hlo x (List.mem_of_getElem? hx)
   have cv:=zCR i
   have cn:=mN x (hxs.mono (by decide))
   have fx:Fits (2^28) x.q:=hxs.fits (by decide)
   have cs:=fG (fA (F.var i)) (fA (F.num x.q)) ((bD i).fA.mono (by decide)) ((jT fx).fA.mono (by decide))
   rw[uK,uK] at cs
   have ho2:=fin2 ((F.var i).sub (F.num x.q)) (by rw[ho,if_pos rfl,hx];rfl)
   dsimp only [fv] at cs cv cn
   generalize (F.var i).sub (F.num x.q)=V at *
   generalize fA V=U at *
   generalize fA (F.var i)=V1 at *
   generalize fA (F.num x.q)=V2 at *
   obtain⟨v1t,v11,v12,v13⟩:=V1
   obtain⟨v2t,v21,v22,v23⟩:=V2
   obtain⟨ho3,hb⟩:=ho2
   subst ho3 hb
   obtain⟨x1,x2,x3⟩:=x
   refine zO 9 (by cbv) ?_
   cbv
   refine dA cv ?_
   cbv
   refine y5 (l:=lo) i.toNat om om jS dW (fun x' hx'=>?_)
   obtain rfl:x'=⟨x1,x2,x3⟩:=by rw[hx] at hx';exact (Option.some.inj hx').symm
   cbv
   refine dA cn ?_
   cbv
   refine dA cs ?_
   cbv
   (refine rC ?_;cbv)
   exact okA
  ·cbv
   refine zW (by simp) ?_
   cbv
   refine zW (by simp) ?_
   cbv
   refine zO 21 (by cbv) ?_
   cbv
   refine zW (by simp) ?_
   cbv
   obtain⟨g0,g1,g2,g3,g4⟩:=fin3 (by rw[ho,if_pos rfl,List.getElem?_eq_none (by rw[zA] at e3;(try dsimp only [zG] at *);omega)];rfl)
   subst g0 g1 g2 g3 g4
   (refine rC ?_;cbv)
   exact okA
 ·refine zW (by simp) ?_
  cbv
  refine xR (by simp) ?_
  cbv
  refine zH (fun e3=>?_) (fun e3=>?_)
  ·cbv
   rw[zA] at e3
   obtain⟨x,hx⟩:∃ x,hi[i.toNat]?=some x:=yA om
   have hxs:=hhi x (List.mem_of_getElem? hx)
   have cv:=zCR i
   have cn:=mN x (hxs.mono (by decide))
   have fx:Fits (2^28) x.q:=hxs.fits (by decide)
   have cs:=fG (fA (F.num x.q)) (fA (F.var i)) ((jT fx).fA.mono (by decide)) ((bD i).fA.mono (by decide))
   rw[uK,uK] at cs
   have ho2:=fin2 ((F.num x.q).sub (F.var i)) (by rw[ho,if_neg (by decide),if_pos rfl,hx];rfl)
   dsimp only [fv] at cs cv cn
   generalize (F.num x.q).sub (F.var i)=V at *
   generalize fA V=U at *
   generalize fA (F.var i)=V1 at *
   generalize fA (F.num x.q)=V2 at *
   obtain⟨v1t,v11,v12,v13⟩:=V1
   obtain⟨v2t,v21,v22,v23⟩:=V2
   obtain⟨ho3,hb⟩:=ho2
   subst ho3 hb
   obtain⟨x1,x2,x3⟩:=x
   refine y5 (l:=hi) i.toNat om om jS dW (fun x' hx'=>?_)
   obtain rfl:x'=⟨x1,x2,x3⟩:=by rw[hx] at hx';exact (Option.some.inj hx').symm
   cbv
   refine cA cn ?_
   cbv
   refine cA cv ?_
   cbv
   refine cA cs ?_
   cbv
   (refine rC ?_;cbv)
   exact okA
  ·cbv
   refine zW (by simp) ?_
   cbv
   refine zO 21 (by cbv) ?_
   cbv
   refine zW (by simp) ?_
   cbv
   obtain⟨g0,g1,g2,g3,g4⟩:=fin3 (by rw[ho,if_neg (by decide),if_pos rfl,List.getElem?_eq_none (by rw[zA] at e3;(try dsimp only [zG] at *);omega)];rfl)
   subst g0 g1 g2 g3 g4
   (refine rC ?_;cbv)
   exact okA
 ·refine zW (by simp) ?_
  cbv
  refine zW (by simp) ?_
  cbv
  refine xR (by simp) ?_
  cbv
  refine zH (fun e3=>?_) (fun e3=>?_)
  ·cbv
   rw[zA] at e3
   obtain⟨x,hx⟩:∃ x,rows[i.toNat]?=some x:=yA om
   have hxs:=hrw x (List.mem_of_getElem? hx)
   have cs:=zFX x ⟨[],R0⟩ (hxs.mono (by decide)) ⟨⟨by decide,fun _ h=>absurd h (by simp)⟩,⟨by decide,by decide⟩⟩
   have e0:A.f ⟨[],R0⟩=F.zero:=by rw[←uF,uK]
   rw[e0] at cs
   have ho2:=fin2 (x.f.add F.zero) (by rw[ho,if_neg (by decide),if_neg (by decide),if_pos rfl,hx];rfl)
   dsimp only [fv] at cs
   generalize x.f.add F.zero=V at *
   generalize fA V=U at *
   obtain⟨ho3,hb⟩:=ho2
   subst ho3 hb
   obtain⟨xt,x1,x2,x3⟩:=x
   refine y5 (l:=rows) i.toNat om om jA dE (fun x' hx'=>?_)
   obtain rfl:x'=⟨xt,x1,x2,x3⟩:=by rw[hx] at hx';exact (Option.some.inj hx').symm
   cbv
   refine yX rfl okA cs rfl ?_
   cbv
   (refine rC ?_;cbv)
   exact okA
  ·cbv
   refine zO 21 (by cbv) ?_
   cbv
   refine zW (by simp) ?_
   cbv
   obtain⟨g0,g1,g2,g3,g4⟩:=fin3 (by rw[ho,if_neg (by decide),if_neg (by decide),if_pos rfl,List.getElem?_eq_none (by rw[zA] at e3;(try dsimp only [zG] at *);omega)];rfl)
   subst g0 g1 g2 g3 g4
   (refine rC ?_;cbv)
   exact okA
 ·refine zW (by simp) ?_
  cbv
  refine zW (by simp) ?_
  cbv
  refine zW (by simp) ?_
  cbv
  refine zO 21 (by cbv) ?_
  cbv
  refine xR (by simp) ?_
  cbv
  refine zR (fun e3=>?_) (fun e3=>?_)
  ·cbv
   rw[zA] at e3
   obtain⟨d,hd⟩:∃ d,path[i.toNat]?=some d:=yA om
   have hds:=hpa d (List.mem_of_getElem? hd)
   have cf:=hft d (List.mem_of_getElem? hd)
   have idx:∀ {K:List PV→Prop},K (dc d)→IdxOk 5 (fun _=>enc dc path) (fun _=>i) K:=fun hK=>y5 (l:=path) i.toNat hit.symm om dO cH (fun m' hm'=>by rw[hd] at hm';cases hm';exact hK)
   have cv:=zCR d.i
   have cn:=mN d.x (hds.mono (by decide))
   have fx:Fits (2^28) d.x.q:=hds.fits (by decide)
   have cs:=fG (fA (F.var d.i)) (fA (F.num d.x.q)) ((bD d.i).fA.mono (by decide)) ((jT fx).fA.mono (by decide))
   rw[uK,uK] at cs
   have cm:=iV (fA ((F.var d.i).sub (F.num d.x.q))) ((zBL ((bD d.i).mono (m:=2^28) (by decide)) (jT fx) (by show 1+0<2^38;decide)).fA.mono (by decide))
   rw[uK] at cm
   have ho':o=if d.fits ⟨⟨gn,us,os⟩,⟨lo,hi,rows⟩,⟨ts,c1,c2,c3⟩⟩=true then (if d.k=3 then some ((F.var d.i).sub (F.num d.x.q)) else if d.k=4 then some (((F.var d.i).sub (F.num d.x.q)).scale (-1)) else none) else none:=by rw[ho,if_neg (by decide),if_neg (by decide),if_neg (by decide),if_pos rfl,hd]
   clear ho
   generalize d.fits ⟨⟨gn,us,os⟩,⟨lo,hi,rows⟩,⟨ts,c1,c2,c3⟩⟩=ft at *
   dsimp only [fv] at cs cv cn cm
   generalize hV:(F.var d.i).sub (F.num d.x.q)=V at *
   generalize V.scale (-1)=V' at *
   have fA1:=fin2 V
   have fA2:=fin2 V'
   generalize fA V=U at *
   generalize fA V'=U' at *
   generalize fA (F.var d.i)=V1 at *
   generalize fA (F.num d.x.q)=V2 at *
   obtain⟨ut,u1,u2,u3⟩:=U
   obtain⟨ut',u1',u2',u3'⟩:=U'
   obtain⟨v1t,v11,v12,v13⟩:=V1
   obtain⟨v2t,v21,v22,v23⟩:=V2
   obtain⟨dk,di,d1,d2,d3⟩:=d
   simp only at ho'
   refine idx ?_
   cbv
   refine dA cf ?_
   cbv
   refine zS (fun e4=>?_) (fun e4=>?_)
   ·subst e4
    cbv
    refine idx ?_
    cbv
    refine u7 8 (by cbv) (by cbv) ?_
    cbv
    refine dA cv ?_
    cbv
    refine dA cn ?_
    cbv
    refine dA cs ?_
    cbv
    refine zH (fun e5=>?_) (fun e5=>?_)
    ·cbv
     obtain⟨g1,g2⟩:=fA1 (by rw[ho',if_pos rfl,if_pos e5])
     cases g1
     subst g2
     (refine rC ?_;cbv)
     exact okA
    ·cbv
     refine zH (fun e6=>?_) (fun e6=>?_)
     ·cbv
      obtain⟨g1,g2⟩:=fA2 (by rw[ho',if_pos rfl,if_neg e5,if_pos e6])
      cases g1
      subst g2
      refine cA cm ?_
      cbv
      (refine rC ?_;cbv)
      exact okA
     ·cbv
      obtain⟨g0,g1,g2,g3,g4⟩:=fin3 (by rw[ho',if_pos rfl,if_neg e5,if_neg e6])
      subst g0 g1 g2 g3 g4
      (refine rC ?_;cbv)
      exact okA
   ·subst e4
    cbv
    obtain⟨g0,g1,g2,g3,g4⟩:=fin3 (by rw[ho',if_neg (by decide)])
    subst g0 g1 g2 g3 g4
    (refine rC ?_;cbv)
    exact okA
  ·cbv
   obtain⟨g0,g1,g2,g3,g4⟩:=fin3 (by rw[ho,if_neg (by decide),if_neg (by decide),if_neg (by decide),if_pos rfl,List.getElem?_eq_none (by rw[zA] at e3;(try dsimp only [zG] at *);omega)])
   subst g0 g1 g2 g3 g4
   (refine rC ?_;cbv)
   exact okA
 ·refine zW (by dsimp only;omega) ?_
  cbv
  refine zW (by dsimp only;omega) ?_
  cbv
  refine zW (by dsimp only;omega) ?_
  cbv
  refine zO 21 (by cbv) ?_
  cbv
  refine zW (by dsimp only;omega) ?_
  cbv
  obtain⟨g0,g1,g2,g3,g4⟩:=fin3 (by rw[ho,if_neg (by omega),if_neg (by omega),if_neg (by omega),if_neg (by omega)])
  subst g0 g1 g2 g3 g4
  (refine rC ?_;cbv)
  exact okA
end Go.Proofs.YtgcpehdkdnkgeaaGreat
