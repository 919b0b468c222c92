/- A part of the proof: SxP, BrE, SzB, SzC, SzD, SzE, LsA, WrA, WrB. -/
import Derived.Test.YtfainocfaddbdaaGreatT37
import Derived.Test.YtfainocfaddbdaaGreatT27
set_option linter.all false
namespace Go.Proofs.YtfainocfaddbdaaGreat
open Go
set_option maxRecDepth 100000
set_option maxHeartbeats 4000000
theorem zGV {nb:List Nat}{e:Nat}(he:e<nb.length):nb.set e (nb.getD e 0)=nb:=by refine List.ext_getElem? fun i=>?_;rw[List.getElem?_set];split;{rename_i h;subst h;obtain⟨x,hx⟩:=zV he;rw[List.getD_eq_getElem?_getD,hx];simp[he]};{rfl}
theorem zN7 (X:Nat->Rat){nb:List Nat}{l:List Rat}{e:Nat}{k:Rat}(hl:l.length=nb.length+1)(he:e<nb.length):dot X nb (l.set e k)=dot X nb l-l.getD e 0*X (nb.getD e 0)+k*X (nb.getD e 0):=by have h:=p5 X (nb.getD e 0) k nb l e hl he;rw[zGV he] at h;exact h
theorem zDI (X:Nat->Rat):∀ {nb:List Nat} {l:List Rat} {c:Rat},l.length=nb.length+1->dot X nb (l.set nb.length c)=dot X nb l-l.getD nb.length 0+c
 |[],[x],c,_=>by show c=x-x+c;grind| [],[],c,h=>by simp at h| [],x::y::l,c,h=>by simp at h| v::vs,[],c,h=>by simp at h| v::vs,x::l,c,h=>by have:=zDI X (nb:=vs) (l:=l) (c:=c) (by simpa using h);show x*X v+dot X vs (l.set vs.length c)=x*X v+dot X vs l-l.getD vs.length 0+c;rw[this];grind
theorem zD4 {v i:Nat}(h:i<v):(List.range v).getD i 0=i:=by rw[List.getD_eq_getElem?_getD,List.getElem?_range h];rfl
theorem zCX {v:Nat}{X:Nat->Rat}:∀ {ts:List (Int×Rat)} {l:List Rat},Cn ts->(∀ t,t∈ts->0<=t.1/\t.1<(v:Int))->(∀ t,t∈ts->l.getD t.1.toNat 0=0)->l.length=v+1 ->dot X (List.range v) (t9 ts l)=dot X (List.range v) l+evX (fun i=>X i.toNat) ts/\(t9 ts l).getD v 0=l.getD v 0
 |[],l,_,_,_,_=>by refine⟨?_,rfl⟩;show dot X (List.range v) l=dot X (List.range v) l+0;grind| t::r,l,hc,hv,h0,hl=>by
  (have ht:=hv t List.mem_cons_self;have htn:t.1.toNat<v:=by omega);obtain⟨h1,h2⟩:=zCX (X:=X) (ts:=r) (l:=l.set t.1.toNat t.2) hc.tail (fun u hu=>hv u (List.mem_cons_of_mem _ hu)) (fun u hu=>by have h3:=hc.lt u hu;rw[List.getD_eq_getElem?_getD,List.getElem?_set_ne (by omega),<-List.getD_eq_getElem?_getD];exact h0 u (List.mem_cons_of_mem _ hu)) (by rw[List.length_set];exact hl)
  rw[t9];refine⟨?_,?_⟩;{rw[h1,zN7 X (by rw[List.length_range];exact hl) (by rw[List.length_range];exact htn),h0 t List.mem_cons_self,zD4 htn];show _=dot X (List.range v) l+(t.2*X t.1.toNat+evX (fun i=>X i.toNat) r);grind};{rw[h2,List.getD_eq_getElem?_getD,List.getElem?_set_ne (by omega),<-List.getD_eq_getElem?_getD]}
theorem zCM {n i:Nat}:(List.replicate n (0:Rat)).getD i 0=0:=by rw[List.getD_eq_getElem?_getD,List.getElem?_replicate];split <;> rfl
theorem zE6 {v:Nat}{f:F}{X:Nat->Rat}(hw:f.wf (v:Int)):atX v X (lnS v f)=f.at (fun i=>X i.toNat):=by
 obtain⟨h1,h2⟩:=zCX (v:=v) (X:=X) (ts:=f.ts) (l:=List.replicate (v+1) 0) hw.cn hw.v (fun t _=>zCM) (by simp);unfold atX lnS;have hlen:(t9 f.ts (List.replicate (v+1) 0)).length=v+1:=by rw[bS,List.length_replicate]
 have h3:=zDI X (nb:=List.range v) (l:=t9 f.ts (List.replicate (v+1) 0)) (c:=f.c) (by rw[List.length_range];exact hlen);rw[List.length_range] at h3;rw[h3,h1,h2,zCM,aP];unfold F.at
 grind
theorem zGJ {v:Nat}{f:F}{X:Int->Rat}(hw:f.wf (v:Int)):atX v (fun j=>X (j:Int)) (lnS v f)=f.at X:=by rw[zE6 hw];refine zJA fun t ht=>?_;have:=hw.v t ht;show X ((t.1.toNat:Nat):Int)=X t.1;rw[show ((t.1.toNat:Nat):Int)=t.1 by omega]
theorem zJ4 {v:Nat}{f:F}{l:List Rat}(hw:f.wf (v:Int)):atX v (toX l) (lnS v f)=f.at (xr l):=zE6 hw
def Pts (fs:List F) (X:Int->Rat):Prop:=∀ f,f∈fs->0<=f.at X
structure Sem (fs:List F) (ob:F) (st:Nat) (z:Rat):Prop where
 opt:st=1->(∃ X,Pts fs X/\ob.at X=z)/\∀ X,Pts fs X->z<=ob.at X
 inf:st=2->z=0/\∀ X,¬Pts fs X
 unb:st=3->z=0/\∀ m:Rat,∃ X,Pts fs X/\ob.at X<m
 one:st=1\/st=2\/st=3
theorem oA {k a b:Rat}(hk:0<k)(h:k*a<=k*b):a<=b:=by rcases Rat.le_total (a:=a) (b:=b) with h1|h1;{exact h1};{by_cases h2:b<a;{have:=Rat.mul_lt_mul_of_pos_left h2 hk;grind};{grind}}
theorem Sem.unique {fs gs:List F}{ob ob':F}{a b:Nat}{y z k:Rat}(h:Sem fs ob a y)(g:Sem gs ob' b z)(hX:∀ X,Pts fs X↔Pts gs X)(hk:0<k)(ho:∀ X,ob'.at X=k*ob.at X):a=b/\z=k*y:=by rcases h.one with ha|ha|ha;{obtain⟨⟨X,hx1,hx2⟩,hx3⟩:=h.opt ha;rcases g.one with hb|hb|hb;{obtain⟨⟨Y,hy1,hy2⟩,hy3⟩:=g.opt hb;refine⟨by omega,Rat.le_antisymm ?_ ?_⟩;{rw[<-hx2,<-ho];exact hy3 X ((hX X).1 hx1)};{rw[<-hy2,ho];exact Rat.mul_le_mul_of_nonneg_left (hx3 Y ((hX Y).2 hy1)) (Rat.le_of_lt hk)}};{exact absurd ((hX X).1 hx1) ((g.inf hb).2 X)};{obtain⟨Y,hy1,hy2⟩:=(g.unb hb).2 (k*y);have h1:=hx3 Y ((hX Y).2 hy1);have h2:=Rat.mul_le_mul_of_nonneg_left h1 (Rat.le_of_lt hk);rw[ho] at hy2;exact absurd hy2 (by grind)}};{obtain⟨hy,hn⟩:=h.inf ha;rcases g.one with hb|hb|hb;{obtain⟨⟨Y,hy1,hy2⟩,hy3⟩:=g.opt hb;exact absurd ((hX Y).2 hy1) (hn Y)};{exact⟨by omega,by rw[(g.inf hb).1,hy,Rat.mul_zero]⟩};{obtain⟨Y,hy1,hy2⟩:=(g.unb hb).2 0;exact absurd ((hX Y).2 hy1) (hn Y)}};{obtain⟨hy,hu⟩:=h.unb ha;rcases g.one with hb|hb|hb;{obtain⟨⟨Y,hy1,hy2⟩,hy3⟩:=g.opt hb;obtain⟨X,hx1,hx2⟩:=hu (ob.at Y);have h1:=hy3 X ((hX X).1 hx1);rw[<-hy2,ho,ho] at h1;have h2:=oA hk h1;exact absurd hx2 (by grind)};{obtain⟨X,hx1,hx2⟩:=hu 0;exact absurd ((hX X).1 hx1) ((g.inf hb).2 X)};{exact⟨by omega,by rw[(g.unb hb).1,hy,Rat.mul_zero]⟩}}
theorem zFC:∀ {l:List Rat} {f:Nat->Rat},(∀ c,c∈l->0<=c)->(∀ k,k<l.length->0<=f k)->0<=jR l f
 |[],f,_,_=>Rat.le_refl| q::qs,f,h,g=>by have h1:=zFC (l:=qs) (f:=fun k=>f (k+1)) (fun c hc=>h c (List.mem_cons_of_mem _ hc)) (fun k hk=>g (k+1) (by simp only[List.length_cons];omega));have h2:=Rat.mul_nonneg (h q List.mem_cons_self) (g 0 (by simp));rw[jR];grind
theorem zIO {v:Nat}{fs:List F}{k:Nat}{f:F}(h:fs[k]?=some f):(fs.map (lnS v)).getD k []=lnS v f:=by rw[List.getD_eq_getElem?_getD,List.getElem?_map,h];rfl
theorem zFB {v:Nat}{fs:List F}{X:Int->Rat}{du:List Rat}(hw:∀ f,f∈fs->f.wf (v:Int))(hd:du.length=(fs.map (lnS v)).length)(hn:∀ c,c∈du->0<=c)(hX:Pts fs X):0<=jR du (fun k=>atX v (fun j=>X (j:Int)) ((fs.map (lnS v)).getD k [])) :=
 zFC hn fun k hk=>by rw[List.length_map] at hd;obtain⟨f,hf⟩:=zV (show k<fs.length by omega);have hm:=List.mem_of_getElem? hf;rw[zIO hf,zGJ (hw f hm)];exact hX f hm
theorem zGG {X Y:Nat->Rat}{t:Rat}:∀ {nb:List Nat} {l:List Rat},dot (fun j=>X j+t*Y j) nb l=dot X nb l+t*(dot Y nb l-dot (fun _=>0) nb l)
 |[],l=>by simp only[dot];grind| v::vs,l=>by simp only[dot,zGG (X:=X) (Y:=Y) (t:=t) (nb:=vs) (l:=l.tail)];grind
theorem SolOk.sem {v:Nat}{fs:List F}{ob:F}{s:SolR}(hw:∀ f,f∈fs->f.wf (v:Int))(ho:ob.wf (v:Int))(h:SolOk v (fs.map (lnS v)) (lnS v ob) s):Sem fs ob s.st s.val:=by
 refine⟨fun e=>?_,fun e=>?_,fun e=>?_,h.one⟩;{obtain⟨h1,h2,h3,h4,h5,h6,_⟩:=h.opt e;refine⟨⟨xr s.pt,fun f hf=>?_,?_⟩,fun X hX=>?_⟩;{rw[<-zJ4 (hw f hf)];exact h2 _ (List.mem_map_of_mem hf)};{rw[<-zJ4 ho];exact h3};{rw[<-zGJ ho,h6];have:=zFB hw h4 h5 hX;grind}};{obtain⟨_,_,h3,h4,h5,k,hk,h6⟩:=h.inf e;refine⟨h3,fun X hX=>?_⟩;have h7:=zFB hw h4 h5 hX;have h8:=h6 (fun j=>X (j:Int));grind}
 ·(obtain⟨_,h2,_,_,h5,h6,h7⟩:=h.unb e;refine⟨h2,fun m=>?_⟩;have hl:∀ (t:Rat) (f:F),f.wf (v:Int)->f.at (fun i=>toX s.pt i.toNat+t*toX s.ry i.toNat)=atX v (toX s.pt) (lnS v f)+t*(atX v (toX s.ry) (lnS v f)-atX v (fun _=>0) (lnS v f)):=fun t f hf=>by rw[<-zE6 (X:=fun j=>toX s.pt j+t*toX s.ry j) hf];exact zGG);generalize hd:atX v (toX s.ry) (lnS v ob)-atX v (fun _=>0) (lnS v ob)=d at h7;have key:∃ t:Rat,0<=t/\atX v (toX s.pt) (lnS v ob)+t*d<m:=by
   generalize atX v (toX s.pt) (lnS v ob)=a;by_cases h8:a<m;{exact⟨0,Rat.le_refl,by grind⟩}
   ·(have hd0:d≠0:=fun e=>by rw[e] at h7;exact absurd h7 (by decide));have hdn:0 < -d:=by grind
    refine⟨(a-m+1)*(-d)⁻¹,Rat.mul_nonneg (by grind) (Rat.le_of_lt (Rat.inv_pos.2 hdn)),?_⟩;have h9:(-d)⁻¹*(-d)=1:=Rat.inv_mul_cancel _ (by grind);have:(a-m+1)*(-d)⁻¹*d=-(a-m+1):=by
     (have:(a-m+1)*(-d)⁻¹*d=-((a-m+1)*((-d)⁻¹*(-d))):=by grind);rw[this,h9];grind
    rw[this];grind
  obtain⟨t,ht,ht2⟩:=key;refine⟨fun i=>toX s.pt i.toNat+t*toX s.ry i.toNat,fun f hf=>?_,?_⟩;{rw[hl t f (hw f hf)];have h8:=h5 _ (List.mem_map_of_mem hf);have h9:=Rat.mul_nonneg ht (h6 _ (List.mem_map_of_mem hf));grind};{rw[hl t ob ho,hd];exact ht2}
theorem zCW {k:Nat}:∀ {ts:List (Int×Rat)} {l:List Rat},(∀ t,t∈ts->Fits k t.2)->lfit k l->lfit k (t9 ts l)
 |[],l,_,h=>h| t::r,l,ht,h=>zCW (ts:=r) (fun u hu=>ht u (List.mem_cons_of_mem _ hu)) (lfit.set h (ht t List.mem_cons_self) _)
theorem zFW {v k n:Nat}{f:F}(hk:1<=k)(h:f.fl k n):lfit k (lnS v f):=lfit.set (zCW h.t (dV hk)) h.c _
theorem pJ {v:Nat}{f:F}:(lnS v f).length=v+1:=by unfold lnS;rw[List.length_set,bS,List.length_replicate]
theorem zGS {v k n:Nat}{fs:List F}{ob:F}(hk:1<=k)(h:∀ f,f∈fs->f.fl k n)(ho:ob.fl k n):(yQ v (fs.map (lnS v)) (lnS v ob)).fit k:=⟨fun l hl=>by obtain⟨f,hf,rfl⟩:=List.mem_map.1 hl;exact zFW hk (h f hf),zFW hk ho⟩
structure Slv (v:Nat) (fs:List F) (ob:F) (K:Nat) (s:SolR):Prop where
 some:cD v fs.length (yQ v (fs.map (lnS v)) (lnS v ob))=some s
 ok:SolOk v (fs.map (lnS v)) (lnS v ob) s
 pv:s.pv<=65536
 fit:SolFit K s
 piv:∀ E,Pvs (yQ v (fs.map (lnS v)) (lnS v ob)) E->E.fit K
 walk:Walk v fs.length K (yQ v (fs.map (lnS v)) (lnS v ob)) (rel v (yQ v (fs.map (lnS v)) (lnS v ob)).nb 0 (yQ v (fs.map (lnS v)) (lnS v ob),0)).1 (rel v (yQ v (fs.map (lnS v)) (lnS v ob)).nb 0 (yQ v (fs.map (lnS v)) (lnS v ob),0)).2
theorem Walk.mono {v r K L:Nat}{D0 D1:Dic}{p:Nat}(h:Walk v r K D0 D1 p)(hK:K<=L):Walk v r L D0 D1 p :=
 ⟨h.wf,h.bl,h.nl,h.pp,h.ys,h.fit.mono hK,fun a E hE=>(h.aux a E hE).mono hK,fun l hl=>⟨(h.some l hl).1,(h.some l hl).2.mono hK⟩,h.ok,h.q,fun hn=>by obtain⟨a,b,c,d,e⟩:=h.none hn;exact⟨a,b,c,d,fun F hF=>(e F hF).mono hK⟩⟩
theorem zI6 {H:Type}(d:DataW H):1<=Rows.uptoBulk d:=by
 cases d with
 |lit l=>cases l <;> simp[Rows.uptoBulk]
 |_=>simp[Rows.uptoBulk]
theorem mG {H:Type}{d:DataW H}:∀ {l:List (DataW H)},d∈l->Rows.uptoBulk d<=Rows.uptoBulkAll l
 |[],h=>absurd h (by simp)| x::r,h=>by simp only[Rows.uptoBulkAll];rcases List.mem_cons.1 h with e|e;{subst e;omega};{have:=mG e;omega}
theorem zDO {H:Type}:∀ (l:List (DataW H)),l.length<=Rows.uptoBulkAll l
 |[]=>Nat.zero_le _| x::r=>by have:=zI6 x;have:=zDO r;simp only[Rows.uptoBulkAll,List.length_cons];omega
structure ElB (w:World) (t:TypeId) (k:Nat) {α:Type} (G:α->Nat->Prop) (p:α->List PV):Prop where
 sz:Tryz.prog.cellsOf t=k
 up:∀ a n m,n<=m->G a n->G a m
 rd:∀ {H:Type} {enc:TypeId×Value->H} {sp:Nat->Bool} {n:Nat} {cs:List Value} {x:DataW H×List MemPlace},DataW.trod enc Tryz.prog w 0 sp true n t cs=some x->∃ a,G a (Rows.uptoBulk x.1)/\Cs w cs (xM (p a))
theorem ElB.map {w t k}{α β:Type}{G:α->Nat->Prop}{p:α->List PV}{G':β->Nat->Prop}{p':β->List PV}(h:ElB w t k G p)(f:α->β)(hp:∀ a,xM (p' (f a))=xM (p a))(hG:∀ a n,G a n->G' (f a) n)(hu:∀ a n m,n<=m->G' a n->G' a m):ElB w t k G' p' :=
 ⟨h.sz,hu,fun hx=>by obtain⟨a,h1,h2⟩:=h.rd hx;exact⟨f a,hG a _ h1,by rw[hp a];exact h2⟩⟩
theorem ElR.bulk {w t k}{α:Type}{G:α->Prop}{p:α->List PV}(h:ElR w t k G p):ElB w t k (fun a _=>G a) p :=
 ⟨h.sz,fun _ _ _ _ h=>h,fun hx=>h.rd hx⟩
theorem zBD {w t e k}{α:Type}{G:α->Nat->Prop}{p:α->List PV}(ht:Tryz.prog.underlying t=some (.slice e))(hs:Tryz.prog.cellsOf t=1)(hk:0<k)(he:ElB w e k G p):ElB w t 1 (fun (l:List α) n=>(∀ a,a∈l->G a n)/\l.length<=n) (fun l=>[.sl (fun _=>enc p l)]) :=
 ⟨hs,fun l n m h g=>⟨fun a ha=>he.up a n m h (g.1 a ha),Nat.le_trans g.2 h⟩,fun {H enc' sp n cs x} hx=>by
  (rcases Go.Deep.open_slice ht hx with⟨rfl,_⟩|⟨a,len,cap,m,n',D,Pl,rfl,hb,hl,hm,hmm,hxe,hi⟩;{exact⟨[],⟨fun _ h=>absurd h (by simp),Nat.zero_le _⟩,⟨.sl0 _ _,rfl⟩,trivial⟩};have hbulk:Rows.uptoBulkAll ((List.range len).map D)<=Rows.uptoBulk x.1:=by rw[hxe];simp only[Rows.uptoBulk];omega);have hbl:len<=Rows.uptoBulk x.1:=by have:=zDO ((List.range len).map D);rw[List.length_map,List.length_range] at this;omega
  (have hbp:∀ i,i<len->Rows.uptoBulk (D i)<=Rows.uptoBulk x.1:=fun i hi=>Nat.le_trans (mG (List.mem_map_of_mem (List.mem_range.2 hi))) hbulk;have hlm:len<=m:=by rw[hmm];split <;> omega);rcases Nat.eq_zero_or_pos len with h0|h0
  {subst h0;exact⟨[],⟨fun _ h=>absurd h (by simp),Nat.zero_le _⟩,⟨.sl0 _ _,rfl⟩,trivial⟩};rw[he.sz] at hi;have key:∀ i,i<len->∃ y:List Value×α,w.cells? 0 (a.add (i*k)) k=some y.1/\G y.2 (Rows.uptoBulk x.1)/\Cs w y.1 (xM (p y.2)):=fun i hil=>by obtain⟨cs',h1,h2⟩:=hi i (by omega);obtain⟨y,g1,g2⟩:=he.rd h2;exact⟨(cs',y),h1,he.up _ _ _ (hbp i hil) g1,g2⟩
  haveI:Inhabited (List Value×α):=⟨Classical.choose (key 0 h0)⟩
  obtain⟨Y,hY⟩:=Go.Deep.choose_lt key;have hcell:∀ i j,i<len->j<k->w.cell? (a.add (i*k+j))=some ((Y i).1.getD j undef):=fun i j hi' hj=>by
   (obtain⟨h1,_,_⟩:=hY i hi';obtain⟨_,h2,h3⟩:=World.cells?_some h1;have:=h3 j hj;rw[Go.Deep.add_add] at this;rw[this,List.getD_eq_getElem?_getD];have:j<(Y i).1.length:=by omega);simp[this]
  obtain⟨b,o,sp'⟩:=a;have hsp:sp'=none:=by
   have:=hcell 0 0 h0 hk;unfold World.cell? at this;split at this
   ·cases sp' with
    |none=>rfl| some s=>simp[Addr.add] at this
   {cases this}
  subst hsp;have hS:b<w.heap.size:=World.cells?_block (a:=⟨b,o,none⟩) (by have:=(hY 0 h0).1;rw[Nat.zero_mul] at this;exact this) hk
  (have hlen:((List.range len).map fun i=>(Y i).2).length=len:=by simp);have hel:∀ i,i<len->(enc p ((List.range len).map fun i=>(Y i).2)).getD i []=xM (p (Y i).2):=fun i hi'=>by simp[Go.Proofs.YtfainocfaddbdaaGreat.enc,hi']
  refine⟨(List.range len).map fun i=>(Y i).2,⟨fun z hz=>?_,by rw[hlen];exact hbl⟩,⟨?_,rfl⟩,trivial⟩;{obtain⟨i,hi',rfl⟩:=List.mem_map.1 hz;exact (hY i (List.mem_range.1 hi')).2.1}
  (have hel2:(enc p ((List.range len).map fun i=>(Y i).2)).length=len:=by rw[zO,hlen]);have hk':∀ i,i<len->(xM (p (Y i).2)).length=k:=fun i hi'=>by obtain⟨h1,_,h3⟩:=hY i hi';obtain⟨_,h2,_⟩:=World.cells?_some h1;rw[<-h3.len];exact h2
  have:=RepD.sl (w:=w) (S:=InW w) (b:=b) (o:=o) (cap:=cap) (s:=k) (els:=enc p ((List.range len).map fun i=>(Y i).2)) (fun i j=>(Y i).1.getD j undef)
   (fun h=>by rw[h] at hel2;simp at hel2;omega) (by rw[hel2];exact hl) (fun _ _ _ _=>hS)
   (fun e' he'=>by obtain⟨z,hz,rfl⟩:=List.mem_map.1 he';obtain⟨i,hi',rfl⟩:=List.mem_map.1 hz;exact hk' i (List.mem_range.1 hi'))
   (fun i j hi' hj=>by rw[hel2] at hi';have:=hcell i j hi' hj;rw[zOG] at this;rw[Nat.add_assoc];exact this)
   (fun i j hi' hj=>by rw[hel2] at hi';exact ((hY i hi').2.2.get j (by rw[hk' i hi'];exact hj)).2)
   (fun i j hi' hj=>by rw[hel2] at hi';rw[hel i hi'];exact ((hY i hi').2.2.get j (by rw[hk' i hi'];exact hj)).1)
  rw[hel2] at this;exact this⟩
theorem ElB.cut {w t k}{α:Type}{G:α->Nat->Prop}{p:α->List PV}(h:ElB w t k G p){H:Type}{enc:TypeId×Value->H}{sp:Nat->Bool}{n o:Nat}{cs:List Value}{x:DataW H×List MemPlace} (hx:DataW.trod enc Tryz.prog w 0 sp true n t ((cs.drop o).take (Tryz.prog.cellsOf t))=some x):∃ a,G a (Rows.uptoBulk x.1)/\Cs w ((cs.drop o).take k) (xM (p a)):=by rw[h.sz] at hx;exact h.rd hx
theorem ebS2 {w t k0 k1}{f0 f1:Field}{α0 α1:Type}{G0:α0->Nat->Prop}{p0:α0->List PV}{G1:α1->Nat->Prop}{p1:α1->List PV}(ht:Tryz.prog.underlying t=some (.struct #[f0,f1]))(hs:Tryz.prog.cellsOf t=k0+k1) (o0:f0.offset=0) (o1:f1.offset=k0) (h0:ElB w f0.type k0 G0 p0) (h1:ElB w f1.type k1 G1 p1):ElB w t (k0+k1) (fun (a:α0×α1) n=>G0 a.1 n/\G1 a.2 n) (fun a=>p0 a.1++p1 a.2) :=
 ⟨hs,fun a n m h g=>⟨h0.up _ n m h g.1,h1.up _ n m h g.2⟩,fun hx=>by obtain⟨y0,y1,n,hxe,hl,g0,g1⟩:=Go.ChangeShapes.trod_struct2 ht hx;obtain⟨a0,u0,v0⟩:=h0.cut g0;obtain⟨a1,u1,v1⟩:=h1.cut g1;rw[o0,List.drop_zero] at v0;rw[o1,List.take_of_length_le (by rw[List.length_drop,hl,hs];omega)] at v1;have:=v0.app v1;rw[List.take_append_drop] at this;refine⟨(a0,a1),⟨h0.up _ _ _ ?_ u0,h1.up _ _ _ ?_ u1⟩,by rw[pG];exact this⟩ <;> (rw[hxe];simp only[Rows.uptoBulk,Rows.uptoBulkAll];omega)⟩
theorem ebS3 {w t k0 k1 k2}{f0 f1 f2:Field}{α0 α1 α2:Type}{G0:α0->Nat->Prop}{p0:α0->List PV}{G1:α1->Nat->Prop}{p1:α1->List PV}{G2:α2->Nat->Prop}{p2:α2->List PV}(ht:Tryz.prog.underlying t=some (.struct #[f0,f1,f2]))(hs:Tryz.prog.cellsOf t=k0+(k1+k2)) (o0:f0.offset=0) (o1:f1.offset=k0) (o2:f2.offset=k0+k1) (h0:ElB w f0.type k0 G0 p0) (h1:ElB w f1.type k1 G1 p1) (h2:ElB w f2.type k2 G2 p2):ElB w t (k0+(k1+k2)) (fun (a:α0×α1×α2) n=>G0 a.1 n/\G1 a.2.1 n/\G2 a.2.2 n) (fun a=>p0 a.1++(p1 a.2.1++p2 a.2.2)) :=
 ⟨hs,fun a n m h g=>⟨h0.up _ n m h g.1,h1.up _ n m h g.2.1,h2.up _ n m h g.2.2⟩,fun {H enc sp m cs x} hx=>by obtain⟨y0,y1,y2,n,hxe,hl,g0,g1,g2⟩:=Go.Deep.trod_struct3 ht hx;obtain⟨a0,u0,v0⟩:=h0.cut g0;obtain⟨a1,u1,v1⟩:=h1.cut g1;obtain⟨a2,u2,v2⟩:=h2.cut g2;rw[o0,List.drop_zero] at v0;rw[o1] at v1;rw[o2,List.take_of_length_le (by rw[List.length_drop,hl,hs];omega)] at v2;rw[<-List.drop_drop] at v2;have e1:=v1.app v2;rw[List.take_append_drop] at e1;have:=v0.app e1;rw[List.take_append_drop] at this;refine⟨(a0,a1,a2),⟨h0.up _ _ _ ?_ u0,h1.up _ _ _ ?_ u1,h2.up _ _ _ ?_ u2⟩,by rw[pG,pG];exact this⟩ <;> (rw[hxe];simp only[Rows.uptoBulk,Rows.uptoBulkAll];omega)⟩
theorem bNat (w:World):ElB w 25 1 (fun l n=>l.length<=n) (fun l=>[nat l]) :=
 (zBD (k:=1) Tryz.underlying25 (by kernel_rfl) (by decide) (rU32 w).bulk).map (fun l=>l) (fun _=>rfl) (fun _ _ h=>h.2) (fun _ _ _ h g=>Nat.le_trans g h)
theorem bRat (w:World):ElB w 27 3 (fun (x:R) n=>x.sz n) (fun x:R=>[.bool (fun _=>x.neg),nat x.num,nat x.den]) :=
 (ebS3 (k0:=1) (k1:=1) (k2:=1) Tryz.underlying27 (by kernel_rfl) rfl rfl rfl (zOZ w).bulk (bNat w) (bNat w)).map (fun a=>⟨a.1,a.2.1,a.2.2⟩) (fun _=>rfl) (fun _ _ h=>⟨h.2.1,h.2.2⟩) (fun _ _ _ h g=>g.mono h)
theorem zO7 (w:World):ElB w 54 4 (fun (t:Int×R) n=>t.2.sz n) tc :=
 (ebS2 (k0:=1) (k1:=3) Tryz.underlying54 (by kernel_rfl) rfl rfl (rInt w).bulk (bRat w)).map (fun a=>(a.1,a.2)) (fun _=>rfl) (fun _ _ h=>h.2) (fun _ _ _ h g=>g.mono h)
theorem zOD (w:World):ElB w 23 1 (fun (l:List (Int×R)) n=>(∀ t,t∈l->t.2.sz n)/\l.length<=n) (fun l=>[tsv l]) :=
 (zBD (k:=4) Tryz.underlying23 (by kernel_rfl) (by decide) (zO7 w)).map (fun l=>l) (fun _=>rfl) (fun _ _ h=>h) (fun _ _ _ h g=>⟨fun t ht=>(g.1 t ht).mono h,Nat.le_trans g.2 h⟩)
structure A.bk (a:A) (n:Nat):Prop where
 t:∀ t,t∈a.ts->t.2.sz n
 len:a.ts.length<=n
 c:a.c.sz n
theorem A.bk.mono {a:A}{n m:Nat}(h:a.bk n)(hm:n<=m):a.bk m:=⟨fun t ht=>(h.t t ht).mono hm,Nat.le_trans h.len hm,h.c.mono hm⟩
theorem bAff (w:World):ElB w 29 4 (fun (a:A) n=>a.bk n) ac :=
 (ebS2 (k0:=1) (k1:=3) Tryz.underlying29 (by kernel_rfl) rfl rfl (zOD w) (bRat w)).map (fun a=>⟨a.1,a.2⟩) (fun _=>rfl) (fun _ _ h=>⟨h.1.1,h.1.2,h.2⟩) (fun _ _ _ h g=>g.mono h)
theorem zO8 (w:World):ElB w 22 1 (fun (l:List A) n=>(∀ a,a∈l->a.bk n)/\l.length<=n) (fun l=>[alv l]) :=
 (zBD (k:=4) Tryz.underlying22 (by kernel_rfl) (by decide) (bAff w)).map (fun l=>l) (fun _=>rfl) (fun _ _ h=>h) (fun _ _ _ h g=>⟨fun t ht=>(g.1 t ht).mono h,Nat.le_trans g.2 h⟩)
structure Prg.bk (P:Prg) (n:Nat):Prop where
 v:-9223372036854775808<=P.v/\P.v<=9223372036854775807
 rows:∀ a,a∈P.rows->a.bk n
 len:P.rows.length<=n
 ob:P.ob.bk n
theorem bPrg (w:World):ElB w 31 6 (fun (P:Prg) n=>P.bk n) pgc :=
 (ebS3 (k0:=1) (k1:=1) (k2:=4) Tryz.underlying31 (by kernel_rfl) rfl rfl rfl (rInt w).bulk (zO8 w) (bAff w)).map (fun a=>⟨a.1,a.2.1,a.2.2⟩) (fun _=>rfl)
  (fun _ _ h=>⟨by simpa[Lit.wf,IntKind.min,IntKind.max,IntKind.signed,IntKind.bits] using h.1,h.2.1.1,h.2.1.2,h.2.2⟩) (fun _ _ _ h g=>⟨g.v,fun a ha=>(g.rows a ha).mono h,Nat.le_trans g.len h,g.ob.mono h⟩)
theorem A.bk.sz {a:A}{n m:Nat}(h:a.bk n)(hn:n<=2^20)(hm:n<=m):a.sz m:=⟨⟨by have:=h.len;omega,fun t ht=>(h.t t ht).mono hm⟩,h.c.mono hm⟩
theorem Prg.bk.sz {P:Prg}{n m:Nat}(h:P.bk n)(hn:n<=2^20)(hm:n<=m):P.sz m:=⟨⟨by have:=h.len;omega,fun a ha=>(h.rows a ha).sz hn hm⟩,h.ob.sz hn hm⟩
theorem zLT {w:World}{cs:Array Value}{pv:List PV}(hf:yN kQ pv=true)(h:Cs w cs.toList (xM pv)):Rep w (InW w) β0 (.agg cs) (.agg pv):=by
 have hl:=h.len;rw[vV] at hl;refine .agg (by simpa using hl) fun j hj=>?_;have:=h.get j (by rw[vV];exact hj);rw[uU] at this;refine .c (y6 rfl hf j) ?_;have e:cs.toList.getD j undef=cs.getD j undef:=by simp[List.getD_eq_getElem?_getD]
 rw[<-e];exact this.1
abbrev prg (v:Nat) (fs:List F) (ob:F):Prg:=⟨v,fs.map fA,fA ob⟩
theorem zJ2 (q:Rat):(cq q).length=3:=rfl
theorem zDM (q:Rat)(h:Fits (2^30) q):zM 30 [rv (zS q),rv (zS q)] (.int .i64 (fun _=>0)):=by
 have hz:=yZ h;have:=s42 (zS q) (zS q) (hz.mono (by decide)) (hz.mono (by decide));rw[xF] at this;have e:fS q q=0:=by unfold fS;rw[if_neg (Rat.lt_irrefl),if_neg (Rat.lt_irrefl)]
 rw[e] at this;exact this
theorem lW {v:Int}{q:Rat}{r:List (Int×Rat)}{k:Nat}(hq:Fits k q)(hr:∀ t,t∈r->Fits k t.2):∀ t,t∈pc v q r->Fits k t.2:=fun t ht=>by unfold pc at ht;split at ht;{exact hr t ht};{rcases List.mem_cons.1 ht with rfl|ht;{exact hq};{exact hr t ht}}
theorem lU {v:Int}{q:Rat}{k m:Nat}(hq:Fits k q):∀ {d:Bool} {l:List (Int×Rat)},(∀ t,t∈l->Fits m t.2)->∀ t,t∈wE v q d l->Fits (m+k+1) t.2
 |d,[],_,t,ht=>by unfold wE at ht;split at ht;{simp at ht};{exact lW (hq.mono (by omega)) (fun u hu=>absurd hu (by simp)) t ht}| d,u::r,h,t,ht=>by have h1:=h u List.mem_cons_self;have h2:∀ d t,t∈wE v q d r->Fits (m+k+1) t.2:=fun d=>lU hq (fun x hx=>h x (List.mem_cons_of_mem _ hx));unfold wE at ht;split at ht;{exact lW ((pU h1 hq).mono (by omega)) (h2 true) t ht};{split at ht;{exact lW (hq.mono (by omega)) (lW (h1.mono (by omega)) (h2 true)) t ht};{exact lW (h1.mono (by omega)) (h2 d) t ht}}
theorem zOW (ts:List (Int×Rat))(c:Rat)(hv:∀ t,t∈ts->0<=t.1)(hf:∀ t,t∈ts->Fits (2^20) t.2)(hc:Fits (2^20) c)(hp:∀ i,Tfit (2^30) (wB [] (ts.take i)))(hl:ts.length<2^30):zM 128 [tsv (tR ts),rv (zS c)] (.tup [av (fA ⟨wB [] ts,c⟩),.int .i64 (fun _=>0)]):=by
 have cc:=s47 (zS c) ((yZ hc).mono (by decide));rw[xF] at cc;have cp:∀ (i:Nat) t,ts[i]?=some t->zM 72 [av ⟨tR (wB [] (ts.take i)),zS c⟩,.int .i64 (fun _=>t.1),rv (zS t.2)] (av ⟨tR (wB [] (ts.take (i+1))),zS c⟩):=fun i t ht=>by
  (have:=zOX (wB [] (ts.take i)) (zS c) t.1 (zS t.2) (hp i) ((yZ (hf t (List.mem_of_getElem? ht))).mono (by decide));rw[xF] at this;have e:wE t.1 t.2 false (wB [] (ts.take i))=wB [] (ts.take (i+1)):=by rw[List.take_add_one,ht];show _=wB [] (ts.take i++[t]);rw[zAP]);rw[e] at this;exact this
 have hz:tR (wB [] (ts.take 0))=[]:=rfl;have hlen:=j1 ts;have hT:ts.take ts.length=ts:=List.take_length;show zM _ _ (.tup [.agg [tsv (tR (wB [] ts)),.bool (fun _=>(zS c).neg),nat (zS c).num,nat (zS c).den],_]);obtain⟨Z,hZ⟩:∃ Z,zS c=Z:=⟨_,rfl⟩;obtain⟨T,hTT⟩:∃ T:Nat->List (Int×R),∀ i,tR (wB [] (ts.take i))=T i:=⟨_,fun _=>rfl⟩;have hz':T 0=[]:=by rw[<-hTT];rfl
 have hT':tR (wB [] ts)=T ts.length:=by rw[<-hTT,hT]
 simp only[hTT,hZ] at cp;rw[hZ] at cc;rw[hT',hZ];clear hp hTT hT hT' hZ hc hz;have hgi:∀ (i:Nat) t,ts[i]?=some t->(tR ts)[i]?=some (t.1,zS t.2):=fun i t ht=>by unfold tR;rw[List.getElem?_map,ht];rfl
 have hv':∀ (i:Nat) t,ts[i]?=some t->0<=t.1:=fun i t ht=>hv t (List.mem_of_getElem? ht);clear hv hf;obtain⟨TS,hTS⟩:∃ TS,tR ts=TS:=⟨_,rfl⟩;rw[hTS] at hlen hgi;rw[hTS];refine sF Tryz.f128 ?_;cbv;refine cA cc ?_;cbv;refine yB (σ:=Nat×List (Int×R)) (fun s=>⟨[(0,tsv TS),(4,.ptr 4 0),(6,.ptr 6 0),(7,.int .i64 (fun _=>(s.1:Int)))],[(4,.box [.nil,.ff,.nil,.nil]),(6,.box [tsv s.2,.bool (fun _=>Z.neg),nat Z.num,nat Z.den])]⟩)
  (fun s=>s.1<=ts.length/\s.2=T s.1) (fun s=>ts.length-s.1) (0,[]) ⟨Nat.zero_le _,hz'.symm⟩ (wkZ) ?_
 intro s hs;obtain⟨i,W⟩:=s;obtain⟨h1,h2⟩:=hs;dsimp only at h1 h2;cbv;refine zF (fun h5=>?_) (fun h5=>?_)
 ·(have hlt:i<ts.length:=by have:=i4 h5;omega);obtain⟨t,ht⟩:=zV hlt
  have hg:=hgi i t ht;have hv1:=hv' i t ht;have cp1:=cp i t ht;obtain⟨V,hV⟩:∃ V,T (i+1)=V:=⟨_,rfl⟩;rw[<-h2,hV] at cp1;obtain⟨q,hq⟩:∃ q,zS t.2=q:=⟨_,rfl⟩;rw[hq] at hg cp1;obtain⟨y,c0⟩:=t;dsimp only at hg hv1 cp1;cbv;refine dD hg jL gP ?_;cbv;refine eD om ?_;cbv;refine zZ 12 (by cbv) ?_;cbv;refine dD hg jL gP ?_;cbv;refine dD hg jL gP ?_;cbv;refine dA cp1 ?_;cbv;exact⟨zE om om,(i+1,V),⟨om,hV.symm⟩,om,wkZ⟩
 ·(have hi:i=ts.length:=by have:=i5 h5 (by omega);omega);subst hi
  rw[<-h2];cbv
  (refine rC ?_;cbv)
  exact okA
theorem zNH {TS:List (Int×R)}{Z:R}{a:A}(cm:zM 128 [tsv TS,rv Z] (.tup [av a,.int .i64 (fun _=>0)])):zM 84 [tsv TS,rv Z] (av a):=by
 refine sF Tryz.f84 ?_;obtain⟨ats,ac0⟩:=a;cbv;refine cA cm ?_;cbv
 (refine rC ?_;cbv)
 exact okA
def frm (c0 c1 c:Int):F:=⟨wB [] [(0,(c0:Rat)),(1,(c1:Rat))],(c:Rat)⟩
theorem cE {z:Int}(h:z.natAbs<=8):Fits 1 (z:Rat):=iT (Nat.lt_of_le_of_lt h (by decide)) (Nat.le_refl 1)
theorem zBC {m:Nat}:∀ {g l:List (Int×Rat)},(∀ t,t∈g->Fits 1 t.2)->(∀ t,t∈l->Fits m t.2)->∀ t,t∈wB l g->Fits (m+2*g.length) t.2
 |[],l,_,h,t,ht=>h t ht| u::g,l,hg,h,t,ht=>by have e:wB l (u::g)=wB (wE u.1 u.2 false l) g:=rfl;rw[e] at ht;have:=zBC (m:=m+2) (g:=g) (l:=wE u.1 u.2 false l) (fun x hx=>hg x (List.mem_cons_of_mem _ hx)) (lU (hg u List.mem_cons_self) h) t ht;exact this.mono (by rw[List.length_cons];omega)
theorem zAG {c0 c1:Int}(h0:c0.natAbs<=8)(h1:c1.natAbs<=8):∀ t,t∈[((0:Int),(c0:Rat)),(1,(c1:Rat))]->0<=t.1/\Fits 1 t.2:=fun t ht=>by rcases List.mem_cons.1 ht with rfl|ht;{exact⟨Int.le_refl 0,cE h0⟩};{rcases List.mem_cons.1 ht with rfl|ht;{exact⟨show (0:Int)<=1 by decide,cE h1⟩};{simp at ht}}
theorem zK9 {c0 c1 c:Int}(h0:c0.natAbs<=8)(h1:c1.natAbs<=8)(h2:c.natAbs<=8):zM 84 [tsv [(0,zS (c0:Rat)),(1,zS (c1:Rat))],rv (zS (c:Rat))] (av (fA (frm c0 c1 c))):=by have ht:=zAG h0 h1;refine zNH (zOW [(0,(c0:Rat)),(1,(c1:Rat))] c (fun t h=>(ht t h).1) (fun t h=>(ht t h).2.mono (by decide)) ((cE h2).mono (by decide)) (fun i=>⟨?_,fun t h=>?_⟩) (show 2<2^30 by decide));{refine Nat.lt_of_le_of_lt (bL _ _) ?_;rw[List.length_take];have:([]:List (Int×Rat)).length=0:=rfl;have:([((0:Int),(c0:Rat)),(1,(c1:Rat))]:List (Int×Rat)).length=2:=rfl;omega};{refine (zBC (m:=1) (g:=[((0:Int),(c0:Rat)),(1,(c1:Rat))].take i) (l:=[]) (fun t h=>(ht t (List.mem_of_mem_take h)).2) (fun t h=>absurd h (by simp)) t h).mono ?_;rw[List.length_take];have:([((0:Int),(c0:Rat)),(1,(c1:Rat))]:List (Int×Rat)).length=2:=rfl;omega}
theorem zJD {vars:Int}:∀ {ts:List (Int×R)} {p:Int},vT vars p ts=true->∀ t,t∈tq ts->0<=t.1/\t.1<vars
 |[],_,_,t,h=>absurd h (by simp[tq])| u::r,p,h,t,ht=>by rw[nD] at h;simp only[Bool.and_eq_true,decide_eq_true_eq] at h;obtain⟨⟨⟨⟨⟨h1,h2⟩,h3⟩,h4⟩,h5⟩,h6⟩:=h;rcases List.mem_cons.1 ht with rfl|ht;{exact⟨h1,h2⟩};{exact zJD h6 t ht}
theorem b9 {a:A}{n:Int}(h:a.valid n=true):fA a.f=a/\a.f.wf n:=by have h1:=zBL h;unfold A.valid at h;simp only[Bool.and_eq_true] at h;exact⟨h1.1,h1.2,zJD h.1⟩
theorem zCE {a:A}(h:a.small=true):a.f.fl 2 8:=by unfold A.small R.small at h;simp only[Bool.and_eq_true,decide_eq_true_eq,List.all_eq_true] at h;obtain⟨⟨⟨h1,⟨h2,h3⟩⟩,h4⟩,h5⟩:=h;refine⟨fun t ht=>?_,R.sz.fits ⟨h2.1,h2.2⟩ (by decide),?_⟩;{obtain⟨u,hu,rfl⟩:=List.mem_map.1 (show t∈a.ts.map fun t=>(t.1,t.2.q) from ht);have:=h5 u hu;exact R.sz.fits ⟨this.1.1,this.1.2⟩ (by decide)};{show (tq a.ts).length<=8;rw[show (tq a.ts).length=a.ts.length from List.length_map ..];exact h1}
structure PW (v:Nat) (fs:List F) (ob:F) (k n:Nat):Prop where
 lv:v<=4
 len:fs.length<=9
 rows:∀ f,f∈fs->f.fl k n/\f.wf (v:Int)
 obj:ob.fl k n/\ob.wf (v:Int)
 k1:1<=k
 k2:k<=500
 hn:n<2^20
theorem zOI {P:Prg}(h:P.small=true):∃ v fs ob,P=prg v fs ob/\fs.length<=8/\PW v fs ob 2 8:=by
 unfold Prg.small tG at h;simp only[Bool.and_eq_true,decide_eq_true_eq,List.all_eq_true] at h;obtain⟨⟨⟨h1,h2,h3⟩,h4⟩,h5⟩:=h;unfold Prg.valid at h5;simp only[Bool.and_eq_true,decide_eq_true_eq,List.all_eq_true] at h5;obtain⟨⟨h6,h7⟩,h8⟩:=h5;obtain⟨n,us,ob⟩:=P;dsimp only at *
 have hn:n=((n.toNat:Nat):Int):=by omega
 have hob:=b9 h7;have e:us.map (fun a=>fA a.f)=us:=by
  refine List.ext_getElem? fun i=>?_;rw[List.getElem?_map];cases hi:us[i]? with
  |none=>rfl| some a=>show some (fA a.f)=some a;rw[(b9 (h8 a (List.mem_of_getElem? hi))).1]
 refine⟨n.toNat,us.map A.f,ob.f,?_,by rw[List.length_map];omega,by omega,by rw[List.length_map];omega,fun f hf=>?_,⟨zCE h4,hn ▸ hob.2⟩,by decide,by decide,by decide⟩;{show (⟨n,us,ob⟩:Prg)=⟨((n.toNat:Nat):Int),(us.map A.f).map fA,fA ob.f⟩;rw[<-hn,List.map_map,hob.1];congr 1;exact e.symm};{obtain⟨a,ha,rfl⟩:=List.mem_map.1 hf;exact⟨zCE (h3 a ha),hn ▸ (b9 (h8 a ha)).2⟩}
theorem s6 {c0 c1 c:Int}(h0:c0.natAbs<=8)(h1:c1.natAbs<=8)(h2:c.natAbs<=8):(frm c0 c1 c).fl 5 2:=by have ht:=zAG h0 h1;refine⟨fun t h=>?_,(cE h2).mono (by decide),bL _ _⟩;exact zBC (m:=1) (g:=[((0:Int),(c0:Rat)),(1,(c1:Rat))]) (l:=[]) (fun t h=>(ht t h).2) (fun t h=>absurd h (by simp)) t h
theorem oG {f:F}{n:Int}(h:(fA f).valid n=true):f.wf n:=by
 have:=(b9 h).2;have e:(fA f).f=f:=by obtain⟨ts,c⟩:=f;show (⟨tq (tR ts),(zS c).q⟩:F)=⟨ts,c⟩;rw[zOO,xF]
 rwa [e] at this
theorem zN1:frm 1 2 (-4)=⟨[(0,1),(1,2)],-4⟩/\frm 1 0 0=⟨[(0,1)],0⟩/\frm 0 1 0=⟨[(1,1)],0⟩/\frm 1 1 0=⟨[(0,1),(1,1)],0⟩/\frm (-1) (-1) 1=⟨[(0,-1),(1,-1)],1⟩/\frm (-1) 0 0=⟨[(0,-1)],0⟩:=by refine⟨?_,?_,?_,?_,?_,?_⟩ <;> (unfold frm;congr 1)
theorem at2 {X:Int->Rat}{a b:Int}{p q c:Rat}:(⟨[(a,p),(b,q)],c⟩:F).at X=c+(p*X a+(q*X b+0)):=rfl
theorem at1 {X:Int->Rat}{a:Int}{p c:Rat}:(⟨[(a,p)],c⟩:F).at X=c+(p*X a+0):=rfl
theorem zKI (X:Int->Rat):(frm 1 2 (-4)).at X=X 0+2*X 1-4/\(frm 1 0 0).at X=X 0/\(frm 0 1 0).at X=X 1/\(frm 1 1 0).at X=X 0+X 1/\(frm (-1) (-1) 1).at X=1-X 0-X 1/\(frm (-1) 0 0).at X=- X 0:=by obtain⟨h1,h2,h3,h4,h5,h6⟩:=zN1;rw[h1,h2,h3,h4,h5,h6,at2,at1,at1,at2,at2,at1];refine⟨?_,?_,?_,?_,?_,?_⟩ <;> grind
theorem sWcT (l:List (Int×R))(hl:l.length<2^38):zM 127 [tsv l] (tsv l):=by refine sF Tryz.f127 ?_;cbv;refine⟨fun b hb=>?_⟩;cbv;refine z9 (fun h=>?_) (fun h=>?_);{cbv;refine uI rfl ?_ rfl;exact zN (hb h)};{cbv;refine wO zE9 rfl rfl rfl rfl rfl (nP gP _) (yJ om (by simp only[List.length_nil,zO];(try dsimp only [zJ] at *);omega)) rfl ?_;cbv;refine retW (.frz 7 rfl rfl ?_ ?_) rfl ?_ rfl;{cbv;exact⟨yL (by simp),yL (by simp),trivial⟩};{exact trivial};{refine zX ?_;simp}}
theorem zMB:Pg.funcs[79]?=some Tryz.f79:=by rw[xX];rfl
theorem sWcQ (l:List Rat)(hl:l.length<2^38):zM 79 [qlv l] (qlv l):=by refine yH zMB rfl rfl rfl rfl rfl ?_;cbv;refine⟨fun b hb=>?_⟩;cbv;refine z9 (fun h=>?_) (fun h=>?_);{cbv;refine uI rfl ?_ rfl;exact zN (hb h)};{cbv;refine wO zHP rfl rfl rfl rfl rfl (nP zJ2 _) (yJ om (by simp only[List.length_nil,zO];(try dsimp only [zJ] at *);omega)) rfl ?_;cbv;refine retW (.frz 7 rfl rfl ?_ ?_) rfl ?_ rfl;{cbv;exact⟨yL (by simp),yL (by simp),trivial⟩};{exact trivial};{refine zX ?_;simp}}
theorem sWcI (l:List Nat)(hl:l.length<2^38):zM 58 [ilv l] (ilv l):=by refine sF Tryz.f58 ?_;cbv;refine⟨fun b hb=>?_⟩;cbv;refine z9 (fun h=>?_) (fun h=>?_);{cbv;refine uI rfl ?_ rfl;exact zN (hb h)};{cbv;refine wO oL rfl rfl rfl rfl rfl (nP (show ∀ a,(ci a).length=1 from fun _=>rfl) _) (yJ om (by simp only[List.length_nil,zO];(try dsimp only [zJ] at *);omega)) rfl ?_;cbv;refine retW (.frz 7 rfl rfl ?_ ?_) rfl ?_ rfl;{cbv;exact⟨yL (by simp),yL (by simp),trivial⟩};{exact trivial};{refine zX ?_;simp}}
theorem zHS (f:A)(hl:f.ts.length<2^38):zM 81 [av f] (av f):=by
 have c1:=sWcT f.ts hl;obtain⟨fts,fc⟩:=f;refine sF Tryz.f81 ?_;cbv;refine cA c1 ?_;cbv
 (refine rC ?_;cbv)
 exact okA
theorem zES:ty 22=.sli 4 80 [.nil,.ff,.nil,.nil]:=by cbv
theorem zNX:Pg.funcs[78]?=some Tryz.f78:=by rw[xX];rfl
theorem zOS (P:Prg)(hl:P.rows.length<2^28)(hr:∀ a,a∈P.rows->a.ts.length<2^38)(ho:P.ob.ts.length<2^38):Sound 78 [pgv P] [] [] (.agg [.int .i64 (fun _=>P.v),.osl 24 4 (fun _=>0) (fun _=>P.rows.length),tsv P.ob.ts,.bool (fun _=>P.ob.c.neg),nat P.ob.c.num,nat P.ob.c.den]) [] [(24,.arr 4 (fun _=>enc ac P.rows))]:=by
 have c1:=zHS P.ob ho;have cd:∀ (i:Nat) a,P.rows[i]?=some a->zM 81 [av a] (av a):=fun i a h=>zHS a (hr a (List.mem_of_getElem? h));obtain⟨v,us,ob⟩:=P;obtain⟨ots,oc⟩:=ob;dsimp only at *
 refine yH zNX rfl rfl rfl rfl rfl ?_;show wp _ ⟨eP 0 [.agg [.int .i64 (fun _=>v),.sl (fun _=>enc ac us),tsv ots,.bool (fun _=>oc.neg),nat oc.num,nat oc.den]],_⟩ (bK _ (.agg [.int .i64 (fun _=>v),.osl 24 4 (fun _=>0) (fun _=>us.length),tsv ots,.bool (fun _=>oc.neg),nat oc.num,nat oc.den]) [] [(24,.arr 4 (fun _=>enc ac us))]);have c1':zM 81 [.agg [tsv ots,.bool (fun _=>oc.neg),nat oc.num,nat oc.den]] (.agg [tsv ots,.bool (fun _=>oc.neg),nat oc.num,nat oc.den]):=c1;clear c1 hr;cbv;refine zBE 7 (by cbv) (by cbv) ?_;cbv;refine dA c1' ?_;cbv;refine yB (σ:=Nat) (fun i=>⟨[(2,.ptr 2 0),(3,.ptr 3 0),(13,alv us),(14,.int .i64 (fun _=>(us.length:Int))),(15,.int .i64 (fun _=>(i:Int)))],[(2,.box [.int .i64 (fun _=>0),.nil,.nil,.ff,.nil,.nil]),(3,.box [.int .i64 (fun _=>v),.osl 24 4 (fun _=>0) (fun _=>i),tsv ots,.bool (fun _=>oc.neg),nat oc.num,nat oc.den]),(24,.arr 4 (fun _=>enc ac (us.take i)))]⟩)
  (fun i=>i<=us.length) (fun i=>us.length-i) 0 (Nat.zero_le _)
  (.trans (.le (ps':=⟨[(2,.ptr 2 0),(3,.ptr 3 0),(13,alv us),(14,.int .i64 (fun _=>(us.length:Int))),(15,.int .i64 (fun _=>((0:Nat):Int)))],[(2,.box [.int .i64 (fun _=>0),.nil,.nil,.ff,.nil,.nil]),(3,.box [.int .i64 (fun _=>v),.nil,tsv ots,.bool (fun _=>oc.neg),nat oc.num,nat oc.den])]⟩) (by cbv;repeat' first|exact trivial|exact lR|exact zC (by (try dsimp only [zJ] at *);rw[zO])|apply And.intro) (by cbv;repeat' first|exact trivial|exact lR|apply And.intro) rfl)
   (.trans (.adoptB (ps:=⟨[(2,.ptr 2 0),(3,.ptr 3 0),(13,alv us),(14,.int .i64 (fun _=>(us.length:Int))),(15,.int .i64 (fun _=>((0:Nat):Int)))],[(2,.box [.int .i64 (fun _=>0),.nil,.nil,.ff,.nil,.nil]),(3,.box [.int .i64 (fun _=>v),.nil,tsv ots,.bool (fun _=>oc.neg),nat oc.num,nat oc.den])]⟩) (cs:=[.int .i64 (fun _=>v),.nil,tsv ots,.bool (fun _=>oc.neg),nat oc.num,nat oc.den]) 24 4 3 1 rfl rfl rfl)
   (.le okZ (by cbv;repeat' first|exact trivial|exact lR|exact zA rfl|apply And.intro) rfl))) ?_
 intro i hi;cbv;refine zF (fun h=>?_) (fun h=>?_)
 ·(have hlt:i<us.length:=om;obtain⟨a,ha⟩:=zV hlt;have k1:=cd i a ha;obtain⟨ats,acc⟩:=a;have k1':zM 81 [.agg [tsv ats,.bool (fun _=>acc.neg),nat acc.num,nat acc.den]] (.agg [tsv ats,.bool (fun _=>acc.neg),nat acc.num,nat acc.den]):=k1;have htk:enc ac (us.take (i+1))=enc ac (us.take i)++yV [[tsv ats,.bool (fun _=>acc.neg),nat acc.num,nat acc.den]]:=by rw[List.take_succ,ha,<-jP];rfl);have htl:(us.take i).length=i:=by rw[List.length_take];omega
  clear cd k1;cbv;refine dD ha aX mK ?_;cbv;refine aO 6 [(5,24)] (by cbv) (by cbv) ?_;cbv;refine dA k1' ?_;cbv;refine pV zES rfl ⟨by simp[yV,xM]⟩ rfl (by rw[zO,htl]) (yJ (by simp[yV] <;> omega) (by simp[yV,zO,htl];(try dsimp only [zJ] at *);omega)) ?_;cbv;exact⟨zE om om,i+1,om,om,.le okZ (by cbv;repeat' first|exact trivial|exact lR|exact z5 rfl (by rw[zO,htl];rfl)|exact zA htk.symm|apply And.intro) rfl⟩
 {have hin:us.take i=us:=List.take_of_length_le om;have hil:i=us.length:=om;cbv;rw[hin];refine zKA 24 (.refl _) rfl rfl rfl ?_;cbv;exact⟨lR,z5 rfl hil,lR,lR,lR,lR,trivial⟩}
end Go.Proofs.YtfainocfaddbdaaGreat
