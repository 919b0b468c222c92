/- A part of the proof: WsF, WsG, WtA, WtB, WuA. -/
import Derived.Test.YtfainocfaddbdaaGreatV39
import Derived.Test.YtfainocfaddbdaaGreatV36
import Derived.Test.YtfainocfaddbdaaGreatV37
set_option linter.all false
namespace Go.Proofs.YtfainocfaddbdaaGreat
open Go
set_option maxRecDepth 100000
set_option maxHeartbeats 4000000
theorem zPH (l:List Rat)(hl:l.length<2^38):Sound 79 [qlv l] [] [] (.osl 7 3 (fun _=>0) (fun _=>l.length)) [] [(7,.arr 3 (fun _=>enc cq l))]:=by refine yK zM5 rfl rfl rfl rfl rfl ?_;cbv;refine⟨fun b hb=>?_⟩;cbv;refine z4 (fun h=>?_) (fun h=>?_);{have h1:l=[]:=List.map_eq_nil_iff.1 (hb h);subst h1;cbv;refine uK id (.trans (wkZ (ps':=⟨[(2,.nil)],[]⟩)) (.adoptT 7 3 2 rfl rfl)) rfl (by exact⟨⟨rfl,rfl⟩,trivial⟩) (by rfl) (by exact trivial) ?_;exact lR};{cbv;refine wN zH8 rfl rfl rfl rfl rfl (tI zKU _) (yE om (by simp only[List.length_nil,zO];(try dsimp only [zL] at *);omega)) rfl ?_;cbv;refine uK id (.refl _) rfl (by exact⟨⟨rfl,rfl⟩,trivial⟩) (by rfl) (by exact trivial) ?_;exact z5 rfl (by simp[zO])}
theorem zJ7 (a:A)(v:Int)(us:List A)(ots:List (Int×R))(oc:R)(sd:Bool)(st:Int)(z:R)(pt du ry:List Rat)(bas:List Nat)(pv:Int)(ha:a.sz (2^32))(hv:a.valid v=false):Sound 39 [.ptr 1000000 0,av a] [(1000000,.box (wC 31 v us ots oc sd st z pt du ry bas pv 0))] [(31,.arr 4 (fun _=>enc ac us))] (.int .i64 (fun _=>1)) [(1000000,.box (wC 31 v us ots oc sd st z pt du ry bas pv 0))] [(31,.arr 4 (fun _=>enc ac us))]:=by have cv:=fG a v (ha.mono (by decide));rw[hv] at cv;obtain⟨ats,acc⟩:=a;have cv':zK 80 [.agg [tsv ats,.bool (fun _=>acc.neg),nat acc.num,nat acc.den],.int .i64 (fun _=>v)] (.bool (fun _=>false)):=cv;obtain⟨fls,hfl⟩:∃ b,b=false:=⟨_,rfl⟩;rw[<-hfl] at cv';clear cv ha hv;refine yK zFM rfl rfl rfl rfl rfl ?_;cbv;refine jQ rfl ?_;cbv;refine zY 8 (by cbv) ?_;cbv;refine dA cv' ?_;cbv;refine z4 (fun e=>by rw[hfl] at e;cases e) (fun e=>?_);cbv;refine uK id (.refl _) rfl (by exact⟨⟨rfl,rfl⟩,⟨rfl,rfl⟩,trivial⟩) (by rfl) (by exact⟨⟨rfl,by omega⟩,trivial⟩) ?_;exact lR
theorem l7 (a:A)(v:Int)(us:List A)(ots:List (Int×R))(oc:R)(sd:Bool)(st:Int)(z:R)(pt du ry:List Rat)(bas:List Nat)(pv:Int)(ha:a.sz (2^32))(hv:a.valid v=true)(hu:us.length<4096)(hn:¬(sd=true/\st=2)):Sound 39 [.ptr 1000000 0,av a] [(1000000,.box (wC 31 v us ots oc sd st z pt du ry bas pv 0))] [(31,.arr 4 (fun _=>enc ac us))] (.int .i64 (fun _=>0)) [(1000000,.box (wC 31 v (us++[a]) ots oc false st z pt du ry bas pv 0))] [(31,.arr 4 (fun _=>enc ac (us++[a])))]:=by
 have cv:=fG a v (ha.mono (by decide));rw[hv] at cv;have cd:=zD6 a (by have:=ha.t.len;omega);obtain⟨ats,acc⟩:=a;have cv':zK 80 [.agg [tsv ats,.bool (fun _=>acc.neg),nat acc.num,nat acc.den],.int .i64 (fun _=>v)] (.bool (fun _=>true)):=cv;have cd':zK 81 [.agg [tsv ats,.bool (fun _=>acc.neg),nat acc.num,nat acc.den]] (.agg [tsv ats,.bool (fun _=>acc.neg),nat acc.num,nat acc.den]):=cd;have hXe:enc ac (us++[(⟨ats,acc⟩:A)])=enc ac us++yN [[tsv ats,.bool (fun _=>acc.neg),nat acc.num,nat acc.den]]:=by rw[<-jC];rfl
 have hUl:(us++[(⟨ats,acc⟩:A)]).length=us.length+1:=by rw[List.length_append];rfl
 have hXl:(enc ac us).length=us.length:=zO _ _;obtain⟨XS,hXS⟩:∃ XS,enc ac us=XS:=⟨_,rfl⟩;rw[hXS] at hXe hXl;obtain⟨us',hus'⟩:∃ u,us++[(⟨ats,acc⟩:A)]=u:=⟨_,rfl⟩;rw[hus'] at hXe hUl;rw[hXS,hus'];obtain⟨XT,hXT⟩:∃ XT,enc ac us'=XT:=⟨_,rfl⟩;rw[hXT] at hXe;rw[hXT];obtain⟨tru,htr⟩:∃ b,b=true:=⟨_,rfl⟩;rw[<-htr] at cv';clear cv cd ha hv;refine yK zFM rfl rfl rfl rfl rfl ?_;cbv;refine jQ rfl ?_;cbv;refine zY 8 (by cbv) ?_;cbv;refine dA cv' ?_;cbv;refine z4 (fun e=>?_) (fun e=>by rw[htr] at e;cases e);cbv;refine zE (fun e=>absurd e om) (fun e=>?_);cbv;refine c5 10 [(9,31)] (by cbv) (by cbv) ?_;cbv;refine dA cd' ?_;cbv;refine a7 zCD rfl ⟨by simp[yN,xL]⟩ rfl hXl.symm (yE (by simp[yN] <;> omega) (by simp[yN,hXl];(try dsimp only [zL] at *);omega)) ?_;cbv;have hml:(yN [[tsv ats,.bool (fun _=>acc.neg),nat acc.num,nat acc.den]]).length=1:=rfl;refine xO (fun h1=>?_) (fun h1=>?_);{cbv;refine w8 rfl ?_;cbv;refine zE (fun e=>absurd ⟨h1,e⟩ hn) (fun e=>?_);cbv;refine uK (ps':=⟨[(4,.int .i64 (fun _=>0))],[(1000000,.box (wC 31 v us' ots oc false st z pt du ry bas pv 0)),(31,.arr 4 (fun _=>XT))]⟩) id (wkY (by cbv;repeat' first|exact trivial|exact lR|exact z5 rfl (by rw[hXl,hUl];rfl)|exact zA rfl|exact zA hXe.symm|exact zQ rfl|exact zJ rfl|exact zM rfl|apply And.intro)) rfl (by exact⟨⟨rfl,rfl⟩,⟨rfl,rfl⟩,trivial⟩) (by rfl) (by exact⟨⟨rfl,by omega⟩,trivial⟩) ?_;exact lR};{cbv;refine uK (ps':=⟨[(4,.int .i64 (fun _=>0))],[(1000000,.box (wC 31 v us' ots oc false st z pt du ry bas pv 0)),(31,.arr 4 (fun _=>XT))]⟩) id (wkY (by cbv;repeat' first|exact trivial|exact lR|exact z5 rfl (by rw[hXl,hUl];rfl)|exact zA rfl|exact zA hXe.symm|exact zQ rfl|exact zJ rfl|exact zM rfl|apply And.intro)) rfl (by exact⟨⟨rfl,rfl⟩,⟨rfl,rfl⟩,trivial⟩) (by rfl) (by exact⟨⟨rfl,by omega⟩,trivial⟩) ?_;exact lR}
theorem zN0 (a:A)(v:Int)(us:List A)(ots:List (Int×R))(oc:R)(st:Int)(z:R)(pt du ry:List Rat)(bas:List Nat)(pv:Int)(ha:a.sz (2^32))(hv:a.valid v=true)(hu:us.length<4096)(hd:du.length<2^30)(h2:st=2):Sound 39 [.ptr 1000000 0,av a] [(1000000,.box (wC 31 v us ots oc true st z pt du ry bas pv 0))] [(31,.arr 4 (fun _=>enc ac us))] (.int .i64 (fun _=>0)) [(1000000,.box (wC 31 v (us++[a]) ots oc true st z pt (du++[0]) ry bas pv 0))] [(31,.arr 4 (fun _=>enc ac (us++[a])))]:=by
 have cv:=fG a v (ha.mono (by decide));rw[hv] at cv;have cd:=zD6 a (by have:=ha.t.len;omega);obtain⟨ats,acc⟩:=a;have cv':zK 80 [.agg [tsv ats,.bool (fun _=>acc.neg),nat acc.num,nat acc.den],.int .i64 (fun _=>v)] (.bool (fun _=>true)):=cv;have cd':zK 81 [.agg [tsv ats,.bool (fun _=>acc.neg),nat acc.num,nat acc.den]] (.agg [tsv ats,.bool (fun _=>acc.neg),nat acc.num,nat acc.den]):=cd;have hXe:enc ac (us++[(⟨ats,acc⟩:A)])=enc ac us++yN [[tsv ats,.bool (fun _=>acc.neg),nat acc.num,nat acc.den]]:=by rw[<-jC];rfl
 have hUl:(us++[(⟨ats,acc⟩:A)]).length=us.length+1:=by rw[List.length_append];rfl
 have hXl:(enc ac us).length=us.length:=zO _ _;obtain⟨XS,hXS⟩:∃ XS,enc ac us=XS:=⟨_,rfl⟩;rw[hXS] at hXe hXl;obtain⟨us',hus'⟩:∃ u,us++[(⟨ats,acc⟩:A)]=u:=⟨_,rfl⟩;rw[hus'] at hXe hUl;rw[hXS,hus'];obtain⟨XT,hXT⟩:∃ XT,enc ac us'=XT:=⟨_,rfl⟩;rw[hXT] at hXe;rw[hXT];obtain⟨tru,htr⟩:∃ b,b=true:=⟨_,rfl⟩;rw[<-htr] at cv';clear cv cd ha hv;have kq:=zPH du (Nat.lt_trans hd (by decide));have hDe:enc cq (du++[0])=enc cq du++yN [[.ff,.nil,.nil]]:=by rw[<-jC];exact congrArg (enc cq du++·) (jT 1).symm
 have hDl:(enc cq du).length=du.length:=zO _ _;refine yK zFM rfl rfl rfl rfl rfl ?_;cbv;refine jQ rfl ?_;cbv;refine zY 8 (by cbv) ?_;cbv;refine dA cv' ?_;cbv;refine z4 (fun e=>?_) (fun e=>by rw[htr] at e;cases e);cbv;refine zE (fun e=>absurd e om) (fun e=>?_);cbv;refine c5 10 [(9,31)] (by cbv) (by cbv) ?_;cbv;refine dA cd' ?_;cbv;refine a7 zCD rfl ⟨by simp[yN,xL]⟩ rfl hXl.symm (yE (by simp[yN] <;> omega) (by simp[yN,hXl];(try dsimp only [zL] at *);omega)) ?_;cbv;have hml:(yN [[tsv ats,.bool (fun _=>acc.neg),nat acc.num,nat acc.den]]).length=1:=rfl;refine zPZ rfl ?_;cbv;refine w8 rfl ?_;cbv;refine zE (fun e=>?_) (fun e=>absurd (show st=2 from h2) e);cbv;refine z7 (fun n=>match nqb n 7 with|true=>60|false=>n) (.refl _) rfl okA kq (by exact trivial) rfl rfl rfl rfl rfl rfl rfl rfl ?_;cbv;refine wN zH8 rfl rfl rfl hDl.symm rfl ⟨by simp[yN,xL]⟩ (yE (by simp[yN] <;> omega) (by simp[yN,hDl];(try dsimp only [zL] at *);omega)) rfl ?_;cbv;have hmz:(yN [[PV.ff,.nil,.nil]]).length=1:=rfl;have hDf:0+(du.length+1)<=(enc cq (du++[0])).length:=by rw[zO,List.length_append,Nat.zero_add];exact Nat.le_refl _
 have hDg:((enc cq (du++[0])).drop 0).take (du.length+1)=enc cq (du++[0]):=by rw[List.drop_zero,List.take_of_length_le (by rw[zO,List.length_append];exact Nat.le_refl _)]
 refine uK (ps':=⟨[(4,.int .i64 (fun _=>0))],[(1000000,.box (wC 31 v us' ots oc true st z pt (du++[0]) ry bas pv 0)),(31,.arr 4 (fun _=>XT))]⟩) id
  (.trans (wkY (ps':=⟨[(4,.int .i64 (fun _=>0))],[(1000000,.box [.int .i64 (fun _=>v),.osl 31 4 (fun _=>0) (fun _=>us'.length),tsv ots,.bool (fun _=>oc.neg),nat oc.num,nat oc.den,.bool (fun _=>true),.int .i64 (fun _=>st),.bool (fun _=>z.neg),nat z.num,nat z.den,qlv pt,.osl 63 3 (fun _=>0) (fun _=>du.length+1),qlv ry,ilv bas,.int .i64 (fun _=>pv),.int .i64 (fun _=>0)]),(31,.arr 4 (fun _=>XT)),(63,.arr 3 (fun _=>enc cq (du++[0])))]⟩) (by cbv;repeat' first|exact trivial|exact lR|exact z5 rfl (by rw[hXl,hUl];rfl)|exact z5 rfl (by rw[hDl];rfl)|exact zA rfl|exact zA hXe.symm|exact zA hDe.symm|exact zQ rfl|exact zJ rfl|exact zM rfl|exact zX hDg|apply And.intro)) (.trans (.frz (ps:=⟨[(4,.int .i64 (fun _=>0))],[(1000000,.box [.int .i64 (fun _=>v),.osl 31 4 (fun _=>0) (fun _=>us'.length),tsv ots,.bool (fun _=>oc.neg),nat oc.num,nat oc.den,.bool (fun _=>true),.int .i64 (fun _=>st),.bool (fun _=>z.neg),nat z.num,nat z.den,qlv pt,.osl 63 3 (fun _=>0) (fun _=>du.length+1),qlv ry,ilv bas,.int .i64 (fun _=>pv),.int .i64 (fun _=>0)]),(31,.arr 4 (fun _=>XT)),(63,.arr 3 (fun _=>enc cq (du++[0])))]⟩) 63 rfl rfl (by cbv;repeat' first|exact trivial|exact yI hDf|apply And.intro) (by cbv;repeat' first|exact trivial|exact yI hDf|apply And.intro)) (wkY (by cbv;repeat' first|exact trivial|exact lR|exact z5 rfl (by rw[hXl,hUl];rfl)|exact z5 rfl (by rw[hDl];rfl)|exact zA rfl|exact zA hXe.symm|exact zA hDe.symm|exact zQ rfl|exact zJ rfl|exact zM rfl|exact zX hDg|apply And.intro)))) rfl (by exact⟨⟨rfl,rfl⟩,⟨rfl,rfl⟩,trivial⟩) (by rfl) (by exact⟨⟨rfl,by omega⟩,trivial⟩) ?_
 exact lR
theorem zFO {p:Prop}[Decidable p]{A B:Unit->Prop}(h:p)(hA:A ()):Br (fun _=>decide p) A B:=yD (fun _=>hA) (fun e=>absurd h e)
theorem tQ {p:Prop}[Decidable p]{A B:(Exit->PS->Prop)->Prop}{Q:Exit->PS->Prop}(h:p)(hA:A Q):Cut (fun _=>decide p) A B Q:=zE (fun _=>hA) (fun e=>absurd h e)
theorem zJZ:ty 22=.sli 4 80 [.nil,.ff,.nil,.nil]:=by cbv
theorem zKR:Pg.funcs[38]?=some Tryz.f38:=by rw[xV];rfl
theorem zPL (P:Prg)(a:A)(ha:a.sz (2^32))(hv:a.valid P.v=false):zK 38 [pgv P,av a] (.tup [pgv P,.int .i64 (fun _=>1)]):=by
 have cv:=sR7V a P.v ha;rw[hv] at cv;obtain⟨n,us,ob⟩:=P;obtain⟨ots,oc⟩:=ob;obtain⟨ats,acc⟩:=a;have cv':zK 66 [.agg [tsv ats,.bool (fun _=>acc.neg),nat acc.num,nat acc.den],.int .i64 (fun _=>n)] (.bool (fun _=>false)):=cv;obtain⟨fls,hfl⟩:∃ b,b=false:=⟨_,rfl⟩;rw[<-hfl] at cv';clear cv ha hv;refine yK zKR rfl rfl rfl rfl rfl ?_;cbv;refine cA cv' ?_;cbv;refine z4 (fun e=>by rw[hfl] at e;cases e) (fun e=>?_);cbv
 (refine rC ?_;cbv)
 exact okA
theorem zPM (P:Prg)(a:A)(ha:a.sz (2^32))(hv:a.valid P.v=true)(hl:P.rows.length<4096):zK 38 [pgv P,av a] (.tup [pgv ⟨P.v,P.rows++[a],P.ob⟩,.int .i64 (fun _=>0)]):=by
 have cv:=sR7V a P.v ha;rw[hv] at cv;obtain⟨n,us,ob⟩:=P;obtain⟨ots,oc⟩:=ob;obtain⟨ats,acc⟩:=a;have cv':zK 66 [.agg [tsv ats,.bool (fun _=>acc.neg),nat acc.num,nat acc.den],.int .i64 (fun _=>n)] (.bool (fun _=>true)):=cv;obtain⟨tru,htr⟩:∃ b,b=true:=⟨_,rfl⟩;rw[<-htr] at cv';dsimp only at hl;clear cv ha hv;refine yK zKR rfl rfl rfl rfl rfl ?_;cbv;refine cA cv' ?_;cbv;refine z4 (fun e=>?_) (fun e=>by rw[htr] at e;cases e);cbv;refine zE (fun e=>absurd e (by rw[zO];(try dsimp only [zL] at *);omega)) (fun e=>?_);cbv;refine tN 6 [(3,20)] (.fresh 20 4 rfl) (by cbv) (by cbv) ?_;cbv;refine zJJ zJZ rfl (tI kP _) (yE (by exact Int.natCast_nonneg _) (by simp only[zO];(try dsimp only [zL] at *);omega)) ?_;cbv;refine wN zJZ rfl rfl rfl rfl rfl ⟨by simp[yN,xL]⟩ (yE (by exact Int.natCast_nonneg _) (by show (((enc ac us).length+1:Nat):Int)*80<=_;rw[zO];(try dsimp only [zL] at *);omega)) rfl ?_;have hel:enc ac us++yN [ac ⟨ats,acc⟩]=enc ac (us++[⟨ats,acc⟩]):=by simp[enc,yN]
 have es3:((enc ac us++yN [ac ⟨ats,acc⟩]).drop 0).take ((enc ac us).length+(yN [ac ⟨ats,acc⟩]).length)=enc ac (us++[⟨ats,acc⟩]):=by rw[hel,List.drop_zero,List.take_of_length_le (by rw[zO,zO];simp[yN])]
 have es4:0+((enc ac us).length+(yN [ac ⟨ats,acc⟩]).length)<=(enc ac us++yN [ac ⟨ats,acc⟩]).length:=by rw[List.length_append];omega
 cbv;refine zK2 _ (.frz 23 rfl rfl (by cbv;repeat' first|exact trivial|exact yI es4|apply And.intro) (by cbv;repeat' first|exact trivial|exact yI es4|apply And.intro)) rfl ?_;cbv;exact⟨⟨lR,zX es3,lR,lR,lR,lR,trivial⟩,lR,trivial⟩
structure A.cq (a:A):Prop where
 c:zK 30 [rv a.c,rv a.c] (.int .i64 (fun _=>0))
 t:∀ t,t∈a.ts->zK 30 [rv t.2,rv t.2] (.int .i64 (fun _=>0))
 l:a.ts.length<2^38
theorem zKB (a:A)(h:a.cq):zK 83 [av a,av a] (.bool (fun _=>true)):=by
 have cc:=h.c;have ct:=h.t;have hl:=h.l;obtain⟨ts,c⟩:=a;dsimp only at cc ct hl;clear h;refine sF Tryz.f83 ?_;cbv;refine zFO rfl ?_;cbv;refine cA cc ?_;cbv;refine tQ rfl ?_;cbv;refine z8 (σ:=Nat) (fun i=>⟨[(2,.ptr 2 0),(3,.ptr 3 0),(5,.int .i64 (fun _=>(i:Int)))],[(2,.box [tsv ts,.bool (fun _=>c.neg),nat c.num,nat c.den]),(3,.box [tsv ts,.bool (fun _=>c.neg),nat c.num,nat c.den])]⟩) (fun i=>i<=ts.length) (fun i=>ts.length-i) 0 (Nat.zero_le _) (wkZ) ?_;intro i hi;cbv;refine zE (fun h5=>?_) (fun h5=>?_);{have hlt:=fW h5;obtain⟨t,ht⟩:=uD hlt;have cv:=ct t (List.mem_of_getElem? ht);obtain⟨y,q⟩:=t;have cv':zK 30 [.agg [.bool (fun _=>q.neg),nat q.num,nat q.den],.agg [.bool (fun _=>q.neg),nat q.num,nat q.den]] (.int .i64 (fun _=>0)):=cv;cbv;refine zY 26 (by cbv) ?_;cbv;refine vI ht uL kG ?_;cbv;refine vI ht uL kG ?_;cbv;refine zFO rfl ?_;cbv;refine vI ht uL kG ?_;cbv;refine vI ht uL kG ?_;cbv;refine cA cv' ?_;cbv;refine tQ rfl ?_;cbv;exact⟨zD om om,i+1,om,om,wkZ⟩}
 ·cbv
  (refine rC ?_;cbv)
  exact zQ rfl
theorem zL3 (us:List A)(h:∀ a,a∈us->a.cq)(hl:us.length<2^38):zK 82 [alv us,alv us] (.bool (fun _=>true)):=by
 have cs:=fun a ha=>zKB a (h a ha);clear h;refine sF Tryz.f82 ?_;cbv;refine tQ rfl ?_;cbv;refine z8 (σ:=Nat) (fun i=>⟨[(0,alv us),(1,alv us),(5,.int .i64 (fun _=>(i:Int)))],[]⟩) (fun i=>i<=us.length) (fun i=>us.length-i) 0 (Nat.zero_le _) (wkZ) ?_;intro i hi;cbv;refine zE (fun h5=>?_) (fun h5=>?_);{have hlt:=fW h5;obtain⟨a,ha⟩:=uD hlt;have cv:=cs a (List.mem_of_getElem? ha);obtain⟨tru,htr⟩:∃ b,b=true:=⟨_,rfl⟩;rw[<-htr] at cv;obtain⟨ats,acc⟩:=a;have cv':zK 83 [.agg [tsv ats,.bool (fun _=>acc.neg),nat acc.num,nat acc.den],.agg [tsv ats,.bool (fun _=>acc.neg),nat acc.num,nat acc.den]] (.bool (fun _=>tru)):=cv;cbv;refine zY 8 (by cbv) ?_;cbv;refine vI ha uN kP ?_;cbv;refine vI ha uN kP ?_;cbv;refine cA cv' ?_;cbv;refine z4 (fun _=>?_) (fun e=>by rw[htr] at e;cases e);cbv;exact⟨zD om om,i+1,om,om,wkZ⟩}
 ·cbv
  (refine rC ?_;cbv)
  exact zQ rfl
theorem zKA (P:Prg)(hl:P.rows.length<2^38)(h:∀ a,a∈P.rows->a.cq)(ho:P.ob.cq):zK 41 [pgv P,pgv P] (.bool (fun _=>true)):=by
 have c1:=zL3 P.rows h hl;have c2:=zKB P.ob ho;obtain⟨n,us,ob⟩:=P;obtain⟨ots,oc⟩:=ob;obtain⟨tru,htr⟩:∃ b,b=true:=⟨_,rfl⟩;rw[<-htr] at c1 c2;have c1':zK 82 [alv us,alv us] (.bool (fun _=>tru)):=c1;have c2':zK 83 [.agg [tsv ots,.bool (fun _=>oc.neg),nat oc.num,nat oc.den],.agg [tsv ots,.bool (fun _=>oc.neg),nat oc.num,nat oc.den]] (.bool (fun _=>tru)):=c2;clear c1 c2 h ho hl;refine sF Tryz.f41 ?_;cbv;refine zFO rfl ?_;cbv;refine cA c1' ?_;cbv;refine xO (fun _=>?_) (fun e=>by rw[htr] at e;cases e);cbv;refine cA c2' ?_;cbv
 (refine rC ?_;cbv)
 exact zH htr
theorem zPD {v k n K:Nat}{fs:List F}{ob:F}(hv:v<=4)(hr:fs.length<=14)(hk:1<=k)(h:∀ f,f∈fs->f.fl k n)(ho:ob.fl k n)(hK:1953125*k<=K):∃ s,Slv v fs ob K s:=by
 have hl:∀ l,l∈fs.map (lnS v)->l.length=v+1:=fun l hl=>by obtain⟨f,hf,rfl⟩:=List.mem_map.1 hl;exact pY
 have h2:2^(fs.length+1)<=32768:=Nat.pow_le_pow_right (n:=2) (by decide) (show fs.length+1<=15 by omega);have h3:2^fs.length<=16384:=Nat.pow_le_pow_right (n:=2) (by decide) (show fs.length<=14 by omega);have hp:v+1+2^((fs.map (lnS v)).length+1)+2^(fs.map (lnS v)).length<=65537:=by rw[List.length_map];omega
 have h5:5^v<=625:=Nat.pow_le_pow_right (n:=5) (by decide) hv;have h6:5^(v+1)<=3125:=Nat.pow_le_pow_right (n:=5) (by decide) (show v+1<=5 by omega);have h7:5^v*k<=625*k:=Nat.mul_le_mul_right k h5;have h8:5^(v+1)*(5^v*k)<=3125*(625*k):=Nat.mul_le_mul h6 h7;have hf:=zHA (v:=v) hk h ho;obtain⟨s,hs,h9,h10⟩:=zIO hl pY hp;obtain⟨w1,w2⟩:=zLE (K:=K) hl pY hp hk hf (by omega) (zH5 hl pY hk hf (by omega));rw[List.length_map] at hs w2;exact⟨s,hs,h9,h10,zHC (by omega) w2 hs,w1,w2⟩
theorem fO {fs:List F}{f:F}{X:Int->Rat}:Pts (fs++[f]) X↔Pts fs X/\0<=f.at X:=by unfold Pts;constructor;{intro h;exact⟨fun g hg=>h g (List.mem_append_left _ hg),h f (List.mem_append_right _ (List.mem_singleton.2 rfl))⟩};{rintro⟨h1,h2⟩ g hg;rcases List.mem_append.1 hg with h|h;{exact h1 g h};{rw[List.mem_singleton.1 h];exact h2}}
theorem Sem.grows {fs:List F}{ob f:F}{a b:Nat}{y z:Rat}(h:Sem fs ob a y)(g:Sem (fs++[f]) ob b z):(a=2->b=2)/\(a=1->b≠3/\(b=1->y<=z)):=by constructor;{intro ha;have:=(h.inf ha).2;rcases g.one with hb|hb|hb;{obtain⟨⟨X,hX,_⟩,_⟩:=g.opt hb;exact absurd (fO.1 hX).1 (this X)};{exact hb};{obtain⟨X,hX,_⟩:=(g.unb hb).2 0;exact absurd (fO.1 hX).1 (this X)}};{intro ha;obtain⟨_,h2⟩:=h.opt ha;refine⟨fun hb=>?_,fun hb=>?_⟩;{obtain⟨X,hX,hl⟩:=(g.unb hb).2 y;have:=h2 X (fO.1 hX).1;grind};{obtain⟨⟨X,hX,e⟩,_⟩:=g.opt hb;have:=h2 X (fO.1 hX).1;rw[<-e];exact this}}
theorem Sem.same {fs:List F}{ob:F}{a b:Nat}{y z:Rat}(h:Sem fs ob a y)(g:Sem fs ob b z):a=b/\z=y:=by obtain⟨h1,h2⟩:=h.unique g (k:=1) (fun _=>Iff.rfl) (by decide) (fun X=>by grind);exact⟨h1,by rw[h2];grind⟩
theorem zLQ {v r K:Nat}{D0:Dic}{s:SolR}(W:Walk v r K D0 (rel v D0.nb 0 (D0,0)).1 (rel v D0.nb 0 (D0,0)).2)(hs:cO v r D0=some s):s.bas.length<=r:=by
 have hok:=W.ok;have hno:=W.none;unfold cO at hs;obtain⟨⟨E,q,ref,ok⟩,hR⟩:∃ R,vW v r (rel v D0.nb 0 (D0,0)).1 (rel v D0.nb 0 (D0,0)).2=R:=⟨_,rfl⟩;rw[hR] at hs hok hno;dsimp only at hok hno;subst hok;cases ref with
 |some l=>cases Option.some.inj hs;exact Nat.zero_le _
 |none =>
  obtain⟨_,hb,_⟩:=hno rfl;dsimp only at hs;split at hs;{cases Option.some.inj hs;exact Nat.zero_le _}
  ·have hm:=(d7 (v:=v) (ln:=Dic.ob) (65537-q) E q).1;obtain⟨⟨F,q2,e,ok⟩,hR3⟩:∃ R,vL v Dic.ob (65537-q) E q=R:=⟨_,rfl⟩;rw[hR3] at hs hm;dsimp only at hm;have hl:=hm.len;cases ok with
   |false=>cases hs
   |true =>
    dsimp only at hs;split at hs;{cases Option.some.inj hs;exact Nat.zero_le _};{cases Option.some.inj hs;show F.bs.length<=r;omega}
theorem Slv.lens {v K:Nat}{fs:List F}{ob:F}{s:SolR}(h:Slv v fs ob K s)(hv:v<=4)(hl:fs.length<=14):s.pt.length<=14/\s.du.length<=14/\s.ry.length<=14/\s.bas.length<=14:=by have hb:=zLQ h.walk h.some;have hm:(fs.map (lnS v)).length=fs.length:=List.length_map ..;have e0:([]:List Rat).length=0:=rfl;rcases h.ok.one with e|e|e;{obtain⟨g1,_,_,g2,_,_,g3⟩:=h.ok.opt e;rw[g3];omega};{obtain⟨g1,g2,_,g3,_⟩:=h.ok.inf e;rw[g1,g2];omega};{obtain⟨g1,_,g2,g3,_⟩:=h.ok.unb e;rw[g1];omega}
theorem zAA:∀ (l:List Rat) (g:Nat->Rat),jZ (l++[0]) g=jZ l g
 |[],g=>by simp[jZ] <;> grind| a::l,g=>by have:=zAA l (fun k=>g (k+1));simp only[List.cons_append,jZ];rw[this]
theorem SolOk.more {v:Nat}{rows:List (List Rat)}{ob l:List Rat}{s:SolR}(h:SolOk v rows ob s)(hs:s.st=2):SolOk v (rows++[l]) ob { s with du:=s.du++[0] }:=by
 obtain⟨g1,g2,g3,g4,g5,k,g6,g7⟩:=h.inf hs;refine⟨fun e=>absurd (hs.symm.trans e) (by decide),fun _=>⟨g1,g2,g3,?_,?_,k,g6,fun x=>?_⟩,fun e=>absurd (hs.symm.trans e) (by decide),.inr (.inl hs)⟩;{show (s.du++[0]).length=_;rw[List.length_append,List.length_append,g4];rfl};{intro c hc;rcases List.mem_append.1 hc with w|w;{exact g5 c w};{rw[List.mem_singleton.1 w];exact Rat.le_refl}}
 ·(show jZ (s.du++[0]) _+k=0;rw[zAA,<-g7 x];congr 1;refine fB fun i hi=>?_;have:(rows++[l]).getD i []=rows.getD i []:=by rw[List.getD_eq_getElem?_getD,List.getD_eq_getElem?_getD,List.getElem?_append_left (by omega)]);rw[this]
structure PX (v:Nat) (fs:List F) (ob:F) (k n:Nat):Prop where
 lv:v<=4
 len:fs.length<=14
 rows:∀ f,f∈fs->f.fl k n/\f.wf (v:Int)
 obj:ob.fl k n/\ob.wf (v:Int)
 k1:1<=k
 k2:k<=500
 hn:n<2^20
structure AnsO (v:Nat) (fs:List F) (ob:F) (K:Nat) (s:SolR):Prop where
 sl:Slv v fs ob K s
 sem:Sem fs ob s.st s.val
 call:Sound 20 [pgo 1000009 (prg v fs ob)] (rwO 1000009 (fs.map fA)) [] (.tup [slv s,.int .i64 (fun _=>0)]) (rwO 1000009 (fs.map fA)) []
section
variable {v k n:Nat} {fs:List F} {ob:F}
theorem PX.valid (h:PX v fs ob k n):(prg v fs ob).valid=true:=by have:=h.lv;have:=h.len;unfold Prg.valid;show (decide (0<=(v:Int)/\(v:Int)<=1280/\(fs.map fA).length<=4096)&&(fA ob).valid (v:Int)&&(fs.map fA).all (A.valid (v:Int)))=true;rw[decide_eq_true (by rw[List.length_map];omega),h.obj.2.valid,zO4 fun f hf=>(h.rows f hf).2];rfl
theorem PX.sz (h:PX v fs ob k n):(prg v fs ob).sz k where
 rows:=⟨by show (fs.map fA).length<_;rw[List.length_map];have:=h.len;omega,fun a ha=>by obtain⟨f,hf,rfl⟩:=List.mem_map.1 ha;exact ((h.rows f hf).1.fit (by have:=h.hn;omega)).fA⟩
 ob:=(h.obj.1.fit (by have:=h.hn;omega)).fA
theorem PX.solve (h:PX v fs ob k n):∃ s,AnsO v fs ob (1953125*k) s:=by
 obtain⟨s,hs⟩:=zPD (K:=1953125*k) h.lv h.len h.k1 (fun f hf=>(h.rows f hf).1) h.obj.1 (Nat.le_refl _);have hk:1953125*k<=2^30:=by have:=h.k2;omega
 have h1:=h.hn;have h2:=h.lv;have h3:=h.len;exact⟨s,hs,hs.ok.sem (fun f hf=>(h.rows f hf).2) h.obj.2,zHG v 0 fs ob s (h.sz.mono (by have:=h.k2;omega)) h.valid (by omega) (by omega)
  (fun f hf=>⟨by have:=(h.rows f hf).1.len;omega,(h.rows f hf).2.v⟩) (by have:=h.obj.1.len;omega) h.obj.2.v (fun E hE=>(hs.piv E hE).mono hk) (hs.walk.mono hk) hs.some⟩
theorem PX.more (h:PX v fs ob k n){f:F}(hl:fs.length<14)(hf:f.fl k n/\f.wf (v:Int)):PX v (fs++[f]) ob k n :=
 ⟨h.lv,by rw[List.length_append];show fs.length+1<=14;omega,fun g hg=>by
  rcases List.mem_append.1 hg with w|w;{exact h.rows g w}
  ·rw[List.mem_singleton.1 w];exact hf,h.obj,h.k1,h.k2,h.hn⟩
end
theorem zFI {fs:List F}{ob:F}{st:Nat}{z w:Rat}(h:Sem fs ob st z)(lo:∀ X,Pts fs X->w<=ob.at X){X:Int->Rat}(hX:Pts fs X)(e:ob.at X=w):st=1/\z=w:=by rcases h.one with e1|e1|e1;{obtain⟨⟨Y,y1,y2⟩,y3⟩:=h.opt e1;have h1:=lo Y y1;have h2:=y3 X hX;exact⟨e1,by grind⟩};{exact absurd hX ((h.inf e1).2 X)};{obtain⟨Y,y1,y2⟩:=(h.unb e1).2 w;have h1:=lo Y y1;exact absurd y2 (by grind)}
theorem zOJ {fs:List F}{ob:F}{st:Nat}{z:Rat}(h:Sem fs ob st z)(no:∀ X,¬Pts fs X):st=2:=by rcases h.one with e|e|e;{obtain⟨⟨Y,y1,y2⟩,y3⟩:=h.opt e;exact absurd y1 (no Y)};{exact e};{obtain⟨Y,y1,y2⟩:=(h.unb e).2 2;exact absurd y1 (no Y)}
def wR1:List F:=[frm 1 0 0,frm 0 1 0]
def wR2:List F:=wR1++[frm 1 2 (-4)]
def wR3:List F:=wR2++[frm 1 (-1) 0]
def wR4:List F:=wR3++[frm (-1) 0 1]
theorem zMP (X:Int->Rat):(frm 1 (-1) 0).at X=X 0-X 1/\(frm (-1) 0 1).at X=1-X 0:=by
 have e1:frm 1 (-1) 0=⟨[(0,1),(1,-1)],0⟩:=by unfold frm;congr 1
 have e2:frm (-1) 0 1=⟨[(0,-1)],1⟩:=by unfold frm;congr 1
 rw[e1,e2,at2,at1];refine⟨?_,?_⟩ <;> grind
theorem wp1 {X:Int->Rat}:Pts wR1 X↔0<=X 0/\0<=X 1:=by obtain⟨h1,h2,h3,h4,h5,h6⟩:=zLB X;unfold wR1 Pts;simp only[List.mem_cons,List.not_mem_nil,or_false,forall_eq_or_imp,forall_eq,h2,h3]
theorem wp2 {X:Int->Rat}:Pts wR2 X↔(0<=X 0/\0<=X 1)/\0<=X 0+2*X 1-4:=by obtain⟨h1,h2,h3,h4,h5,h6⟩:=zLB X;unfold wR2;rw[fO,wp1,h1]
theorem wp3 {X:Int->Rat}:Pts wR3 X↔((0<=X 0/\0<=X 1)/\0<=X 0+2*X 1-4)/\0<=X 0-X 1:=by unfold wR3;rw[fO,wp2,(zMP X).1]
theorem wp4 {X:Int->Rat}:Pts wR4 X↔(((0<=X 0/\0<=X 1)/\0<=X 0+2*X 1-4)/\0<=X 0-X 1)/\0<=1-X 0:=by unfold wR4;rw[fO,wp3,(zMP X).2]
theorem wob (X:Int->Rat):(frm 1 1 0).at X=X 0+X 1:=(zLB X).2.2.2.1
theorem wpt (a b:Rat):∃ X:Int->Rat,X 0=a/\X 1=b:=⟨fun i=>if i=1 then b else a,rfl,rfl⟩
theorem wx1 {st:Nat}{z:Rat}(h:Sem wR1 (frm 1 1 0) st z):st=1/\z=0:=by obtain⟨X,e0,e1⟩:=wpt 0 0;refine zFI h (fun Y hY=>?_) (X:=X) (wp1.2 (by rw[e0,e1];decide +kernel)) (by rw[wob,e0,e1];decide +kernel);have:=wp1.1 hY;rw[wob];grind
theorem wx2 {st:Nat}{z:Rat}(h:Sem wR2 (frm 1 1 0) st z):st=1/\z=2:=by obtain⟨X,e0,e1⟩:=wpt 0 2;refine zFI h (fun Y hY=>?_) (X:=X) (wp2.2 (by rw[e0,e1];decide +kernel)) (by rw[wob,e0,e1];decide +kernel);have:=wp2.1 hY;rw[wob];grind
theorem wx3 {st:Nat}{z:Rat}(h:Sem wR3 (frm 1 1 0) st z):st=1/\z=8/3:=by obtain⟨X,e0,e1⟩:=wpt (4/3) (4/3);refine zFI h (fun Y hY=>?_) (X:=X) (wp3.2 (by rw[e0,e1];refine⟨⟨⟨?_,?_⟩,?_⟩,?_⟩ <;> grind)) (by rw[wob,e0,e1];grind);have:=wp3.1 hY;rw[wob];grind
theorem wx4 {st:Nat}{z:Rat}(h:Sem wR4 (frm 1 1 0) st z):st=2:=zOJ h fun X hX=>by have:=wp4.1 hX;grind
theorem wq1:PX 2 wR1 (frm 1 1 0) 5 2:=⟨by decide,by decide,fun f hf=>by
 have:f=frm 1 0 0\/f=frm 0 1 0:=by simpa[wR1] using hf
 rcases this with rfl|rfl;{exact⟨rL (by decide) (by decide) (by decide),o3 (by decide +kernel)⟩}
 ·exact⟨rL (by decide) (by decide) (by decide),o3 (by decide +kernel)⟩,⟨rL (by decide) (by decide) (by decide),o3 (by decide +kernel)⟩,by decide,by decide,by decide⟩
theorem wq2:PX 2 wR2 (frm 1 1 0) 5 2:=wq1.more (by decide) ⟨rL (by decide) (by decide) (by decide),o3 (by decide +kernel)⟩
theorem wq3:PX 2 wR3 (frm 1 1 0) 5 2:=wq2.more (by decide) ⟨rL (by decide) (by decide) (by decide),o3 (by decide +kernel)⟩
theorem wq4:PX 2 wR4 (frm 1 1 0) 5 2:=wq3.more (by decide) ⟨rL (by decide) (by decide) (by decide),o3 (by decide +kernel)⟩
structure WT where
 us:List A
 sd:Bool
 st:Int
 z:R
 pt:List Rat
 du:List Rat
 ry:List Rat
 bas:List Nat
 pv:Int
abbrev wB (n:Nat) (v:Int) (ots:List (Int×R)) (oc:R) (t:WT):Obj':=.box (wC n v t.us ots oc t.sd t.st t.z t.pt t.du t.ry t.bas t.pv 0)
abbrev wR (t:WT):Obj':=.arr 4 (fun _=>enc ac t.us)
def WT.of (us:List A) (s:SolR):WT:=⟨us,true,s.st,zS s.val,s.pt,s.du,s.ry,s.bas,s.pv⟩
def WT.new (us:List A):WT:=⟨us,false,0,⟨false,[],[]⟩,[],[],[],[],0⟩
structure Sgd (v:Nat) (fs:List F) (ob:F) (K:Nat) (s:SolR):Prop where
 ok:SolOk v (fs.map (lnS v)) (lnS v ob) s
 fit:SolFit K s
 len:s.pt.length<=14/\s.du.length<=14/\s.ry.length<=14/\s.bas.length<=14
structure WG (v:Nat) (fs:List F) (ob:F) (K:Nat) (t:WT):Prop where
 us:t.us=fs.map fA
 sol:t.sd=true->∃ s,Sgd v fs ob K s/\t=WT.of (fs.map fA) s
section
variable {v k n K:Nat} {fs:List F} {ob:F} {t:WT}
theorem Sgd.good {s:SolR}(h:Sgd v fs ob K s):WG v fs ob K (WT.of (fs.map fA) s):=⟨rfl,fun _=>⟨s,h,rfl⟩⟩
theorem WG.new:WG v fs ob K (WT.new (fs.map fA)):=⟨rfl,fun h=>by cases h⟩
theorem Sgd.sem {s:SolR}(h:Sgd v fs ob K s)(hp:PX v fs ob k n):Sem fs ob s.st s.val:=h.ok.sem (fun f hf=>(hp.rows f hf).2) hp.obj.2
theorem PX.sgd (hp:PX v fs ob k n)(hK:1953125*k<=K):∃ s,Sgd v fs ob K s/\AnsO v fs ob (1953125*k) s:=by obtain⟨s,hs⟩:=hp.solve;have h1:=hs.sl.fit;exact⟨s,⟨hs.sl.ok,⟨h1.val.mono hK,h1.pt.mono hK,h1.du.mono hK,h1.ry.mono (by omega)⟩,hs.sl.lens hp.lv hp.len⟩,hs⟩
theorem WG.solve (h:WG v fs ob K t)(hp:PX v fs ob k n)(hK:1953125*k<=K):∃ s,Sgd v fs ob K s /\ Sound 37 [.ptr 1000000 0] [(1000000,wB 1000001 v (fA ob).ts (fA ob).c t),(1000001,wR t)] [] (.tup [slv s,.int .i64 (fun _=>0)]) [(1000000,wB 1000001 v (fA ob).ts (fA ob).c (WT.of (fs.map fA) s)),(1000001,wR (WT.of (fs.map fA) s))] []:=by
 cases hsd:t.sd with
 |true =>
  obtain⟨s,hs,rfl⟩:=h.sol hsd;obtain⟨l1,l2,l3,l4⟩:=hs.len;exact⟨s,hs,zNZ v (fs.map fA) (fA ob).ts (fA ob).c s.st (zS s.val) s.pt s.du s.ry s.bas s.pv 0 (by omega) (by omega) (by omega) (by omega)⟩
 |false =>
  obtain⟨us,sd,st,z,pt,du,ry,bas,pv⟩:=t;have hu:=h.us;dsimp only at hu hsd;subst hu hsd;obtain⟨s,h1,h2⟩:=hp.sgd hK;obtain⟨l1,l2,l3,l4⟩:=h1.len;exact⟨s,h1,l6 v (fs.map fA) (fA ob).ts (fA ob).c st z pt du ry bas pv 0 s h2.call (by omega) (by omega) (by omega) (by omega)⟩
def nT (v:Nat) (fs:List F) (a:A):List F:=if a.valid v=true then fs++[a.f] else fs
def addE (v:Nat) (a:A):Int:=if a.valid v=true then 0 else 1
theorem SolFit.more {s:SolR}(h:SolFit K s)(hk:1<=K):SolFit K { s with du:=s.du++[0] }:=⟨h.val,h.pt,fun q hq=>by
 rcases List.mem_append.1 hq with w|w;{exact h.du q w}
 ·rw[List.mem_singleton.1 w];exact (show Fits 1 (0:Rat) from⟨by decide,by decide⟩).mono hk,h.ry⟩
theorem WG.add (h:WG v fs ob K t)(hk:1<=K)(a:A)(ha:a.sz (2^32))(hl:fs.length<14):∃ t',WG v (nT v fs a) ob K t' /\ Sound 39 [.ptr 1000000 0,av a] [(1000000,wB 31 v (fA ob).ts (fA ob).c t)] [(31,wR t)] (.int .i64 (fun _=>addE v a)) [(1000000,wB 31 v (fA ob).ts (fA ob).c t')] [(31,wR t')]:=by
 by_cases hv:a.valid v=true
 ·(have e1:nT v fs a=fs++[a.f]:=if_pos hv;have e2:addE v a=0:=if_pos hv;rw[e1,e2];have hc:=(jJ hv).1;have em:(fs++[a.f]).map fA=fs.map fA++[a]:=by rw[List.map_append];show _++[fA a.f]=_;rw[hc]);by_cases hs2:t.sd=true/\t.st=2
  ·(obtain⟨s,hs,rfl⟩:=h.sol hs2.1;have h2:s.st=2:=by have:((s.st:Nat):Int)=2:=hs2.2;omega);obtain⟨l1,l2,l3,l4⟩:=hs.len
   have hd:=(hs.ok.inf h2).2.2.2.1;rw[List.length_map] at hd;have hs':Sgd v (fs++[a.f]) ob K { s with du:=s.du++[0] }:=⟨by rw[List.map_append];exact hs.ok.more h2,hs.fit.more hk,l1,by show (s.du++[0]).length<=14;rw[List.length_append];show s.du.length+1<=14;omega,l3,l4⟩;refine⟨WT.of ((fs++[a.f]).map fA) { s with du:=s.du++[0] },hs'.good,?_⟩;rw[em];exact zN0 a v (fs.map fA) (fA ob).ts (fA ob).c s.st (zS s.val) s.pt s.du s.ry s.bas s.pv ha hv (by rw[List.length_map];omega) (by omega) hs2.2
  {obtain⟨us,sd,st,z,pt,du,ry,bas,pv⟩:=t;have hu:=h.us;dsimp only at hu hs2;subst hu;refine⟨⟨(fs++[a.f]).map fA,false,st,z,pt,du,ry,bas,pv⟩,⟨rfl,fun h=>by cases h⟩,?_⟩;rw[em];exact l7 a v (fs.map fA) (fA ob).ts (fA ob).c sd st z pt du ry bas pv ha hv (by rw[List.length_map];omega) hs2}
 ·(have hv':a.valid v=false:=by cases e:a.valid v with|true=>exact absurd e hv|false=>rfl);have e1:nT v fs a=fs:=if_neg hv
  have e2:addE v a=1:=if_neg hv;rw[e1,e2];exact⟨t,h,zJ7 a v t.us (fA ob).ts (fA ob).c t.sd t.st t.z t.pt t.du t.ry t.bas t.pv ha hv'⟩
theorem PX.add (h:PX v fs ob 2 8){a:A}(ha:a.small=true)(hl:fs.length<14):PX v (nT v fs a) ob 2 8:=by unfold nT;split;{rename_i hv;exact h.more hl ⟨lW ha,(jJ hv).2⟩};{exact h}
end
def oL (v:Nat) (fs:List F) (rows:List A) (i:Nat):List F:=(rows.take i).foldl (nT v) fs
theorem cJ {v:Nat}{fs:List F}{rows:List A}{i:Nat}{a:A}(h:rows[i]?=some a):oL v fs rows (i+1)=nT v (oL v fs rows i) a:=by unfold oL;rw[List.take_add_one,h,List.foldl_append];rfl
theorem zJV {v:Nat}{fs:List F}{a:A}:(nT v fs a).length<=fs.length+1:=by unfold nT;split;{rw[List.length_append];exact Nat.le_refl _};{omega}
theorem aK {v:Nat}{fs:List F}{rows:List A}:∀ {i:Nat},i<=rows.length->(oL v fs rows i).length<=fs.length+i
 |0,_=>by show fs.length<=_;omega| i+1,h=>by obtain⟨a,ha⟩:=zV (show i<rows.length by omega);rw[cJ ha];have h1:=aK (v:=v) (fs:=fs) (rows:=rows) (i:=i) (by omega);have h2:=zJV (v:=v) (fs:=oL v fs rows i) (a:=a);omega
theorem PX.acc {v:Nat}{fs:List F}{ob:F}{rows:List A}(h:PX v fs ob 2 8)(hr:∀ a,a∈rows->a.small=true)(hl:fs.length+rows.length<=14):∀ {i:Nat},i<=rows.length->PX v (oL v fs rows i) ob 2 8
 |0,_=>h| i+1,hi=>by obtain⟨a,ha⟩:=zV (show i<rows.length by omega);rw[cJ ha];have h1:=aK (v:=v) (fs:=fs) (rows:=rows) (i:=i) (by omega);exact (PX.acc h hr hl (by omega)).add (hr a (List.mem_of_getElem? ha)) (by omega)
theorem PW.px {v k n:Nat}{fs:List F}{ob:F}(h:PW v fs ob k n):PX v fs ob k n:=⟨h.lv,by have:=h.len;omega,h.rows,h.obj,h.k1,h.k2,h.hn⟩
end Go.Proofs.YtfainocfaddbdaaGreat
