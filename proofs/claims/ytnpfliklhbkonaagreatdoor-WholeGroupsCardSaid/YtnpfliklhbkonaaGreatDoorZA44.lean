/- Parts. -/
import Derived.Test.YtnpfliklhbkonaaGreatDoorZA37
import Derived.Test.YtnpfliklhbkonaaGreatDoorZA43
import Derived.OwnWalk
set_option maxRecDepth 99999
set_option maxHeartbeats 0
set_option linter.unusedSimpArgs false
set_option linter.unusedVariables false
namespace Go.Proofs.YtnpfliklhbkonaaGreatDoor
open Go.Proofs.Tryz
section
def lR(Γ:LI->Prop)(n:Nat):Nat->List LvP->Prop
 |b,[]=>∀q,Γ q->dN b q->dN n q
 |b,l::ls=>(∀q,Γ q->dN b q->dN l.pt q)/\l.pt<n/\vP Γ n l.pt l.orb l.reps/\lR Γ n (l.pt+1) ls
theorem lR.less{Γ:LI->Prop}{n:Nat}:∀{b B:Nat} {ls:List LvP},(∀q,Γ q->dN b q->dN B q)->lR Γ n B ls->lR Γ n b ls
 |_,_,[],h,k=>fun q hq A=>k q hq (h q hq A)
 |_,_,l::ls,h,⟨k1,k2⟩=>⟨fun q hq A=>k1 q hq (h q hq A),k2⟩
theorem YW{Γ:LI->Prop}{n k:Nat}{o:LI}{F:LL}(hΓ:lQ n Γ)(hk:k<n)(h:vP Γ n k o F)(E:o.length<=1){q:LI}(hq:Γ q)(C:dN k q):dN (k+1) q:=by
 have A:(k:Int)∈o:=(h.mem k).2 ⟨idP n,hΓ.one,fun i hi=>eV om,eV hk⟩;have B:q k 0∈o:=(h.mem _).2 ⟨q,hq,C,rfl⟩;have D:q k 0=(k:Int):=by
  match o,E,A,B with
  |[x],_,A,B=>rw[List.mem_singleton] at A B;rw[A,B]
 intro i hi;by_cases e:i=k
 .subst e;exact D
 .exact C i om
theorem vT{Γ:LI->Prop}{n:Nat}(hΓ:lQ n Γ):∀{k:Nat} {l:List LvP},CanCh Γ n k l->k<=n->∀ls,lR Γ n k ls->lR Γ n 0 (l++ls)
 |_,_,.nil,_,ls,h=>h
 |k+1,_,.skip h1 h2 h3,hk,ls,h=>vT hΓ h1 om ls (h.less fun q hq A=>YW hΓ om h2 h3 hq A)
 |k+1,_,.put h1 h2 h3,hk,ls,h=>by rw[List.append_assoc];exact vT hΓ h1 om _ ⟨fun q _ A=>A,by show k<n;omega,h2,h⟩
theorem CanCh.sift{Γ:LI->Prop}{n:Nat}(hΓ:lQ n Γ){l:List LvP}(h:CanCh Γ n n l):lR Γ n 0 l:=by have:=vT hΓ h zr [] fun q _ A=>A;rwa[List.append_nil] at this
theorem vP.pick{Γ:LI->Prop}{n b:Nat}{o:LI}{A:LL}(hΓ:lQ n Γ)(I:b<n)(h:vP Γ n b o A){k:Nat}(hk:k<o):Γ (A k [])/\dN b (A k [])/\(A k []).getD b 0=o k 0:=by obtain⟨r,E,F,G,H⟩:=h.rep k hk;obtain⟨⟨q,C,D,e⟩,_⟩:=H;have B:=hΓ.is q C;rw[e];refine⟨hΓ.mul _ _ C E,dN.mul B om (fun i hi=>D i om) F,?_⟩;rw[bQ (by rw[B.len];exact I),D b om,aZ8,G]
theorem JN{n b:Nat}{p r:LI}(D:IsP n p)(F:IsP n r)(H:b<n)(E:dN b p)(G:dN b r)(C:r b 0=p b 0):dN (b+1) (aL p (bX r)):=fun i hi=>by
 have B:i<n:=om;rw[bQ (by rw[D.len];exact B)];have A:=kE F B;by_cases e:i=b
 .subst e;rw[<-C];exact A
 .rw[E i om];rwa[G i om] at A
theorem MK{n:Nat}{p:LI}(A:IsP n p)(B:dN n p):p=idP n:=qH (by rw[A.len,cK]) fun i hi=>by rw[A.len] at hi;rw[B i hi,eV hi]
theorem rO{o:LI}{x:Int}(h:x∈o):∃k,k<o.length/\o k 0=x:=by obtain⟨k,hk,e⟩:=eI.1 h;exact⟨k,hk,by rw[aZ4,aZ3 hk,e];rfl⟩
theorem FF{A:LL}{k:Nat}(hk:k<A):A k []∈A:=by rw[aZ4,aZ3 hk];exact aY6 hk
theorem LE{Γ:LI->Prop}{n:Nat}(hΓ:lQ n Γ):∀{b:Nat} {ls:List LvP},lR Γ n b ls->∀p,Γ p->dN b p->GenP n (fun g=>∃l,l∈ls/\g∈l.reps) p
 |_,[],h,p,hp,hf=>by rw[MK (hΓ.is p hp) (h p hp hf)];exact .one
 |_,l::ls,⟨h1,h2,h3,h4⟩,p,hp,hf=>by
  have A:=h1 p hp hf;obtain⟨k,hk,e⟩:=rO ((h3.mem _).2 ⟨p,hp,A,rfl⟩);obtain⟨D,G,H⟩:=h3.pick hΓ h2 hk;have B:=hΓ.is p hp;have C:=hΓ.is _ D;have:=LE hΓ h4 _ (hΓ.mul _ _ hp (hΓ.inv _ D)) (JN B C h2 A G (H.trans e));have E:=this.mono (T:=fun g=>∃l',l'∈l::ls/\g∈l'.reps) fun g⟨l',a,b⟩=>⟨l',List.mem_cons_of_mem _ a,b⟩
  have F:=E.mul (g:=l.reps k []) ⟨l,List.mem_cons_self,FF (by rw[h3.len];exact hk)⟩;rwa[rL B C] at F
theorem LF{Γ:LI->Prop}{n:Nat}(hΓ:lQ n Γ):∀{b:Nat} {ls:List LvP},lR Γ n b ls->∀l,l∈ls->∀g,g∈l.reps->Γ g
 |_,l::ls,⟨h1,h2,h3,h4⟩,l',A,g,hg=>by
  rcases List.mem_cons.1 A with rfl|A
  .obtain⟨k,hk,rfl⟩:=eI.1 hg;have:=(h3.pick hΓ h2 (k:=k) (by rw[<-h3.len];exact hk)).1;rwa[aZ4,aZ3 hk] at this
  .exact LF hΓ h4 l' A g hg
theorem GenP.sub{n:Nat}{S Γ:LI->Prop}(hΓ:lQ n Γ)(A:∀g,S g->Γ g){p:LI}(h:GenP n S p):Γ p:=by
 induction h with
 |one=>exact hΓ.one
 |mul _ hg ih=>exact hΓ.mul _ _ ih (A _ hg)
 |div _ hg ih=>exact hΓ.mul _ _ ih (hΓ.inv _ (A _ hg))
def fZ(ls:List LvP):LL:=(ls.map LvP.reps).flatten
theorem tT{ls:List LvP}{g:LI}:g∈fZ ls↔∃l,l∈ls/\g∈l.reps:=by
 unfold fZ;rw[List.mem_flatten];constructor
 .rintro⟨x,C,A⟩;obtain⟨l,B,rfl⟩:=List.mem_map.1 C;exact⟨l,B,A⟩
 .rintro⟨l,B,A⟩;exact⟨_,List.mem_map.2 ⟨l,B,rfl⟩,A⟩
theorem QF{Γ:LI->Prop}{n:Nat}(hΓ:lQ n Γ){ls:List LvP}(h:CanCh Γ n n ls)(p:LI):GenP n (fun g=>g∈fZ ls) p↔Γ p:=by
 have B:=h.sift hΓ;constructor
 .exact fun k=>k.sub hΓ fun g A=>by obtain⟨l,a,b⟩:=tT.1 A;exact LF hΓ B l a g b
 .exact fun k=>(LE hΓ B p k fun i hi=>aB hi (aY5 _)).mono fun g A=>tT.2 A
theorem au{n:Nat}{p:LI}{R H:fH}{G B:jM}(I:iR n 0 R G)(h:I3 n 0 p R G H B){S:LI->Prop}(F:∀q,GenP n (G 0) q↔GenP n S q)(D:∀g,S g->IsP n g)(E:IsP n p):∀q,GenP n (B 0) q↔GenP n (fun g=>S g\/g=p) q:=fun q=>by
 have J:=rJ h.ok.rep (f:=n-0) (b:=0) rfl (aZ5 _) h.ok.comp (fun g A=>(h.ok.last g A).elim);have K:lQ n (GenP n (B 0)):=uW h.ok;have L:lQ n (GenP n (fun g=>S g\/g=p)):=GenP.grp fun g A=>A.elim (D g) fun e=>e▸E;constructor
 .refine fun k=>k.sub L fun g A=>?_;rcases h.gen g A with C|rfl
  .exact((F g).1 (GenP.gen (fun g A=>(I.fix 0 g zr A).1) C)).mono fun _=>.inl
  .exact GenP.gen (fun g A=>A.elim (D g) fun e=>e▸E) (.inr rfl)
 .refine fun k=>k.sub K fun g A=>?_;rcases A with C|rfl
  .exact((F g).2 (GenP.gen D C)).mono fun x M=>h.ext.g 0 x M
  .exact(J g).1 h.has
theorem AO(R:fH)(c:Nat):∀x,mG R c x<=x
 |0=>zr
 |x+1=>by have:=AO R c x;unfold mG;split<;>omega
theorem FK(R:fH)(n:Nat):∀c,dZ R n c<=c*n
 |0=>by simp[dZ]
 |c+1=>by have:=FK R n c;have:=AO R c n;unfold dZ;rw[Nat.add_mul,Nat.one_mul];omega
structure vO(O:aQ)(q:Int)(n:Nat)(gen:LL)(tl sc lt ls:LI):Prop where
 pm:nC q n lt ls
 full:ls=n
 com:nV O gen lt ls
 pt:lt.take tl=tl
 ps:ls.take sc=sc
def NoX(O:aQ)(q:Int)(n:Nat)(gen:LL)(tl sc:LI):Prop:=∀A ls,¬vO O q n gen tl sc A ls
theorem OW{O:aQ}(sc:LI)(gen:LL)(t j:Nat):ent (gen.map (mpE O sc)) t j=if t<gen/\j<sc then O.mul (sc j 0) (ent gen t j) else 0:=by
 unfold ent;by_cases B:t<gen
 .have e:(gen.map (mpE O sc)).getD t []=mpE O sc (gen t []):=by simp[List.getD,B]
  rw[e];by_cases A:j<sc
  .rw[iP ⟨B,A⟩,mpE,aK A]
  .rw[iN (fun h=>A h.2),aZ4,aY4 (by rw[pD];omega)];rfl
 .rw[iN (fun h=>B h.1)];have e:(gen.map (mpE O sc)).getD t []=[]:=by simp[List.getD,aY4 (show gen<=t from om)]
  rw[e];rfl
theorem JS(tl:LI)(gen:LL)(t j:Nat):ent (gen.map (gP tl)) t j=if t<gen/\j<tl then ent gen t (tl j 0).toNat else 0:=by
 unfold ent;by_cases B:t<gen
 .have e:(gen.map (gP tl)).getD t []=gP tl (gen t []):=by simp[List.getD,B]
  rw[e];by_cases A:j<tl
  .rw[iP ⟨B,A⟩,gP,aK A]
  .rw[iN (fun h=>A h.2),aZ4,aY4 (by rw[lL];omega)];rfl
 .rw[iN (fun h=>B h.1)];have e:(gen.map (gP tl)).getD t []=[]:=by simp[List.getD,aY4 (show gen<=t from om)]
  rw[e];rfl
theorem jE{l:LI}{k j:Nat}(h:j<k):(l.take k).getD j 0=l j 0:=by simp[List.getD,List.getElem?_take,h]
section
variable {O:aQ} {q:Int} (hO:O.Fld q)
include hO
theorem EG{gen:LL}{E ls:LI}(Q:E.length=ls.length)(k:Nat)(hk:k<=ls)(h:nV O gen E ls):nV O gen (E.take k) (ls.take k):=by
 have N:(ls.take k).length=k:=by rw[aY3];omega
 have P:(E.take k).length=k:=by rw[aY3];omega
 have G:∀t j,ent (gen.map (mpE O (ls.take k))) t j=if j<k then ent (gen.map (mpE O ls)) t j else 0:=fun t j=>by
  rw[OW,OW,N];by_cases C:j<k
  .rw[iP C,jE C];by_cases D:t<gen
   .rw[iP ⟨D,C⟩,iP ⟨D,om⟩]
   .rw[iN (fun h=>D h.1),iN (fun h=>D h.1)]
  .rw[iN C,iN (fun h=>C h.2)]
 have H:∀t j,ent (gen.map (gP (E.take k))) t j=if j<k then ent (gen.map (gP E)) t j else 0:=fun t j=>by
  rw[JS,JS,P];by_cases C:j<k
  .rw[iP C,jE C];by_cases D:t<gen
   .rw[iP ⟨D,C⟩,iP ⟨D,om⟩]
   .rw[iN (fun h=>D h.1),iN (fun h=>D h.1)]
  .rw[iN C,iN (fun h=>C h.2)]
 have key:∀{A B F B':LL},F.length=A.length->B'.length=B.length->(∀t j,ent F t j=if j<k then ent A t j else 0)->(∀t j,ent B' t j=if j<k then ent B t j else 0)->cH O A B->cH O F B':=fun K L J I hi t D=>by
  obtain⟨c,M⟩:=hi t (by rw[<-K];exact D);refine⟨c,fun j=>?_⟩;rw[J,L];by_cases C:j<k
  .rw[iP C,M j];exact aO fun i _=>by rw[I,iP C]
  .rw[iN C];exact(bR hO fun i _=>by rw[I,iN C,hO.mul_zero]).symm
 exact⟨key sM sM G H h.1,key sM sM H G h.2⟩
theorem dz{n:Nat}{gen:LL}{tl sc:LI}(B:tl.length=sc.length)(C:sc<=n)(h:¬nV O gen tl sc):NoX O q n gen tl sc:=fun D ls A=>h (by have:=EG hO A.pm.len sc (by rw[A.full];exact C) A.com;rw[A.ps] at this;rwa[<-B,A.pt] at this)
end
theorem P9{O:aQ}{q:Int}{n:Nat}{gen:LL}{tl sc:LI}(A:nC q n tl sc)(hn:sc=n)(h:nV O gen tl sc):vO O q n gen tl sc tl sc:=⟨A,hn,h,List.take_length,List.take_length⟩
theorem nC.snoc{q:Int}{n:Nat}{tl sc:LI}(h:nC q n tl sc){j:Nat}{a:Int}(L:j<n)(hk:sc<n)(K:(j:Int)∉tl)(G:1<=a)(H:a<q):nC q n (tl++[(j:Int)]) (sc++[a]):=by
 have J:=h.len;have B:∀i,i<tl.length->(tl++[(j:Int)]).getD i 0=tl i 0:=fun i hi=>by simp[List.getD,aY2 hi]
 have E:(tl++[(j:Int)]).getD tl 0=j:=by simp[List.getD]
 have F:∀i,i<tl.length->tl i 0≠(j:Int):=fun i hi e=>K (by rw[<-e,aZ4,aZ3 hi];exact aY6 _);refine⟨by simp[J],by simp;omega,fun i hi=>?_,fun i A hi I e=>?_,fun i hi=>?_⟩
 .rw[aZ1,aZ2] at hi;by_cases e:i<tl
  .rw[B i e];exact h.rng i e
  .rw[show i=tl from om,E];omega
 .rw[aZ1,aZ2] at hi I;by_cases C:i<tl<;>by_cases D:A<tl
  .rw[B i C,B A D] at e;exact h.inj i A C D e
  .rw[B i C,show A=tl from om,E] at e;exact aB e (F i C)
  .rw[B A D,show i=tl from om,E] at e;exact aB e.symm (F A D)
  .omega
 .rw[aZ1,aZ2] at hi;by_cases e:i<sc
  .rw[show(sc++[a]).getD i 0=sc i 0 by simp[List.getD,aY2 e]];exact h.nz i e
  .rw[show i=sc from om,show(sc++[a]).getD sc 0=a by simp[List.getD]];exact⟨G,H⟩
theorem D9{l t:LI}(h:l.take t=t)(hk:t.length<l.length):l.take (t++[l t 0]).length=t++[l t 0]:=by rw[aZ1,aZ2,List.take_add_one,h,aZ3 hk];simp[List.getD,hk]
theorem GH{l t:LI}{x:Int}(h:l.take (t++[x]).length=t++[x]):l.take t=t:=by have:=congrArg (List.take t) h;rw[List.take_take,aZ1,aZ2,Nat.min_eq_left om,List.take_left] at this;exact this
theorem vO.less{O:aQ}{q:Int}{n:Nat}{gen:LL}{tl sc A ls:LI}{x y:Int}(h:vO O q n gen (tl++[x]) (sc++[y]) A ls):vO O q n gen tl sc A ls:=⟨h.pm,h.full,h.com,GH h.pt,GH h.ps⟩
theorem dy{O:aQ}{q:Int}{n:Nat}{gen:LL}{tl sc:LI}(I:tl.length=sc.length)(hk:sc<n)(h:∀j:Nat,j<n->(j:Int)∉tl->∀a:Int,1<=a->a<q->NoX O q n gen (tl++[(j:Int)]) (sc++[a])):NoX O q n gen tl sc:=fun B ls A=>by
 have J:B=n:=by rw[A.pm.len,A.full]
 have H:=A.pm.rng tl om;have D:=A.pm.nz sc (by rw[A.full];exact hk);have G:B tl 0∉tl:=fun F=>by
  obtain⟨i,hi,e⟩:=rO F;have E:tl i 0=B i 0:=by rw[<-A.pt];rw[jE hi]
  have:=A.pm.inj i tl om om (by rw[<-E,e]);omega
 have C:B tl 0=(((B tl 0).toNat:Nat):Int):=om;refine h (B tl 0).toNat om (by rw[<-C];exact G) (ls sc 0) D.1 D.2 B ls ⟨A.pm,A.full,A.com,?_,D9 A.ps (by rw[A.full];exact hk)⟩;rw[<-C];exact D9 A.pt om
end
section
open Go.RowKit
structure SrC(wA:Wo)(sb lb a:Nat)(P M:Int)(Mq:LI)(mv:Va)(n:Nat)(gv:Va)(gen:LL):Prop where
 gf:GF wA a P M Mq
 g:SS wA gv gen
 fld:(aD P M Mq).Fld (aF P M)
 rows:Rows (aF P M) n gen
 n64:n<=64
 gl:gen.length<=64
 lo:wA<=sb/\wA.heap.size<=lb
 ne:sb≠lb
structure PV(sb lb:Nat)(w:Wo)(tv sv:Va)(tl sc:LI):Prop where
 t:SI w tv tl
 s:SI w sv sc
 tp:0<tl.length
 sp:0<sc.length
 tf:∀g,tv.ownBlock=some g->g≠sb/\g≠lb
 sf:∀g,sv.ownBlock=some g->g≠sb/\g≠lb
theorem Two.cells{w w':Wo}{sb A:Nat}(h:Two w w' sb (some A)){p:Addr}(D:p.block<w.heap.size)(B:p.block≠sb)(C:p.block≠A):w'.cell? p=w.cell? p:=
 World.cell?_of_block (h.block p.block D B (fun e=>C (aZ0 e)))
theorem PV.two{sb C:Nat}{w w':Wo}{tv sv:Va}{tl sc:LI}(h:PV sb C w tv sv tl sc)(k:Two w w' sb (some C)):PV sb C w' tv sv tl sc:=
 ⟨h.t.moved fun p A B=>k.cells B (h.tf _ A).1 (h.tf _ A).2,h.s.moved fun p A B=>k.cells B (h.sf _ A).1 (h.sf _ A).2,h.tp,h.sp,h.tf,h.sf⟩
theorem PV.on{sb A:Nat}{w w':Wo}{tv sv:Va}{tl sc:LI}(h:PV sb A w tv sv tl sc)(k:Below w w w'):PV sb A w' tv sv tl sc:=
 ⟨h.t.below k zr,h.s.below k zr,h.tp,h.sp,h.tf,h.sf⟩
theorem Two.on{w w1 w2:Wo}{sb A:Nat}(h:Two w w1 sb (some A))(B:Below w1 w1 w2):Two w w2 sb (some A):=h.grown (aP B none) fun g e=>by cases e
theorem Two.then_{w w1 w2:Wo}{sb A:Nat}(h:Two w w1 sb (some A))(k:Two w1 w2 sb (some A)):Two w w2 sb (some A):=h.trans k fun g e _=>e
theorem Blk.two_{w w':Wo}{sb A g:Nat}{t:TypeId}{cs:List Va}(h:Blk w g t cs)(k:Two w w' sb (some A))(B:g≠sb)(C:g≠A):Blk w' g t cs:=h.keep (k.block g h.lt B fun e=>C (aZ0 e))
def LZ(wA:Wo)(sb B a:Nat)(P M:Int)(Mq:LI)(mv:Va)(n:Nat)(gv:Va)(gen:LL)(tl sc:LI)(w:Wo)(e:Ending)(w':Wo):Prop:=
 ∃(A:Int) (seen:Nat) (E C:Va),e=.returned (A:aV)/\kX w' sb a P M mv n gv seen/\seen<=65536/\Blk w' B 105 [E,C]/\Two w w' sb (some B)/\
  (A=8\/(A=18/\∃D ls,vO (aD P M Mq) (aF P M) n gen tl sc D ls/\PV sb B w' E C D ls)\/(A=0/\NoX (aD P M Mq) (aF P M) n gen tl sc))
def qP(A:Nat):Va:=.func (.func 95) #[] #[.pointer A]
def U0(wA:Wo)(sb A a:Nat)(P M:Int)(Mq:LI)(mv:Va)(n:Nat)(gv:Va)(gen:LL)(f:Nat):Prop:=
 ∀(w:Wo) (tl sc:LI) (tv sv C B:Va) (seen:Nat),n-sc<=f->nC (aF P M) n tl sc->PV sb A w tv sv tl sc->Below wA wA w->kX w sb a P M mv n gv seen->seen<=65536->Blk w A 105 [C,B]->
  Calls prog 94 #[.pointer sb,.agg #[tv,sv],qP A] w (LZ wA sb A a P M Mq mv n gv gen tl sc w)
theorem Q8(w:Wo)(B:Nat)(tv sv u U T:Va)(z:Int)(h:Blk w B 105 [U,T])(R:∃A l c,tv=.slice A l c)(Q:∃A l c,sv=.slice A l c):
 Calls prog 95 #[.agg #[tv,sv],z,u,.pointer B] w (fun e w'=>e=.returned (.tuple #[])/\Blk w' B 105 [tv,sv]/\w.grownBy w' (some B)):=by
 have H:=zh h;obtain⟨I,J,tc,rfl⟩:=R;obtain⟨F,G,N,rfl⟩:=Q;clear h;go_enter func95,ntmps95;go_upto_region 1 with fail;obtain⟨w1,b,K,L,M,C⟩:=aR w 105 [.slice I J tc,.slice F G N];rw[K,L];have O:=zh C;have P:=zh M;have D:=zh (H.belowS C);clear K L M C;obtain⟨V,W,_,_⟩:=P.two;obtain⟨X,Y,Z,a⟩:=D.two;go_wp2_with fail;obtain⟨d,S,E⟩:=sQ (x:=.slice I J tc) (y:=.slice F G N) D.out;rw[S];refine bodyPost_end (results_none rfl _ _ _) rfl ?_;exact⟨rfl,E.blk,bB (aP O (some B)) E.gr⟩
theorem je(wA:Wo)(sb A a f:Nat)(P M:Int)(Mq:LI)(mv:Va)(n:Nat)(gv:Va)(gen:LL)(V:U0 wA sb A a P M Mq mv n gv gen f)(w:Wo)(tl sc:LI)(tv sv X W:Va)(seen t3 t5:Nat)
 (O:n-sc<=f)(R:nC (aF P M) n tl sc)(G:PV sb A w tv sv tl sc)(B:Below wA wA w)(hA:wA.heap.size<=w.heap.size)(S:kX w sb a P M mv n gv seen)(r:seen<=65536)(Q:Blk w A 105 [X,W])(C:w.cell? t3=some (.pointer sb))(D:w.cell? t5=some (qP A)):
 Calls prog 149 #[.agg #[tv,sv],.pointer t3,.pointer t5] w (LZ wA sb A a P M Mq mv n gv gen tl sc w):=by
 obtain⟨m,tc,rfl,_⟩:=G.t;obtain⟨l,y,rfl,_⟩:=G.s;have H:=zh (fun(w':Wo) (F:Below w w w')=>V w' tl sc _ _ X W seen O R (G.on F) (B.trans (F.mono hA)) (S.belowS F) r (Q.belowS F));obtain⟨tn,U⟩:=xE tl.length;obtain⟨I,T⟩:=xE sc.length;rw[<-U,<-T] at H|-;have d:=zh C;have J:=zh D;clear O R G B S Q V U T C D;unfold qP at J H;go_enter func149,ntmps149;go_upto_region 1 with fail;obtain⟨w1,z,L,N,B,E⟩:=aR w 105 [.slice m tn tc,.slice l I y];rw[L,N];have K:=zh E;have g:=zh B;have C:=aE E d.out;have D:=aE E J.out;clear L N B E;obtain⟨o,p,_,_⟩:=g.two;go_wp2_with fail;apply(H.out w1 K).mono;rintro e w2⟨q,seen',v,u,rfl,Y,x,Z,b,c⟩;have h:=zh Y;have i:=zh Z;have k:=zh c;have j:Hid (Two w w2 sb (some A)):=aG (((Two.refl w sb (some A)).on K).then_ b);clear Y Z b c o p C D;go_wp2;go_ret;exact⟨q,seen',v,u,rfl,h.out,x,i.out,j.out,k.out⟩
structure ExV where
 v34:Va
 v36:Va
 v37:Va
 v40:Va
 v42:Va
 v43:Va
 v9:Va
structure ExB where
 b2:Bool
 b4:Bool
 b5:Bool
 b8:Bool
 b10:Bool
 b11:Bool
 b13:Bool
structure JW(w0:Wo)(tl sc:LI)(j a:Int)(σ:Nat->Nat)(b:ExB)(V:ExV)(w:Wo):Prop where
 bel:Below w0 w0 w
 lo:∀g,σ g≠0->w0.heap.size<=g/\g<w.heap.size
 c5:b.b5=true->b.b2=true/\b.b4=true
 c8:b.b8=true->b.b5=true
 c11:b.b11=true->b.b8=true/\b.b10=true
 i2:b.b2=true->b.b5=false->OI w0 w V.v34 tl/\∀g,V.v34.ownBlock=some g->σ g=1
 i5:b.b5=true->OI w0 w V.v37 (tl++[j])/\∀g,V.v37.ownBlock=some g->σ g=1
 i8:b.b8=true->b.b11=false->OI w0 w V.v40 sc/\∀g,V.v40.ownBlock=some g->σ g=2
 i11:b.b11=true->OI w0 w V.v43 (sc++[a])/\∀g,V.v43.ownBlock=some g->σ g=2
 i4:b.b4=true->∃g,V.v36=.slice (some ⟨g,0,none⟩) 1 1/\Blk w g 3 [(j:aV)]/\σ g=3
 i10:b.b10=true->∃g,V.v42=.slice (some ⟨g,0,none⟩) 1 1/\Blk w g 3 [(a:aV)]/\σ g=4
 i13:b.b13=true->∃g,V.v9=.pointer (some ⟨g,0,none⟩)/\Blk w g 105 [.slice none 0 0,.slice none 0 0]/\σ g=5
section
variable {w0:Wo} {tl sc:LI} {j a:Int} {σ σ':Nat->Nat} {b:ExB} {V:ExV} {w w':Wo}
theorem OI.tagKeep{B t:Nat}{v:Va}{xs:LI}{k:Nat}(h:OI B w v xs/\∀g,v.ownBlock=some g->σ g=k)(hk:k≠t)(D:∀g,g<w.heap.size->σ' g=σ g)(C:∀g,g<w.heap.size->σ g≠t->w'.heap[g]?=w.heap[g]?):OI B w' v xs/\∀g,v.ownBlock=some g->σ' g=k:=
 ⟨h.1.keep fun g A=>C g (h.1.lt A).2 (by rw[h.2 g A];exact hk),fun g A=>(D g (h.1.lt A).2).trans (h.2 g A)⟩
theorem Blk.tagKeep{t k:Nat}{C:TypeId}{cs:List Va}{φ:Nat->Prop}(h:∃g,φ g/\Blk w g C cs/\σ g=k)(hk:k≠t)(F:∀g,g<w.heap.size->σ' g=σ g)(E:∀g,g<w.heap.size->σ g≠t->w'.heap[g]?=w.heap[g]?):∃g,φ g/\Blk w' g C cs/\σ' g=k:=by obtain⟨g,D,A,B⟩:=h;exact⟨g,D,A.keep (E g A.lt (by rw[B];exact hk)),(F g A.lt).trans B⟩
theorem JW.on(h:JW w0 tl sc j a σ b V w)(D:Below w w w')(A:∀g,g<w.heap.size->σ' g=σ g)(K:∀g,σ' g≠0->w0.heap.size<=g/\g<w'.heap.size):JW w0 tl sc j a σ' b V w':=by have hk:∀g,g<w.heap.size->σ g≠9->w'.heap[g]?=w.heap[g]?:=fun g J _=>D.block g J;exact⟨aC h.bel D,K,h.c5,h.c8,h.c11,fun G C=>OI.tagKeep (h.i2 G C) (t:=9) dC A hk,fun C=>OI.tagKeep (h.i5 C) (t:=9) dC A hk,fun I B=>OI.tagKeep (h.i8 I B) (t:=9) dC A hk,fun B=>OI.tagKeep (h.i11 B) (t:=9) dC A hk,fun H=>Blk.tagKeep (φ:=fun g=>V.v36=_) (h.i4 H) (t:=9) dC A hk,fun E=>Blk.tagKeep (φ:=fun g=>V.v42=_) (h.i10 E) (t:=9) dC A hk,fun F=>Blk.tagKeep (φ:=fun g=>V.v9=_) (h.i13 F) (t:=9) dC A hk⟩
def ly(σ:Nat->Nat)(A k:Nat):Nat->Nat:=fun g=>if g=A then k else σ g
theorem JW.new(h:JW w0 tl sc j a σ b V w)(C:Below w w w'){A k:Nat}(E:w<=A)(F:A<w'):JW w0 tl sc j a (ly σ A k) b V w':=by
 have G:=h.bel.size;refine h.on C (fun g B=>iN om) fun g B=>?_;by_cases e:g=A
 .subst e;omega
 .have D:ly σ A k g=σ g:=iN e;rw[D] at B;have:=h.lo g B;have:=C.size;omega
theorem JW.op2(h:JW w0 tl sc j a σ b V w)(D:Below w w w')(F:b.b5=false){u:Va}(C:OI w w' u tl):∃σ',JW w0 tl sc j a σ' {b with b2:=true} {V with v34:=u} w':=by
 have H:=h.bel.size;refine⟨eW σ u 1,?_⟩;have G:∀g,g<w.heap.size->eW σ u 1 g=σ g:=fun g B=>by unfold eW;rw[iN (fun e=>oA ((C.lt e).1))]
 have A:=h.on (σ':=eW σ u 1) D G fun g B=>by
  by_cases e:u.ownBlock=some g
  .have:=C.lt e;omega
  .have E:eW σ u 1 g=σ g:=iN e;rw[E] at B;have:=h.lo g B;have:=D.size;omega
 exact⟨A.bel,A.lo,fun h=>aB (F.symm.trans h) dC,A.c8,A.c11,fun _ _=>⟨C.mono H,fun g B=>lM B⟩,A.i5,A.i8,A.i11,A.i4,A.i10,A.i13⟩
theorem JW.op8(h:JW w0 tl sc j a σ b V w)(E:Below w w w')(G:b.b5=true)(D:b.b11=false){u:Va}(C:OI w w' u sc):∃σ',JW w0 tl sc j a σ' {b with b8:=true} {V with v40:=u} w':=by
 have I:=h.bel.size;refine⟨eW σ u 2,?_⟩;have H:∀g,g<w.heap.size->eW σ u 2 g=σ g:=fun g B=>by unfold eW;rw[iN (fun e=>oA ((C.lt e).1))]
 have A:=h.on (σ':=eW σ u 2) E H fun g B=>by
  by_cases e:u.ownBlock=some g
  .have:=C.lt e;omega
  .have F:eW σ u 2 g=σ g:=iN e;rw[F] at B;have:=h.lo g B;have:=E.size;omega
 exact⟨A.bel,A.lo,A.c5,fun _=>G,fun h=>aB (D.symm.trans h) dC,A.i2,A.i5,fun _ _=>⟨C.mono I,fun g B=>lM B⟩,fun h=>aB (D.symm.trans h) dC,A.i4,A.i10,A.i13⟩
theorem JW.op4(h:JW w0 tl sc j a σ b V w)(D:Below w w w'){g:Nat}(E:w<=g)(B:Blk w' g 3 [(j:aV)]):∃σ',JW w0 tl sc j a σ' {b with b4:=true} {V with v36:=.slice g 1 1} w':=by have A:=h.new (k:=3) D E B.lt;exact⟨_,A.bel,A.lo,fun C=>⟨(h.c5 C).1,rfl⟩,A.c8,A.c11,A.i2,A.i5,A.i8,A.i11,fun _=>⟨g,rfl,B,iP rfl⟩,A.i10,A.i13⟩
theorem JW.op10(h:JW w0 tl sc j a σ b V w)(D:Below w w w'){g:Nat}(E:w<=g)(B:Blk w' g 3 [(a:aV)]):∃σ',JW w0 tl sc j a σ' {b with b10:=true} {V with v42:=.slice g 1 1} w':=by have A:=h.new (k:=4) D E B.lt;exact⟨_,A.bel,A.lo,A.c5,A.c8,fun C=>⟨(h.c11 C).1,rfl⟩,A.i2,A.i5,A.i8,A.i11,A.i4,fun _=>⟨g,rfl,B,iP rfl⟩,A.i13⟩
theorem JW.op13(h:JW w0 tl sc j a σ b V w)(C:Below w w w'){g:Nat}(D:w<=g)(B:Blk w' g 105 [.slice none 0 0,.slice none 0 0]):∃σ',JW w0 tl sc j a σ' {b with b13:=true} {V with v9:=.pointer g} w':=by have A:=h.new (k:=5) C D B.lt;exact⟨_,A.bel,A.lo,A.c5,A.c8,A.c11,A.i2,A.i5,A.i8,A.i11,A.i4,A.i10,fun _=>⟨g,rfl,B,iP rfl⟩⟩
theorem JW.op5(h:JW w0 tl sc j a σ b V w)(G:b.b2=true)(D:b.b4=true)(H:b.b5=false){u:Va}(J:OI w0 w' u (tl++[j]))(A:w.grownBy w' V.v34.ownBlock)(N:u.ownBlock=V.v34.ownBlock\/u.ownBlock=some w.heap.size):∃σ',JW w0 tl sc j a σ' {b with b5:=true} {V with v37:=u} w':=by
 have hi:=h.i2 G H;have B:∀g,g<w.heap.size->eW σ u 1 g=σ g:=fun g F=>fF N hi.2 F;have hk:∀g,g<w.heap.size->σ g≠1->w'.heap[g]?=w.heap[g]?:=fun g F hn=>A.block g F fun e=>hn (hi.2 g e.symm);have O:=h.bel.size;refine⟨eW σ u 1,h.bel.grown A O (fun g e=>(hi.1.lt e).1),fun g I=>?_,fun _=>⟨G,D⟩,fun E=>aB (H.symm.trans (h.c8 E)) dC,h.c11,fun _ h=>(by cases h),fun _=>⟨J,fun g A=>lM A⟩,fun E C=>OI.tagKeep (h.i8 E C) dC B hk,fun C=>OI.tagKeep (h.i11 C) dC B hk,fun D=>Blk.tagKeep (φ:=fun g=>V.v36=_) (h.i4 D) dC B hk,fun L=>Blk.tagKeep (φ:=fun g=>V.v42=_) (h.i10 L) dC B hk,fun M=>Blk.tagKeep (φ:=fun g=>V.v9=_) (h.i13 M) dC B hk⟩;by_cases e:u.ownBlock=some g
 .exact J.lt e
 .have K:eW σ u 1 g=σ g:=iN e;rw[K] at I;have:=h.lo g I;have:=A.size;omega
theorem JW.op11(h:JW w0 tl sc j a σ b V w)(F:b.b8=true)(C:b.b10=true)(J:b.b11=false){u:Va}(H:OI w0 w' u (sc++[a]))(A:w.grownBy w' V.v40.ownBlock)(N:u.ownBlock=V.v40.ownBlock\/u.ownBlock=some w.heap.size):∃σ',JW w0 tl sc j a σ' {b with b11:=true} {V with v43:=u} w':=by
 have hi:=h.i8 F J;have B:∀g,g<w.heap.size->eW σ u 2 g=σ g:=fun g E=>fF N hi.2 E;have hk:∀g,g<w.heap.size->σ g≠2->w'.heap[g]?=w.heap[g]?:=fun g E hn=>A.block g E fun e=>hn (hi.2 g e.symm);have O:=h.bel.size;refine⟨eW σ u 2,h.bel.grown A O (fun g e=>(hi.1.lt e).1),fun g G=>?_,h.c5,h.c8,fun _=>⟨F,C⟩,fun L D=>OI.tagKeep (h.i2 L D) dC B hk,fun D=>OI.tagKeep (h.i5 D) dC B hk,fun _ h=>(by cases h),fun _=>⟨H,fun g A=>lM A⟩,fun M=>Blk.tagKeep (φ:=fun g=>V.v36=_) (h.i4 M) dC B hk,fun C=>Blk.tagKeep (φ:=fun g=>V.v42=_) (h.i10 C) dC B hk,fun K=>Blk.tagKeep (φ:=fun g=>V.v9=_) (h.i13 K) dC B hk⟩;by_cases e:u.ownBlock=some g
 .exact H.lt e
 .have I:eW σ u 2 g=σ g:=iN e;rw[I] at G;have:=h.lo g G;have:=A.size;omega
theorem JW.start(w0:Wo)(tl sc:LI)(j a:Int)(V:ExV):JW w0 tl sc j a (fun _=>0) ⟨false,false,false,false,false,false,false⟩ V w0:=
 ⟨bE w0,fun g h=>aB rfl h,fun h=>(by cases h),fun h=>(by cases h),fun h=>(by cases h),fun h=>(by cases h),fun h=>(by cases h),fun h=>(by cases h),fun h=>(by cases h),fun h=>(by cases h),fun h=>(by cases h),fun h=>(by cases h)⟩
end
theorem CS{xs:LI}(h:∀i,i<xs.length->0<=xs i 0/\xs i 0<1000)(k:Nat):I64 (xs k 0):=by
 by_cases hk:k<xs
 .have:=h k hk;exact I64.of_small om om
 .rw[aZ4,aY4 om];exact I64.of_small dC dC
theorem nC.i64t{q:Int}{n:Nat}{tl sc:LI}(h:nC q n tl sc)(hn:n<=64)(k:Nat):I64 (tl k 0):=CS (fun i hi=>oA (h.rng i hi)) k
theorem nC.i64s{q:Int}{n:Nat}{tl sc:LI}(h:nC q n tl sc)(hq:q<=256)(k:Nat):I64 (sc k 0):=CS (fun i hi=>oA (h.nz i hi)) k
section
variable {w0:Wo} {tl sc:LI} {j a:Int} {σ:Nat->Nat} {V:ExV} {w:Wo}
theorem JW.fin{g:Nat}{w':Wo}(h:JW w0 tl sc j a σ ⟨true,true,true,true,true,true,true⟩ V w)(L:V.v9=.pointer g)(D:oW w w' g 105 [V.v37,V.v43]):
 OI w0 w' V.v37 (tl++[j])/\OI w0 w' V.v43 (sc++[a])/\Below w0 w0 w':=by
 obtain⟨G,C,A,E⟩:=h.i13 rfl;obtain rfl:g=G:=by rw[L] at C;simpa using C
 have J:=h.i5 rfl;have I:=h.i11 rfl;have M:=h.bel.size;have H:=(h.lo g (by rw[E];decide)).1;have hk:∀{v:Va} {xs:LI} {k:Nat},k≠5->OI w0 w v xs/\(∀b,v.ownBlock=some b->σ b=k)->OI w0 w' v xs:=fun{v xs k} K B=>B.1.keep fun b A=>D.gr.block b (B.1.lt A).2 fun e=>by have F:b=g:=aZ0 e;have:=B.2 b A;rw[F,E] at this;exact K this.symm
 exact⟨hk dC J,hk dC I,D.below h.bel M H⟩
end
theorem jf{q:Int}{n sb F B:Nat}{tl sc:LI}{j a:Int}{w:Wo}{tv sv:Va}(A:nC q n (tl++[j]) (sc++[a]))(hn:n<=64)(hq:q<=256)(E:OI B w tv (tl++[j]))(D:OI B w sv (sc++[a]))(G:sb<B)(H:F<B):PV sb F w tv sv (tl++[j]) (sc++[a]):=by
 have I:(tl++[j]).length<=64:=by have:=A.len;have:=A.le;omega
 have J:(sc++[a]).length<=64:=by have:=A.le;omega
 exact⟨E.si om (A.i64t hn),D.si om (A.i64s hq),by simp,by simp,fun g C=>oA ((E.lt C).1),fun g C=>oA ((D.lt C).1)⟩
theorem SI.takeE{w:Wo}{A:OA}{n c:Nat}{xs:LI}(h:SI w (.slice A n c) xs){i:Nat}(hi:i<=n):SI w (.slice A i c) (xs.take i):=by
 obtain⟨E,c',e,h⟩:=h;cases e;have B:(xs.take i).length=i:=by rw[aY3];omega
 refine⟨_,c,by rw[B],oA h.len,oA h.cap,fun k hk=>?_,fun k=>?_⟩
 .rw[B] at hk;obtain⟨C,rfl,D⟩:=h.cell k om;exact⟨C,rfl,by rw[show(xs.take i).getD k 0=xs k 0 by simp[List.getD,List.getElem?_take,hk]];exact D⟩
 .by_cases hk:k<i
  .rw[show(xs.take i).getD k 0=xs k 0 by simp[List.getD,List.getElem?_take,hk]];exact h.wf k
  .rw[bG (by rw[B];omega)];exact I64.zero
theorem WT(w:Wo)(v:Va)(xs:LI)(g:Nat)(P:Int->Bool)(H:SI w v xs)(K:∀k,k<xs.length->Calls prog 89 #[.int .i64 (xs k 0),.pointer g] w (fun e w'=>e=.returned (.bool (P (xs k 0)))/\w=w')):Calls prog 145 #[v,.func (.func 89) #[] #[.pointer g]] w (fun e w'=>∃z:Int,e=.returned (z:aV)/\(decide (0<=z)=xs.any P)/\w=w'):=by
 have J:=zh H;have M:=zh K;have O:=H.len';obtain⟨A,c,rfl,_⟩:=H;clear K;obtain⟨n,hn⟩:=xE xs.length;have C:=zh hn;rw[<-hn] at J O|-;clear hn;go_enter func145,ntmps145;go_wp2;go_loopw [8] (fun i wr=>∃k:Nat,k<=n/\i=(k:aV)/\Hid (∀j,j<k->P (xs j 0)=false)/\w=wr) (fun i _=>n-(intOf i).toNat)
 .exact⟨0,aZ5 _,rfl,aG (fun j h=>aB h (aY5 _)),rfl⟩
 .
  obtain⟨k,hk,rfl,I,rfl⟩:=hrel;by_cases G:k<n
  .obtain⟨B,D⟩:∃B,A=some B/\w.cell? (B.add k)=some (.int .i64 (xs k 0)):=by
    obtain⟨B,x,e,D,_,N⟩:=J.elt (k:=k) (C.out▸G);exact⟨B,e,N.out▸D⟩
   obtain⟨rfl,D⟩:=D;go_wp2_with fail;apply(M k (C.out▸G)).mono;rintro e w1⟨rfl,rfl⟩;cases hp:P (xs k 0)
   .have L : Hid (∀ j, j < k + 1 -> P (xs j 0) = false) := aG fun j F => by
     by_cases e:j=k
     .subst e;exact hp
     .exact I.out j om
    go_wp2;exact⟨⟨k+1,om,pC,L,trivial⟩,oI⟩
   .have E:Hid (xs.any P=true):=aG (by
     rw[List.any_eq_true];exact⟨xs k 0,by rw[aZ4,aZ3 (C.out▸G)];exact aY6 _,hp⟩)
    go_wp2;go_ret;exact⟨_,rfl,by rw[E.out];exact dE om,rfl⟩
  .obtain rfl:n=k:=om;have E:Hid (xs.any P=false):=aG (by rw[List.any_eq_false];intro x Q e;obtain⟨j,F,rfl⟩:=eI.1 Q;have:=I.out j (C.out▸F);rw[aZ4,aZ3 F] at this;exact Bool.noConfusion (e.symm.trans this));go_wp2;go_ret;exact⟨_,rfl,by rw[E.out];rfl,rfl⟩
theorem VU(w:Wo)(v:Va)(xs:LI)(g:Nat)(P:Int->Bool)(C:SI w v xs)(B:∀k,k<xs.length->Calls prog 89 #[.int .i64 (xs k 0),.pointer g] w (fun e w'=>e=.returned (.bool (P (xs k 0)))/\w=w')):Calls prog 88 #[v,.func (.func 89) #[] #[.pointer g]] w (fun e w'=>e=.returned (.bool (xs.any P))/\w=w'):=by have E:=zh (WT w v xs g P C B);obtain⟨A,c,rfl,_⟩:=C;clear B;go_enter func88,ntmps88;go_wp2_with fail;apply E.mono;rintro e w1⟨z,rfl,D,rfl⟩;have F:=zh D;clear D;go_wp2;go_ret;exact⟨by rw[<-F.out];rfl,rfl⟩
theorem WS(w:Wo)(v:Va)(xs:LI)(g:Nat)(P:Int->Bool)(H:SI w v xs)(K:∀k,k<xs.length->Calls prog 91 #[.int .i64 (xs k 0),.pointer g] w (fun e w'=>e=.returned (.bool (P (xs k 0)))/\w=w')):Calls prog 145 #[v,.func (.func 91) #[] #[.pointer g]] w (fun e w'=>∃z:Int,e=.returned (z:aV)/\(decide (0<=z)=xs.any P)/\w=w'):=by
 have J:=zh H;have M:=zh K;have O:=H.len';obtain⟨A,c,rfl,_⟩:=H;clear K;obtain⟨n,hn⟩:=xE xs.length;have C:=zh hn;rw[<-hn] at J O|-;clear hn;go_enter func145,ntmps145;go_wp2;go_loopw [8] (fun i wr=>∃k:Nat,k<=n/\i=(k:aV)/\Hid (∀j,j<k->P (xs j 0)=false)/\w=wr) (fun i _=>n-(intOf i).toNat)
 .exact⟨0,aZ5 _,rfl,aG (fun j h=>aB h (aY5 _)),rfl⟩
 .
  obtain⟨k,hk,rfl,I,rfl⟩:=hrel;by_cases G:k<n
  .obtain⟨B,D⟩:∃B,A=some B/\w.cell? (B.add k)=some (.int .i64 (xs k 0)):=by
    obtain⟨B,x,e,D,_,N⟩:=J.elt (k:=k) (C.out▸G);exact⟨B,e,N.out▸D⟩
   obtain⟨rfl,D⟩:=D;go_wp2_with fail;apply(M k (C.out▸G)).mono;rintro e w1⟨rfl,rfl⟩;cases hp:P (xs k 0)
   .have L : Hid (∀ j, j < k + 1 -> P (xs j 0) = false) := aG fun j F => by
     by_cases e:j=k
     .subst e;exact hp
     .exact I.out j om
    go_wp2;exact⟨⟨k+1,om,pC,L,trivial⟩,oI⟩
   .have E:Hid (xs.any P=true):=aG (by
     rw[List.any_eq_true];exact⟨xs k 0,by rw[aZ4,aZ3 (C.out▸G)];exact aY6 _,hp⟩)
    go_wp2;go_ret;exact⟨_,rfl,by rw[E.out];exact dE om,rfl⟩
  .obtain rfl:n=k:=om;have E:Hid (xs.any P=false):=aG (by rw[List.any_eq_false];intro x Q e;obtain⟨j,F,rfl⟩:=eI.1 Q;have:=I.out j (C.out▸F);rw[aZ4,aZ3 F] at this;exact Bool.noConfusion (e.symm.trans this));go_wp2;go_ret;exact⟨_,rfl,by rw[E.out];rfl,rfl⟩
theorem VT(w:Wo)(v:Va)(xs:LI)(g:Nat)(P:Int->Bool)(C:SI w v xs)(B:∀k,k<xs.length->Calls prog 91 #[.int .i64 (xs k 0),.pointer g] w (fun e w'=>e=.returned (.bool (P (xs k 0)))/\w=w')):Calls prog 88 #[v,.func (.func 91) #[] #[.pointer g]] w (fun e w'=>e=.returned (.bool (xs.any P))/\w=w'):=by have E:=zh (WS w v xs g P C B);obtain⟨A,c,rfl,_⟩:=C;clear B;go_enter func88,ntmps88;go_wp2_with fail;apply E.mono;rintro e w1⟨z,rfl,D,rfl⟩;have F:=zh D;clear D;go_wp2;go_ret;exact⟨by rw[<-F.out];rfl,rfl⟩
theorem RC(w:Wo)(n x:Int)(t:Nat)(C:w.cell? t=some (n:aV)):Calls prog 89 #[x,.pointer t] w (fun e w'=>e=.returned (.bool (decide (x<0\/n<=x)))/\w=w'):=by
 by_cases A:x<0
 .have e:decide (x<0\/n<=x)=true:=dE (.inl A);rw[e];go_enter func89,ntmps89;go_wp2;go_ret;exact⟨rfl,rfl⟩
 .by_cases B:n<=x
  .have e:decide (x<0\/n<=x)=true:=dE (.inr B);rw[e];go_enter func89,ntmps89;go_wp2;go_ret;exact⟨rfl,rfl⟩
  .have e:decide (x<0\/n<=x)=false:=dG (fun h=>h.elim A B);rw[e];go_enter func89,ntmps89;go_wp2;go_ret;exact⟨rfl,rfl⟩
theorem Q7(w:Wo)(a:Nat)(P M x:Int)(Mq:LI)(t:Nat)(A:GF w a P M Mq)(C:w.cell? t=some (.pointer a)):Calls prog 91 #[x,.pointer t] w (fun e w'=>e=.returned (.bool (!isB P M x))/\w=w'):=by have B:=zh A;clear A;go_enter func91,ntmps91;go_wp2_with fail;apply(xT w a P M x Mq B).mono;rintro e w1⟨rfl,rfl⟩;go_wp2;go_ret;exact⟨rfl,rfl⟩
def PX(n:Int)(l:LI):Prop:=(∀i,i<l.length->0<=l i 0/\l i 0<n)/\∀i j,i<l.length->j<l.length->l i 0=l j 0->i=j
theorem JP(w:Wo)(v:Va)(l:LI)(n:Int)(N:SI w v l):Calls prog 42 #[v,n] w (fun e w'=>∃V:Int,e=.returned (V:aV)/\(V=0↔PX n l)/\Below w w w'):=by
 have F:=zh N;have g:=N.len';obtain⟨A,c,rfl,_⟩:=N;obtain⟨m,M⟩:=xE l.length;have C:=zh M;rw[<-M] at F g|-;clear M;go_enter func42,ntmps42;go_upto_region 1 with fail;obtain⟨w1,t3,U,E,W,X⟩:=aR w 3 [(n:aV)];rw[U,E];have D:=zh X;have d:=zh W;clear U E W X;go_wp2_with fail;apply(VU w1 _ l t3 (fun x=>decide (x<0\/n<=x)) (F.below D zr) (fun k hk=>RC w1 n _ t3 (d.cell 0))).mono;rintro e w2⟨rfl,rfl⟩;obtain⟨J,K⟩:=xE (l.any (fun x=>decide (x<0\/n<=x)));have Q:=zh K;rw[<-K];clear K;cases J
 .have a : Hid (∀ i, i < l.length -> 0 <= l i 0 /\ l i 0 < n) := aG fun i hi => by
   have G:=List.any_eq_false.1 Q.symm (l i 0) (by rw[aZ4,aZ3 hi];exact aY6 _);rw[decide_eq_true_eq] at G;omega
  have S:Hid (∀i j,i<0->j<i->l i 0≠l j 0):=aG fun i j hi=>aB hi (aY5 _);go_wp2;go_loopw [12] (fun P wr=>∃k:Nat,k<=m/\P=(k:aV)/\Hid (∀i j,i<k->j<i->l i 0≠l j 0)/\w1=wr) (fun P _=>m-(intOf P).toNat)
  .exact⟨0,aZ5 _,rfl,S,rfl⟩
  .
   clear S;obtain⟨k,hk,rfl,H,rfl⟩:=hrel;by_cases Y:k<m
   .obtain ⟨p, y, rfl, q, _, T⟩ := (F.below D zr).elt (k := k) (by rw [<- C.out]; exact Y);have o : m <= c := by
     obtain⟨_,_,e,h⟩:=F.out;injection e with _ _ e3;rw[e3,C.out];exact h.cap
    have r:k<=c:=om;have b:=zh ((F.below D zr).takeE (i:=k) om);clear o;go_wp2_with fail;apply(gB w1 _ (l.take k) y b).mono;rintro e w2⟨rfl,rfl⟩;obtain⟨cb,L⟩:=xE ((l.take k).any (fun x=>x==y));have R:=zh L;rw[<-L];clear L;cases cb
    .have Z : Hid (∀ i j, i < k + 1 -> j < i -> l i 0 ≠ l j 0) := aG fun i j hi B => by
      by_cases e:i=k
      .subst e;have G:=List.any_eq_false.1 R.symm (l j 0) (by
        rw[<-jE B,aZ4,aZ3 (by rw[aY3];have:=C.out;omega)];exact aY6 _)
       rw[eD] at G;rw[T.out];exact fun e=>G e.symm
      .exact H.out i j om B
     go_wp2;exact⟨⟨k+1,om,pC,Z,trivial⟩,oI⟩
    .have I : Hid (¬ PX n l) := aG fun h => by
      obtain⟨x,O,e⟩:=List.any_eq_true.1 R.symm;rw[eD] at e;obtain⟨j,B,E⟩:=rO O;rw[aY3] at B;rw[jE om] at E;have:=h.2 k j (C.out▸Y) (oA C.out) (by rw[T.out,E,e]);omega
     go_wp2;go_ret;exact⟨_,rfl,⟨fun h=>aB h dC,fun h=>aB h I⟩,D.out⟩
   .obtain rfl:m=k:=om;have f:Hid (PX n l):=aG ⟨a.out,fun i j hi B e=>by
     rcases Nat.lt_trichotomy i j with h|h|h
     .exact aB e.symm (H j i (C.out▸B) h)
     .exact h
     .exact aB e (H.out i j (C.out▸hi) h)⟩
    go_wp2;go_ret;exact⟨_,rfl,⟨fun _=>f.out,fun _=>rfl⟩,D.out⟩
 .have I : Hid (¬ PX n l) := aG fun h => by
   obtain⟨x,O,e⟩:=List.any_eq_true.1 Q.symm;rw[decide_eq_true_eq] at e;obtain⟨j,B,E⟩:=rO O;have:=h.1 j B;omega
  go_wp2;go_ret;exact⟨_,rfl,⟨fun h=>aB h dC,fun h=>aB h I⟩,D.out⟩
theorem F2(w:Wo)(n:Nat)(v:Va)(xs:LL)(U:SS w v xs)(ζ:∀k,k<xs.length->IsP n (xs k []))(ψ:1<=n)(S:n<=64):
 Calls prog 47 #[n,v] w (fun e w'=>∃(lv:Va) (ls:List LvP),e=.returned (.tuple #[.agg #[n,lv],z0])/\ChR w' lv ls/\CanCh (GenP n (fun g=>g∈xs)) n n ls/\Below w w w'):=by
 have b:=zh U;have d:=zh ζ;have ρ:=zh (fun(w':Wo) (Bd:Below w w w')=>XZ w' n v xs (U.below Bd zr) ζ ψ S);have Bk:=U.len';obtain⟨Bq,Ca,rfl,_⟩:=U;obtain⟨m,u⟩:=xE xs.length;have D:=zh u;rw[<-u] at b d ρ Bk|-;clear u ζ;go_enter func47,ntmps47;go_upto_region 1 with fail;obtain⟨w1,L,Q,f,ω,Ae⟩:=aR w 37 [.int .i64 0,.slice none 0 0];rw[Q,f];have Ap:=zh ω;have μ:=zh Ae;have J:Hid (w.heap.size=L):=aG f;clear Q f ω Ae;go_wp2_with fail;apply(ρ.out w1 μ).mono;rintro e w2⟨rfl,o⟩;have Aq:=zh (aC μ o);have W:=zh (Ap.belowS o);clear o;go_wp2_with fail;apply(eo w2 n L S W.lt).mono;rintro e Cb⟨F,V,rfl,l,Bc,Ab,An,Ad,T,p⟩;have ν:=zh (aC Aq p);have κ:=zh (W.belowS p);have A:=zh l;have π:=zh Ab;have Y:Hid (w.heap.size+1<=F.B):=aG (oB W.lt J.out);have H:=zh An;have E:Hid (iR F.n 0 V.R V.G):=aG (by rw[Ad,l];exact ZB n _ fun c g h=>by have:g∈V.gl c:=h;rw[T c] at this;exact aB this List.not_mem_nil);have O:Hid (∀c,0<=c->c<F.n->(V.gl c).length+dZ V.R F.n F.n<=F.n*F.n):=aG fun c _ _=>by rw[T c,List.length_nil,Nat.zero_add];exact FK _ _ _
 have I:Hid (∀q,GenP F.n (V.G 0) q↔GenP F.n (fun g=>g∈xs.take 0) q):=aG fun q=>by
  have e:V.G 0=fun g=>g∈xs.take 0:=by funext g;show(g∈V.gl 0)=_;rw[T 0];simp
  rw[e]
 clear p l Bc Ab An Ad T;go_wp2;go_loopw [21] (fun η wr=>∃(k:Nat) (V':TwV),k<=m/\η=(k:aV)/\Hid (TW F V' wr)/\Hid (iR F.n 0 V'.R V'.G)/\Hid (∀c,0<=c->c<F.n->(V'.gl c).length+dZ V'.R F.n F.n<=F.n*F.n)/\Hid (∀q,GenP F.n (V'.G 0) q↔GenP F.n (fun g=>g∈xs.take k) q)/\Hid (Below w w wr)/\Hid (Blk wr L 37 [.int .i64 0,.slice none 0 0])) (fun η _=>m-(intOf η).toNat)
 .exact⟨0,V,aZ5 _,rfl,H,E,O,I,ν,κ⟩
 .
  clear H E O I ν κ;obtain⟨k,V',hk,rfl,H,E,O,I,M,ξ⟩:=hrel;by_cases K:k<m
  .obtain⟨Br,ι,φ,row,rfl,Bf,Az,a⟩:=(b.below M zr).eltA (k:=k) (D.out▸K);have Z:Hid (IsP F.n row):=aG (by rw[<-a.out,A.out];exact d.out k K);have Ay:Hid (jR F.t0 V'.τ wr (.slice ι row φ) row):=aG (by
    have Aj:0<row.length:=by rw[Z.out.len,A.out];exact ψ
    have Ai:∀g,(Value.slice ι row φ).ownBlock=some g->g<w.heap.size:=fun g C=>?_;refine⟨Aj,Az.si,fun g C=>eJ fun Bi=>?_,fun g C e=>?_⟩
    .have Aa:=Ai g C;have Bx:=(H.lo g Bi).1;have:=Y.out;omega
    .have Aa:=Ai g C;rw[e,π.out] at Aa;have:=J.out;omega
    --the row is older than the tower
    have δ:=b.out;obtain⟨Bp,c0,Bb,δ⟩:=δ;obtain⟨Bs,Bz,Q,Be,Al⟩:=δ.cell k (D.out▸K);have Ag:=aE M.out Be;injection Bb with ea;rw[Q] at ea;obtain rfl:=aZ0 ea;rw[Bf] at Ag;obtain rfl:=aZ0 Ag;rw[a.out] at Al;exact Al.lt Aj C)
   go_wp2_with fail;apply(NG F V' wr 0 row _ ⟨H.out,E.out,O.out,Ay.out,Z.out,fun i hi=>aB hi (aY5 _),aZ5 _,A.out▸S⟩).mono;rintro e θ⟨rfl,V2,Am,ε,z,Af,Bg⟩;have Ba:=zh Am;have Ax:=zh z.ok;have Au:=zh Af;have Aw:Hid (∀g,g∈xs.take k->IsP F.n g):=aG fun g C=>by obtain⟨j,Ah,rfl⟩:=eI.1 (List.mem_of_mem_take C);have:=d.out j (D.out▸Ah);rw[aZ4,aZ3 Ah] at this;rw[A.out];exact this
   have Av:Hid (∀q,GenP F.n (V2.G 0) q↔GenP F.n (fun g=>g∈xs.take (k+1)) q):=aG fun q=>by
    have e:(fun g=>g∈xs.take (k+1))=fun g=>g∈xs.take k\/g=row:=by
     funext g;rw[List.take_add_one,List.mem_append];have:xs[k]?=some row:=by have:=a.out;rw[aZ4,aZ3 (D.out▸K)] at this;rw[aZ3 (D.out▸K)];exact congrArg some this
     rw[this];simp
    rw[e];exact au E.out z I.out Aw.out Z.out q
   have Ar:Hid (Below w w θ):=aG (by have:=ε.kx.bel;exact M.trans (this.mono (oA Y.out)));have N:Hid (Blk θ L 37 [.int .i64 0,.slice none 0 0]):=aG (ξ.keep (ε.kx.bel.block L (oB Y.out J.out)));clear Am ε z Af Bg;go_wp2;exact⟨⟨k+1,V2,om,pC,Ba,Ax,Au,Av,Ar,N⟩,oI⟩
  .obtain rfl:m=k:=om;go_wp2_with fail;apply(S5 F V' wr H E (A.out▸S)).mono;rintro e θ⟨lv,ls,rfl,t,s,r⟩;have At:=zh t;have As:Hid (CanCh (GenP n (fun g=>g∈xs)) n n ls):=aG (by
    have e:GenP F.n (V'.G 0)=GenP n (fun g=>g∈xs):=by funext q;rw[propext (I.out q),D.out,List.take_length,A.out]
    rw[<-e,<-A.out];rw[A.out] at s|-;exact s)
   have X:=zh (aC M r);have N:=zh (ξ.belowS r);obtain⟨cs,Bj,Bh⟩:=t.out;obtain⟨σ,Ao,χ,_⟩:=Bj;obtain⟨LL,Ac⟩:=xE cs.length;rw[<-Ac] at χ;subst χ;rw[A.out];obtain⟨Bt,Bu,Bv,Bw⟩:=N.two;clear t s r Bh Ac;go_wp2_with fail;obtain⟨Cc,Bm,P⟩:=sQ (x:=(n:aV)) (y:=.slice σ LL Ao) N.out;rw[Bm];have Bn:=P.c0;have Bo:=P.c1;refine bodyPost_ret (v:=.tuple #[.agg #[n,.slice σ LL Ao],z0]) (by simp[results,results47,go_sem,Bn,Bo]) rfl ?_;have Bl:=At.on (B:=w.heap.size) (KX.gr P.gr X.size fun g e=>by injection e with e;subst e;exact⟨oA J.out,fun h=>h π.symm⟩);exact⟨_,ls,rfl,Bl.out,As.out,P.below X X.size (oA J.out)⟩
theorem VF:∀{l:LI} {a:Int},l.Pairwise (· < ·)->(∀x,x∈l->a<=x)->∀k,k<l.length->a+k<=l k 0
 |[],_,_,_,k,hk=>aB hk (aY5 _)
 |x::l,a,h,ha,0,_=>by simpa using ha x List.mem_cons_self
 |x::l,a,h,ha,k+1,hk=>by have A:=List.pairwise_cons.1 h;have:=VF (a:=a+1) A.2 (fun y B=>oB (A.1 y B) (ha x List.mem_cons_self)) k (by simpa using hk);simp only[List.getD_cons_succ];push_cast;omega
structure ke(Γ:LI->Prop)(n:Nat)(l:LvP):Prop where
 pt:l.pt<n
 can:vP Γ n l.pt l.orb l.reps
 ol:l.orb.length<=n
 oi:∀k,I64 (l.orb k 0)
 rp:∀g,g∈l.reps->Γ g
theorem vP.len_le{Γ:LI->Prop}{n b:Nat}{o:LI}{F:LL}(hΓ:lQ n Γ)(E:b<n)(h:vP Γ n b o F):o<=n/\∀x,x∈o->0<=x/\x<n:=by
 have A:∀x,x∈o->0<=x/\x<n:=fun x B=>by obtain⟨q,C,_,H⟩:=(h.mem x).1 B;have:=(hΓ.is q C).rng b E;omega
 refine⟨?_,A⟩;rcases Nat.eq_zero_or_pos o with D|D
 .omega
 .have C:=VF (a:=0) h.asc (fun x B=>(A x B).1) (o.length-1) om;have G:=(A (o (o.length-1) 0) (by rw[aZ4,aZ3 om];exact aY6 _)).2;omega
theorem IV{Γ:LI->Prop}{n:Nat}(hΓ:lQ n Γ)(hn:n<=1000):∀{b:Nat} {ls:List LvP},lR Γ n b ls->∀l,l∈ls->ke Γ n l
 |_,l::ls,⟨h1,h2,h3,h4⟩,l',A=>by
  rcases List.mem_cons.1 A with rfl|A
  .have B:=h3.len_le hΓ h2;refine⟨h2,h3,B.1,fun k=>?_,fun g C=>?_⟩
   .by_cases hk:k<l'.orb.length
    .have:=B.2 (l'.orb k 0) (by rw[aZ4,aZ3 hk];exact aY6 _);exact I64.of_small om om
    .rw[aZ4,aY4 om];exact I64.zero
   .obtain⟨k,hk,rfl⟩:=eI.1 C;have:=(h3.pick hΓ h2 (k:=k) (by rw[<-h3.len];exact hk)).1;rwa[aZ4,aZ3 hk] at this
  .exact IV hΓ hn h4 l' A
theorem wZ{ls:List LvP}{k:Nat}(hk:k<ls.length):fZ (ls.take (k+1))=fZ (ls.take k)++(ls k default).reps:=by unfold fZ;rw[List.take_add_one,aZ3 hk,List.map_append,List.flatten_append];simp[List.getD,hk]
theorem I8{Γ:LI->Prop}{n:Nat}{ls:List LvP}(h:∀l,l∈ls->ke Γ n l)(hn:n<=64)(C:ls.length<=n)(k:Nat)(hk:k<=ls.length):(fZ (ls.take k)).length<=k*64:=by
 induction k with
 |zero=>simp[fZ]
 |succ k B=>have B:=B om;have A:=h (ls k default) (by rw[aZ4,aZ3 om];exact aY6 _);rw[wZ om,aZ1,A.can.len];have:=A.ol;rw[Nat.add_mul];omega
theorem ChR.lev{w:Wo}{A:OA}{m c:Nat}{ls:List LvP}(h:ChR w (.slice A m c) ls){k:Nat}(hk:k<ls.length):m=ls.length/\∃(B:Addr) (ov rv:Va),A=some B/\w.cell? (B.add (k*3))=some (.int .i64 ((ls k default).pt:Int))/\w.cell? ⟨(B.add (k*3)).block,(B.add (k*3)).off+1,none⟩=some ov/\w.cell? ⟨(B.add (k*3)).block,(B.add (k*3)).off+2,none⟩=some rv/\SI w ov (ls k default).orb/\SS w rv (ls k default).reps:=by obtain⟨cs,F,E,H⟩:=h;have I:=F.len;obtain⟨B,e,D,C⟩:=F.elt (k:=k) (by rw[E];exact hk);obtain⟨ov,rv,G,J,K⟩:=H k hk;rw[G] at D C;exact⟨by rw[I,E],B,ov,rv,e,D _ rfl,C 0 _ rfl,C 1 _ rfl,J,K⟩
theorem DN(w:Wo)(n:Nat)(lv:Va)(ls:List LvP)(Γ:LI->Prop)(r:ChR w lv ls)(T:CanCh Γ n n ls)(hΓ:lQ n Γ)(As:1<=n)(ξ:n<=64):
 Calls prog 52 #[.agg #[n,lv]] w (fun e w'=>e=.returned (.int .i64 0)/\Below w.heap.size w w'):=by
 have ζ:=zh r;have Ai:=zh T;have y:=zh hΓ;have φ:=IV hΓ (show n<=1000 from om) (T.sift hΓ);have z:=zh (fun(k:Nat) (hk:k<ls.length)=>φ (ls k default) (by rw[aZ4,aZ3 hk];exact aY6 _));have X:=zh (fun(k:Nat) (hk:k<=ls.length)=>I8 φ ξ (nP T) k hk);have Ci:=nP T;obtain⟨Y,B,s,rfl⟩:∃(Y:OA) (B s:Nat),lv=.slice Y B s:=by obtain⟨cs,⟨A,c,e,_⟩,_⟩:=r;exact⟨_,_,_,e⟩
 obtain⟨m,O⟩:=xE ls.length;have F:=zh O;have Cb:B=m:=by obtain⟨cs,ψ,U,_⟩:=r;rw[ψ.len,U,O]
 subst Cb;rw[<-O] at z X Ci;clear r T hΓ φ O;have Aw:¬(n:Int)<(B:Int):=om;have Ce:decide (n<B)=false:=dG om;have Cf:decide ((n:Int)<(B:Int))=false:=dG Aw;go_enter func52,ntmps52;go_upto_region 1 with fail;obtain⟨w1,Cw,C,D,E,At⟩:=aR w 37 [(n:aV),.slice Y B s];rw[C,D];have θ:=zh E;have Ag:=zh At;clear C D E At;obtain⟨M,N,_,_⟩:=θ.two;go_wp2_with fail;refine(IJ w1 n As ξ).mono ?_;rintro e w2 ⟨rfl,rfl⟩;have Aj:Hid (OS w.heap.size (fun _=>False) w1 (.slice none 0 0) (fZ (ls.take 0))):=aG (OS.nil _ _ _);go_wp2_with fail;clear M N Aw Ce Cf;go_loopw [4,27] (fun v J wr=>∃k:Nat,k<=B/\J=(k:aV)/\Hid (OS w.heap.size (fun _=>False) wr v (fZ (ls.take k)))/\Hid (Below w.heap.size w wr)/\Hid (Blk wr Cw 37 [(n:aV),.slice Y B s])) (fun _ J _=>B-(intOf J).toNat)
 case atStart=>exact⟨0,aZ5 _,rfl,Aj,Ag,θ⟩
 case round=>
  clear Aj Ag θ;obtain⟨k,hk,rfl,Ak,P,η⟩:=hrel;obtain⟨M,N,_,_⟩:=η.two;by_cases I:k<B
  .obtain⟨Bz,ov,rv,rfl,μ,ν,a,o,q⟩:=((ζ.on P).lev (k:=k) (by rw[<-F.out];exact I)).2;have W:=zh (z k I);have ε:=zh ((ζ.lev (k:=k) (by rw[<-F.out];exact I)).2);have Bd:=zh (wZ (ls:=ls) (k:=k) (by rw[<-F.out];exact I));have Bb:Hid ((fZ (ls.take k)).length+(ls k default).reps.length<=4398046511104):=aG (by
    have π:=X.out k hk;have Dh:=W.can.len;have:=W.ol;omega)
   have Ck:=W.ol;have Ax:=W.can.len;generalize ls k default=l at*;obtain⟨κ,Aa,rfl,_⟩:=o;obtain⟨Z,t,rfl,_⟩:=q;have Dj:¬(n:Int)<(l.orb.length:Int):=om;have Dk:((l.reps.length:Int) !=(l.orb.length:Int))=false:=by rw[eB,Ax]
   clear Ax;have Bm:Hid (SS w (.slice Z l.reps.length t) l.reps):=aG (by obtain⟨Dc,ov',rv',e,_,_,Ca,_,Cl⟩:=ε.out;obtain rfl:=aZ0 e;have π:=aE P.out Ca;rw[a] at π;obtain rfl:=aZ0 π;exact Cl);go_upto_region 10 with fail;obtain⟨Ba,Dp,C,D,E,G⟩:=aR wr 120 [.int .i64 (l.pt:Int),.slice κ l.orb.length Aa,.slice Z l.reps.length t];rw[C,D];have K:=zh (P.trans (G.mono P.size));have δ:=zh (Ak.below G);have Q:=zh (η.belowS G);have Bt:=zh E;obtain⟨R,S,_,_⟩:=Q.two;obtain⟨De,Df,Dg,_,_,_⟩:=Bt.three;clear C D E G M N μ ν a Ck;go_upto_region 12 with fail;go_wp2_with (
    at_builtin;refine LQ rfl _ _ rfl w.heap.size w _ _ _ _ rfl δ.out rfl Bm.out K.out zr Bb.out K.size ?_;intro v9 w9 χ τ
    go_loud (
    rw[<-Bd.out] at χ;have Bk:=zh χ;have Bg:=zh (δ.bgrown K K.size τ);have Bs:=zh (Q.grown τ fun e=>δ.ne_blk Q dC e.symm);clear χ τ))
   exact⟨⟨k+1,om,pC,Bk,Bg,Bs⟩,oI⟩
  .obtain rfl:B=k:=om;have Bc:Hid (fZ (ls.take B)=fZ ls):=aG (by rw[F.out,List.take_length]);have h:=Ak.ss (by have:=X.out B zr;omega);rw[Bc.out] at h;have Da:=zh h;have Av:=F2 wr n _ (fZ ls) h (fun j Cd=>by have O:(fZ ls).getD j []∈fZ ls:=FF Cd;obtain⟨l,U,Cc⟩:=tT.1 O;obtain⟨i,hi,rfl⟩:=eI.1 U;have:=z.out i (by rw[F.out];exact hi);rw[aZ4,aZ3 hi] at this;exact y.is _ (this.rp _ Cc)) As ξ;have Bh:=zh Av;clear h Av X;go_wp2_with fail;refine Bh.mono ?_;rintro e Ba ⟨Co,Cm,rfl,f,σ,G⟩;have Bj:Hid (Cm=ls):=aG (by have e:GenP n (fun g=>g∈fZ ls)=Γ:=funext fun p=>propext (QF y Ai p);rw[e] at σ;exact rG y zr σ Ai);rw[Bj.out] at f;have Bi:=zh f;have K:=zh (aC P G);have Q:=zh (η.belowS G);obtain⟨ι,ω,rfl⟩:∃(ι:OA) (ω:Nat),Co=.slice ι B ω:=(by obtain⟨cs,ψ,U,_⟩:=f;obtain⟨A,c,e,_⟩:=ψ;exact⟨A,c,by rw[e,U,F.out]⟩)
   clear f σ G M N;go_upto_region 15 with fail;obtain⟨Ab,Dq,C,D,E,b⟩:=aR Ba 37 [(n:aV),.slice ι B ω];rw[C,D];have Ah:=zh (aC K b);have Am:=zh (Q.belowS b);have An:=zh E;have Bq:=zh (ζ.on Ah);have Br:=zh (Bi.on b);obtain⟨M,N,_,_⟩:=Am.two;obtain⟨R,S,_,_⟩:=An.two;have Cj:((B:Int) !=(B:Int))=false:=by simp
   have Af:=zh (bE Ab);clear C D E b;go_wp2_with fail;clear M N R S Cj;go_loopw [72] (fun J wr=>∃k:Nat,k<=B/\J=(k:aV)/\Hid (Below Ab.heap.size Ab wr)) (fun J _=>B-(intOf J).toNat)
   case atStart=>exact⟨0,aZ5 _,rfl,Af⟩
   case round=>
    clear Af;obtain⟨k,hk,rfl,L⟩:=hrel;have Db:=zh (Am.belowS L);have Bu:=zh (An.belowS L);obtain⟨R,S,_,_⟩:=Bu.two;by_cases I:k<B
    .obtain⟨Bz,ov,rv,rfl,μ,ν,a,o,q⟩:=((Bq.on L).lev (k:=k) (by rw[<-F.out];exact I)).2;obtain⟨Dd,Dl,Dm,rfl,Ap,Aq,Ar,Ay,Az⟩:=((Br.on L).lev (k:=k) (by rw[<-F.out];exact I)).2;generalize ls k default=l at*;have Bl:=zh o;have ε:=zh q;have Bn:=zh Ay;have Bo:=zh Az;obtain⟨κ,Aa,rfl,_⟩:=o;obtain⟨Z,t,rfl,_⟩:=q;obtain⟨Bx,Cp,rfl,_⟩:=Ay;obtain⟨RB,Cv,rfl,_⟩:=Az;have Di:((l.pt:Int) !=(l.pt:Int))=false:=by simp
     go_upto_region 20 with fail;obtain⟨Cx,Dn,C,D,E,H⟩:=aR wr 120 [.int .i64 (l.pt:Int),.slice κ l.orb.length Aa,.slice Z l.reps.length t];rw[C,D];have Be:=zh H;have Bv:=zh E;have Ct:=aE H R;have Cu:=aE H S;have Cq:=aE H Ap;have Cr:=aE H Aq;have Cs:=aE H Ar;clear C D E H μ ν a Ap Aq Ar R S;go_upto_region 21 with fail;obtain⟨Cy,Do,C,D,E,ρ⟩:=aR Cx 120 [.int .i64 (l.pt:Int),.slice Bx l.orb.length Cp,.slice RB l.reps.length Cv];rw[C,D];have u:=zh (aC Be ρ);have Ao:=zh (Bv.belowS ρ);have Al:=zh E;obtain⟨x0,x1,x2,_,_,_⟩:=Ao.three;obtain⟨Ac,Ad,Ae,_,_,_⟩:=Al.three;clear C D E ρ Ct Cu Cq Cr Cs;go_wp2_with fail;refine(GY Cy _ _ l.orb l.orb (Bl.below u zr) (Bn.below u zr)).mono ?_;rintro e Cz ⟨rfl,d⟩;have x:=zh (aC u d);have Bw:=zh (Ao.belowS d);have Bp:=zh (Al.belowS d);have V:decide (l.orb=l.orb)=true:=by simp
     rw[V];clear x0 x1 x2 Ac Ad Ae d V;obtain⟨x0,x1,x2,_,_,_⟩:=Bw.three;obtain⟨Ac,Ad,Ae,_,_,_⟩:=Bp.three;go_wp2_with fail;refine(GX Cz _ _ l.reps l.reps (ε.below x zr) (Bo.below x zr)).mono ?_;rintro e Dr ⟨rfl,Au⟩;have Bf:=zh (aC L (aC x Au));have V:decide (l.reps=l.reps)=true:=by simp
     rw[V];clear x0 x1 x2 Ac Ad Ae Au V;go_wp2_with fail;exact⟨⟨k+1,om,pC,Bf⟩,oI⟩
    .obtain rfl:B=k:=om;go_wp2_with fail;go_ret;exact⟨rfl,aC Ah L⟩
theorem WV(w:Wo)(v:Va)(xs:LI)(y:Int)(C:SI w v xs):Calls prog 55 #[v,y] w (fun e w'=>∃z:Int,e=.returned (z:aV)/\((z= -1/\y∉xs)\/∃k:Nat,z=(k:Int)/\k<xs/\xs k 0=y)/\w=w'):=by
 obtain⟨A,c,rfl,C⟩:=C;have hn:=C.len;have I:=zh C;clear C;go_enter func55,ntmps55;go_wp2;go_loop [8] (fun i=>∃k:Nat,k<=xs/\i=(k:aV)/\Hid (∀j,j<k->xs j 0≠y)) (fun i=>xs.length-(intOf i).toNat)
 .exact⟨0,aZ5 _,rfl,aG fun j E=>aB E (aY5 _)⟩
 .
  obtain⟨k,hk,rfl,F⟩:=hrel;by_cases H:k<xs
  .obtain⟨L,x,rfl,M,_,G⟩:=I.elt H;by_cases B:y=x
   .have K:(y==x)=true:=by simpa using B
    have D:Hid (xs k 0=y):=aG (G.out▸B.symm);clear B;go_wp2;go_ret;exact⟨_,rfl,.inr ⟨k,rfl,H,D.out⟩,rfl⟩
   .have K:(y==x)=false:=by simpa using B
    have J:=zh B;clear B;go_wp2;go_round
    .exact⟨k+1,om,by go_num,aG fun j E=>by
     by_cases e:j=k
     .subst e;rw[G.out];exact fun h=>J.out h.symm
     .exact F.out j om⟩
    .simp[intOf];omega
  .have D : Hid (y ∉ xs) := aG fun h => by
    obtain⟨j,E,e⟩:=rO h;exact F.out j om e
   go_wp2;go_ret;exact⟨_,rfl,.inl ⟨rfl,D.out⟩,rfl⟩
theorem TX{Γ:LI->Prop}{n b k:Nat}{ls:List LvP}(hk:k<ls.length)(h:lR Γ n b (ls.drop k)):(∀q,Γ q->dN b q->dN (ls k default).pt q)/\(ls k default).pt<n/\vP Γ n (ls k default).pt (ls k default).orb (ls k default).reps/\lR Γ n ((ls k default).pt+1) (ls.drop (k+1)):=by rw[List.drop_eq_getElem_cons hk] at h;rw[show ls k default=ls[k] by simp[List.getD,hk]];exact h
theorem YF(w:Wo)(n:Nat)(lv pv:Va)(ls:List LvP)(Γ:LI->Prop)(p:LI)(Y:ChR w lv ls)(O:CanCh Γ n n ls)(hΓ:lQ n Γ)(Af:1<=n)(Ag:n<=64)(Ar:SI w pv p)(ζ:IsP n p):
 Calls prog 24 #[.agg #[n,lv],pv] w (fun e w'=>∃(u:Va) (q:LI) (d:Nat),e=.returned (.tuple #[u,d,.int .i64 0])/\SI w' u q/\IsP n q/\((d=ls.length/\q=idP n)↔Γ p)/\Below w.heap.size w w'):=by
 have ψ:=zh Y;have Ba:=zh O;have G:=zh hΓ;have g:=zh Ar;have T:=zh ζ;have Am:=IV hΓ (show n<=1000 from om) (O.sift hΓ);have ρ:=zh (fun(k:Nat) (hk:k<ls.length)=>Am (ls k default) (by rw[aZ4,aZ3 hk];exact aY6 _));have Bk:=zh (O.sift hΓ);have Cc:=nP O;obtain⟨o,B,ι,rfl⟩:∃(o:OA) (B ι:Nat),lv=.slice o B ι:=by obtain⟨cs,⟨A,c,e,_⟩,_⟩:=Y;exact⟨_,_,_,e⟩
 obtain⟨m,X⟩:=xE ls.length;have S:=zh X;have Ca:B=m:=by obtain⟨cs,Ce,Cb,_⟩:=Y;rw[Ce.len,Cb,X]
 subst Ca;obtain⟨Cp,Cw,rfl,_⟩:=Ar;rw[ζ.len] at g|-;rw[<-X] at ρ Cc|-;clear Y O hΓ Am X ζ;have Cd:((n:Int) !=(n:Int))=false:=by simp
 go_enter func24,ntmps24;go_upto_region 1 with fail;obtain⟨w1,t2,L,M,N,Ah⟩:=aR w 37 [(n:aV),.slice o B ι];rw[L,M];have ω:=zh N;have μ:=zh Ah;clear L M N Ah;obtain⟨E,F,_,_⟩:=ω.two;go_wp2_with fail;refine(DN w1 n _ ls Γ (ψ.on μ) Ba G.out Af Ag).mono ?_;rintro e w2 ⟨rfl,r⟩;have ν:=zh (aC μ r);have Aa:=zh (ω.belowS r);clear r E F;obtain⟨E,F,_,_⟩:=Aa.two;go_wp2_with fail;refine(F1 w2 n _ p (g.below ν zr) T.out Af Ag).mono ?_;rintro e Ck ⟨rfl,s⟩;have ξ:=zh (aC ν s);have Ab:=zh (Aa.belowS s);clear s E F;obtain⟨E,F,_,_⟩:=Ab.two;go_wp2_with fail;refine(iH Ck _ p (g.below ξ zr)).mono ?_;rintro e κ ⟨Dc,rfl,Ao,t⟩;have Z:=zh (aC ξ t);have Ac:=zh (Ab.belowS t);have Bo:=zh (Ao.si (by rw[T.out.len];omega) (T.i64 om));clear t E F Ao Cd;obtain⟨E,F,_,_⟩:=Ac.two;go_wp2_with fail;clear E F;go_loopw [8,35] (fun v θ wr=>∃(k b:Nat) (q:LI),k<=B/\θ=(k:aV)/\Hid (SI wr v q)/\Hid (IsP n q)/\Hid (lR Γ n b (ls.drop k))/\Hid (Γ p↔Γ q)/\Hid (Γ q->dN b q)/\Hid (Below κ.heap.size κ wr)) (fun _ θ _=>B-(intOf θ).toNat)
 case atStart=>have Az:=zh (bE κ);exact⟨0,0,p,aZ5 _,rfl,Bo,T,aG (by rw[List.drop_zero];exact Bk.out),aG Iff.rfl,aG fun _ i hi=>aB hi (aY5 _),Az⟩
 case round=>
  obtain⟨k,b,q,hk,rfl,U,C,χ,Q,f,I⟩:=hrel;have Bq:=zh (Ac.belowS I);obtain⟨E,F,_,_⟩:=Bq.two;obtain⟨Cq,Cx,rfl,_⟩:=U.out;rw[C.out.len] at U|-;by_cases ε:k<B
  .obtain⟨Cs,ov,rv,rfl,Bv,Bw,Bx,At,Au⟩:=((ψ.on (aC Z I)).lev (k:=k) (by rw[<-S.out];exact ε)).2;have R:=zh (ρ k ε);have J:=zh (TX (by rw[<-S.out];exact ε) χ);generalize ls k default=l at*;have η:=R.pt;have Bm:=zh At;have Bn:=zh Au;obtain⟨Bt,Ci,rfl,_⟩:=At;obtain⟨Bu,Cj,rfl,_⟩:=Au;go_upto_region 12 with fail;obtain⟨P,Db,L,M,N,x⟩:=aR wr 120 [.int .i64 (l.pt:Int),.slice Bt l.orb.length Ci,.slice Bu l.reps.length Cj];rw[L,M];have π:=zh x;have Ae:=zh N;have σ:=zh (U.below x zr);clear L M N x Bv Bw Bx E F;obtain⟨Cy,y,rfl,W,Cu,Ad⟩:=σ.perm C.out η;obtain⟨x0,x1,x2,_,_,_⟩:=Ae.three;refine tc 9 x0 x1 W fun V=>?_;refine tq 0 ?_;refine tq 1 ?_;refine tq 2 ?_;refine tq 3 ?_;refine tq 4 ?_;refine tq 5 ?_;refine tq 6 ?_;try simp only[tz]
   refine tn 7 fun K hK=>?_;go_simp;refine(WV _ _ l.orb (y:Int) ((Bm.below π zr).below (aI P) zr)).mono ?_;rintro e Aw ⟨z,rfl,Av,rfl⟩;have Br:=zh Av;clear Av;refine hK.out _ _ (⟨x0,x1,W⟩) ?_;clear hK K V;intro V;try simp only[tz]
   refine tn 8 fun K hK=>?_;go_simp;refine hK.out _ _ V (fun Bz=>?_);clear hK K;clear Bz;refine tw ?_;try simp only[tz]
   clear V;have a:=zh (aC π (aI P));have Bs:=zh (Ae.belowS (aI P));have τ:=zh (σ.below (aI P) zr);generalize P.drew=Aw at*;rcases Br.out with⟨rfl,An⟩|⟨i,rfl,hi,Al⟩
   .have Bf : Hid (¬ Γ p) := aG fun h => by
     have hq:=Q.1 h;refine An ?_;rw[<-Ad.out];exact(J.2.2.1.mem _).2 ⟨q,hq,J.1 q hq (f hq),rfl⟩
    have Co:Hid (k≠ls.length):=aG (by rw[<-S.out];omega);clear An x0 x1 x2 W;go_wp2_with fail;go_ret3;refine⟨_,q,k,rfl,τ.out,C.out,⟨fun h=>aB h.1 ?_,fun h=>aB h Bf⟩,aC Z (aC I a)⟩;omega
   .have H:=zh (J.2.2.1.pick G η hi);have D:=zh (G.is _ H.1);have Bb:=zh Al;obtain⟨Da,Cr,Cz,rk,Cf,Aj,Bj,Bi⟩:=(Bn.below a zr).eltA (k:=i) (by rw[R.out.can.len];exact hi);subst Cf;have As:l.reps.length=l.orb.length:=R.can.len;have Ct:i<l.reps.length:=by rw[As];exact hi
    rw[Bi.out] at H D;have φ:=zh Bj.si;rw[D.out.len] at φ Aj;have Cv:¬(i:Int)<0:=om;have Cm:Hid (i<1000):=aG (by have:=R.ol;omega);clear Al hi As x0 x1 x2 W;obtain⟨x0,x1,x2,_,_,_⟩:=Bs.three;go_wp2_with fail;refine(DP Aw n _ rk φ D om).mono ?_;rintro e Cl ⟨Dd,rfl,Ap,δ⟩;have Ax:=zh (aC a δ);have Bp:=zh (Ap.si (by rw[D.out.inv.len];omega) (D.inv.i64 om));have Bg:=zh (τ.below δ zr);clear Ap δ x0 x1 x2 Aj;go_wp2_with fail;refine(nS Cl n _ _ q (bX rk) Bg Bp C D.inv om).mono ?_;rintro e Df ⟨De,rfl,Aq,Ai⟩;have Ay:=zh (aC I (aC Ax Ai));have j:=zh (C.then D.inv);have Bh:=zh (Aq.si (by rw[j.out.len];omega) (j.i64 om));have Bc:Hid (Γ p↔Γ (aL q (bX rk))):=aG (Q.trans ⟨fun h=>G.mul _ _ h (G.inv _ H.1),fun h=>by have:=G.mul _ _ h H.1;rwa[rL C.out D.out] at this⟩);have Be:Hid (Γ (aL q (bX rk))->dN (l.pt+1) (aL q (bX rk))):=aG fun h=>by
     have hq:Γ q:=by have:=G.mul _ _ h H.1;rwa[rL C.out D.out] at this
     exact JN C.out D.out η (J.1 q hq (f hq)) H.2.1 (by rw[H.out.2.2,Bb.out,Ad.out])
    have Bl:=zh J.2.2.2;clear Aq Ai;go_wp2_with fail;exact⟨⟨k+1,_,_,om,pC,Bh,j,Bl,Bc,Be,Ay⟩,oI⟩
  .obtain rfl:B=k:=om;have Bd:Hid ((B=B/\q=idP n)↔Γ p):=aG ⟨fun h=>Q.2 (by rw[h.2];exact G.one),fun h=>⟨rfl,by have hq:=Q.1 h;have Ak:=χ.out;rw[S.out,List.drop_length] at Ak;exact MK C (Ak q hq (f hq))⟩⟩;go_wp2_with fail
   go_quiet (fail)
   go_wp2_with fail;go_ret3;exact⟨_,q,B,rfl,U.below (aY _ _) zr,C.out,by have:=Bd.out;simpa using this,aC Z (aC I (aY _ _))⟩
theorem en(w:Wo)(n:Nat)(lv pv:Va)(ls:List LvP)(Γ:LI->Prop)(p:LI)(D:ChR w lv ls)(W:CanCh Γ n n ls)(hΓ:lQ n Γ)(x:1<=n)(y:n<=64)(a:SI w pv p)(f:IsP n p):
 Calls prog 10 #[.agg #[n,lv],pv] w (fun e w'=>∃b:Bool,e=.returned (.tuple #[.bool b,.int .i64 0])/\(b=true↔Γ p)/\Below w.heap.size w w'):=by
 have t:=zh (fun(w':Wo) (C:Below w.heap.size w w')=>YF w' n lv pv ls Γ p (D.on C) W hΓ x y (a.below C zr) f);obtain⟨F,B,M,rfl⟩:∃(F:OA) (B M:Nat),lv=.slice F B M:=by obtain⟨cs,⟨A,c,e,_⟩,_⟩:=D;exact⟨_,_,_,e⟩
 have P:Hid (B=ls.length):=aG (by obtain⟨cs,ε,δ,_⟩:=D;rw[ε.len,δ]);clear D W hΓ a f;go_enter func10,ntmps10;go_upto_region 1 with fail;obtain⟨w1,t2,S,T,C,U⟩:=aR w 37 [(n:aV),.slice F B M];rw[S,T];have R:=zh C;have N:=zh U;clear S T C U;obtain⟨G,H,_,_⟩:=R.two;go_wp2_with fail;refine(t.out w1 N).mono ?_;rintro e w2 ⟨u,q,d,rfl,i,L,Y,I⟩;have O:=zh (aC N I);have v:=zh (R.belowS I);have Q:=zh i;have r:=zh L;have E:=zh Y;obtain⟨η,θ,rfl,_⟩:=i;rw[L.len] at Q;clear I L Y G H;obtain⟨G,H,_,_⟩:=v.two;by_cases K:d=B
 .have X:((d:Int)==(B:Int))=true:=by rw[eD];omega
  have g:q.length=n:=r.len;rw[g];subst K;have z:((d:Int)==(d:Int))=true:=by simp
  clear g;go_wp2_with fail;refine(DO w2 n om).mono ?_;rintro e ζ ⟨ι,rfl,Z,J⟩;have j:=zh (aC O J);have l:=zh (Z.si (by rw[cK];omega) ((IsP.id n).i64 om));have o:=zh (Q.below J zr);clear Z J G H X z;go_wp2_with fail;refine(GY ζ _ _ q (idP n) o l).mono ?_;rintro e κ ⟨rfl,V⟩;have k:=zh (aC j V);have s:Hid (decide (q=idP n)=true↔Γ p):=aG (by rw[decide_eq_true_eq];exact⟨fun h=>E.1 ⟨P.out,h⟩,fun h=>(E.2 h).2⟩);generalize decide (q=idP n)=bb at*;clear V;go_wp2_with fail;go_ret2;exact⟨bb,rfl,s.out,k.out⟩
 .have X:((d:Int)==(B:Int))=false:=by rw[eA];omega
  have m:Hid (false=true↔Γ p):=aG ⟨fun h=>by simp at h,fun h=>aB ((E.2 h).1.trans P.symm) K⟩;clear K;go_wp2_with fail;go_ret2;exact⟨false,rfl,m.out,O.out⟩
