/- Parts. -/
import Derived.Test.YtnpfliklhbkonaaGreatDoorZA2
import Derived.Deep.RegionLaw
import Derived.Lib.Bytealg
import Derived.Laws.Externs
import Derived.Laws.EntriesVeiled
set_option maxRecDepth 99999
set_option maxHeartbeats 0
set_option linter.unusedSimpArgs false
set_option linter.unusedVariables false
namespace Go.Proofs.YtnpfliklhbkonaaGreatDoor
open Go.Proofs.Tryz
section
def Rng(p:Int)(c:LI):Prop:=∀k,0<=c k 0/\c k 0<p
theorem Rng.zero{p:Int}(A:2<=p)(n:Nat):Rng p (List.replicate n 0):=fun k=>by
 have:(List.replicate n (0:Int)).getD k 0=0:=by by_cases h:k<n<;>simp[List.getD,h]
 rw[this];omega
theorem mM(c:LI)(i k:Nat)(x:Int):(c.set i x).getD k 0=if i=k/\i<c then x else c k 0:=by
 by_cases e:i=k
 .subst e;by_cases h:i<c<;>simp[List.getD,h]
 .simp[List.getD,List.getElem?_set_ne e,e]
theorem Rng.set{p:Int}(A:2<=p){c:LI}(h:Rng p c)(i:Nat)(x:Int):Rng p (c.set i (x%p)):=fun k=>by
 rw[mM];split
 .exact⟨eN _ om,eM _ om⟩
 .exact h k
def tF(p:Int)(a b:LI)(i j:Nat)(c:LI):LI:=c.set (i+j) ((c (i+j) 0+a i 0*b j 0)%p)
def kC(p:Int)(a b:LI)(i:Nat):Nat->LI->LI
 |0,c=>c
 |j+1,c=>tF p a b i j (kC p a b i j c)
def conv(p:Int)(a b:LI)(N:Nat):Nat->LI
 |0=>List.replicate (2*N-1) 0
 |i+1=>kC p a b i N (conv p a b N i)
def uR(p:Int)(low:LI)(N i j:Nat)(c:LI):LI:=c.set (i-N+j) ((c (i-N+j) 0+(p-c i 0)*low j 0)%p)
def kL(p:Int)(low:LI)(N i:Nat):Nat->LI->LI
 |0,c=>c
 |j+1,c=>uR p low N i j (kL p low N i j c)
def lK(p:Int)(low:LI)(N:Nat)(c:LI):Nat->LI
 |0=>c
 |t+1=>kL p low N (2*N-2-t) N (lK p low N c t)
theorem oY(p:Int)(a b:LI)(i:Nat):∀j c,(kC p a b i j c).length=c.length
 |0,c=>rfl
 |j+1,c=>by rw[kC,tF,aZ9,oY p a b i j c]
theorem mL(p:Int)(a b:LI)(N:Nat):∀i,(conv p a b N i).length=2*N-1
 |0=>by simp[conv]
 |i+1=>by rw[conv,oY,mL p a b N i]
theorem rW(p:Int)(low:LI)(N i:Nat):∀j c,(kL p low N i j c).length=c.length
 |0,c=>rfl
 |j+1,c=>by rw[kL,uR,aZ9,rW p low N i j c]
theorem mB(p:Int)(low:LI)(N:Nat)(c:LI):∀t,(lK p low N c t).length=c.length
 |0=>rfl
 |t+1=>by rw[lK,rW,mB p low N c t]
theorem tE{p:Int}(A:2<=p)(a b:LI)(i:Nat):∀j c,Rng p c->Rng p (kC p a b i j c)
 |0,c,h=>h
 |j+1,c,h=>by rw[kC,tF];exact(tE A a b i j c h).set A _ _
theorem tG{p:Int}(A:2<=p)(a b:LI)(N:Nat):∀i,Rng p (conv p a b N i)
 |0=>Rng.zero A _
 |i+1=>by rw[conv];exact tE A a b i N _ (tG A a b N i)
theorem wQ{p:Int}(A:2<=p)(low:LI)(N i:Nat):∀j c,Rng p c->Rng p (kL p low N i j c)
 |0,c,h=>h
 |j+1,c,h=>by rw[kL,uR];exact(wQ A low N i j c h).set A _ _
theorem qT{p:Int}(A:2<=p)(low:LI)(N:Nat)(c:LI)(h:Rng p c):∀t,Rng p (lK p low N c t)
 |0=>h
 |t+1=>by rw[lK];exact wQ A low N _ N _ (qT A low N c h t)
theorem DV(p:Int)(low:LI){N i:Nat}(hi:N<=i):∀j c,j<=N->(kL p low N i j c).getD i 0=c i 0
 |0,c,_=>rfl
 |j+1,c,h=>by rw[kL,uR,mM,iN om];exact DV p low hi j c om
def pE(p:Int)(low a b:LI)(N:Nat):LI:=(lK p low N (conv p a b N N) (N-1)).take N
def iM(p:Int)(low:LI)(c:Int)(i:Nat):Nat->LI->LI
 |0,r=>r
 |j+1,r=>(iM p low c i j r).set (i-low.length+j) (((iM p low c i j r).getD (i-low.length+j) 0+(p-c)*low j 0)%p)
def gV(p:Int)(low r:LI):Nat->LI
 |0=>r
 |t+1=>(iM p low ((gV p low r t).getD (r.length-1-t) 0) (r.length-1-t) low (gV p low r t)).set (r.length-1-t) 0
def gM(p:Int)(low mod:LI):Bool:=(gV p low (mod++[1]) (mod.length+1-low.length)).all (·==0)
theorem oF(p:Int)(low:LI)(c:Int)(i:Nat):∀j r,(iM p low c i j r).length=r.length
 |0,r=>rfl
 |j+1,r=>by rw[iM,aZ9,oF p low c i j r]
theorem qF(p:Int)(low r:LI):∀t,(gV p low r t).length=r.length
 |0=>rfl
 |t+1=>by rw[gV,aZ9,oF,qF p low r t]
theorem vX{p:Int}(A:2<=p)(low:LI)(c:Int)(i:Nat):∀j r,Rng p r->Rng p (iM p low c i j r)
 |0,r,h=>h
 |j+1,r,h=>by rw[iM];exact(vX A low c i j r h).set A _ _
theorem Rng.set0{p:Int}(A:2<=p){c:LI}(h:Rng p c)(i:Nat):Rng p (c.set i 0):=by have:=h.set A i 0;rwa[Int.zero_emod] at this
theorem zF{p:Int}(A:2<=p)(low r:LI)(h:Rng p r):∀t,Rng p (gV p low r t)
 |0=>h
 |t+1=>by rw[gV];exact(vX A low _ _ _ _ (zF A low r h t)).set0 A _
def oP(p:Int)(mod:LI)(d v:Nat):Bool:=(List.range v).all fun x=>!gM p (bU x p d) mod
def sJ(p:Int)(mod:LI)(d:Nat):Bool:=(List.range d).all fun e=>oP p mod (e+1) (p^(e+1)).toNat
def xZ(p:Int)(mod:LI):Bool:=sJ p mod (mod.length/2)
theorem KQ(p:Int)(mod:LI)(d v:Nat):oP p mod d (v+1)=(oP p mod d v&&!gM p (bU v p d) mod):=by unfold oP;rw[List.range_succ,List.all_append];simp
theorem MX(p:Int)(mod:LI)(d:Nat):sJ p mod (d+1)=(sJ p mod d&&oP p mod (d+1) (p^(d+1)).toNat):=by unfold sJ;rw[List.range_succ,List.all_append];simp
theorem yO{p:Int}{mod:LI}{d v n:Nat}(A:v<n)(h:gM p (bU v p d) mod=true):oP p mod d n=false:=by unfold oP;rw[List.all_eq_false];exact⟨v,List.mem_range.2 A,by simp[h]⟩
theorem AN{p:Int}{mod:LI}{d n:Nat}(A:d<n)(h:oP p mod (d+1) (p^(d+1)).toNat=false):sJ p mod n=false:=by unfold sJ;rw[List.all_eq_false];exact⟨d,List.mem_range.2 A,by simp[h]⟩
def zV(N:Nat)(out:LI):LI:=(List.range N).map fun j=>if j=0 then 0 else out (j-1) 0
def mS(p:Int)(low a out:LI)(N:Nat)(b:Int)(j:Nat):Int:=
 ((if j=0 then 0 else out (j-1) 0)+(p-out (N-1) 0)*low j 0+b*a j 0)%p
def pG(p:Int)(low a out:LI)(N:Nat)(b:Int)(k:Nat):LI:=
 (List.range N).map fun j=>if j<k then mS p low a out N b j else if j=0 then 0 else out (j-1) 0
def mH(p:Int)(low a out:LI)(N:Nat)(b:Int):LI:=(List.range N).map fun j=>mS p low a out N b j
def iE(p:Int)(low a:LI)(N:Nat):LI->LI
 |[]=>List.replicate N 0
 |b::r=>mH p low a (iE p low a N r) N b
theorem NB(p:Int)(low a out:LI)(N:Nat)(b:Int):pG p low a out N b 0=zV N out:=by simp[pG,zV]
theorem M8(p:Int)(low a out:LI)(N:Nat)(b:Int):pG p low a out N b N=mH p low a out N b:=by unfold pG mH;exact List.map_congr_left fun j A=>by rw[iP (by simpa using A)]
theorem SP(p:Int)(low a out:LI)(N:Nat)(b:Int)(k:Nat):(pG p low a out N b k).length=N:=by simp[pG]
theorem AQ(p:Int)(low a out:LI)(N:Nat)(b:Int):(mH p low a out N b).length=N:=by simp[mH]
theorem qN(p:Int)(low a:LI)(N:Nat):∀b,(iE p low a N b).length=N
 |[]=>by simp[iE]
 |b::r=>by rw[iE,AQ]
theorem M9{p:Int}{low a out:LI}{N:Nat}{b:Int}{k:Nat}(hk:k<N):(pG p low a out N b k).getD k 0=if k=0 then 0 else out (k-1) 0:=by simp[pG,List.getD,hk]
theorem SQ{p:Int}{low a out:LI}{N:Nat}{b:Int}{k:Nat}(hk:k<N):(pG p low a out N b k).set k (mS p low a out N b k)=pG p low a out N b (k+1):=by
 apply List.ext_getElem?;intro i;by_cases hi:i<N
 .by_cases e:k=i
  .subst e;simp[pG,hi]
  .have A:(i<k+1)=(i<k):=by simp;omega
   simp[pG,List.getElem?_set,e,hi,A]
 .simp[pG,List.getElem?_set,hi]
theorem wK{p:Int}{low a:LI}{N:Nat}(A:2<=p):∀(b:LI) (j:Nat),0<=(iE p low a N b).getD j 0/\(iE p low a N b).getD j 0<p
 |[],j=>by
  rw[iE];have:(List.replicate N (0:Int)).getD j 0=0:=by by_cases h:j<N<;>simp[List.getD,h]
  rw[this];omega
 |b::r,j=>by
  rw[iE];by_cases h:j<N
  .have:(mH p low a (iE p low a N r) N b).getD j 0=mS p low a (iE p low a N r) N b j:=by simp[mH,List.getD,h]
   rw[this];exact⟨eN _ om,eM _ om⟩
  .rw[aZ4,aY4 (by rw[AQ];omega)];simp;omega
def nK(M:Int)(Mq:LI):LI:=if 1<M then Mq else[]
def IB(P M:Int)(Mq:LI)(x y:Int):Int:=bL P (iE P (nK M Mq) (bU x P M.toNat) M.toNat (bU y P M.toNat))
theorem SN{p:Int}{low a d:LI}{N i:Nat}(h:i<d):iE p low a N (d.drop i)=mH p low a (iE p low a N (d.drop (i+1))) N (d i 0):=by rw[tH h];rfl
theorem GW{p s B A b a:Int}(K:2<=p)(J:p<=256)(L:0<=s/\s<p)(M:0<=B/\B<p)(I:0<=A/\A<p)(H:0<=b/\b<p)(G:0<=a/\a<p):
 0<=(p-B)*A/\(p-B)*A<=65536/\0<=b*a/\b*a<=65536:=by
 have C:0<=(p-B)*A:=Int.mul_nonneg om om;have D:(p-B)*A<=256*256:=Int.mul_le_mul om om om om;have E:0<=b*a:=Int.mul_nonneg om om;have F:b*a<=256*256:=Int.mul_le_mul om om om om;omega
def bJ(f:Nat->Int):Nat->Int
 |0=>0
 |n+1=>bJ f n+f n
theorem bF{f g:Nat->Int}:∀{n:Nat},(∀i,i<n->f i=g i)->bJ f n=bJ g n
 |0,_=>rfl
 |n+1,h=>by rw[bJ,bJ,bF fun i hi=>h i om,h n om]
theorem jX(f g:Nat->Int):∀n,bJ (fun i=>f i+g i) n=bJ f n+bJ g n
 |0=>rfl
 |n+1=>by rw[bJ,bJ,bJ,jX f g n];omega
theorem gO(c:Int)(f:Nat->Int):∀n,c*bJ f n=bJ (fun i=>c*f i) n
 |0=>Int.mul_zero c
 |n+1=>by rw[bJ,bJ,Int.mul_add,gO c f n]
theorem kR{f:Nat->Int}:∀{n:Nat},(∀i,i<n->f i=0)->bJ f n=0
 |0,_=>rfl
 |n+1,h=>by rw[bJ,kR fun i hi=>h i om,h n om];rfl
theorem gI{f:Nat->Int}{k:Nat}:∀{n:Nat},k<n->(∀i,i<n->i≠k->f i=0)->bJ f n=f k
 |0,h,_=>aB h om
 |n+1,h,h0=>by
  rw[bJ];by_cases e:k=n
  .subst e;rw[kR fun i hi=>h0 i om om];omega
  .rw[gI (k:=k) om fun i hi=>h0 i om,h0 n om (fun h=>e h.symm)];omega
theorem uV(f:Nat->Nat->Int)(m:Nat):∀n,bJ (fun i=>bJ (fun j=>f i j) m) n=bJ (fun j=>bJ (fun i=>f i j) n) m
 |0=>(kR fun _ _=>rfl).symm
 |n+1=>by rw[bJ,uV f m n,<-jX];exact bF fun j _=>rfl
theorem D8{f:Nat->Int}{n m:Nat}(h:n<=m)(A:∀i,n<=i->i<m->f i=0):bJ f m=bJ f n:=by
 induction m with
 | zero => obtain rfl : n = 0 := by omega
           rfl
 |succ m ih=>
   by_cases e:n=m+1
   . rw[e]
   . rw[bJ,A m om om,ih om fun i B C=>A i B om];omega
theorem sD(f:Nat->Int):∀n,bJ f (n+1)=f 0+bJ (fun i=>f (i+1)) n
 |0=>by simp[bJ]
 |n+1=>by rw[bJ,sD f n,bJ];omega
structure Lin(L:(Nat->Int)->Nat->Int):Prop where
 add:∀a b,L (fun i=>a i+b i)=fun i=>L a i+L b i
 smul:∀c a,L (fun i=>c*a i)=fun i=>c*L a i
theorem Lin.zero{L:(Nat->Int)->Nat->Int}(h:Lin L):L (fun _=>0)=fun _=>0:=by have:=h.smul 0 (fun _=>0);simpa using this
theorem Lin.sum{L:(Nat->Int)->Nat->Int}(h:Lin L)(f:Nat->Int)(v:Nat->Nat->Int):∀n,L (fun j=>bJ (fun i=>f i*v i j) n)=fun j=>bJ (fun i=>f i*L (v i) j) n
 |0=>h.zero
 |n+1=>by have e:(fun j=>bJ (fun i=>f i*v i j) (n+1))=fun j=>(fun j=>bJ (fun i=>f i*v i j) n) j+(fun j=>f n*v n j) j:=rfl;rw[e,h.add,h.sum f v n,h.smul];rfl
theorem Lin.comp{L K:(Nat->Int)->Nat->Int}(h:Lin L)(k:Lin K):Lin fun a=>L (K a):=
 ⟨fun a b=>by rw[k.add,h.add],fun c a=>by rw[k.smul,h.smul]⟩
theorem Lin.id:Lin fun a=>a:=⟨fun _ _=>rfl,fun _ _=>rfl⟩
def Cg(p:Int)(a b:Nat->Int):Prop:=∀j,a j%p=b j%p
theorem Cg.refl(p:Int)(a:Nat->Int):Cg p a a:=fun _=>rfl
theorem Cg.symm{p:Int}{a b:Nat->Int}(h:Cg p a b):Cg p b a:=fun j=>(h j).symm
theorem Cg.trans{p:Int}{a b c:Nat->Int}(h:Cg p a b)(k:Cg p b c):Cg p a c:=fun j=>(h j).trans (k j)
theorem RD{p x y:Int}(h:x%p=y%p):x=y+p*((x-y)/p):=by have A:(x-y)%p=0:=Int.emod_eq_emod_iff_emod_sub_eq_zero.1 h;have B:=Int.emod_add_mul_ediv (x-y) p;omega
theorem Cg.lin{p:Int}{L:(Nat->Int)->Nat->Int}(A:Lin L){a b:Nat->Int}(h:Cg p a b):Cg p (L a) (L b):=by have e:a=fun j=>b j+p*((a j-b j)/p):=funext fun j=>RD (h j);rw[e,A.add b (fun j=>p*((a j-b j)/p)),A.smul p fun j=>(a j-b j)/p];intro j;exact Int.add_mul_emod_self_left _ _ _
theorem Cg.add{p:Int}{a b c d:Nat->Int}(h:Cg p a b)(k:Cg p c d):Cg p (fun j=>a j+c j) (fun j=>b j+d j):=fun j=>by show(a j+c j)%p=(b j+d j)%p;rw[Int.add_emod,h j,k j,<-Int.add_emod]
theorem Cg.smul{p c d:Int}(e:c%p=d%p){a b:Nat->Int}(h:Cg p a b):Cg p (fun j=>c*a j) (fun j=>d*b j):=fun j=>by show(c*a j)%p=(d*b j)%p;rw[Int.mul_emod,e,h j,<-Int.mul_emod]
theorem Cg.sum{p:Int}{f g:Nat->Int}{v u:Nat->Nat->Int}:∀{n:Nat},(∀i,i<n->f i%p=g i%p)->(∀i,i<n->Cg p (v i) (u i))->Cg p (fun j=>bJ (fun i=>f i*v i j) n) (fun j=>bJ (fun i=>g i*u i j) n)
 |0,_,_=>Cg.refl _ _
 |n+1,h,k=>(Cg.sum (fun i hi=>h i om) fun i hi=>k i om).add (Cg.smul (h n om) (k n om))
section
variable (l:Nat->Int) (N:Nat)
def tX(a:Nat->Int):Nat->Int:=fun i=>if i<N then(if i=0 then 0 else a (i-1))-a (N-1)*l i else 0
def tP:Nat->(Nat->Int)->Nat->Int
 |0,a=>a
 |k+1,a=>tX l N (tP k a)
def bD(f:Nat->Int)(n:Nat)(a:Nat->Int):Nat->Int:=fun j=>bJ (fun i=>f i*tP l N i a j) n
def aN(k:Nat):Nat->Int:=fun j=>if j=k then 1 else 0
def gN(a b:Nat->Int):Nat->Int:=bD l N b N a
def Sup(a:Nat->Int):Prop:=∀j,N<=j->a j=0
theorem wT:Lin (tX l N):=
 ⟨fun a b=>funext fun i=>by
  unfold tX;by_cases h:i<N
  .simp only[iP h];by_cases A:i=0
   .simp only[iP A,Int.add_mul];omega
   .simp only[iN A,Int.add_mul];omega
  .simp only[iN h];rfl,
  fun c a=>funext fun i=>by
   unfold tX;by_cases h:i<N
   .simp only[iP h];by_cases A:i=0
    .simp only[iP A,Int.mul_sub,aY8,Int.mul_zero]
    .simp only[iN A,Int.mul_sub,aY8]
   .simp only[iN h,Int.mul_zero]⟩
theorem sF:∀k,Lin (tP l N k)
 |0=>Lin.id
 |k+1=>(wT l N).comp (sF k)
theorem pZ(a:Nat->Int)(j:Nat):∀i,tP l N i (tP l N j a)=tP l N (i+j) a
 |0=>by rw[Nat.zero_add];rfl
 |i+1=>by rw[tP,pZ a j i,show i+1+j=(i+j)+1 from om];rfl
theorem qB(f:Nat->Int)(n:Nat):Lin (bD l N f n):=
 ⟨fun a b=>funext fun j=>by
  unfold bD;rw[<-jX];exact bF fun i _=>by rw[(sF l N i).add];exact Int.mul_add _ _ _,
  fun c a=>funext fun j=>by unfold bD;rw[gO];exact bF fun i _=>by rw[(sF l N i).smul];show f i*(c*_)=c*(f i*_);rw[<-aY8,Int.mul_comm (f i) c,aY8]⟩
theorem Y9(a:Nat->Int):Sup N (tX l N a):=fun j A=>by unfold tX;rw[iN om]
theorem IX{a:Nat->Int}(h:Sup N a):∀k,Sup N (tP l N k a)
 |0=>h
 |k+1=>Y9 l N _
theorem BT{a:Nat->Int}(h:Sup N a)(f:Nat->Int)(n:Nat):Sup N (bD l N f n a):=fun j A=>by unfold bD;exact kR fun i _=>by rw[IX l N h i j A,Int.mul_zero]
theorem sE(f:Nat->Int)(n k:Nat)(a:Nat->Int):tP l N k (bD l N f n a)=bD l N f n (tP l N k a):=by unfold bD;rw[(sF l N k).sum f (fun i=>tP l N i a) n];funext j;exact bF fun i _=>by rw[pZ,pZ,Nat.add_comm]
theorem yZ(f g:Nat->Int)(n m:Nat)(a:Nat->Int):bD l N f n (bD l N g m a)=bD l N g m (bD l N f n a):=by
 funext j;have A:bD l N f n (bD l N g m a) j=bJ (fun i=>bJ (fun k=>f i*(g k*tP l N (i+k) a j)) m) n:=by show bJ (fun i=>f i*tP l N i (bD l N g m a) j) n=_;refine bF fun i _=>?_;rw[sE];show f i*bJ (fun k=>g k*tP l N k (tP l N i a) j) m=_;rw[gO];exact bF fun k _=>by rw[pZ,Nat.add_comm]
 have B:bD l N g m (bD l N f n a) j=bJ (fun k=>bJ (fun i=>f i*(g k*tP l N (i+k) a j)) n) m:=by show bJ (fun k=>g k*tP l N k (bD l N f n a) j) m=_;refine bF fun k _=>?_;rw[sE];show g k*bJ (fun i=>f i*tP l N i (tP l N k a) j) n=_;rw[gO];refine bF fun i _=>?_;rw[pZ,<-aY8,Int.mul_comm (g k),aY8]
 rw[A,B,uV]
theorem nN:∀k,k<N->tP l N k (aN 0)=aN k
 |0,_=>rfl
 |k+1,h=>by
  rw[tP,nN k om];funext i;unfold tX aN;by_cases hi:i<N
  .rw[iP hi,iN (show ¬N-1=k from om)];by_cases A:i=0
   .rw[iP A,iN om];omega
   .rw[iN A];by_cases e:i=k+1
    .rw[iP om,iP e];omega
    .rw[iN om,iN e];omega
  .rw[iN hi,iN om]
theorem uE{k:Nat}(h:k<N):Sup N (aN k):=fun j A=>by unfold aN;rw[iN om]
theorem nO{a:Nat->Int}(h:Sup N a):bD l N a N (aN 0)=a:=by
 funext j;unfold bD;by_cases A:j<N
 .rw[gI (k:=j) A fun i hi B=>by rw[nN l N i hi];unfold aN;rw[iN (fun e=>B e.symm)];exact Int.mul_zero _];rw[nN l N j A];unfold aN;rw[iP rfl,Int.mul_one]
 .rw[h j om];exact kR fun i hi=>by rw[nN l N i hi];unfold aN;rw[iN om];exact Int.mul_zero _
theorem jF{a b:Nat->Int}(C:Sup N a)(D:Sup N b):gN l N a b=gN l N b a:=by
 have A:gN l N a b=bD l N b N (bD l N a N (aN 0)):=by unfold gN;rw[nO l N C]
 have B:gN l N b a=bD l N a N (bD l N b N (aN 0)):=by unfold gN;rw[nO l N D]
 rw[A,B,yZ]
theorem DG{a:Nat->Int}(A:Sup N a)(b:Nat->Int):Sup N (gN l N a b):=BT l N A b N
theorem DF{a b c:Nat->Int}(A:Sup N a)(B:Sup N b)(C:Sup N c):gN l N (gN l N a b) c=gN l N a (gN l N b c):=by rw[jF l N A (DG l N B c)];show bD l N c N (bD l N b N a)=bD l N a N (bD l N c N b);rw[yZ l N a c];congr 1;exact jF l N A B
theorem XJ(a b c:Nat->Int):gN l N a (fun i=>b i+c i)=fun i=>gN l N a b i+gN l N a c i:=by funext j;show bJ (fun i=>(b i+c i)*_) N=bJ (fun i=>b i*_) N+bJ (fun i=>c i*_) N;rw[<-jX];exact bF fun i _=>Int.add_mul _ _ _
theorem KP{a:Nat->Int}(A:0<N):gN l N a (aN 0)=a:=by funext j;show bJ (fun i=>aN 0 i*tP l N i a j) N=a j;rw[gI (k:=0) A fun i _ B=>by unfold aN;rw[iN B,Int.zero_mul]];unfold aN;rw[iP rfl,Int.one_mul];rfl
theorem yK{p:Int}{a b c d:Nat->Int}(h:Cg p a b)(k:∀j,c j%p=d j%p):Cg p (gN l N a c) (gN l N b d):=fun j=>by refine(Cg.sum (v:=fun i=>tP l N i a) (u:=fun i=>tP l N i b) (fun i _=>k i) (fun i _=>h.lin (sF l N i))) j
theorem N3(B:0<N):tP l N N (aN 0)=fun j=>if j<N then-l j else 0:=by
 obtain⟨n,rfl⟩:∃n,N=n+1:=⟨N-1,om⟩
 show tX l (n+1) (tP l (n+1) n (aN 0))=_;rw[nN l (n+1) n om];funext i;unfold tX aN;by_cases hi:i<n+1
 .rw[iP hi,iP hi,iP (show n+1-1=n from om)];by_cases A:i=0
  .rw[iP A];omega
  .rw[iN A,iN om];omega
 .rw[iN hi,iN hi]
end
def fn(c:LI):Nat->Int:=fun i=>c i 0
section
variable (l:Nat->Int) (N:Nat)
def kA(c:LI)(n:Nat):Nat->Int:=bD l N (fn c) n (aN 0)
theorem ZF{c:LI}{k:Nat}(hk:k<c)(x:Int){n:Nat}(B:k<n):kA l N (c.set k x) n=fun j=>kA l N c n j+(x-fn c k)*tP l N k (aN 0) j:=by
 funext j;have e:∀i,fn (c.set k x) i*tP l N i (aN 0) j=fn c i*tP l N i (aN 0) j+(if i=k then(x-fn c k)*tP l N k (aN 0) j else 0):=fun i=>by
  unfold fn;rw[mM];by_cases h:k=i
  .subst h;rw[iP ⟨rfl,hk⟩,iP rfl,Int.sub_mul];omega
  .rw[iN (fun A=>h A.1),iN (fun A=>h A.symm)];omega
 show bJ (fun i=>fn (c.set k x) i*tP l N i (aN 0) j) n=bJ (fun i=>fn c i*tP l N i (aN 0) j) n+_;rw[bF fun i _=>e i,jX];congr 1;rw[gI (k:=k) B fun i _ C=>iN C,iP rfl]
theorem sG{p:Int}{c:LI}{k:Nat}(hk:k<c)(y:Int){n:Nat}(A:k<n):Cg p (kA l N (c.set k ((fn c k+y)%p)) n) (fun j=>kA l N c n j+y*tP l N k (aN 0) j):=by rw[ZF l N hk _ A];refine Cg.add (Cg.refl _ _) (Cg.smul ?_ (Cg.refl _ _));rw[Int.emod_sub_emod];congr 1;omega
theorem AD{p:Int}(a b:LI){i:Nat}{n:Nat}:∀J (c:LI),i+J<=c.length->i+J<=n->Cg p (kA l N (kC p a b i J c) n) (fun j=>kA l N c n j+fn a i*bD l N (fn b) J (tP l N i (aN 0)) j)
 |0,c,_,_=>fun j=>by show _=(kA l N c n j+fn a i*0)%p;rw[Int.mul_zero,Int.add_zero];rfl
 |J+1,c,h1,h2=>by
  have A:=AD (p:=p) (i:=i) (n:=n) a b J c om om;rw[kC,tF];refine(sG l N (k:=i+J) (by rw[oY];omega) _ om).trans ?_;refine(A.add (Cg.refl p _)).trans fun j=>?_;dsimp only;congr 1;have e:bD l N (fn b) (J+1) (tP l N i (aN 0)) j=bD l N (fn b) J (tP l N i (aN 0)) j+fn b J*tP l N (i+J) (aN 0) j:=by show _+fn b J*tP l N J (tP l N i (aN 0)) j=_;rw[pZ,Nat.add_comm J i];rfl
  rw[e,Int.mul_add,<-aY8];show _+fn a i*fn b J*_=_;omega
theorem JH{p:Int}(a b:LI){M:Nat}(A:0<M):∀I,I<=M->Cg p (kA l N (conv p a b M I) (2*M-1)) (bD l N (fn a) I (bD l N (fn b) M (aN 0)))
 |0,_=>fun j=>by
  have e:kA l N (conv p a b M 0) (2*M-1) j=0:=kR fun i _=>by
   have:fn (conv p a b M 0) i=0:=by show(List.replicate (2*M-1) (0:Int)).getD i 0=0;by_cases h:i<2*M-1<;>simp[List.getD,h]
   rw[this,Int.zero_mul]
  rw[e];rfl
 |I+1,h=>by have B:=JH (p:=p) a b A I om;rw[conv];refine(AD l N a b M _ (by rw[mL];omega) om).trans ?_;refine(B.add (Cg.refl p _)).trans fun j=>?_;dsimp only;congr 1;show _=bD l N (fn a) I (bD l N (fn b) M (aN 0)) j+fn a I*tP l N I (bD l N (fn b) M (aN 0)) j;rw[sE]
end
section
variable {p:Int} {low:LI} {N:Nat}
theorem DW{i n:Nat}(hi:N<=i)(hn:n<=i):∀J (c:LI),J<=N->i<c.length->i-N+J<=n->
 Cg p (kA (fn low) N (kL p low N i J c) n) (fun j=>kA (fn low) N c n j+(-fn c i)*bD (fn low) N (fn low) J (tP (fn low) N (i-N) (aN 0)) j)
 |0,c,_,_,_=>fun j=>by show _=(kA (fn low) N c n j+(-fn c i)*0)%p;rw[Int.mul_zero,Int.add_zero];rfl
 |J+1,c,hJ,hl,hb=>by
  have B:=DW hi hn J c om hl om;rw[kL,uR];refine(sG (fn low) N (k:=i-N+J) (by rw[rW];omega) _ om).trans ?_;refine(B.add (Cg.refl p _)).trans fun j=>?_;dsimp only;rw[DV p low hi J c om];have e:bD (fn low) N (fn low) (J+1) (tP (fn low) N (i-N) (aN 0)) j=bD (fn low) N (fn low) J (tP (fn low) N (i-N) (aN 0)) j+fn low J*tP (fn low) N (i-N+J) (aN 0) j:=by show _+fn low J*tP (fn low) N J (tP (fn low) N (i-N) (aN 0)) j=_;rw[pZ,Nat.add_comm J];rfl
  rw[e,Int.mul_add];generalize bD (fn low) N (fn low) J (tP (fn low) N (i-N) (aN 0)) j=A;show(_+(p-fn c i)*fn low J*_)%p=_;generalize tP (fn low) N (i-N+J) (aN 0) j=t;rw[Int.sub_mul,Int.sub_mul,aY8 p,Int.neg_mul,Int.neg_mul,aY8 (fn c i)];generalize kA (fn low) N c n j=V;generalize fn c i*A=X;generalize fn c i*(fn low J*t)=Y;rw[show V+ -X+(p*(fn low J*t)-Y)=(V+(-X+ -Y))+p*(fn low J*t) from om];exact Int.add_mul_emod_self_left _ _ _
theorem NR{i:Nat}(D:0<N)(hi:N<=i){c:LI}(E:i<c)(A:Sup N (fn low)):Cg p (kA (fn low) N (kL p low N i N c) i) (kA (fn low) N c (i+1)):=by
 refine(DW (n:=i) hi zr N c zr E om).trans fun j=>?_;dsimp only;congr 1;show _=kA (fn low) N c i j+fn c i*tP (fn low) N i (aN 0) j;congr 1;have B:bD (fn low) N (fn low) N (tP (fn low) N (i-N) (aN 0))=tP (fn low) N (i-N) (fn low):=by rw[<-sE,nO _ _ A]
 have C:tP (fn low) N i (aN 0)=fun j=>(-1)*tP (fn low) N (i-N) (fn low) j:=by
  rw[show tP (fn low) N i (aN 0)=tP (fn low) N (i-N) (tP (fn low) N N (aN 0)) by rw[pZ];congr 1;omega,N3 _ _ D,<-(sF (fn low) N (i-N)).smul];congr 1;funext j;by_cases h:j<N
  .rw[iP h];omega
  .rw[iN h,A j om];rfl
 rw[B,C];dsimp only;rw[Int.neg_mul,Int.neg_mul,Int.one_mul,Int.mul_neg]
theorem F7(A:0<N)(B:Sup N (fn low)){c:LI}(C:c.length=2*N-1):∀t,t<=N-1->Cg p (kA (fn low) N (lK p low N c t) (2*N-1-t)) (kA (fn low) N c (2*N-1))
 |0,_=>Cg.refl _ _
 |t+1,ht=>by have D:=F7 A B C t om;rw[lK,show 2*N-1-(t+1)=2*N-2-t from om];refine(NR A om (by rw[mB];omega) B).trans ?_;rw[show 2*N-2-t+1=2*N-1-t from om];exact D
theorem FSq(F:2<=p)(D:0<N)(L:Sup N (fn low)){a b:LI}(K:Sup N (fn a))(E:Sup N (fn b)){j:Nat}(B:j<N):(pE p low a b N).getD j 0=gN (fn low) N (fn a) (fn b) j%p:=by
 have C:=F7 (p:=p) D L (mL p a b N N) (N-1) zr;have H:=JH (fn low) N (p:=p) a b D N zr;rw[show 2*N-1-(N-1)=N from om] at C;have I:=C.trans H;have G:=qT F low N _ (tG F a b N N) (N-1);have e:fn (pE p low a b N) j=fn (lK p low N (conv p a b N N) (N-1)) j:=by unfold fn pE;simp[List.getD,List.getElem?_take,B]
 have A:=I j;rw[nO _ _ E,show bD (fn low) N (fn a) N (fn b)=gN (fn low) N (fn b) (fn a) from rfl,jF _ _ E K] at A;have J:kA (fn low) N (lK p low N (conv p a b N N) (N-1)) N j=fn (lK p low N (conv p a b N N) (N-1)) j:=by show bD _ _ _ _ _ j=_;unfold bD;rw[gI (k:=j) B fun i hi M=>by rw[nN _ N i hi];unfold aN;rw[iN (fun e=>M e.symm)];exact Int.mul_zero _];rw[nN _ N j B];unfold aN;rw[iP rfl,Int.mul_one]
 rw[J] at A;show fn _ j=_;rw[e,<-A];exact(Int.emod_eq_of_lt (G j).1 (G j).2).symm
theorem KM(I:0<N){a:LI}(E:Sup N (fn a)):∀b:LI,Cg p (fn (iE p low a N b)) (bD (fn low) N (fn b) b (fn a))
 |[]=>fun j=>by
  have:fn (iE p low a N []) j=0:=by show(List.replicate N (0:Int)).getD j 0=0;by_cases h:j<N<;>simp[List.getD,h]
  rw[this];rfl
 |x::b=>by
  have L:=KM I E b;have K:=L.lin (wT (fn low) N);intro j;have e:bD (fn low) N (fn (x::b)) (x::b).length (fn a) j=tX (fn low) N (bD (fn low) N (fn b) b (fn a)) j+x*fn a j:=by
   show bJ (fun i=>fn (x::b) i*tP (fn low) N i (fn a) j) (b.length+1)=_;rw[sD];have G:fn (x::b) 0*tP (fn low) N 0 (fn a) j=x*fn a j:=rfl;have H:tX (fn low) N (bD (fn low) N (fn b) b (fn a)) j=bJ (fun i=>fn (x::b) (i+1)*tP (fn low) N (i+1) (fn a) j) b.length:=by unfold bD;rw[(wT (fn low) N).sum (fn b) (fun i=>tP (fn low) N i (fn a)) b];exact bF fun i _=>rfl
   rw[G,H];omega
  rw[e];by_cases F:j<N
  .have D:fn (iE p low a N (x::b)) j=mS p low a (iE p low a N b) N x j:=by
    show(mH p low a (iE p low a N b) N x).getD j 0=_;simp[mH,List.getD,F]
   have J:=K j;rw[D];unfold mS;rw[Int.emod_emod_of_dvd _ (Int.dvd_refl p)];show _=(_+x*fn a j)%p;rw[Int.add_emod (tX (fn low) N (bD (fn low) N (fn b) b (fn a)) j),<-J,<-Int.add_emod];unfold tX;rw[iP F];show((if j=0 then 0 else fn (iE p low a N b) (j-1))+(p-fn (iE p low a N b) (N-1))*fn low j+x*fn a j)%p=_;rw[Int.sub_mul];generalize (if j=0 then(0:Int) else fn (iE p low a N b) (j-1))=A;generalize fn (iE p low a N b) (N-1)*fn low j=B;generalize x*fn a j=C;rw[show A+(p*fn low j-B)+C=(A-B+C)+p*fn low j from om];exact Int.add_mul_emod_self_left _ _ _
  .have D:fn (iE p low a N (x::b)) j=0:=bG (by rw[qN];omega);rw[D,show tX (fn low) N (bD (fn low) N (fn b) b (fn a)) j=0 from Y9 _ _ _ j om,E j om,Int.mul_zero];rfl
end
theorem TE{p:Int}(D:nD p){c:Int}(L:c%p≠0):∃c',(c'*c)%p=1:=by
 have N:=D.1
 --the least positive residue of a multiple of c
 have key:∀n:Nat,∀r:Int,r.toNat<=n->0<r->r<p->(∃k,(k*c)%p=r)->∃c',(c'*c)%p=1:=by
  intro n
  induction n with
  |zero=>intro r C A _ _;omega
  |succ n ih=>
   intro r C A H ⟨k,hk⟩;by_cases e:r=1
   .exact⟨k,by rw[hk,e]⟩
   .have M:=D.2 r om H;have I:=eN p (show r≠0 from om);have K:=eM p A;refine ih (p%r) om om om ⟨-(k*(p/r)),?_⟩;have J:=Int.emod_add_mul_ediv p r;have B:=Int.emod_add_mul_ediv (k*c) p;rw[hk] at B;have E: -(k*(p/r))*c=p%r+p*(-(1:Int)-(k*c/p)*(p/r)):=by
     have F:k*(p/r)*c=(p/r)*(k*c):=by rw[Int.mul_comm k,aY8]
     rw[Int.neg_mul,F];generalize p/r=s at*;generalize k*c/p=t at*;rw[<-B,Int.mul_add,Int.mul_sub,Int.mul_comm s r,Int.mul_neg,Int.mul_one];have G:s*(p*t)=p*(t*s):=by rw[<-aY8,Int.mul_comm s p,aY8,Int.mul_comm s t]
     rw[G];omega
    rw[E,Int.add_mul_emod_self_left];exact Int.emod_eq_of_lt I om
 have C:=eN c (show p≠0 from om);have A:=eM c (show 0<p from om);exact key _ (c%p) zr om A ⟨1,by rw[Int.one_mul]⟩
def fG:Nat->Int:=fun _=>0
section
variable {p:Int} {l:Nat->Int} {N:Nat}
def vD(p:Int)(l:Nat->Int)(N:Nat)(f:Nat->Int)(n:Nat)(b:Nat->Int):Prop:=Cg p (bD l N f n b) fG
theorem FJ{f:Nat->Int}{b:Nat->Int}{n m:Nat}(h:n<=m)(A:∀i,n<=i->i<m->f i%p=0):Cg p (bD l N f m b) (bD l N f n b):=by
 induction m with
 | zero => obtain rfl : n = 0 := by omega
           exact Cg.refl _ _
 |succ m ih=>
   by_cases e:n=m+1
   . rw[e];exact Cg.refl _ _
   . refine Cg.trans ?_ (ih om fun i B C=>A i B om);intro j;show(bD l N f m b j+f m*tP l N m b j)%p=_;rw[Int.add_emod,Int.mul_emod,A m om om,Int.zero_mul,Int.zero_emod,Int.add_zero,Int.emod_emod_of_dvd _ (Int.dvd_refl p)]
theorem yD(G:nD p){b:Nat->Int}(R:¬Cg p b fG):∀D,(∃f:Nat->Int,f D%p≠0/\vD p l N f (D+1) b)->
 ∃(d:Nat) (g:Nat->Int),1<=d/\d<=D/\Sup d g/\(∀i,0<=g i/\g i<p)/\Cg p (fun j=>tP l N d b j+bD l N g d b j) fG/\∀(f:Nat->Int) n,n<=d->vD p l N f n b->∀i,i<n->f i%p=0:=by
 intro D
 induction D using Nat.strongRecOn with
 |ind D ih=>
  rintro⟨f,T,hk⟩;have W:=G.1;by_cases H:∃B,B<D/\∃f:Nat->Int,f B%p≠0/\vD p l N f (B+1) b
  .obtain⟨B,C,A⟩:=H;obtain⟨d,g,O,V,P⟩:=ih B C A;exact⟨d,g,O,om,P⟩
  .obtain⟨c,S⟩:=TE G T;have I:Cg p (fun j=>tP l N D b j+bD l N (fun i=>if i<D then(c*f i)%p else 0) D b j) fG:=by
    have C:Cg p (fun j=>c*bD l N f (D+1) b j) (fun j=>c*fG j):=Cg.smul rfl hk;intro j;have A:=C j;have J:c*bD l N f (D+1) b j=bD l N (fun i=>c*f i) D b j+c*f D*tP l N D b j:=by show c*(bJ (fun i=>f i*tP l N i b j) D+f D*tP l N D b j)=_;rw[Int.mul_add,gO,aY8];congr 1;exact bF fun i _=>(aY8 _ _ _).symm
    have K:Cg p (bD l N (fun i=>if i<D then(c*f i)%p else 0) D b) (bD l N (fun i=>c*f i) D b):=
     Cg.sum (v:=fun i=>tP l N i b) (u:=fun i=>tP l N i b) (fun i hi=>by show(if i<D then(c*f i)%p else 0)%p=c*f i%p;rw[iP hi];exact Int.emod_emod_of_dvd _ (Int.dvd_refl p)) (fun i _=>Cg.refl _ _)
    dsimp only at A;rw[J] at A;dsimp only;rw[Int.add_emod,K j,<-Int.add_emod,Int.add_comm];have L:(c*f D*tP l N D b j)%p=tP l N D b j%p:=by rw[Int.mul_emod,S,Int.one_mul,Int.emod_emod_of_dvd _ (Int.dvd_refl p)]
    rw[Int.add_emod,<-L,<-Int.add_emod,A];show(c*0)%p=0%p;rw[Int.mul_zero]
   have U:∀(f:Nat->Int) n,n<=D->vD p l N f n b->∀i,i<n->f i%p=0:=by
    intro E n
    induction n with
    |zero=>intro _ _ i hi;omega
    |succ n ihn=>
     intro hn F i hi;by_cases e:E n%p=0
     .by_cases M:i=n
      .rw[M];exact e
      .exact ihn om ((FJ (l:=l) (N:=N) (f:=E) (b:=b) (n:=n) (m:=n+1) om fun k C A=>by rw[show k=n from om];exact e).symm.trans F) i om
     .exact aB ⟨n,om,E,e,F⟩ H
   refine⟨D,fun i=>if i<D then(c*f i)%p else 0,?_,zr,fun i hi=>iN om,fun i=>?_,I,U⟩
   .refine Nat.one_le_iff_ne_zero.2 fun Q=>R ?_;subst Q;intro j;have:=I j;show b j%p=0%p;have e:(tP l N 0 b j+bD l N (fun i=>if i<0 then(c*f i)%p else 0) 0 b j)=b j:=by
     show b j+0=b j;omega
    dsimp only at this;rw[e] at this;exact this
   .dsimp only;split
    .exact⟨eN _ om,eM _ om⟩
    .omega
theorem vI(E:0<N){b:Nat->Int}(A:Sup N b)(B:Sup N l):(fun j=>tP l N N b j+bD l N l N b j)=fG:=by
 have C:tP l N N b=bD l N b N (tP l N N (aN 0)):=by rw[<-sE,nO l N A]
 have D:tP l N N (aN 0)=fun j=>(-1)*l j:=by
  rw[N3 l N E];funext j;by_cases h:j<N
  .rw[iP h];omega
  .rw[iN h,B j om];rfl
 rw[C,D,(qB l N b N).smul,show bD l N b N l=gN l N l b from rfl,jF l N B A];funext j;show(-1)*gN l N b l j+gN l N b l j=0;omega
theorem YE {b g : Nat -> Int} {d : Nat} (I : 1 <= d) (H : Cg p (fun j => tP l N d b j + bD l N g d b j) fG) (v : Nat -> Int) :
 Cg p (bD l N (tX g d v) d b) (tX l N (bD l N v d b)):=by
 obtain⟨e,rfl⟩:∃e,d=e+1:=⟨d-1,om⟩
 intro j;have A:bD l N (tX g (e+1) v) (e+1) b j=bD l N (fun i=>if i=0 then 0 else v (i-1)) (e+1) b j-v e*bD l N g (e+1) b j:=by
  have:∀i,i<e+1->tX g (e+1) v i*tP l N i b j=(if i=0 then 0 else v (i-1))*tP l N i b j+(-v e)*(g i*tP l N i b j):=fun i hi=>by unfold tX;rw[iP hi,show e+1-1=e from om,Int.sub_mul,Int.neg_mul,aY8];rfl
  show bJ (fun i=>tX g (e+1) v i*tP l N i b j) (e+1)=bJ _ (e+1)-v e*bJ _ (e+1);rw[bF this,jX,<-gO,Int.neg_mul];rfl
 have C:tX l N (bD l N v (e+1) b) j=bJ (fun i=>v i*tP l N (i+1) b j) (e+1):=by have:=congrFun ((wT l N).sum v (fun i=>tP l N i b) (e+1)) j;exact this
 have D:bD l N (fun i=>if i=0 then 0 else v (i-1)) (e+1) b j=bJ (fun i=>v i*tP l N (i+1) b j) e:=by show bJ (fun i=>(if i=0 then 0 else v (i-1))*tP l N i b j) (e+1)=_;rw[sD,iP rfl,Int.zero_mul,Int.zero_add];exact bF fun i _=>by rw[iN om,show i+1-1=i from om]
 have h:=H j;dsimp only at h;have F:(tP l N (e+1) b j+bD l N g (e+1) b j)%p=0:=by rw[h];exact Int.zero_emod p
 obtain⟨t,J⟩:=Int.dvd_of_emod_eq_zero F;rw[A,C,D,bJ];generalize bJ (fun i=>v i*tP l N (i+1) b j) e=S;generalize bD l N g (e+1) b j=G at*;have E:G=p*t-tP l N (e+1) b j:=om;generalize tP l N (e+1) b j=B at*;rw[E,Int.mul_sub,show S-(v e*(p*t)-v e*B)=(S+v e*B)+p*(-(v e*t)) by rw[Int.mul_neg,show p*(v e*t)=v e*(p*t) by rw[<-aY8,Int.mul_comm p,aY8]];omega];exact Int.add_mul_emod_self_left _ _ _
theorem IM{b g:Nat->Int}{d:Nat}(A:1<=d)(B:Cg p (fun j=>tP l N d b j+bD l N g d b j) fG):∀k,Cg p (bD l N (tP g d k (aN 0)) d b) (tP l N k b)
 |0=>fun j=>by show bJ (fun i=>aN 0 i*tP l N i b j) d%p=b j%p;rw[gI (k:=0) om fun i _ C=>by unfold aN;rw[iN C,Int.zero_mul]];unfold aN;rw[iP rfl,Int.one_mul];rfl
 |k+1=>(YE A B _).trans ((IM A B k).lin (wT l N))
theorem YD{b g:Nat->Int}{d:Nat}(B:1<=d)(C:Cg p (fun j=>tP l N d b j+bD l N g d b j) fG)(f:Nat->Int)(n:Nat):Cg p (bD l N (bD g d f n (aN 0)) d b) (bD l N f n b):=by
 have e:bD l N (bD g d f n (aN 0)) d b=fun j=>bJ (fun k=>f k*bD l N (tP g d k (aN 0)) d b j) n:=by
  funext j;show bJ (fun i=>bJ (fun k=>f k*tP g d k (aN 0) i) n*tP l N i b j) d=bJ (fun k=>f k*bJ (fun i=>tP g d k (aN 0) i*tP l N i b j) d) n;have A:bJ (fun i=>bJ (fun k=>f k*tP g d k (aN 0) i) n*tP l N i b j) d=bJ (fun i=>bJ (fun k=>f k*(tP g d k (aN 0) i*tP l N i b j)) n) d:=
   bF fun i _=>by rw[Int.mul_comm,gO];exact bF fun k _=>by rw[Int.mul_comm (tP l N i b j),aY8]
  rw[A,uV];exact bF fun k _=>(gO _ _ _).symm
 rw[e];exact Cg.sum (v:=fun k=>bD l N (tP g d k (aN 0)) d b) (u:=fun k=>tP l N k b) (fun _ _=>rfl) fun k _=>IM B C k
theorem CY (E : 0 < N) (H : Sup N l) {b g : Nat -> Int} {d : Nat} (F : Sup N b) (B : 1 <= d) (C : Cg p (fun j => tP l N d b j + bD l N g d b j) fG)
 (I:∀(f:Nat->Int) n,n<=d->vD p l N f n b->∀i,i<n->f i%p=0):Cg p (fun j=>bD g d l N (aN 0) j+tP g d N (aN 0) j) fG:=by
 have D:vD p l N (fun j=>bD g d l N (aN 0) j+tP g d N (aN 0) j) d b:=by
  have e:bD l N (fun j=>bD g d l N (aN 0) j+tP g d N (aN 0) j) d b=fun j=>bD l N (bD g d l N (aN 0)) d b j+bD l N (tP g d N (aN 0)) d b j:=by funext j;show bJ (fun i=>(_+_)*tP l N i b j) d=bJ _ d+bJ _ d;rw[<-jX];exact bF fun i _=>Int.add_mul _ _ _
  show Cg p (bD l N _ d b) fG;rw[e];refine((YD B C l N).add (IM B C N)).trans ?_;have:=vI (l:=l) E F H;intro j;have A:=congrFun this j;dsimp only at A|-;rw[Int.add_comm,A]
 intro j;by_cases G:j<d
 .rw[I _ d zr D j G];exact(Int.zero_emod p).symm
 .have J:=BT g d (a:=aN 0) (uE d om) l N j om;have K:=IX g d (a:=aN 0) (uE d om) N j om;dsimp only;rw[J,K];rfl
end
section
variable {p:Int} {low:LI}
theorem CG{c:Int}{i n:Nat}(hi:low<=i):∀J (r:LI),J<=low.length->i<r.length->i-low.length+J<=n->
 Cg p (kA (fn low) low (iM p low c i J r) n) (fun j=>kA (fn low) low r n j+(-c)*bD (fn low) low (fn low) J (tP (fn low) low (i-low.length) (aN 0)) j)
 |0,r,_,_,_=>fun j=>by show _=(kA (fn low) low r n j+(-c)*0)%p;rw[Int.mul_zero,Int.add_zero];rfl
 |J+1,r,hJ,hl,hb=>by
  have B:=CG (c:=c) (i:=i) (n:=n) hi J r om hl om;rw[iM];refine(sG (fn low) low (k:=i-low.length+J) (by rw[oF];omega) _ om).trans ?_;refine(B.add (Cg.refl p _)).trans fun j=>?_;dsimp only;have e:bD (fn low) low (fn low) (J+1) (tP (fn low) low (i-low.length) (aN 0)) j=bD (fn low) low (fn low) J (tP (fn low) low (i-low.length) (aN 0)) j+fn low J*tP (fn low) low (i-low.length+J) (aN 0) j:=by show _+fn low J*tP (fn low) low J (tP (fn low) low (i-low.length) (aN 0)) j=_;rw[pZ,Nat.add_comm J];rfl
  rw[e,Int.mul_add];generalize bD (fn low) low (fn low) J (tP (fn low) low (i-low.length) (aN 0)) j=A;show(_+(p-c)*fn low J*_)%p=_;generalize tP (fn low) low (i-low.length+J) (aN 0) j=t;rw[Int.sub_mul,Int.sub_mul,aY8 p,Int.neg_mul,Int.neg_mul,aY8 c];generalize kA (fn low) low r n j=V;generalize c*A=X;generalize c*(fn low J*t)=Y;rw[show V+ -X+(p*(fn low J*t)-Y)=(V+(-X+ -Y))+p*(fn low J*t) from om];exact Int.add_mul_emod_self_left _ _ _
theorem ZE{l:Nat->Int}{N:Nat}{c c':LI}{n:Nat}(h:∀i,i<n->fn c i=fn c' i):kA l N c n=kA l N c' n:=by funext j;exact bF fun i hi=>by rw[h i hi]
theorem MH(D:0<low.length){i:Nat}(hi:low<=i){r:LI}(F:i<r):
 Cg p (kA (fn low) low ((iM p low (fn r i) i low r).set i 0) i) (kA (fn low) low r (i+1)):=by
 have A:Sup low (fn low):=fun j E=>bG E;rw[ZE (c':=iM p low (fn r i) i low r) fun k hk=>by unfold fn;rw[mM,iN (fun h=>om)]];refine(CG (n:=i) hi low r zr F om).trans fun j=>?_;dsimp only;congr 1;show _=kA (fn low) low r i j+fn r i*tP (fn low) low i (aN 0) j;congr 1;have B:bD (fn low) low (fn low) low (tP (fn low) low (i-low.length) (aN 0))=tP (fn low) low (i-low.length) (fn low):=by rw[<-sE,nO _ _ A]
 have C:tP (fn low) low i (aN 0)=fun j=>(-1)*tP (fn low) low (i-low.length) (fn low) j:=by
  rw[show tP (fn low) low i (aN 0)=tP (fn low) low (i-low.length) (tP (fn low) low low (aN 0)) by rw[pZ];congr 1;omega,N3 _ _ D,<-(sF (fn low) low (i-low.length)).smul];congr 1;funext j;by_cases h:j<low
  .rw[iP h];omega
  .rw[iN h,A j om];rfl
 rw[B,C];dsimp only;rw[Int.neg_mul,Int.neg_mul,Int.one_mul,Int.mul_neg]
theorem CF(c:Int){i k:Nat}(hi:low<=i)(hk:i<=k):∀J (r:LI),J<=low.length->fn (iM p low c i J r) k=fn r k
 |0,_,_=>rfl
 |J+1,r,hJ=>by rw[iM];unfold fn;rw[mM,iN (fun h=>om)];exact CF c hi hk J r om
theorem E6(A:0<low.length){r:LI}:∀t,low.length+t<=r.length->
 Cg p (kA (fn low) low (gV p low r t) (r.length-t)) (kA (fn low) low r r)/\∀k,r.length-t<=k->fn (gV p low r t) k=0
 |0,_=>⟨Cg.refl _ _,fun k hk=>bG (by show r.length<=k;omega)⟩
 |t+1,ht=>by
  obtain⟨B,C⟩:=E6 A (r:=r) t om;rw[gV];refine⟨?_,fun k hk=>?_⟩
  .rw[show r.length-(t+1)=r.length-1-t from om];have:=MH (p:=p) A (i:=r.length-1-t) (r:=gV p low r t) om (by rw[qF];omega);refine this.trans ?_;rw[show r.length-1-t+1=r.length-t from om];exact B
  .unfold fn;rw[mM];by_cases e:r.length-1-t=k
   .rw[iP ⟨e,by rw[oF,qF];omega⟩]
   .rw[iN (fun h=>e h.1)];have:=CF (p:=p) (low:=low) (fn (gV p low r t) (r.length-1-t)) (i:=r.length-1-t) (k:=k) om om low (gV p low r t) zr;exact this.trans (C k om)
theorem AF(P:2<=p)(L:0<low.length){mod:LI}(D:Rng p mod)(W:low.length<=mod.length):
 gM p low mod=true↔Cg p (fun j=>bD (fn low) low (fn mod) mod (aN 0) j+tP (fn low) low mod (aN 0) j) fG:=by
 have Q:Rng p (mod++[1]):=fun k=>by
  by_cases h:k<mod
  .have:=D k;simpa[List.getD,aY2 h] using this
  .by_cases e:k=mod
   .subst e;simp[List.getD];omega
   .rw[bG (by simp;omega)];omega
 have N:(mod++[1]).length=mod.length+1:=by simp
 obtain⟨B,F⟩:=E6 (p:=p) L (r:=mod++[1]) (mod.length+1-low.length) om;have R:=zF P low (mod++[1]) Q (mod.length+1-low.length);have V:=qF p low (mod++[1]) (mod.length+1-low.length);rw[N,show mod.length+1-(mod.length+1-low.length)=low.length from om] at B F;have I:kA (fn low) low (mod++[1]) (mod.length+1)=fun j=>bD (fn low) low (fn mod) mod (aN 0) j+tP (fn low) low mod (aN 0) j:=by
  funext j;show bJ (fun i=>fn (mod++[1]) i*tP (fn low) low i (aN 0) j) mod.length+fn (mod++[1]) mod.length*tP (fn low) low mod (aN 0) j=_;have J:fn (mod++[1]) mod.length=1:=by simp[fn,List.getD]
  rw[J,Int.one_mul];congr 1;exact bF fun i hi=>by simp[fn,List.getD,aY2 hi]
 rw[I] at B;have E:∀j,j<low.length->kA (fn low) low (gV p low (mod++[1]) (mod.length+1-low.length)) low j=fn (gV p low (mod++[1]) (mod.length+1-low.length)) j:=fun j A=>by show bJ (fun i=>_*tP (fn low) low i (aN 0) j) low=_;rw[gI (k:=j) A fun i hi O=>by rw[nN _ _ i hi];unfold aN;rw[iN (fun e=>O e.symm)];exact Int.mul_zero _];rw[nN _ _ j A];unfold aN;rw[iP rfl,Int.mul_one]
 unfold gM;rw[List.all_eq_true];constructor
 .intro h j;by_cases A:j<low
  .rw[<-B j,E j A];have D:(gV p low (mod++[1]) (mod.length+1-low.length))[j]' om∈gV p low (mod++[1]) (mod.length+1-low.length):=aY6 _;have:=h _ D;rw[eD] at this;have C:fn (gV p low (mod++[1]) (mod.length+1-low.length)) j=0:=by
    unfold fn;rw[aZ4,aZ3 om];exact this
   rw[C];rfl
  .have T:=BT (fn low) low (a:=aN 0) (uE low om) (fn mod) mod j om;have U:=IX (fn low) low (a:=aN 0) (uE low om) mod j om;dsimp only;rw[T,U];rfl
 .intro h x S;obtain⟨j,A,rfl⟩:=eI.1 S;rw[eD];have C:fn (gV p low (mod++[1]) (mod.length+1-low.length)) j=(gV p low (mod++[1]) (mod.length+1-low.length))[j]:=by
   unfold fn;rw[aZ4,aZ3 A];rfl
  rw[<-C];by_cases M:j<low
  .have G:=B j;rw[E j M,h j] at G;have H:=R j;have K:fn (gV p low (mod++[1]) (mod.length+1-low.length)) j%p=0:=by rw[G];exact Int.zero_emod p
   exact(Int.emod_eq_of_lt H.1 H.2).symm.trans K
  .exact F j om
end
theorem rK{p:Int}(B:2<=p):∀(i:Nat) (d:LI),(∀k,k<d.length->0<=d k 0/\d k 0<p)->i<d.length->bL p d/p^i%p=d i 0
 |_,[],_,hi=>aB hi sM
 |0,a::d,h,_=>by have A:=h 0 sM;simp only[List.getD_cons_zero] at A|-;rw[Int.pow_zero,Int.ediv_one,bL,Int.add_comm,Int.add_mul_emod_self_right];exact Int.emod_eq_of_lt A.1 A.2
 |i+1,a::d,h,hi=>by have A:=h 0 sM;simp only[List.getD_cons_zero] at A;have C:=rK B i d (fun k hk=>by have:=h (k+1) (by simpa using hk);simpa using this) (by simpa using hi);rw[List.getD_cons_succ,<-C,<-div_pow_succ' B];congr 2;rw[bL,Int.add_comm,Int.add_mul_ediv_right _ _ om,Int.ediv_eq_zero_of_lt A.1 A.2,Int.zero_add]
where
 div_pow_succ' {p:Int} (hp:2<=p) {x:Int} {i:Nat}:x/p/p^i=x/p^(i+1):=by rw[Int.pow_succ,Int.mul_comm,Int.ediv_ediv_of_nonneg om]
section
variable {p:Int} {low:LI}
theorem WZ(W:nD p)(J:0<low.length)(hR:Rng p low)(C:xZ p low=true){b g:Nat->Int}{d:Nat}(K:Sup low b)(L:1<=d)(Y:2*d<=low.length)(O:Sup d g)(Q:∀i,0<=g i/\g i<p)
 (X:Cg p (fun j=>tP (fn low) low d b j+bD (fn low) low g d b j) fG)(U:∀(f:Nat->Int) n,n<=d->vD p (fn low) low f n b->∀i,i<n->f i%p=0):False:=by
 have T:Sup low (fn low):=fun j R=>bG R;have S:=CY J T K L X U;have D:=W.1;have A:(aT d g).length=d:=aW d g;have P:fn (aT d g)=g:=funext fun i=>by
  unfold fn;by_cases h:i<d
  .exact aK h
  .rw[bG (by rw[A];omega),O i om]
 have N:gM p (aT d g) low=true:=by rw[AF D om hR om,A,P];exact S
 have F:∀k,k<(aT d g).length->0<=(aT d g).getD k 0/\(aT d g).getD k 0<p:=fun k hk=>by rw[A] at hk;rw[aK hk];exact Q k
 have G:=kB D (aT d g) F;rw[A] at G;have M:bU (bL p (aT d g)) p d=aT d g:=by refine eK (by rw[eP,A]) fun i I B=>?_;rw[A] at B;have H:=rK D i (aT d g) F om;have E:=gF (x:=bL p (aT d g)) (p:=p) B;rw[H] at E;simpa[List.getD,I,A,B] using E
 have V:sJ p low (low.length/2)=false:=by refine AN (d:=d-1) om ?_;rw[show d-1+1=d from om];refine yO (v:=(bL p (aT d g)).toNat) om ?_;rw[Int.toNat_of_nonneg G.1,M];exact N
 unfold xZ at C;rw[V] at C;cases C
end
section
variable {l:Nat->Int} {N:Nat}
theorem LD{c:Nat->Int}{d:Nat}(C:c d=1)(B:∀j,d<j->c j=0):∀k,d+k<N->tP l N k c (d+k)=1/\∀j,d+k<j->tP l N k c j=0
 |0,_=>⟨C,B⟩
 |k+1,h=>by
  obtain⟨F,A⟩:=LD C B k om;have E:tP l N k c (N-1)=0:=A _ om;refine⟨?_,fun j G=>?_⟩
  .show tX l N (tP l N k c) (d+(k+1))=1;unfold tX;rw[iP h,iN om,E,show d+(k+1)-1=d+k from om,F];omega
  .show tX l N (tP l N k c) j=0;unfold tX;by_cases D:j<N
   .rw[iP D,iN om,E,A (j-1) om];omega
   .rw[iN D]
theorem D3{c:Nat->Int}{d:Nat}(I:d<N)(D:c d=1)(C:∀j,d<j->c j=0){v:Nat->Int}(E:Sup N v):∀t,t<=N-d->∃s:Nat->Int,(∀k,k<N-d-t->s k=0)/\∀j,N-t<=j->v j=bJ (fun k=>s k*tP l N k c j) (N-d)
 |0,_=>⟨fun _=>0,fun _ _=>rfl,fun j K=>by rw[E j om];exact(kR fun k _=>Int.zero_mul _).symm⟩
 |t+1,ht=>by
  obtain⟨s,B,H⟩:=D3 I D C E t om;obtain⟨A,P⟩:=xE (N-d-t-1);obtain⟨F,G⟩:=LD (l:=l) (N:=N) D C A om;obtain⟨x,O⟩:=xE (v (d+A)-bJ (fun k=>s k*tP l N k c (d+A)) (N-d));have M:s A=0:=B A om;have J:∀j,bJ (fun k=>(if k=A then x else s k)*tP l N k c j) (N-d)=bJ (fun k=>s k*tP l N k c j) (N-d)+x*tP l N A c j:=fun j=>by
   have e:∀k,(if k=A then x else s k)*tP l N k c j=s k*tP l N k c j+(if k=A then x*tP l N A c j else 0):=fun k=>by
    by_cases e:k=A
    .rw[iP e,iP e,e,M,Int.zero_mul,Int.zero_add]
    .rw[iN e,iN e,Int.add_zero]
   rw[bF fun k _=>e k,jX];congr 1;rw[gI (k:=A) om fun i _ L=>iN L,iP rfl]
  refine⟨fun k=>if k=A then x else s k,fun k hk=>?_,fun j K=>?_⟩
  .dsimp only;rw[iN om];exact B k om
  .rw[J];by_cases e:j=d+A
   .rw[e,F,Int.mul_one,O];omega
   .rw[G j om,Int.mul_zero,Int.add_zero];exact H j om
end
section
variable {p:Int} {low:LI}
theorem GI(H:2<=p){a:Nat->Int}:∀n,(∃i,i<n/\a i%p≠0)->∃D,D<n/\a D%p≠0/\∀i,D<i->i<n->a i%p=0
 |0,⟨i,hi,_⟩=>aB hi om
 |n+1,⟨i,hi,h⟩=>by
  by_cases e:a n%p=0
  .obtain⟨D,I,E,F⟩:=GI H n ⟨i,by
    have:i≠n:=fun B=>h (B▸e);omega,h⟩
   exact⟨D,om,E,fun k A G=>by
    by_cases C:k=n
    .rw[C];exact e
    .exact F k A om⟩
  .exact⟨n,om,e,fun k A G=>om⟩
theorem XR{a:Nat->Int}{n:Nat}(D:2<=p)(A:Sup n a)(h:¬Cg p a fG):∃i,i<n/\a i%p≠0:=by
 refine aY0 fun C=>h fun j=>?_;by_cases B:j<n
 .have:a j%p=0:=aY0 fun e=>C ⟨j,B,e⟩;rw[this];exact(Int.zero_emod p).symm
 .rw[A j om];rfl
theorem qO(B:nD p)(N:0<low.length)(hR:Rng p low)(R:xZ p low=true){a b:Nat->Int}(O:Sup low a)(C:Sup low b)
 (h:Cg p (gN (fn low) low a b) fG):Cg p a fG\/Cg p b fG:=by
 have S:=B.1;have ξ:Sup low (fn low):=fun j A=>bG A;by_cases P:Cg p b fG
 .exact .inr P
 .refine .inl (aY0 fun f=>?_);rw[jF _ _ O C] at h
  --a kills b
  obtain⟨D,ν,Y,Z⟩:=GI S _ (XR S O f);have hk:vD p (fn low) low a (D+1) b:=(FJ (n:=D+1) (m:=low.length) om fun i E F=>Z i om F).symm.trans h;obtain⟨d,g,W,μ,X,g4,g5,M⟩:=yD B P D ⟨a,Y,hk⟩;by_cases q:2*d<=low.length
  .exact WZ B N hR R C W q X g4 g5 M
  .have t:d<low:=om
   --the killer itself,as a vector
   obtain⟨c,G⟩:=xE (fun i=>if i<d then g i else if i=d then 1 else 0:Nat->Int);have I:c d=1:=by rw[G];dsimp only;rw[iN om,iP rfl]
   have H:∀j,d<j->c j=0:=fun j A=>by rw[G];dsimp only;rw[iN om,iN om]
   have J:Sup low c:=fun j A=>H j om;have o:¬Cg p c fG:=fun h=>by have:=h d;rw[I] at this;rw[Int.emod_eq_of_lt om om] at this;have e:(fG d)%p=0:=Int.zero_emod p;omega
   have Q:Cg p (gN (fn low) low b c) fG:=by
    have V:gN (fn low) low b c=fun j=>tP (fn low) low d b j+bD (fn low) low g d b j:=by funext j;show bJ (fun i=>c i*tP (fn low) low i b j) low=_;rw[D8 (n:=d+1) om fun i E F=>by rw[H i om,Int.zero_mul],bJ,I,Int.one_mul,Int.add_comm];congr 1;exact bF fun i hi=>by rw[G];dsimp only;rw[iP hi]
    rw[V];exact g5
   obtain⟨s,_,z⟩:=D3 (l:=fn low) t I H (v:=tP (fn low) low (low.length-d) c) (IX _ _ J _) (low.length-d) zr
   --the remainder
   obtain⟨r,K⟩:=xE (fun j=>tP (fn low) low (low.length-d) c j+(-1)*bD (fn low) low s (low.length-d) c j:Nat->Int);have L:Sup d r:=fun j A=>by rw[K];dsimp only;rw[z j om];show bJ _ _+(-1)*bJ _ _=0;omega
   have x:Sup low r:=fun j A=>L j om;have u:Cg p (gN (fn low) low b r) fG:=by
    rw[jF _ _ C x];have e:gN (fn low) low r b=fun j=>tP (fn low) low (low.length-d) (gN (fn low) low b c) j+(-1)*bD (fn low) low s (low.length-d) (gN (fn low) low b c) j:=by show bD (fn low) low b low r=_;rw[K,(qB (fn low) low b low).add (tP (fn low) low (low.length-d) c) (fun j=>(-1)*bD (fn low) low s (low.length-d) c j),(qB (fn low) low b low).smul (-1) (bD (fn low) low s (low.length-d) c)];rw[<-sE,yZ _ _ b s];rw[show bD (fn low) low b low c=gN (fn low) low c b from rfl,jF _ _ J C]
    rw[e];have T:=Q.lin (sF (fn low) low (low.length-d));have U:=Q.lin (qB (fn low) low s (low.length-d));rw[show(fG:Nat->Int)=fun _=>0 from rfl,(sF _ _ _).zero] at T;rw[show(fG:Nat->Int)=fun _=>0 from rfl,(qB _ _ _ _).zero] at U;exact(T.add (Cg.smul rfl U)).trans fun j=>by show(0+(-1)*0)%p=0%p;rfl
   have w:vD p (fn low) low r d b:=by
    have e:bD (fn low) low r d b=gN (fn low) low b r:=by funext j;exact(D8 om fun i E F=>by rw[L i E,Int.zero_mul]).symm
    show Cg p _ _;rw[e];exact u
   have y:=M r d zr w
   --so the rest of the modulus kills c
   have k:vD p (fn low) low (fun i=>if i<low.length-d then-s i else 1) (low.length-d+1) c:=by
    have e:bD (fn low) low (fun i=>if i<low.length-d then-s i else 1) (low.length-d+1) c=r:=by funext j;show bJ (fun i=>(if i<low.length-d then-s i else 1)*tP (fn low) low i c j) (low.length-d)+(if low.length-d<low.length-d then-s (low.length-d) else 1)*tP (fn low) low (low.length-d) c j=r j;rw[iN om,Int.one_mul,K];dsimp only;rw[Int.add_comm];congr 1;show _=(-1)*bJ _ _;rw[gO];exact bF fun i hi=>by rw[iP hi,Int.neg_mul,Int.neg_mul,Int.one_mul]
    show Cg p _ _;rw[e];intro j;by_cases A:j<d
    .rw[y j A];exact(Int.zero_emod p).symm
    .rw[L j om];rfl
   obtain⟨ι,κ,δ,π,ε,ζ,η,θ⟩:=yD B o (low.length-d) ⟨_,by show(if low.length-d<low.length-d then-s (low.length-d) else 1)%p≠0;rw[iN om,Int.emod_eq_of_lt om om];decide,k⟩;exact WZ B N hR R J δ om ε ζ η θ
end
structure aQ.Fld(O:aQ)(q:Int):Prop where
 lt:O.Lt q
 neg_lt:∀x,0<=O.neg x/\O.neg x<q
 inv_lt:∀x,0<=O.inv x/\O.inv x<q
 add_comm:∀x y,O.add x y=O.add y x
 add_assoc:∀x y z,O.add (O.add x y) z=O.add x (O.add y z)
 add_zero:∀x,0<=x->x<q->O.add x 0=x
 add_neg:∀x,O.add x (O.neg x)=0
 mul_comm:∀x y,O.mul x y=O.mul y x
 mul_assoc:∀x y z,O.mul (O.mul x y) z=O.mul x (O.mul y z)
 mul_one:∀x,0<=x->x<q->O.mul x 1=x
 mul_add:∀x y z,O.mul x (O.add y z)=O.add (O.mul x y) (O.mul x z)
 mul_zero:∀x,O.mul x 0=0
 mul_inv:∀x,0<x->x<q->O.mul x (O.inv x)=1
section
variable {O:aQ} {q:Int} (hO:O.Fld q)
include hO
theorem aQ.Fld.zero_add{x:Int}(A:0<=x)(B:x<q):O.add 0 x=x:=by rw[hO.add_comm];exact hO.add_zero x A B
theorem aQ.Fld.zero_mul(x:Int):O.mul 0 x=0:=by rw[hO.mul_comm];exact hO.mul_zero x
theorem aQ.Fld.one_mul{x:Int}(A:0<=x)(B:x<q):O.mul 1 x=x:=by rw[hO.mul_comm];exact hO.mul_one x A B
theorem aQ.Fld.zero_zero:O.add 0 0=0:=hO.add_zero 0 om (oA hO.lt.pos)
theorem aQ.Fld.add_mul(x y z:Int):O.mul (O.add x y) z=O.add (O.mul x z) (O.mul y z):=by rw[hO.mul_comm,hO.mul_add,hO.mul_comm z x,hO.mul_comm z y]
theorem aQ.Fld.neg_add(x:Int):O.add (O.neg x) x=0:=by rw[hO.add_comm];exact hO.add_neg x
theorem aQ.Fld.add_cancel{x y z:Int}(A:0<=y/\y<q)(B:0<=z/\z<q)(h:O.add x y=O.add x z):y=z:=by
 have e:O.add (O.neg x) (O.add x y)=O.add (O.neg x) (O.add x z):=by rw[h]
 rw[<-hO.add_assoc,<-hO.add_assoc,hO.neg_add,hO.zero_add A.1 A.2,hO.zero_add B.1 B.2] at e;exact e
theorem aQ.Fld.neg_unique{x y:Int}(A:0<=y/\y<q)(h:O.add x y=0):y=O.neg x:=
 hO.add_cancel A (hO.neg_lt x) (x:=x) (by rw[h,hO.add_neg])
theorem aQ.Fld.neg_mul(x y:Int):O.mul (O.neg x) y=O.neg (O.mul x y):=
 hO.neg_unique (hO.lt.mul _ _) (by rw[<-hO.add_mul,hO.add_neg,hO.zero_mul])
theorem aQ.Fld.neg_zero:O.neg 0=0:=(hO.neg_unique (x:=0) (y:=0) ⟨om,oA hO.lt.pos⟩ hO.zero_zero).symm
theorem aQ.Fld.neg_neg{x:Int}(A:0<=x)(B:x<q):O.neg (O.neg x)=x:=(hO.neg_unique ⟨A,B⟩ (hO.neg_add x)).symm
theorem aQ.Fld.neg_add2(x y:Int):O.neg (O.add x y)=O.add (O.neg x) (O.neg y):=by refine(hO.neg_unique (hO.lt.add _ _) ?_).symm;rw[hO.add_comm (O.neg x),hO.add_assoc,<-hO.add_assoc y,hO.add_neg,hO.zero_add (hO.neg_lt _).1 (hO.neg_lt _).2,hO.add_neg]
theorem aQ.Fld.add4(a b c d:Int):O.add (O.add a b) (O.add c d)=O.add (O.add a c) (O.add b d):=by rw[hO.add_assoc,hO.add_assoc,<-hO.add_assoc b,<-hO.add_assoc c,hO.add_comm b]
theorem aQ.Fld.mul_eq_zero{x y:Int}(C:0<=x/\x<q)(B:0<=y/\y<q)(h:O.mul x y=0):x=0\/y=0:=by
 by_cases e:x=0
 .exact .inl e
 .right;have:=hO.mul_inv x om C.2;have A:O.mul (O.inv x) (O.mul x y)=0:=by rw[h,hO.mul_zero]
  rw[<-hO.mul_assoc,hO.mul_comm (O.inv x),this,hO.one_mul B.1 B.2] at A;exact A
def aX(O:aQ)(f:Nat->Int):Nat->Int
 |0=>0
 |n+1=>O.add (aX O f n) (f n)
omit hO in
theorem aO{f g:Nat->Int}:∀{n:Nat},(∀i,i<n->f i=g i)->aX O f n=aX O g n
 |0,_=>rfl
 |n+1,h=>by rw[aX,aX,aO fun i hi=>h i om,h n om]
theorem dS(f:Nat->Int):∀n,0<=aX O f n/\aX O f n<q
 |0=>⟨Int.le_refl _,by have:=hO.lt.pos;show(0:Int)<q;omega⟩
 |n+1=>hO.lt.add _ _
theorem jJ(f g:Nat->Int):∀n,aX O (fun i=>O.add (f i) (g i)) n=O.add (aX O f n) (aX O g n)
 |0=>hO.zero_zero.symm
 |n+1=>by rw[aX,aX,aX,jJ f g n,hO.add4]
theorem eY(a:Int)(f:Nat->Int):∀n,O.mul a (aX O f n)=aX O (fun i=>O.mul a (f i)) n
 |0=>hO.mul_zero a
 |n+1=>by rw[aX,aX,hO.mul_add,eY a f n]
theorem uU(a:Int)(f:Nat->Int)(n:Nat):O.mul (aX O f n) a=aX O (fun i=>O.mul (f i) a) n:=by rw[hO.mul_comm,eY hO];exact aO fun i _=>hO.mul_comm _ _
theorem bR{f:Nat->Int}:∀{n:Nat},(∀i,i<n->f i=0)->aX O f n=0
 |0,_=>rfl
 |n+1,h=>by rw[aX,bR fun i hi=>h i om,h n om,hO.zero_zero]
theorem GE(f:Nat->Int):∀n,O.neg (aX O f n)=aX O (fun i=>O.neg (f i)) n
 |0=>hO.neg_zero
 |n+1=>by rw[aX,aX,hO.neg_add2,GE f n]
theorem cO{f:Nat->Int}{k:Nat}(hk:0<=f k/\f k<q):∀{n:Nat},k<n->(∀i,i<n->i≠k->f i=0)->aX O f n=f k
 |0,h,_=>aB h om
 |n+1,h,h0=>by
  rw[aX];by_cases e:k=n
  .subst e;rw[bR hO fun i hi=>h0 i om om,hO.zero_add hk.1 hk.2]
  .rw[cO hk om fun i hi=>h0 i om,h0 n om (fun h=>e h.symm),hO.add_zero _ hk.1 hk.2]
theorem mE(f:Nat->Nat->Int)(m:Nat):∀n,aX O (fun i=>aX O (fun j=>f i j) m) n=aX O (fun j=>aX O (fun i=>f i j) n) m
 |0=>(bR hO fun _ _=>rfl).symm
 |n+1=>by rw[aX,mE f m n,<-jJ hO];exact aO fun j _=>rfl
def ent(rows:LL)(i j:Nat):Int:=(rows i []).getD j 0
def aZ(O:aQ)(rows:LL)(x:Nat->Int):Prop:=∃a:Nat->Int,∀j,x j=aX O (fun i=>O.mul (a i) (ent rows i j)) rows.length
theorem aZ.zero(rows:LL):aZ O rows fun _=>0:=⟨fun _=>0,fun j=>(bR hO fun i _=>hO.zero_mul _).symm⟩
theorem aZ.add{rows:LL}{x y:Nat->Int}(C:aZ O rows x)(D:aZ O rows y):aZ O rows fun j=>O.add (x j) (y j):=by obtain⟨a,A⟩:=C;obtain⟨b,B⟩:=D;refine⟨fun i=>O.add (a i) (b i),fun j=>?_⟩;dsimp only;rw[A j,B j,<-jJ hO];exact aO fun i _=>(hO.add_mul _ _ _).symm
theorem aZ.smul{rows:LL}{x:Nat->Int}(c:Int)(B:aZ O rows x):aZ O rows fun j=>O.mul c (x j):=by obtain⟨a,A⟩:=B;refine⟨fun i=>O.mul c (a i),fun j=>?_⟩;dsimp only;rw[A j,eY hO];exact aO fun i _=>(hO.mul_assoc _ _ _).symm
theorem aZ.sum{rows:LL}{x:Nat->Nat->Int}:∀{n:Nat},(∀i,i<n->aZ O rows (x i))->aZ O rows fun j=>aX O (fun i=>x i j) n
 |0,_=>aZ.zero hO rows
 |n+1,h=>(aZ.sum fun i hi=>h i om).add hO (h n om)
theorem aZ.row{rows:LL}{k:Nat}(hk:k<rows)(A:∀j,0<=ent rows k j/\ent rows k j<q):aZ O rows (ent rows k):=by refine⟨fun i=>if i=k then 1 else 0,fun j=>?_⟩;rw[cO hO (k:=k) (by dsimp only;rw[iP rfl,hO.one_mul (A j).1 (A j).2];exact A j) hk (fun i _ B=>by dsimp only;rw[iN B,hO.zero_mul])];dsimp only;rw[iP rfl,hO.one_mul (A j).1 (A j).2]
omit hO in
theorem aZ.congr{rows:LL}{x y:Nat->Int}(B:aZ O rows x)(h:∀j,y j=x j):aZ O rows y:=by obtain⟨a,A⟩:=B;exact⟨a,fun j=>(h j).trans (A j)⟩
theorem aZ.lt{rows:LL}{x:Nat->Int}(B:aZ O rows x)(j:Nat):0<=x j/\x j<q:=by obtain⟨a,A⟩:=B;rw[A j];exact dS hO _ _
def cH(O:aQ)(A B:LL):Prop:=∀i,i<A.length->aZ O B (ent A i)
theorem aZ.trans{A B:LL}(h:cH O A B){x:Nat->Int}(D:aZ O A x):aZ O B x:=by obtain⟨a,C⟩:=D;exact(aZ.sum hO (x:=fun i j=>O.mul (a i) (ent A i j)) fun i hi=>(h i hi).smul hO (a i)).congr C
theorem cH.trans{A B C:LL}(h:cH O A B)(k:cH O B C):cH O A C:=fun i hi=>(h i hi).trans hO k
def jS(q:Int)(A:LL):Prop:=∀i j,0<=ent A i j/\ent A i j<q
omit hO in
theorem Rows.r{n:Nat}{A:LL}(h:Rows q n A)(hq:0<q):jS q A:=fun i j=>by
 unfold ent;by_cases hi:i<A
 .exact(h i hi).2 j
 .simp[List.getD,aY4 (show A<=i from om)];exact hq
theorem cH.refl{A:LL}(h:jS q A):cH O A A:=fun i hi=>aZ.row hO hi (h i)
omit hO in
theorem lC{l:LL}{k:Nat}{r:LI}(hk:k<l)(i j:Nat):ent (l.set k r) i j=if k=i then r j 0 else ent l i j:=by
 unfold ent;rw[fL];by_cases e:k=i
 .subst e;rw[iP ⟨rfl,hk⟩,iP rfl]
 .rw[iN (fun h=>e h.1),iN e]
omit hO in
theorem CM{l:LL}{i:Nat}(h:l<=i)(j:Nat):ent l i j=0:=by unfold ent;rw[aZ4 (l:=l),aY4 h];rfl
omit hO in
theorem tJ{n:Nat}{l:LL}(h:Rows q n l){i j:Nat}(A:n<=j):ent l i j=0:=by
 by_cases hi:i<l
 .unfold ent;exact bG (by rw[(h i hi).1];exact A)
 .exact CM om j
theorem D2{l:LL}(A:jS q l){k:Nat}(hk:k<l){r:LI}(h:aZ O l fun j=>r j 0):cH O (l.set k r) l:=fun i hi=>by
 rw[aZ9] at hi;by_cases e:k=i
 .subst e;exact h.congr fun j=>by rw[lC hk,iP rfl]
 .exact(aZ.row hO hi (A i)).congr fun j=>by rw[lC hk,iN e]
theorem CU{l:LL}{k:Nat}(hk:k<l){r:LI}(A:jS q (l.set k r))(h:aZ O (l.set k r) (ent l k)):cH O l (l.set k r):=fun i hi=>by
 by_cases e:k=i
 .subst e;exact h
 .exact(aZ.row hO (k:=i) (by rw[aZ9];exact hi) (A i)).congr fun j=>by rw[lC hk,iN e]
theorem sY{v u:LI}(a:Int)(A:∀i,0<=v i 0/\v i 0<q)(C:u.length<=v.length)(j:Nat):(cQ O v a u).getD j 0=O.add (v j 0) (O.mul a (u j 0)):=by
 by_cases B:j<v
 .rw[cQ,aK B];by_cases e:u j 0=0
  .rw[iN (by simpa using e),e,hO.mul_zero,hO.add_zero _ (A j).1 (A j).2]
  .rw[iP e]
 .rw[bG (by rw[kF];omega),bG (a:=v) om,bG (a:=u) om,hO.mul_zero,hO.zero_zero]
theorem jD(a:Int)(v:LI)(j:Nat):(bN O a v).getD j 0=O.mul a (v j 0):=by
 by_cases A:j<v
 .rw[bN,aK A]
 .unfold bN;rw[bG (by rw[aW];omega),bG (a:=v) om,hO.mul_zero]
def fN(O:aQ)(A B:LL):Prop:=cH O A B/\cH O B A
theorem fN.refl{A:LL}(h:jS q A):fN O A A:=⟨cH.refl hO h,cH.refl hO h⟩
theorem fN.trans{A B C:LL}(h:fN O A B)(k:fN O B C):fN O A C:=⟨h.1.trans hO k.1,k.2.trans hO h.2⟩
theorem fN.span{A B:LL}(h:fN O A B)(x:Nat->Int):aZ O A x↔aZ O B x:=⟨aZ.trans hO h.1,aZ.trans hO h.2⟩
omit hO in
theorem oG{l:LL}{a b:Nat}(A:a<l)(B:b<l)(i j:Nat):ent (cY l a b) i j=if b=i then ent l a j else if a=i then ent l b j else ent l i j:=by unfold cY;rw[lC (by rw[aZ9];exact B),lC A];rfl
theorem N2{n:Nat}{l:LL}(h:Rows q n l){a b:Nat}(B:a<l)(C:b<l):fN O (cY l a b) l:=by
 have D:=h.r (oA hO.lt.pos);have E:=(h.swap B C).r (oA hO.lt.pos);constructor
 .intro i hi;rw[gQ] at hi;by_cases e:b=i
  .exact(aZ.row hO B (D a)).congr fun j=>by rw[oG B C,iP e]
  .by_cases A:a=i
   .exact(aZ.row hO C (D b)).congr fun j=>by rw[oG B C,iN e,iP A]
   .exact(aZ.row hO hi (D i)).congr fun j=>by rw[oG B C,iN e,iN A]
 .intro i hi;by_cases e:b=i
  .refine(aZ.row hO (k:=a) (by rw[gQ];exact B) (E a)).congr fun j=>?_;rw[oG B C];by_cases A:b=a
   .rw[iP A,<-e,A]
   .rw[iN A,iP rfl,e]
  .by_cases A:a=i
   .exact(aZ.row hO (k:=b) (by rw[gQ];exact C) (E b)).congr fun j=>by rw[oG B C,iP rfl,A]
   .exact(aZ.row hO (k:=i) (by rw[gQ];exact hi) (E i)).congr fun j=>by rw[oG B C,iN e,iN A]
theorem KJ{n:Nat}{l:LL}(h:Rows q n l)(c:Nat){a:Nat}(A:a<l)(E:ent l a c≠0):fN O (dW O c a l) l:=by
 have B:=h.r (oA hO.lt.pos);have C:=(Rows.monic hO.lt h c A).r (oA hO.lt.pos)
 revert C
 unfold dW;split
 .intro C;have D:=B a c;have hi:=hO.mul_inv (ent l a c) om D.2;refine⟨D2 hO B A (((aZ.row hO A (B a)).smul hO (O.inv (ent l a c))).congr fun j=>by rw[jD hO];rfl),CU hO A C ?_⟩;refine((aZ.row hO (k:=a) (by rw[aZ9];exact A) (C a)).smul hO (ent l a c)).congr fun j=>?_;rw[lC A,iP rfl,jD hO,<-hO.mul_assoc];rw[show O.mul (ent l a c) (O.inv ((l a []).getD c 0))=1 from hi];exact(hO.one_mul (B a j).1 (B a j).2).symm
 .intro _;exact fN.refl hO B
theorem RE(c:Nat){a:Nat}{l:LL}(B:a<l)(i j:Nat):
 ent (dW O c a l) i j=if a=i/\ent l a c≠1 then O.mul (O.inv (ent l a c)) (ent l a j) else ent l i j:=by
 unfold dW;by_cases e:ent l a c=1
 .rw[iN (show ¬(l a []).getD c 0≠1 from fun h=>h e),iN (fun h=>h.2 e)]
 .rw[iP (show(l a []).getD c 0≠1 from e),lC B];by_cases A:a=i
  .rw[iP A,iP ⟨A,e⟩,jD hO];rfl
  .rw[iN A,iN (fun h=>A h.1)]
theorem L8{n:Nat}{l:LL}(h:Rows q n l)(c:Nat){a i:Nat}(C:a<l)(hi:i<l)(E:i≠a):
 (∀k j,ent (l.set i (cQ O (l i []) (O.neg (ent l i c)) (l a []))) k j=if i=k then O.add (ent l i j) (O.mul (O.neg (ent l i c)) (ent l a j)) else ent l k j)/\
 fN O (l.set i (cQ O (l i []) (O.neg (ent l i c)) (l a []))) l:=by
 have A:=h.r (oA hO.lt.pos);have B:∀j,(cQ O (l i []) (O.neg (ent l i c)) (l a [])).getD j 0=O.add (ent l i j) (O.mul (O.neg (ent l i c)) (ent l a j)):=fun j=>sY hO _ (h i hi).2 (by rw[(h i hi).1,(h a C).1];exact zr) j;have D:jS q (l.set i (cQ O (l i []) (O.neg (ent l i c)) (l a []))):=fun k j=>by
  rw[lC hi];split
  .rw[B];exact hO.lt.add _ _
  .exact A k j
 have hA:∀j,ent (l.set i (cQ O (l i []) (O.neg (ent l i c)) (l a []))) a j=ent l a j:=fun j=>by rw[lC hi,iN E]
 refine⟨fun k j=>?_,D2 hO A hi (((aZ.row hO hi (A i)).add hO ((aZ.row hO C (A a)).smul hO (O.neg (ent l i c)))).congr B),CU hO hi D ?_⟩
 .rw[lC hi,B]
 .refine((aZ.row hO (k:=i) (by rw[aZ9];exact hi) (D i)).add hO ((aZ.row hO (k:=a) (by rw[aZ9];exact C) (D a)).smul hO (ent l i c))).congr fun j=>?_;rw[hA,lC hi,iP rfl,B,hO.add_assoc,<-hO.add_mul,hO.neg_add,hO.zero_mul,hO.add_zero _ (A i j).1 (A i j).2]
theorem B7{n:Nat}{l:LL}(h:Rows q n l)(c:Nat){a:Nat}(E:a<l):∀i,i<=l.length->
 fN O (bH O c a l i) l/\∀k j,ent (bH O c a l i) k j=if k<i/\k≠a/\ent l k c≠0 then O.add (ent l k j) (O.mul (O.neg (ent l k c)) (ent l a j)) else ent l k j
 |0,_=>⟨fN.refl hO (h.r (oA hO.lt.pos)),fun k j=>by rw[iN (fun h=>aB h.1 om)];rfl⟩
 |i+1,hi=>by
  obtain⟨D,C⟩:=B7 h c E i om;have hR:=Rows.clear hO.lt h c a i om;have F:=kN O c a l i;have B:∀j,ent (bH O c a l i) i j=ent l i j:=fun j=>by rw[C i j,iN (fun h=>aB h.1 om)]
  have G:∀j,ent (bH O c a l i) a j=ent l a j:=fun j=>by rw[C a j,iN (fun h=>h.2.1 rfl)]
  rw[bH];by_cases A:i≠a/\((bH O c a l i).getD i []).getD c 0≠0
  .rw[iP A];have J:ent l i c≠0:=by rw[<-B];exact A.2
   obtain⟨H,I⟩:=L8 hO hR c (a:=a) (i:=i) (by rw[F];exact E) (by rw[F];omega) A.1;refine⟨I.trans hO D,fun k j=>?_⟩;rw[show((bH O c a l i).getD i []).getD c 0=ent (bH O c a l i) i c from rfl,H k j];by_cases e:i=k
   .subst e;rw[iP rfl,iP ⟨om,A.1,J⟩,B,B,G]
   .rw[iN e,C k j];by_cases hk:k<i/\k≠a/\ent l k c≠0
    .rw[iP hk,iP ⟨om,hk.2⟩]
    .rw[iN hk,iN (fun h=>hk ⟨om,h.2⟩)]
  .rw[iN A];refine⟨D,fun k j=>?_⟩;rw[C k j];by_cases e:i=k
   .subst e;rw[iN (fun h=>aB h.1 om),iN (fun h=>A ⟨h.2.1,by rw[show((bH O c a l i).getD i []).getD c 0=ent (bH O c a l i) i c from rfl,B];exact h.2.2⟩)]
   .by_cases hk:k<i/\k≠a/\ent l k c≠0
    .rw[iP hk,iP ⟨om,hk.2⟩]
    .rw[iN hk,iN (fun h=>hk ⟨om,h.2⟩)]
end
def pvt(p:LI)(i:Nat):Nat:=(p i 0).toNat
structure Ech(l:LL)(p:LI)(c:Nat):Prop where
 len:p.length<=l.length
 nn:∀i,i<p.length->p i 0=(pvt p i:Int)
 lt:∀i,i<p.length->pvt p i<c
 inc:∀i k,i<k->k<p.length->pvt p i<pvt p k
 one:∀i,i<p.length->ent l i (pvt p i)=1
 off:∀i,i<p.length->∀k,k≠i->ent l k (pvt p i)=0
 low:∀i,i<p.length->∀j,j<pvt p i->ent l i j=0
 rest:∀k,p.length<=k->∀j,j<c->ent l k j=0
theorem CO(l:LL)(c n:Nat):∀f k,k+f=n->(gG l c n f k=n/\∀i,k<=i->i<n->ent l i c=0)\/(gG l c n f k<n/\k<=gG l c n f k/\ent l (gG l c n f k) c≠0)
 |0,k,h=>.inl ⟨by unfold gG;omega,fun i A B=>om⟩
 |f+1,k,h=>by
  unfold gG;by_cases e:(l k []).getD c 0=0
  .rw[iP e];rcases CO l c n f (k+1) om with⟨A,B⟩|⟨A,B,D⟩
   .refine .inl ⟨A,fun i F E=>?_⟩;by_cases C:i=k
    .subst C;exact e
    .exact B i om E
   .exact .inr ⟨A,om,D⟩
  .rw[iN e];exact .inr ⟨om,zr,e⟩
theorem lJ{p:LI}{c i:Nat}:pvt (p++[(c:Int)]) i=if i<p then pvt p i else if i=p then c else 0:=by
 unfold pvt;by_cases h:i<p
 .rw[iP h];simp[List.getD,aY2 h]
 .rw[iN h];by_cases e:i=p
  .subst e;simp[List.getD]
  .rw[iN e];rw[aZ4,aY4 (by simp;omega)];rfl
section
variable {O:aQ} {q:Int} (hO:O.Fld q)
include hO
theorem Y6{n:Nat}{l:LL}{p:LI}{c k:Nat}(h:Rows q n l)(B:Ech l p c)(C:p.length<l.length)(W:p<=k)(L:k<l)(o:ent l k c≠0):
 Ech (lP O c l p k) (p++[(c:Int)]) (c+1)/\fN O (lP O c l p k) l:=by
 have hq:=hO.lt.pos;have u:=h.r om;have J:=h.swap C L;have F:=gQ l p k;have w:=J.r om;have g:=N2 hO h C L;have Q:=fun i j=>oG (l:=l) C L i j;have G:∀j,ent (cY l p k) p j=ent l k j:=fun j=>by
  rw[Q];by_cases e:k=p
  .rw[iP e,e]
  .rw[iN e,iP rfl]
 have T:=Rows.monic hO.lt J c (a:=p.length) (by rw[F];exact C);have f:=oM O c p (cY l p k);have U:=T.r om;have d:=KJ hO J c (a:=p.length) (by rw[F];exact C) (by rw[G];exact o);have H:=fun i j=>RE hO c (a:=p.length) (l:=cY l p k) (by rw[F];exact C) i j
 --the pivot's row
 have V:ent (dW O c p (cY l p k)) p c=1:=by
  rw[H,G];by_cases e:ent l k c=1
  .rw[iN (fun h=>h.2 e)];exact e
  .rw[iP ⟨rfl,e⟩,hO.mul_comm];have:=u k c;exact hO.mul_inv _ om this.2
 have K:∀j,j<c->ent (dW O c p (cY l p k)) p j=0:=fun j A=>by rw[H,G,G,B.rest k W j A,hO.mul_zero];split<;>rfl
 have t:∀i j,j<c->ent (dW O c p (cY l p k)) i j=ent l i j:=fun i j A=>by
  by_cases e:p=i
  .subst e;rw[K j A,B.rest _ zr j A]
  .rw[H,iN (fun h=>e h.1),Q];by_cases P:k=i
   .subst P;rw[iP rfl,B.rest _ zr j A,B.rest _ W j A]
   .rw[iN P,iN e]
 have I:(dW O c p (cY l p k)).length=l.length:=by rw[f,F]
 obtain⟨S,D⟩:=B7 hO T c (a:=p.length) (by rw[I];exact C) l (by rw[I];exact zr);have v:lP O c l p k=bH O c p (dW O c p (cY l p k)) l.length:=rfl;rw[<-v] at S D;have E:∀i j,j<c->ent (lP O c l p k) i j=ent l i j:=fun i j A=>by rw[D,K j A,hO.mul_zero,hO.add_zero _ (U i j).1 (U i j).2,t i j A];split<;>rfl
 have R:∀j,ent (lP O c l p k) p j=ent (dW O c p (cY l p k)) p j:=fun j=>by rw[D,iN (fun h=>h.2.1 rfl)]
 have N:∀i,i≠p.length->ent (lP O c l p k) i c=0:=fun i hi=>by
  rw[D];by_cases e:ent (dW O c p (cY l p k)) i c=0
  .rw[iN (fun h=>h.2.2 e),e]
  .have m:i<l:=by
    refine eJ fun x=>e ?_;exact CM (by rw[I];omega) c
   rw[iP ⟨m,hi,e⟩,V,hO.mul_one _ (hO.neg_lt _).1 (hO.neg_lt _).2,hO.add_neg]
 have s:=GD O c l p k;refine⟨⟨by rw[aZ1,aZ2,s];omega,fun i hi=>?_,fun i hi=>?_,fun i Y Z b=>?_,fun i hi=>?_,fun i hi M X=>?_,fun i hi j A=>?_,fun i hi j A=>?_⟩,S.trans hO (d.trans hO g)⟩
 .rw[aZ1,aZ2] at hi;rw[lJ];by_cases e:i<p
  .rw[iP e,<-B.nn i e];simp[List.getD,aY2 e]
  .obtain rfl:i=p:=om;rw[iN e,iP rfl];simp[List.getD]
 .rw[aZ1,aZ2] at hi;rw[lJ];by_cases e:i<p
  .rw[iP e];have:=B.lt i e;omega
  .rw[iN e,iP om];omega
 .rw[aZ1,aZ2] at b;rw[lJ,lJ,iP (by omega:i<p)];by_cases e:Y<p
  .rw[iP e];exact B.inc i Y Z e
  .rw[iN e,iP om];exact B.lt i om
 .rw[aZ1,aZ2] at hi;rw[lJ];by_cases e:i<p
  .rw[iP e,E i _ (B.lt i e),B.one i e]
  .obtain rfl:i=p:=om;rw[iN e,iP rfl,R,V]
 .rw[aZ1,aZ2] at hi;rw[lJ];by_cases e:i<p
  .rw[iP e,E M _ (B.lt i e),B.off i e M X]
  .obtain rfl:i=p:=om;rw[iN e,iP rfl,N M X]
 .rw[aZ1,aZ2] at hi;rw[lJ] at A;by_cases e:i<p
  .rw[iP e] at A;rw[E i j (oA (B.lt i e)),B.low i e j A]
  .obtain rfl:i=p:=om;rw[iN e,iP rfl] at A;rw[R,K j A]
 .rw[aZ1,aZ2] at hi;by_cases e:j<c
  .rw[E i j e,B.rest i om j e]
  .obtain rfl:j=c:=om;exact N i om
theorem xM{n:Nat}{rows:LL}(h:Rows q n rows):∀c,Ech (aJ O rows c).1 (aJ O rows c).2 c/\fN O (aJ O rows c).1 rows
 |0=>⟨⟨aZ5 _,fun i hi=>aB hi (by simp[aJ]),fun i hi=>aB hi (by simp[aJ]),fun i k _ hi=>aB hi (by simp[aJ]),fun i hi=>aB hi (by simp[aJ]),fun i hi=>aB hi (by simp[aJ]),fun i hi=>aB hi (by simp[aJ]),fun k _ j D=>aB D om⟩,fN.refl hO (h.r (oA hO.lt.pos))⟩
 |c+1=>by
  obtain⟨A,hA⟩:=xM h c;have hR:=Rows.elim hO.lt h c;have J:=A.len;rw[aJ];by_cases E:(aJ O rows c).2.length<(aJ O rows c).1.length
  .rw[iP E];rcases CO (aJ O rows c).1 c (aJ O rows c).1.length ((aJ O rows c).1.length-(aJ O rows c).2.length) (aJ O rows c).2.length om with⟨B,C⟩|⟨B,C,H⟩
   .rw[iP B];refine⟨⟨A.len,A.nn,fun i hi=>oA (A.lt i hi),A.inc,A.one,A.off,A.low,fun k hk j D=>?_⟩,hA⟩;by_cases e:j<c
    .exact A.rest k hk j e
    .obtain rfl:j=c:=om;by_cases I:k<(aJ O rows j).1.length
     .exact C k hk I
     .exact CM om j
   .rw[iN om];obtain⟨F,G⟩:=Y6 hO hR A E C B H;exact⟨F,G.trans hO hA⟩
  .rw[iN E];refine⟨⟨A.len,A.nn,fun i hi=>oA (A.lt i hi),A.inc,A.one,A.off,A.low,fun k hk j D=>?_⟩,hA⟩;exact CM om j
structure gT(O:aQ)(q:Int)(n:Nat)(A:LL)(p:LI):Prop where
 rows:Rows q n A
 len:p.length=A.length
 nn:∀i,i<A.length->p i 0=(pvt p i:Int)
 lt:∀i,i<A.length->pvt p i<n
 inc:∀i k,i<k->k<A.length->pvt p i<pvt p k
 one:∀i,i<A.length->ent A i (pvt p i)=1
 off:∀i,i<A.length->∀k,k≠i->ent A k (pvt p i)=0
 low:∀i,i<A.length->∀j,j<pvt p i->ent A i j=0
omit hO in
theorem WB{l:LL}{r i:Nat}(h:i<r)(j:Nat):ent (l.take r) i j=ent l i j:=by unfold ent;congr 1;simp[List.getD,List.getElem?_take,h]
theorem cI{n:Nat}{rows:LL}(h:Rows q n rows):gT O q n (bC O rows n) (oS O rows n)/\fN O (bC O rows n) rows:=by
 obtain⟨A,hA⟩:=xM hO h n;have hR:=Rows.elim hO.lt h n;have hq:=hO.lt.pos;have E:(bC O rows n).length=(aJ O rows n).2.length:=by unfold bC;rw[aY3];have:=A.len;omega
 have B:∀i j,i<(aJ O rows n).2.length->ent (bC O rows n) i j=ent (aJ O rows n).1 i j:=fun i j hi=>WB hi j;have F:∀i j,(aJ O rows n).2.length<=i->ent (aJ O rows n).1 i j=0:=fun i j hi=>by
  by_cases C:j<n
  .exact A.rest i hi j C
  .exact tJ hR om
 have D:Rows q n (bC O rows n):=fun k hk=>by
  rw[E] at hk;have e:(bC O rows n).getD k []=(aJ O rows n).1.getD k []:=by unfold bC;simp[List.getD,List.getElem?_take,hk]
  rw[e];exact hR k (oA A.len)
 refine⟨⟨D,E.symm,fun i hi=>A.nn i om,fun i hi=>A.lt i om,fun i k G I=>A.inc i k G om,fun i hi=>?_,fun i hi k H=>?_,fun i hi j C=>?_⟩,fN.trans hO ⟨fun i hi=>?_,fun i hi=>?_⟩ hA⟩
 .rw[B _ _ om];exact A.one i om
 .by_cases hk:k<(aJ O rows n).2.length
  .rw[B _ _ hk];exact A.off i om k H
  .exact CM om _
 .rw[B _ _ om];exact A.low i om j C
 .exact(aZ.row hO (oA A.len) (hR.r om i)).congr fun j=>B i j om
 .by_cases hk:i<(aJ O rows n).2.length
  .exact(aZ.row hO om (D.r om i)).congr fun j=>(B i j hk).symm
  .exact(aZ.zero hO _).congr fun j=>F i j om
section
variable {n:Nat} {A:LL} {p:LI} (hA:gT O q n A p)
include hA
theorem gT.r:jS q A:=hA.rows.r (oA hO.lt.pos)
theorem gT.coef{a:Nat->Int}{i:Nat}(hi:i<A)(B:0<=a i/\a i<q):aX O (fun k=>O.mul (a k) (ent A k (pvt p i))) A=a i:=by
 have e:O.mul (a i) (ent A i (pvt p i))=a i:=by rw[hA.one i hi,hO.mul_one _ B.1 B.2]
 rw[cO hO (k:=i) (by rw[e];exact B) hi (fun k _ C=>by rw[hA.off i hi k C,hO.mul_zero]),e]
theorem gT.mem{x:Nat->Int}:aZ O A x↔∀j,x j=aX O (fun i=>O.mul (x (pvt p i)) (ent A i j)) A.length:=by
 constructor
 .rintro⟨a,B⟩ j;rw[B j];refine aO fun i hi=>?_
  --the coefficient counts only as an element
  have C:x (pvt p i)=O.mul (a i) 1:=by
   rw[B];have e:O.mul (a i) (ent A i (pvt p i))=O.mul (a i) 1:=by rw[hA.one i hi]
   rw[cO hO (k:=i) (hO.lt.mul _ _) hi (fun k _ D=>by rw[hA.off i hi k D,hO.mul_zero]),e]
  rw[C,hO.mul_assoc,hO.one_mul (hA.r hO i j).1 (hA.r hO i j).2]
 .intro h;exact⟨fun i=>x (pvt p i),h⟩
theorem gT.lead{x:Nat->Int}(E:aZ O A x){k:Nat}(B:∀j,j<k->x j=0)(hk:x k≠0):∃i,i<A.length/\pvt p i=k:=by
 refine eJ fun D=>hk ?_;rw[(hA.mem hO).1 E k];refine bR hO fun i hi=>?_;by_cases C:pvt p i<k
 .rw[B _ C,hO.zero_mul]
 .have F:pvt p i≠k:=fun e=>D ⟨i,hi,e⟩;rw[hA.low i hi k om,hO.mul_zero]
end
theorem AX{n:Nat}{A B:LL}{p C:LI}(hA:gT O q n A p)(hB:gT O q n B C)(h:fN O A B):A=B:=by
 have key:∀{A B:LL} {p C:LI},gT O q n A p->gT O q n B C->cH O A B->∀i,i<A.length->∃k,k<B.length/\pvt C k=pvt p i:=by intro A B p C hA hB hI i hi;exact hB.lead hO (hI i hi) (fun j V=>hA.low i hi j V) (by rw[hA.one i hi];decide)
 have E:=key hA hB h.1;have F:=key hB hA h.2;have Y:∀{A:LL} {p:LI},gT O q n A p->∀i k,i<A.length->k<A.length->pvt p i=pvt p k->i=k:=by
  intro A p hA i k hi hk e;rcases Nat.lt_trichotomy i k with D|D|D
  .have:=hA.inc i k D hk;omega
  .exact D
  .have:=hA.inc k i D hi;omega
 have order:∀{A B:LL} {p C:LI},gT O q n A p->gT O q n B C->(∀i,i<A.length->∃k,k<B.length/\pvt C k=pvt p i)->(∀i,i<B.length->∃k,k<A.length/\pvt p k=pvt C i)->∀i,i<A.length->i<B.length/\pvt C i=pvt p i:=by
  intro A B p C hA hB E F i
  induction i using Nat.strongRecOn with
  |ind i ih=>
   intro hi;obtain⟨k,hk,e⟩:=E i hi;have d:i<=k:=by refine eJ fun I=>?_;obtain⟨_,K⟩:=ih k om om;have:=Y hA k i om hi om;omega
   by_cases W:i=k
   .subst W;exact⟨hk,e⟩
   .exfalso;have M:i<B:=om;have I:=hB.inc i k om hk;obtain⟨m,N,a⟩:=F i M;have P:m<i:=by
     refine eJ fun c=>?_;by_cases R:m=i
     .subst R;omega
     .have:=hA.inc i m om N;omega
    obtain⟨_,b⟩:=ih m P N;have:=hB.inc m i P M;omega
 have J:=order hA hB E F;have f:A.length<=B.length:=by refine eJ fun I=>?_;have:=J B om;omega
 have Z:=order hB hA F E;have g:B.length<=A.length:=by refine eJ fun I=>?_;have:=Z A om;omega
 have D:A.length=B.length:=om;have U:∀i,i<A.length->∀j,ent A i j=ent B i j:=by
  intro i hi j;rw[(hB.mem hO).1 (h.1 i hi) j];have e:O.mul (ent A i (pvt C i)) (ent B i j)=ent B i j:=by rw[(J i hi).2,hA.one i hi,hO.one_mul (hB.r hO i j).1 (hB.r hO i j).2]
  rw[cO hO (k:=i) (by rw[e];exact hB.r hO i j) om (fun k hk X=>by rw[(J k om).2,hA.off k om i (fun e=>X e.symm),hO.zero_mul]),e]
 refine eK D fun i G L=>?_;have Q:=(hA.rows i G).1;have K:=(hB.rows i L).1;have H:=U i G;unfold ent at H;simp only[aZ4 (l:=A),aZ4 (l:=B),aZ3 G,aZ3 L,Option.getD_some] at Q K H;refine eK om fun j S T=>?_;have:=H j;simpa[List.getD,S,T] using this
theorem VR{n:Nat}{A B:LL}(hA:Rows q n A)(hB:Rows q n B)(h:fN O A B):bC O A n=bC O B n:=by obtain⟨D,E⟩:=cI hO hA;obtain⟨F,C⟩:=cI hO hB;exact AX hO D F (E.trans hO (h.trans hO ⟨C.2,C.1⟩))
theorem L5{n:Nat}{A:LL}{p:LI}(hA:gT O q n A p):bC O A n=A:=by obtain⟨B,C⟩:=cI hO hA.rows;exact AX hO B hA C
end
end
section
open Go.RowKit
def RK(q k:Nat):Int:=if q^k<=65536 then((q^k:Nat):Int) else 0
def RM(q k:Nat):Int:=if q^k<=65536 then 0 else 8
theorem OU{m q o:Nat}(hq:0<q):(m:Int)/(q:Int)<(o:Int)↔m<o*q:=by rw[<-Int.natCast_ediv,Int.ofNat_lt,Nat.div_lt_iff_lt_mul hq]
theorem ab(q k i o:Nat)(hq:2<=q)(B:o=q^i)(hi:i<k)(h:(65536:Int)/(q:Int)<(o:Int)):RK q k=0/\RM q k=8:=by have C:65536<o*q:=(OU (m:=65536) om).1 h;have A:q^(i+1)<=q^k:=Nat.pow_le_pow_right om hi;rw[Nat.pow_succ,<-B] at A;unfold RK RM;exact⟨iN om,iN om⟩
theorem WD(q o:Nat)(hq:2<=q)(h:¬(65536:Int)/(q:Int)<(o:Int)):o*q<=65536:=by have A:¬65536<o*q:=fun e=>h ((OU (m:=65536) om).2 e);exact Nat.le_of_not_lt A
theorem ac(q k o:Nat)(A:o=q^k)(h:o<=65536):RK q k=(o:Int)/\RM q k=0:=by unfold RK RM;rw[<-A];exact⟨iP h,iP h⟩
theorem ZY(w:Wo)(q k:Nat)(D:2<=q)(M:q<=256)(hk:k<=256):Calls prog 138 #[q,k,.int .i64 65536] w (fun e w'=>e=.returned (.tuple #[.int .i64 (RK q k),.int .i64 (RM q k)])/\w=w'):=by
 have F:=zh (ab q k);have G:=zh (ac q k);have J:=zh (WD q);go_enter func138,ntmps138;go_wp2;go_loop [1,8] (fun i s=>∃j o:Nat,j<=k/\i=(j:aV)/\s=(o:aV)/\Hid (o=q^(k-j))/\o<=65536) (fun i _=>(intOf i).toNat)
 .exact⟨k,1,zr,rfl,rfl,aG (by rw[Nat.sub_self];rfl),om⟩
 .
  obtain⟨j,o,O,rfl,rfl,B,K⟩:=hrel;by_cases P:0<j
  .by_cases E:(65536:Int)/(q:Int)<(o:Int)
   .have A:=zh (F _ _ D B om E);go_wp2;go_ret2;exact⟨by rw[A.out.1,A.out.2];rfl,rfl⟩
   .have N:¬(65536:Int)/(q:Int)<(o:Int):=E;have H:Hid (∃p:Nat,p=o*q/\p<=65536):=aG ⟨_,rfl,J.out _ D om⟩;obtain⟨p,C,L⟩:=H.out;have I:=zh C;have Q:(o:Int)*(q:Int)=(p:Int):=by rw[C];exact(Int.natCast_mul _ _).symm
    have R:=IntWalk.i64_in (p:Int) om;clear C;go_wp2;go_round
    .exact⟨j-1,p,om,by go_num,rfl,aG (by rw[I.out,B.out,<-Nat.pow_succ];congr 1;omega),L⟩
    .simp[intOf];omega
  .have e:j=0:=om;subst e;have A:=zh (G _ B K);go_wp2;go_ret2;exact⟨by rw[A.out.1,A.out.2];rfl,rfl⟩
structure Two(w w':Wo)(b:Nat)(row:Option Nat):Prop where
 os:w'.os=w.os
 tape:w'.tape=w.tape
 output:w'.output=w.output
 size:w.heap.size<=w'.heap.size
 block:∀k,k<w.heap.size->k≠b->some k≠row->w'.heap[k]?=w.heap[k]?
theorem Two.refl(w:Wo)(b:Nat)(row:Option Nat):Two w w b row:=⟨rfl,rfl,rfl,zr,fun _ _ _ _=>rfl⟩
theorem Two.grown{w0 w w':Wo}{b:Nat}{row E:Option Nat}(h:Two w0 w b row)(A:w.grownBy w' E)(F:∀g,E=some g->g<w0.heap.size->g=b\/row=some g):Two w0 w' b row:=
 ⟨A.os.trans h.os,A.tape.trans h.tape,A.output.trans h.output,aZ6 h.size A.size,fun k hk C D=>(A.block k (aY1 hk h.size) (fun e=>by
  rcases F k e.symm hk with B|B
  .exact C B
  .exact D B.symm)).trans (h.block k hk C D)⟩
theorem Two.trans{w0 w w':Wo}{b:Nat}{row D:Option Nat}(h:Two w0 w b row)(A:Two w w' b D)(E:∀g,D=some g->g<w0.heap.size->row=some g):Two w0 w' b row:=
 ⟨A.os.trans h.os,A.tape.trans h.tape,A.output.trans h.output,aZ6 h.size A.size,fun k hk B C=>(A.block k (aY1 hk h.size) B (fun e=>C (E k e.symm hk).symm)).trans (h.block k hk B C)⟩
theorem Two.below{w0 w:Wo}{b B:Nat}{row:Option Nat}{a:Wo}(h:Two w0 w b row)(A:Below B a w0)(D:B<=b)(hB:B<=w0)(C:∀g,row=some g->B<=g):Below B a w:=
 A.trans ⟨h.os,h.tape,h.output,h.size,fun k hk=>h.block k om om (fun e=>oA (C k e.symm))⟩
theorem OS.ne_blk{B:Nat}{X:Nat->Prop}{w:Wo}{v:Va}{xss:LL}(h:OS B X w v xss){g:Nat}{t:TypeId}{cs:List Va}(A:Blk w g t cs)(E:t≠22):v.ownBlock≠some g:=by
 obtain⟨us,D,_⟩:=h;intro e;rcases D.2 with⟨rfl,_⟩|⟨H,F,G,rfl,_,C,_⟩
 .simp[Value.ownBlock] at e
 .simp[Value.ownBlock] at e;subst e;unfold Blk at A;rw[C] at A;injection A with A
  injection A with _ hb2
  exact E hb2.symm
def BX(b:Int):Bool:=decide (97<=b)&&decide (b<=122)
def xC(b:Int):Bool:=decide (48<=b)&&decide (b<=57)
def vR(b:Int):Bool:=BX b||xC b||b==95
def bAt(s:By)(k:Nat):Int:=((s.data.toList k 0).toNat:Int)
theorem ZV{s:By}{k:Nat}(h:k<s.size):((s[k]'h).toNat:Int)=bAt s k:=by
 have A:k<s.data.toList.length:=by rw[Array.length_toList];exact h
 unfold bAt;rw[aZ4,aZ3 A];rfl
theorem yU{s:By}{k:Nat}(h:k<s.size){x:Int}(A:bAt s k=x)(w:Wo):(Instr.index 9 (.string s) (k:aV)).run prog w=.ok (.int .u8 x) w:=by
 rw[run_index_string (P:=prog) w 9 s .i64 k underlying9,dif_pos ⟨om,om⟩];have e:(k:Int).toNat=k:=om;subst A;rw[<-ZV h];simp only[e]
theorem gH(w:Wo)(b:Int):Calls prog 66 #[.int .u8 b] w (fun e w'=>e=.returned (.bool (BX b))/\w=w'):=by
 by_cases h:(97:Int)<=b
 .have A:decide ((97:Int)<=b)=true:=dE h;go_enter func66,ntmps66;go_wp2;go_ret;exact⟨by simp[BX,A],rfl⟩
 .have A:decide ((97:Int)<=b)=false:=dG h;go_enter func66,ntmps66;go_wp2;go_ret;exact⟨by simp[BX,A],rfl⟩
theorem mP(w:Wo)(b:Int):Calls prog 69 #[.int .u8 b] w (fun e w'=>e=.returned (.bool (xC b))/\w=w'):=by
 by_cases h:(48:Int)<=b
 .have A:decide ((48:Int)<=b)=true:=dE h;go_enter func69,ntmps69;go_wp2;go_ret;exact⟨by simp[xC,A],rfl⟩
 .have A:decide ((48:Int)<=b)=false:=dG h;go_enter func69,ntmps69;go_wp2;go_ret;exact⟨by simp[xC,A],rfl⟩
theorem MT(w:Wo)(b:Int):Calls prog 68 #[.int .u8 b] w (fun e w'=>e=.returned (.bool (vR b))/\w=w'):=by
 cases hl:BX b
 .cases hd:xC b
  .have A:=zh hl;have B:=zh hd;clear hl hd;go_enter func68,ntmps68;go_wp2_with fail;apply(gH _ b).mono;rintro e w1⟨rfl,rfl⟩;rw[A.out];go_wp2_with fail;apply(mP _ b).mono;rintro e w1⟨rfl,rfl⟩;rw[B.out];go_wp2;go_ret;exact⟨by simp[vR,A.out,B.out],rfl⟩
  .have A:=zh hl;have B:=zh hd;clear hl hd;go_enter func68,ntmps68;go_wp2_with fail;apply(gH _ b).mono;rintro e w1⟨rfl,rfl⟩;rw[A.out];go_wp2_with fail;apply(mP _ b).mono;rintro e w1⟨rfl,rfl⟩;rw[B.out];go_wp2;go_ret;exact⟨by simp[vR,A.out,B.out],rfl⟩
 .have A:=zh hl;clear hl;go_enter func68,ntmps68;go_wp2_with fail;apply(gH _ b).mono;rintro e w1⟨rfl,rfl⟩;rw[A.out];go_wp2;go_ret;exact⟨by simp[vR,A.out],rfl⟩
theorem GK(w:Wo)(s:By)(i j:Nat)(Q:s.size<=1000)(K:i<=j)(O:j<=s.size)(F:∀k,i<=k->k<j->vR (bAt s k)=true)(E:j<s.size->vR (bAt s j)=false):
 Calls prog 67 #[.string s,i,.func (.func 68) #[] #[]] w (fun e w'=>e=.returned (j:aV)/\w=w'):=by
 have H:=zh F;have G:=zh E;clear F E;go_enter func67,ntmps67;go_wp2;go_loopw [1] (fun u wr=>∃k:Nat,i<=k/\k<=j/\u=(k:aV)/\w=wr) (fun u _=>j-(intOf u).toNat)
 .exact⟨i,zr,K,rfl,rfl⟩
 .
  obtain⟨k,L,P,rfl,rfl⟩:=hrel;by_cases A:k<s.size
  .obtain⟨b,C⟩:∃b,bAt s k=b:=⟨_,rfl⟩
   have N:=fun M=>yU A C M;have I:decide ((k:Int)<(s.size:Int))=true:=dE om;have J:decide (k<s.size)=true:=dE A;have D:=zh C;clear C;go_wp2_with fail;apply(MT _ b).mono;rintro e w1⟨rfl,rfl⟩;by_cases hk:k<j
   .have B:Hid (vR b=true):=aG (D.out▸H.out k L hk);rw[B.out];go_wp2;exact⟨⟨k+1,om,om,pC,trivial⟩,oI⟩
   .obtain rfl:j=k:=om;have B:Hid (vR b=false):=aG (D.out▸G.out A);rw[B.out];go_wp2;go_ret;exact⟨rfl,rfl⟩
  .obtain rfl:j=k:=om;have I:decide ((j:Int)<(s.size:Int))=false:=dG om;have J:decide (j<s.size)=false:=dG A;go_wp2;go_ret;exact⟨rfl,rfl⟩
theorem UM(w:Wo)(s:By)(i j:Nat)(Q:s.size<=1000)(K:i<=j)(O:j<=s.size)(F:∀k,i<=k->k<j->xC (bAt s k)=true)(E:j<s.size->xC (bAt s j)=false):
 Calls prog 67 #[.string s,i,.func (.func 69) #[] #[]] w (fun e w'=>e=.returned (j:aV)/\w=w'):=by
 have H:=zh F;have G:=zh E;clear F E;go_enter func67,ntmps67;go_wp2;go_loopw [1] (fun u wr=>∃k:Nat,i<=k/\k<=j/\u=(k:aV)/\w=wr) (fun u _=>j-(intOf u).toNat)
 .exact⟨i,zr,K,rfl,rfl⟩
 .
  obtain⟨k,L,P,rfl,rfl⟩:=hrel;by_cases A:k<s.size
  .obtain⟨b,C⟩:∃b,bAt s k=b:=⟨_,rfl⟩
   have N:=fun M=>yU A C M;have I:decide ((k:Int)<(s.size:Int))=true:=dE om;have J:decide (k<s.size)=true:=dE A;have D:=zh C;clear C;go_wp2_with fail;apply(mP _ b).mono;rintro e w1⟨rfl,rfl⟩;by_cases hk:k<j
   .have B:Hid (xC b=true):=aG (D.out▸H.out k L hk);rw[B.out];go_wp2;exact⟨⟨k+1,om,om,pC,trivial⟩,oI⟩
   .obtain rfl:j=k:=om;have B:Hid (xC b=false):=aG (D.out▸G.out A);rw[B.out];go_wp2;go_ret;exact⟨rfl,rfl⟩
  .obtain rfl:j=k:=om;have I:decide ((j:Int)<(s.size:Int))=false:=dG om;have J:decide (j<s.size)=false:=dG A;go_wp2;go_ret;exact⟨rfl,rfl⟩
theorem fg(s:By)(c:Int)(w:Wo):(callFunc 162 #[.string s,.int .u8 c]).run prog w=.ok (.value (.int .i64 (firstIdx s c.toNat.toUInt8))) w:=by rw[run_callFunc_extern func162 kr kr kr (e:=Extern.BytealgIndexByte.indexByte) kr,run_indexByte_string];rfl
theorem M3(w:Wo)(s:By)(c:Int):Calls prog 71 #[.string s,.int .u8 c] w (fun e w'=>e=.returned (.int .i64 (firstIdx s c.toNat.toUInt8))/\w=w'):=by
 have D:=fun A=>fg s c A;have B:∀A:Wo,Calls prog 114 #[.string s,.int .u8 c] A (fun e w'=>e=.returned (.int .i64 (firstIdx s c.toNat.toUInt8))/\A=w'):=fun A=>by go_enter func114,ntmps114;go_wp2;go_ret;exact⟨rfl,rfl⟩
 have C:=zh B;clear B D;go_enter func71,ntmps71;go_wp2_with fail;apply(C _).mono;rintro e w1⟨rfl,rfl⟩;go_wp2;go_ret;exact⟨rfl,rfl⟩
end
section
def stS(N:Nat)(f:Nat->LI)(k:Nat):LL:=(List.range N).map fun p=>if p<k then f p else[]
theorem Y4(N:Nat)(f:Nat->LI):stS N f 0=List.replicate N []:=by simp[stS,List.map_const']
theorem Y3(N:Nat)(f:Nat->LI):stS N f N=(List.range N).map f:=List.map_congr_left fun p A=>by rw[iP (by simpa using A)]
theorem fw(N:Nat)(f:Nat->LI)(k:Nat):(stS N f k).length=N:=by simp[stS]
theorem fy{N:Nat}{f:Nat->LI}{k:Nat}(h:k<N):(stS N f k).set k (f k)=stS N f (k+1):=by
 apply List.ext_getElem?;intro i;by_cases hi:i<N
 .by_cases e:k=i
  .subst e;simp[stS,hi]
  .have A:(i<k+1)=(i<k):=by simp;omega
   simp[stS,List.getElem?_set,e,hi,A]
 .simp[stS,List.getElem?_set,hi]
theorem fx{N:Nat}{f:Nat->LI}{k:Nat}(h:k<N):(stS N f k).set k []=stS N f k:=by
 apply List.ext_getElem?;intro i;by_cases hi:i<N
 .by_cases e:k=i
  .subst e;simp[stS,hi]
  .simp[stS,List.getElem?_set,e,hi]
 .simp[stS,List.getElem?_set,hi]
end
section
open Go.RowKit
def E0(w:Wo)(xss:LL)(A:Int)(e:Ending)(w':Wo):Prop:=∃u,e=.returned (.tuple #[u,A])/\SS w' u xss/\New w u/\Below w w w'
theorem E0.nil(w:Wo)(A:Int){w':Wo}(h:Below w w w'):E0 w [] A (.returned (.tuple #[(),A])) w':=⟨_,rfl,SS.none_ w',New.nil w 0 0,h⟩
end
section
def cS(q r n:Nat):LI:=aT r fun j=>((n/q^(r-1-j)%q:Nat):Int)
theorem kS(q r n:Nat):(cS q r n).length=r:=aW _ _
theorem N9{q r n c:Nat}(A:c<r):(cS q r n).getD (r-1-c) 0=((n/q^c%q:Nat):Int):=by unfold cS;rw[aK om,show r-1-(r-1-c)=c from om]
theorem TP{N k:Nat}{f:Nat->Int}{x:Int}:(aT N f).set k x=aT N fun i=>if i=k then x else f i:=by
 apply List.ext_getElem?;intro i;by_cases hi:i<N
 .by_cases e:k=i
  .subst e;simp[aT,hi]
  .have A:¬i=k:=fun h=>e h.symm;simp[aT,List.getElem?_set,e,A,hi]
 .simp[aT,List.getElem?_set,hi]
theorem zZ{q r n A c d:Nat}(C:c<r)(B:A/q^c%q=d)(h:∀e,e≠c->e<r->A/q^e%q=n/q^e%q):(cS q r n).set (r-1-c) (d:Int)=cS q r A:=by
 unfold cS;rw[TP];refine AW fun j D=>?_;by_cases e:j=r-1-c
 .rw[iP e,e,show r-1-(r-1-c)=c from om,B]
 .rw[iN e,h (r-1-j) om om]
theorem nH{q:Nat}(hq:2<=q)(a c e:Nat):a*q^c/q^e%q=if e<c then 0 else a/q^(e-c)%q:=by
 have A:∀k,0<q^k:=fun k=>Nat.pow_pos om;by_cases h:e<c
 .rw[iP h];obtain⟨d,rfl⟩:∃d,c=e+(d+1):=⟨c-e-1,om⟩
  rw[Nat.pow_add,show a*(q^e*q^(d+1))=q^e*(a*q^(d+1)) by rw[Nat.mul_left_comm],Nat.mul_div_cancel_left _ (A e),Nat.pow_succ,<-Nat.mul_assoc,Nat.mul_mod_left]
 .rw[iN h];obtain⟨d,rfl⟩:∃d,e=c+d:=⟨e-c,om⟩
  rw[Nat.pow_add,<-Nat.div_div_eq_div_mul,Nat.mul_div_cancel _ (A c),show c+d-c=d from om]
theorem OC{q r a c:Nat}(hq:2<=q)(A:c<r):(cS q r (a*q^c)).set (r-1-c) 0=cS q r (a/q*q^(c+1)):=
 zZ (d:=0) A (by rw[nH hq,iP om]) fun e B _=>by
  rw[nH hq,nH hq];by_cases h:e<c
  .rw[iP h,iP om]
  .rw[iN h,iN om,Nat.div_div_eq_div_mul,<-Nat.pow_succ',show(e-(c+1)).succ=e-c from om]
theorem gt{q r a c:Nat}(hq:2<=q)(D:c<r)(h:a%q+1<q):(cS q r (a*q^c)).set (r-1-c) ((a%q+1:Nat):Int)=cS q r ((a+1)*q^c):=
 have A:(a+1)%q=a%q+1:=by rw[Nat.add_mod,Nat.mod_eq_of_lt (show 1<q from om),Nat.mod_eq_of_lt h]
 have C:(a+1)/q=a/q:=by
  have F:=Nat.div_add_mod a q;have B:=Nat.div_add_mod (a+1) q;rw[A] at B;have:q*((a+1)/q)=q*(a/q):=om;exact Nat.eq_of_mul_eq_mul_left om this
 zZ D (by rw[nH hq,iN om,Nat.sub_self,Nat.pow_zero,Nat.div_one,A]) fun e G _=>by
  rw[nH hq,nH hq];by_cases h:e<c
  .rw[iP h,iP h]
  .rw[iN h,iN h];obtain⟨d,E⟩:∃d,e-c=d+1:=⟨e-c-1,om⟩
   rw[E,Nat.pow_succ',<-Nat.div_div_eq_div_mul,<-Nat.div_div_eq_div_mul,C]
theorem ZJ{q r a c:Nat}(hq:2<=q)(A:c<r):(cS q r (a*q^c)).getD (r-1-c) 0=((a%q:Nat):Int):=by rw[N9 A,nH hq,iN om,Nat.sub_self,Nat.pow_zero,Nat.div_one]
theorem UO{q r s:Nat}(hq:2<=q)(A:s<r):(List.replicate r (0:Int)).set (r-1-s) 1=cS q r (q^s):=by
 have e:List.replicate r (0:Int)=cS q r 0:=by unfold cS;rw[<-mC];exact AW fun p _=>by simp
 rw[e];have:= @zZ q r 0 (1*q^s) s 1 A (by rw[nH hq,iN om,Nat.sub_self,Nat.pow_zero,Nat.div_one,Nat.mod_eq_of_lt om]) fun e B _=>by
  rw[nH hq,Nat.zero_div,Nat.zero_mod];by_cases h:e<s
  .rw[iP h]
  .rw[iN h,Nat.div_eq_of_lt (Nat.one_lt_pow om om),Nat.zero_mod]
 rw[Nat.one_mul] at this;exact this
def rV(q:Nat):Nat->List Nat
 |0=>[]
 |s+1=>rV q s++(List.range (q^s)).map fun t=>q^s+t
def fR(q:Nat):Nat->Nat
 |0=>0
 |k+1=>fR q k+q^k
theorem qR(q:Nat):∀s,(rV q s).length=fR q s
 |0=>rfl
 |s+1=>by rw[rV,aZ1,aY7,List.length_range,qR q s,fR]
theorem RU{q:Nat}{a b:Nat}(h:a<=b):fR q a<=fR q b:=by
 induction b with
 |zero=>rw[show a=0 from om];exact zr
 |succ b ih=>
  by_cases e:a=b+1
  .rw[e];exact zr
  .have:=ih om;rw[fR];omega
theorem G4{q:Nat}(hq:2<=q):∀k,k<=fR q k
 |0=>zr
 |k+1=>by have:=G4 hq k;have:=Nat.pow_pos (n:=k) (show 0<q from om);rw[fR];omega
def wO(q r:Nat):LL:=(rV q r).map (cS q r)
theorem QH{q n c:Nat}(hq:2<=q)(h:n%q^c=q^c-1)(A:n/q^c%q=q-1):n%q^(c+1)=q^(c+1)-1:=by have B:0<q^c:=Nat.pow_pos om;rw[Nat.pow_succ,Nat.mod_mul,h,A,Nat.mul_sub,Nat.mul_one];have:q^c*1<=q^c*q:=Nat.mul_le_mul_left _ om;omega
theorem JE{q n c:Nat}(hq:2<=q)(h:n%q^c=q^c-1):(n/q^c+1)*q^c=n+1:=by have A:0<q^c:=Nat.pow_pos om;have e:=Nat.div_add_mod n (q^c);rw[h,Nat.mul_comm] at e;rw[Nat.add_mul,Nat.one_mul];omega
theorem UB{q s c t:Nat}(hq:2<=q)(H:c<s)(F:t<q^s)(G:(q^s+t)/q^c%q+1<q)(h:(q^s+t)%q^c=q^c-1):t+1<q^s:=by
 have E:∀k,0<q^k:=fun k=>Nat.pow_pos om;refine Nat.lt_of_le_of_ne F fun e=>?_;have A:=JE hq h;obtain⟨d,rfl⟩:∃d,s=c+(d+1):=⟨s-c-1,om⟩
 have B:q^(c+(d+1))+t+1=(2*q^d*q)*q^c:=by rw[show q^(c+(d+1))+t+1=2*q^(c+(d+1)) from om,Nat.pow_add,Nat.pow_succ];rw[Nat.mul_assoc 2,Nat.mul_assoc 2,Nat.mul_comm (q^c)]
 rw[B] at A;have C:=Nat.eq_of_mul_eq_mul_right (E c) A;have D:((q^(c+(d+1))+t)/q^c+1)%q=0:=by rw[C,Nat.mul_mod_left]
 rw[Nat.add_mod,Nat.mod_eq_of_lt (show 1<q from om),Nat.mod_eq_of_lt G] at D;omega
theorem W3{q s t:Nat}(A:t<q^s)(h:(q^s+t)%q^s=q^s-1):t+1=q^s:=by rw[Nat.add_mod_left,Nat.mod_eq_of_lt A] at h;omega
