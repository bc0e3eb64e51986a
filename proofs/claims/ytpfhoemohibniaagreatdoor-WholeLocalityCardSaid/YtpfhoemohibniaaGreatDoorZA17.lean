/- Texts of a claim, merged. -/
import Derived.Test.YtpfhoemohibniaaGreatDoorZA15
set_option maxRecDepth 100000
set_option linter.unusedVariables false
set_option maxHeartbeats 32000000
namespace Go.Proofs.YtpfhoemohibniaaGreatDoor
def fR(gen:LL)(i:Nat):LI:=aQ gen.length fun t=>ent gen t i
theorem mB(gen:LL)(i:Nat):(fR gen i).length=gen.length:=aT _ _
theorem tY{gen:LL}{i t:Nat}(h:t<gen.length):(fR gen i).getD t 0=ent gen t i:=aS h
theorem yS{gen:LL}{i t:Nat}(h:gen.length<=t):(fR gen i).getD t 0=0:=by simp[List.getD,aY4 (show(fR gen i).length<=t by rw[mB];omega)]
def dF(gen:LL)(S:List Nat):LL:=S.map (fR gen)
theorem jQ(gen:LL)(S:List Nat):(dF gen S).length=S.length:=by simp[dF]
theorem nU{gen:LL}{S:List Nat}{s:Nat}(h:s<S.length):(dF gen S).getD s []=fR gen S[s]:=by simp[dF,List.getD,h]
theorem pA(gen:LL)(S:List Nat)(i:Nat):dF gen (S++[i])=dF gen S++[fR gen i]:=by simp[dF]
section
variable {O:aO} {q:Int} (hO:O.Fld q) {n:Nat} {gen:LL} {p:LI}
include hO
theorem sV(hq:gW q gen)(S:List Nat):Rows q gen.length (dF gen S):=fun s A=>by
 rw[jQ] at A;rw[nU A];refine⟨mB _ _,fun t=>?_⟩;by_cases B:t<gen.length
 .rw[tY B];exact hq _ _
 .rw[yS (by omega)];exact⟨Int.le_refl _,by have:=hO.lt.pos;omega⟩
theorem JE {D : LL} (L : gW q D) (hI : tS O q (ent D) D.length) {v : LI} (F : ∀ j, 0 <= v.getD j 0 /\ v.getD j 0 < q) (hn : ¬ aV O D fun j => v.getD j 0) :
   tS O q (ent (D++[v])) (D++[v]).length:=fun c B G i hi=>by
 rw[aZ1,aZ2] at G hi;have H:∀j,O.add (aR O (fun i=>O.mul (c i) (ent D i j)) D.length) (O.mul (c D.length) (v.getD j 0))=0:=fun j=>by have h:=G j;rw[aR,jH] at h;refine Eq.trans (congrArg (fun y=>O.add y _) (aJ fun i hi=>?_)) h;rw[lJ hi]
 have C:c D.length=0:=by
   refine aY0 fun M=>hn ?_;have J:0<c D.length:=by have:=(B D.length).1;omega
   have I:=hO.mul_inv _ J (B _).2;have E:aV O D fun j=>aR O (fun i=>O.mul (c i) (ent D i j)) D.length:=⟨c,fun j=>rfl⟩
   refine(aV.smul hO (O.mul (O.inv (c D.length)) (O.neg 1)) E).congr fun j=>?_;have h:=H j;have A:=E.lt hO j;have e:O.mul (c D.length) (v.getD j 0)=O.neg (aR O (fun i=>O.mul (c i) (ent D i j)) D.length):=hO.neg_unique (hO.lt.mul _ _) h;have K:(1:Int)<q:=hO.lt.pos;show v.getD j 0=_
   calc v.getD j 0=O.mul 1 (v.getD j 0):=(hO.one_mul (F j).1 (F j).2).symm
     _=O.mul (O.mul (O.inv (c D.length)) (c D.length)) (v.getD j 0):=by rw[hO.mul_comm (O.inv _),I]
     _=O.mul (O.inv (c D.length)) (O.neg (aR O (fun i=>O.mul (c i) (ent D i j)) D.length)):=by rw[hO.mul_assoc,e]
     _=_:=by rw[hO.mul_assoc,hO.neg_mul,hO.one_mul A.1 A.2]
 by_cases e:i=D.length
 . rw[e];exact C
 . refine hI c B (fun j=>?_) i (by omega);have h:=H j;have A:=cW hO (fun i=>O.mul (c i) (ent D i j)) D.length;rw[C,hO.zero_mul,hO.add_zero _ A.1 A.2] at h;exact h
theorem FL(hA:dP O q n gen p){S:List Nat}(E:∀i,i<n->aV O (dF gen S) fun t=>(fR gen i).getD t 0):gen.length<=S.length:=by
 refine aY0 fun J=>?_;have hq:0<q:=by have:=hO.lt.pos;omega
 obtain⟨x,⟨a,F⟩,⟨j,H,C⟩,I⟩:=EZ hO hA (S:=S) (by omega);obtain⟨c,G⟩:=E j H;refine C ?_;have e:∀i,x i=aR O (fun t=>O.mul (a t) ((fR gen i).getD t 0)) gen.length:=fun i=>by rw[F];exact aJ fun t B=>by rw[tY B]
 have hm:∀t,t<gen.length->O.mul (a t) ((fR gen j).getD t 0)=aR O (fun s=>O.mul (c s) (O.mul (a t) (ent (dF gen S) s t))) (dF gen S).length:=fun t B=>by have h:=G t;dsimp only at h;rw[h,dN hO];refine aJ fun s _=>?_;rw[<-hO.mul_assoc,hO.mul_comm (a t),hO.mul_assoc]
 rw[e j,aJ hm,iR hO (fun t s=>O.mul (c s) (O.mul (a t) (ent (dF gen S) s t)))];refine bK hO fun s A=>?_;rw[jQ] at A;have D:aR O (fun t=>O.mul (c s) (O.mul (a t) (ent (dF gen S) s t))) gen.length=O.mul (c s) (x S[s]):=by rw[e S[s],dN hO];refine aJ fun t _=>?_;unfold ent;rw[nU A]
 rw[D,I _ (aY6 A),hO.mul_zero]
theorem BE(hq:gW q gen){S:List Nat}(hI:tS O q (ent (dF gen S)) (dF gen S).length):S.length<=gen.length:=by have hR:=sV hO hq S;obtain⟨A,C⟩:=bX hO hR;have D:=pG hO (B:=bC O (dF gen S) gen.length) hI C.2;have E:=Cn.le (O:=O) (q:=q) (n:=gen.length) ⟨_,A⟩;rw[jQ] at D;omega
end
def cB(x:Nat->Int)(n:Nat):Nat:=cC (fun j=>decide (x j≠0)) n
inductive Cmb (O:aO) (q:Int) (G:LL):Nat->Nat->Bool->(Nat->Int)->(Nat->Int)->Prop
 |nil (first:Nat) (alone:Bool) (v:Nat->Int):Cmb O q G first 0 alone v v
 |step {first left:Nat} {alone:Bool} {v x:Nat->Int} (i:Nat) (a:Int) (hi:first<=i) (hl:i+left<G.length) (ha:1<=a/\a<q) (h1:alone=true->a=1)
   (h:Cmb O q G (i+1) left false (fun j=>O.add (v j) (O.mul a (ent G i j))) x):Cmb O q G first (left+1) alone v x
def cmN(q:Nat):Nat->Nat->Nat
 |_,0=>1
 |0,_+1=>0
 |m+1,l+1=>(q-1)*cmN q m l+cmN q m (l+1)
theorem lZ{T U:Nat->Bool}:∀{n},(∀j,j<n->T j=U j)->cC T n=cC U n
 |0,_=>rfl
 |n+1,h=>by simp only[cC,lZ (n:=n) fun j A=>h j (by omega),h n (by omega)]
theorem IX{q:Nat}(hq:0<q):∀m l,cmN q m l<=q^m
 |0,0=>Nat.le_refl _
 |m+1,0=>by simp only[cmN];exact Nat.pow_pos hq
 |0,l+1=>by simp[cmN]
 |m+1,l+1=>by
  have A:=IX hq m l;have B:=IX hq m (l+1);have C:(q-1)*cmN q m l<=(q-1)*q^m:=Nat.mul_le_mul_left _ A;have D:q^(m+1)=(q-1)*q^m+q^m:=by
   obtain⟨r,rfl⟩:∃r,q=r+1:=⟨q-1,by omega⟩
   rw[Nat.pow_succ,Nat.add_sub_cancel,Nat.mul_comm,Nat.succ_mul]
  simp only[cmN];omega
section
variable {O:aO} {q:Int} (hO:O.Fld q) {n:Nat} {gen:LL}
include hO
theorem QJ {G : LL} : ∀ (left A : Nat) (D : Bool) (v x : Nat -> Int) (a : Nat -> Int), (∀ i, 0 <= a i /\ a i < q) -> (∀ i, i < A -> a i = 0) -> cC (fun i => decide (a i ≠ 0)) G.length = left ->
   (D=true->∀i,i<G.length->a i≠0->(∀k,k<i->a k=0)->a i=1)->
   (∀j,x j=O.add (v j) (aR O (fun i=>O.mul (a i) (ent G i j)) G.length))->(∀j,0<=v j/\v j<q)->Cmb O q G A left D v x
 |0,A,D,v,x,a,har,haf,hc,h1,hx,hv=>by
   have I:∀m,cC (fun i=>decide (a i≠0)) m=0->∀i,i<m->a i=0:=fun m=>by
     induction m with
     |zero=>exact fun _ i hi=>absurd hi (aY5 _)
     |succ m ih=>
       intro h i hi;simp only[cC] at h;by_cases e:i=m
       . subst e;refine aY0 fun C=>?_;rw[if_pos (by simpa using C)] at h;omega
       . exact ih (by omega) i (by omega)
   have e:x=v:=funext fun j=>by rw[hx,bK hO fun i hi=>by rw[I _ hc i hi,hO.zero_mul]];exact hO.add_zero _ (hv j).1 (hv j).2
   rw[e];exact .nil _ _ _
 |left+1,A,D,v,x,a,har,haf,hc,h1,hx,hv=>by
   --the least place with a coefficient
   have R:∀m,cC (fun i=>decide (a i≠0)) m≠0->∃i,i<m/\a i≠0/\∀k,k<i->a k=0:=fun m=>by
     induction m with
     |zero=>exact fun h=>absurd rfl h
     |succ m ih=>
       intro h;by_cases B:cC (fun i=>decide (a i≠0)) m=0
       . have I:∀i,i<m->a i=0:=by
           clear ih h
           induction m with
           |zero=>exact fun i hi=>absurd hi (aY5 _)
           |succ m ih=>
             intro i hi;simp only[cC] at B;by_cases e:i=m
             . subst e;refine aY0 fun C=>?_;rw[if_pos (by simpa using C)] at B;omega
             . exact ih (by omega) i (by omega)
         refine⟨m,by omega,fun e=>h ?_,I⟩;simp only[cC,B];rw[if_neg (by simpa using e)]
       . obtain⟨i,hi,F⟩:=ih B;exact⟨i,by omega,F⟩
   obtain⟨i,hi,H,M⟩:=R G.length (by omega);have S:A<=i:=by
     rcases Nat.lt_or_ge i A with h|h
     . exact absurd (haf i h) H
     . exact h
   --the others
   let b:Nat->Int:=fun k=>if k=i then 0 else a k
   have hb:∀m,i<m->cC (fun k=>decide (b k≠0)) m+1=cC (fun k=>decide (a k≠0)) m:=fun m=>by
     induction m with
     |zero=>exact fun h=>absurd h (aY5 _)
     |succ m ih=>
       intro h;simp only[cC];by_cases e:m=i
       . subst e;rw[lZ (T:=fun k=>decide (b k≠0)) (U:=fun k=>decide (a k≠0)) fun t W=>by have e:b t=a t:=if_neg (by omega);simp only[e],if_neg (by simp[b]),if_pos (by simpa using H)]
       . have N:b m=a m:=if_neg e;have:=ih (by omega);simp only[N];omega
   have J:∀k,k<i+1->b k=0:=fun k X=>by
     by_cases e:k=i
     . exact if_pos e
     . exact(if_neg e).trans (M k (by omega))
   have Q:cC (fun k=>decide (b k≠0)) G.length=left:=by have:=hb _ hi;omega
   have Y:cC (fun k=>decide (b k≠0)) G.length+(i+1)<=G.length:=by
     have h:=oZ (T:=fun k=>decide (b k≠0)) (L:=fun k=>decide (k<i+1)) (fun j K=>by simp only[decide_eq_true_eq] at K;simp only[decide_eq_false_iff_not];exact fun h=>K (J j h)) G.length;have F:∀m,i+1<=m->i+1<=cC (fun k=>decide (k<i+1)) m:=fun m=>by
       have P:∀t,t<=i+1->cC (fun k=>decide (k<i+1)) t=t:=fun t=>by
         induction t with
         |zero=>exact fun _=>rfl
         |succ t ih=>intro W;simp only[cC];rw[ih (by omega),if_pos (by simp;omega)]
       induction m with
       |zero=>exact fun h=>by omega
       |succ m ih=>
         intro h;by_cases e:m=i
         . subst e;rw[P _ zr];exact Nat.le_refl _
         . simp only[cC];have:=ih (by omega);omega
     have:=F G.length hi;omega
   have B:0<a i:=by have:=(har i).1;omega
   refine .step i (a i) S (by omega) ⟨by omega,(har i).2⟩ (fun e=>h1 e i hi H M) ?_;refine QJ left (i+1) false _ x b (fun k=>?_) J Q (fun e=>by simp at e) (fun j=>?_) (fun j=>hO.lt.add _ _)
   . by_cases e:k=i
     . have:b k=0:=if_pos e;rw[this];exact⟨Int.le_refl _,by have:=hO.lt.pos;omega⟩
     . have:b k=a k:=if_neg e;rw[this];exact har k
   . rw [hx, hO.add_assoc];congr 1;have V : aR O (fun k => O.mul (a k) (ent G k j)) G.length = O.add (aR O (fun k => if k = i then O.mul (a i) (ent G i j) else 0) G.length) (aR O (fun k => O.mul (b k) (ent G k j)) G.length) := by
       rw[<-fP hO];refine aJ fun k _=>?_;have E:=hO.lt.mul (a k) (ent G k j);by_cases e:k=i
       . subst e;rw[if_pos rfl,show b k=0 from if_pos rfl,hO.zero_mul,hO.add_zero _ E.1 E.2]
       . rw[if_neg e,show b k=a k from if_neg e,hO.zero_add E.1 E.2]
     rw[V,bP hO (k:=i) (by rw[if_pos rfl];exact hO.lt.mul _ _) hi fun k _ C=>if_neg C,if_pos rfl]
theorem wL{c:Int}(B:0<=c/\c<q)(A:c≠0){x:Nat->Int}(C:∀j,0<=x j/\x j<q):∀n,cB (fun j=>O.mul c (x j)) n=cB x n
 |0=>rfl
 |n+1=>by
  have D:=wL B A C n;have e:decide (O.mul c (x n)≠0)=decide (x n≠0):=by
   by_cases h:x n=0
   .rw[h,hO.mul_zero]
   .rw[decide_eq_true h,decide_eq_true];intro e;rcases hO.mul_eq_zero B (C n) e with e|e
    .exact A e
    .exact h e
  unfold cB at D|-;simp only[cC,D,e]
structure AX(O:aO)(n:Nat)(gen:LL)(set:List Nat)(G:LL):Prop where
 len:G.length=gen.length
 slen:set.length=gen.length
 row:∀x,aV O gen x->∀j,x j=aR O (fun i=>O.mul (x (set.getD i 0)) (ent G i j)) G.length
def vP(x:Nat->Int)(set:List Nat):Nat:=(set.filter fun i=>decide (x i≠0)).length
omit hO in
theorem MT(x:Nat->Int):∀set:List Nat,cC (fun i=>decide (x (set.getD i 0)≠0)) set.length=vP x set:=fun set=>by
 have h:∀m,m<=set.length->cC (fun i=>decide (x (set.getD i 0)≠0)) m=vP x (set.take m):=fun m=>by
  induction m with
  |zero=>exact fun _=>rfl
  |succ m ih=>
   intro hm;have e:set.take (m+1)=set.take m++[set.getD m 0]:=by rw[List.take_add_one,aZ3 (by omega)];simp[List.getD,aZ3 (show m<set.length by omega)]
   simp only[cC,vP,e,List.filter_append,aZ1] at ih|-;rw[ih (by omega)];have key:∀y,(if decide (x y≠0)=true then 1 else 0)=(List.filter (fun i=>decide (x i≠0)) [y]).length:=fun y=>by by_cases A:x y=0<;>simp[A]
   exact congrArg _ (key _)
 rw[h _ zr,List.take_length]
theorem TL{set:List Nat}{G:LL}(A:AX O n gen set G){x:Nat->Int}(F:aV O gen x)(P:∃j,j<n/\x j≠0):
   0<vP x set/\∃y,Cmb O q G 0 (vP x set) true (fun _=>0) y/\cB y n=cB x n:=by
 have B:=F.lt hO;have hq:0<q:=by have:=hO.lt.pos;omega
 have C:=MT x set;rw[A.slen,<-A.len] at C
 --the first place with a coefficient
 have Q:∀m,(∃i,i<m/\x (set.getD i 0)≠0/\∀k,k<i->x (set.getD k 0)=0)\/∀i,i<m->x (set.getD i 0)=0:=fun m=>by
   induction m with
   |zero=>exact .inr fun i hi=>absurd hi (aY5 _)
   |succ m ih=>
     rcases ih with⟨i,hi,h⟩|h
     . exact .inl ⟨i,by omega,h⟩
     . by_cases e:x (set.getD m 0)=0
       . exact .inr fun i hi => by
           by_cases N:i=m
           . rw[N];exact e
           . exact h i (by omega)
       . exact .inl ⟨m,by omega,e,h⟩
 rcases Q G.length with⟨i,hi,M,V⟩|Z
 . have W:0<vP x set:=by
     rw[<-C];have h:=nT (T:=fun _=>false) (L:=fun _=>false) (U:=fun i=>decide (x (set.getD i 0)≠0)) (i:=i) (fun j h=>by simp at h) (fun j h=>by simp at h) ⟨by simpa using M,rfl⟩ G.length;rw[if_pos hi] at h;omega
   refine⟨W,?_⟩;have X:0<x (set.getD i 0):=by have:=(B (set.getD i 0)).1;omega
   let c:=O.inv (x (set.getD i 0))
   have I:0<=c/\c<q:=hO.inv_lt _;have D:O.mul (x (set.getD i 0)) c=1:=hO.mul_inv _ X (B _).2;have H:c≠0:=fun e=>by rw[e,hO.mul_zero] at D;exact absurd D (by decide)
   refine⟨fun j=>O.mul c (x j),?_,wL hO I H B n⟩;have E:∀k,O.mul c (x (set.getD k 0))≠0↔x (set.getD k 0)≠0:=fun k=>by
     constructor
     . intro h e;exact h (by rw[e,hO.mul_zero])
     . intro h e;rcases hO.mul_eq_zero I (B _) e with e|e
       . exact H e
       . exact h e
   refine QJ hO (vP x set) 0 true (fun _=>0) _ (fun k=>O.mul c (x (set.getD k 0))) (fun k=>hO.lt.mul _ _) (fun k J=>absurd J (aY5 _)) ?_ (fun _ k J R S=>?_) (fun j=>?_) (fun j=>⟨Int.le_refl _,hq⟩)
   . rw[<-C];congr 1;funext k;exact decide_eq_decide.2 (E k)
   . have e:k=i:=by
       rcases Nat.lt_trichotomy k i with h|h|h
       . exact absurd (V k h) ((E k).1 R)
       . exact h
       . exact absurd (S i h) ((E i).2 M)
     rw[e,hO.mul_comm];exact D
   . have K:=cW hO (fun i=>O.mul (O.mul c (x (set.getD i 0))) (ent G i j)) G.length;rw[hO.zero_add K.1 K.2,A.row x F j,dN hO];exact aJ fun k _=>(hO.mul_assoc _ _ _).symm
 . obtain⟨j,b,Y⟩:=P;exact absurd ((A.row x F j).trans (bK hO fun i hi=>by rw[Z i hi,hO.zero_mul])) Y
end
def mJ(used set:List Nat):Nat:=(set.filter fun i=>!used.contains i).length
def jU(k w:Nat):List Nat->List (List Nat)->Nat
 |_,[]=>0
 |used,S::F=>(w+1+mJ used S-k)+jU k w (used++S) F
theorem CU{n:Nat}(T:Nat->Bool):∀{L:List Nat},L.Nodup->(∀i,i∈L->i<n)->(L.filter T).length<=cC (fun j=>T j&&L.contains j) n
 |[],_,_=>aZ5 _
 |a::L,hn,hl=>by
  obtain⟨B,hn⟩:=List.nodup_cons.1 hn;have C:=CU T hn fun i hi=>hl i (List.mem_cons_of_mem _ hi);have A:∀j,(T j&&L.contains j)=true->(T j&&(a::L).contains j)=true:=fun j h=>by simp only[aY9,List.contains_cons,Bool.or_eq_true] at h|-;exact⟨h.1,.inr h.2⟩
  cases hT:T a
  .rw[List.filter_cons_of_neg (by simp[hT])];exact aZ6 C (rO fun j _ h=>A j h)
  .rw[List.filter_cons_of_pos hT,List.length_cons]
   have h:=nT (T:=fun j=>T j&&L.contains j) (L:=fun _=>false) (U:=fun j=>T j&&(a::L).contains j) (i:=a) A (fun j h=>by simp at h)
    ⟨by simp[hT],by simp[B]⟩ n
   rw[if_pos (hl a List.mem_cons_self)] at h;omega
theorem qL(P Q:Nat->Bool):∀L:List Nat,(L.filter P).length<=(L.filter fun i=>P i&&Q i).length+(L.filter fun i=>!Q i).length
 |[]=>aZ5 _
 |a::L=>by have A:=qL P Q L;cases hP:P a<;>cases hQ:Q a<;>simp[hP,hQ]<;>omega
theorem qM(Q:Nat->Bool):∀L:List Nat,(L.filter Q).length+(L.filter fun i=>!Q i).length=L.length
 |[]=>rfl
 |a::L=>by have A:=qM Q L;cases hQ:Q a<;>simp[hQ]<;>omega
theorem XX:∀A B C:Bool,(if((A&&!B)&&C)=true then 1 else 0)+(if(A&&!(B||C))=true then 1 else 0)<=(if(A&&!B)=true then 1 else 0):=by decide
theorem FV{n k w:Nat}{x:Nat->Int}:∀{F:List (List Nat)} {used:List Nat},(∀S,S∈F->S.Nodup/\S.length=k/\(∀i,i∈S->i<n)/\w<vP x S)->
  jU k w used F<=cC (fun j=>decide (x j≠0)&&!used.contains j) n
 |[],used,_=>aZ5 _
 |S::F,used,h=>by
  obtain⟨hn,L,hb,D⟩:=h S List.mem_cons_self;have E:=FV (F:=F) (used:=used++S) fun A C=>h A (List.mem_cons_of_mem _ C);have G:=qL (fun i=>decide (x i≠0)) (fun i=>!used.contains i) S;have H:=qM (fun i=>!used.contains i) S;have I:=CU (n:=n) (fun i=>decide (x i≠0)&&!used.contains i) hn hb;have B:∀m,cC (fun j=>(decide (x j≠0)&&!used.contains j)&&S.contains j) m+cC (fun j=>decide (x j≠0)&&!(used++S).contains j) m<=cC (fun j=>decide (x j≠0)&&!used.contains j) m:=fun m=>by
   induction m with
   |zero=>exact Nat.le_refl _
   |succ m E=>
    simp only[cC];have e:(used++S).contains m=(used.contains m||S.contains m):=by simp
    have K:=XX (decide (x m≠0)) (used.contains m) (S.contains m);simp only[e];omega
  have J:=B n;unfold vP at D;simp only[jU,mJ];omega
theorem IJ{x:Nat->Int}{n:Nat}(h:∃j,j<n/\x j≠0):cB x n≠0:=by
 obtain⟨j,B,A⟩:=h;have key:∀m,j<m->cB x m≠0:=by
  intro m
  induction m with
  |zero=>intro h;omega
  |succ m ih=>
   intro hm;unfold cB;simp only[cC,decide_eq_true_eq];by_cases e:j=m
   .subst e;rw[if_pos A];omega
   .have:=ih (by omega);unfold cB at this;omega
 exact key n B
theorem IR{O:aO}{q:Int}(hO:O.Fld q){n:Nat}{gen:LL}{F:List (List Nat)}{Gs:List (LL)}(V:F.length=Gs.length)
   (J:∀j,j<F.length->AX O n gen (F.getD j []) (Gs.getD j [])/\(F.getD j []).Nodup/\∀i,i∈F.getD j []->i<n){B w:Nat}
   (R:∀j,j<F.length->∀v,1<=v->v<=w->∀y,Cmb O q (Gs.getD j []) 0 v true (fun _=>0) y->cB y n≠0->B<=cB y n)
   (P:0<F.length/\gen.length<=w\/B<jU gen.length w [] F){x:Nat->Int}(T:aV O gen x)(G:∃j,j<n/\x j≠0):B<=cB x n:=by
 by_cases L:∃j,j<F.length/\vP x (F.getD j [])<=w
 . obtain⟨j,A,N⟩:=L;obtain⟨C,y,U,E⟩:=TL hO (J j A).1 T G;rw[<-E];exact R j A _ C N y U (by rw[E];exact IJ G)
 . have K : ∀ S, S ∈ F -> S.Nodup /\ S.length = gen.length /\ (∀ i, i ∈ S -> i < n) /\ w < vP x S := fun S M => by
     obtain⟨j,A,rfl⟩:=List.getElem_of_mem M;have e:F.getD j []=F[j]:=by simp[List.getD,A]
     obtain⟨C,D,H⟩:=J j A;rw[e] at C D H;refine⟨D,C.slen,H,?_⟩;have I:¬vP x (F.getD j [])<=w:=fun h=>L ⟨j,A,h⟩;rw[e] at I;exact Nat.lt_of_not_le I
   rcases P with⟨Q,E⟩|hb
   . have D:=K _ (aY6 Q);have:vP x F[0]<=F[0].length:=List.length_filter_le _ _;omega
   . have h:=FV (used:=[]) K;have e:cC (fun j=>decide (x j≠0)&&!([]:List Nat).contains j) n=cB x n:=by simp[cB]
     omega
structure GrP(O:aO)(q:Int)(gen:LL)(order S:List Nat):Prop where
 sub:S.Sublist order
 ind:tS O q (ent (dF gen S)) (dF gen S).length
 cov:∀i,i∈order->aV O (dF gen S) fun t=>(fR gen i).getD t 0
structure GrI(O:aO)(q:Int)(gen:LL)(R:LL)(pl:LI)(order S:List Nat):Prop where
 bas:Bas q gen.length R pl
 spn:∀x,aV O R x↔aV O (dF gen S) x
 grp:GrP O q gen order S
 len:R.length=S.length
section
variable {O:aO} {q:Int} (hO:O.Fld q) {gen:LL} (hq:gW q gen) {R:LL} {pl:LI} {order S:List Nat}
include hO
omit hO in
theorem GrI.nil(gen:LL):GrI O q gen [] [] [] []:=
 ⟨Bas.nil q _,fun x=>Iff.rfl,⟨List.Sublist.refl _,fun c _ _ i hi=>absurd hi (aY5 _),fun i hi=>absurd hi List.not_mem_nil⟩,rfl⟩
include hq
theorem yT(i j:Nat):0<=(fR gen i).getD j 0/\(fR gen i).getD j 0<q:=by
 by_cases h:j<gen.length
 .rw[tY h];exact hq _ _
 .rw[yS (by omega)];exact⟨Int.le_refl _,by have:=hO.lt.pos;omega⟩
theorem GrI.skip(h:GrI O q gen R pl order S){i:Nat}(C:∀j,dL O R pl (fun t=>(fR gen i).getD t 0) R.length j=0):GrI O q gen R pl (order++[i]) S:=by
 have B:=(G3 hO h.bas (yT hO hq i)).1 C;refine⟨h.bas,h.spn,⟨h.grp.sub.trans (List.sublist_append_left _ _),h.grp.ind,fun j A=>?_⟩,h.len⟩;rcases List.mem_append.1 A with e|e
 .exact h.grp.cov j e
 .rw[List.mem_singleton.1 e];exact(h.spn _).1 B
theorem GrI.take (h : GrI O q gen R pl order S) {i k : Nat} (H : k < gen.length) (F : dL O R pl (fun t => (fR gen i).getD t 0) R.length k ≠ 0) {r : LI} (I : r.length = gen.length)
   (K:∀j,j<gen.length->r.getD j 0=O.mul (O.inv (dL O R pl (fun t=>(fR gen i).getD t 0) R.length k)) (dL O R pl (fun t=>(fR gen i).getD t 0) R.length j)):
   GrI O q gen (R++[r]) (pl++[(k:Int)]) (order++[i]) (S++[i]):=by
 have J:0<q:=by have:=hO.lt.pos;omega
 have A:=yT hO hq i;obtain⟨hB,M⟩:=Bas.snoc hO h.bas A H F I K fun j D=>yS D;have hn:¬aV O (dF gen S) fun t=>(fR gen i).getD t 0:=fun L=>F ((G3 hO h.bas A).2 ((h.spn _).2 L) k);have G:=(sV hO hq S).r J;have N:∀x,aV O (R++[r]) x↔aV O (dF gen (S++[i])) x:=fun x=>by
   rw[M,pA,qY hO];constructor
   . rintro ⟨y,c,E,Q,C⟩;refine⟨y,fun j=>O.mul c ((fR gen i).getD j 0),(h.spn _).1 E,⟨fun _=>c,fun j=>?_⟩,C⟩;have B:=hO.lt.mul c ((fR gen i).getD j 0);show _=O.add 0 (O.mul c ((fR gen i).getD j 0));rw[hO.zero_add B.1 B.2]
   . rintro ⟨y,z,E,⟨b,hb⟩,C⟩;refine⟨y,O.mul 1 (b 0),(h.spn _).2 E,hO.lt.mul _ _,fun j=>?_⟩;have B:=hO.lt.mul (b 0) ((fR gen i).getD j 0);rw[C j,hb j];congr 1;show O.add 0 (O.mul (b 0) ((fR gen i).getD j 0))=_;rw[hO.zero_add B.1 B.2,hO.mul_assoc,hO.one_mul B.1 B.2]
 have P:∀{x:Nat->Int},aV O (dF gen S) x->aV O (dF gen (S++[i])) x:=fun{x} C=>by rw[pA,qY hO];exact⟨x,_,C,aV.zero hO _,fun j=>(hO.add_zero _ (C.lt hO j).1 (C.lt hO j).2).symm⟩
 refine⟨hB,N,⟨h.grp.sub.append (List.Sublist.refl _),?_,fun j D=>?_⟩,by simp[h.len]⟩
 . rw[pA];exact JE hO G h.grp.ind A hn
 . rcases List.mem_append.1 D with e|e
   . exact P (h.grp.cov j e)
   . rw[List.mem_singleton.1 e];rw[pA,qY hO];refine⟨fun _=>0,_,aV.zero hO _,⟨fun _=>1,fun j=>rfl⟩,fun j=>?_⟩;show _=O.add 0 (O.add 0 (O.mul 1 ((fR gen i).getD j 0)));rw[hO.one_mul (A j).1 (A j).2,hO.zero_add (A j).1 (A j).2,hO.zero_add (A j).1 (A j).2]
end
section
variable {O:aO} {q:Int} (hO:O.Fld q) {n:Nat} {gen:LL} {p:LI} {order S:List Nat}
include hO
theorem GrP.full(hA:dP O q n gen p)(h:GrP O q gen order S)(A:∀i,i<n->i∈order):S.length=gen.length:=
 Nat.le_antisymm (BE hO (hA.rows.r (by have:=hO.lt.pos;omega)) h.ind) (FL hO hA fun i hi=>h.cov i (A i hi))
theorem GrP.all(hA:dP O q n gen p)(h:GrP O q gen order S)(D:order.length=gen.length){A:List Nat}(C:∀i,i<n->aV O (dF gen A) fun t=>(fR gen i).getD t 0)(hm:∀i,i∈A->i∈order):S=order:=by refine h.sub.eq_of_length (Nat.le_antisymm h.sub.length_le ?_);rw[D];refine FL hO hA fun i hi=>(C i hi).trans hO fun s B=>?_;rw[jQ] at B;have e:=h.cov A[s] (hm _ (aY6 B));unfold ent;rw[nU B];exact e
end
def dQ(gen:LL)(S:List Nat):LL:=
 (List.range gen.length).map fun i=>aQ (gen.length+gen.length) fun j=>if j<gen.length then ent gen i (S.getD j 0) else if j=gen.length+i then 1 else 0
theorem dR(gen:LL)(S:List Nat):(dQ gen S).length=gen.length:=by simp[dQ]
theorem oX{gen:LL}{S:List Nat}{i j:Nat}(hi:i<gen.length)(A:j<gen.length+gen.length):
  ent (dQ gen S) i j=if j<gen.length then ent gen i (S.getD j 0) else if j=gen.length+i then 1 else 0:=by
 unfold ent;rw[show(dQ gen S).getD i []=aQ (gen.length+gen.length) fun j=>if j<gen.length then ent gen i (S.getD j 0) else if j=gen.length+i then 1 else 0 by simp[dQ,List.getD,hi],aS A];rfl
section
variable {O:aO} {q:Int} (hO:O.Fld q) {n:Nat} {gen:LL} {p:LI}
include hO
theorem nS(hq:gW q gen)(S:List Nat):Rows q (gen.length+gen.length) (dQ gen S):=fun i hi=>by
 have B:(1:Int)<q:=hO.lt.pos;rw[dR] at hi;rw[show(dQ gen S).getD i []=aQ (gen.length+gen.length) fun j=>if j<gen.length then ent gen i (S.getD j 0) else if j=gen.length+i then 1 else 0 by simp[dQ,List.getD,hi]];refine⟨aT _ _,fun j=>?_⟩;by_cases A:j<gen.length+gen.length
 . rw[aS A];split
   . exact hq _ _
   . split<;>omega
 . have e : (aQ (gen.length + gen.length) fun j => if j < gen.length then ent gen i (S.getD j 0) else if j = gen.length + i then (1 : Int) else 0).getD j 0 = 0 := by
     rw[aZ4,aY4 (by rw[aT];omega)];rfl
   rw[e];omega
theorem P9 {S : List Nat} {b : Nat -> Int} (hb : ∀ i, 0 <= b i /\ b i < q) {y : Nat -> Int} (B : ∀ j, y j = aR O (fun i => O.mul (b i) (ent (dQ gen S) i j)) (dQ gen S).length) {l : Nat} (A : l < gen.length) :
   y (gen.length+l)=b l:=by
 rw[B,dR,bP hO (k:=l) (hO.lt.mul _ _) A fun i hi C=>by rw[oX hi (by omega),if_neg (by omega),if_neg (by omega),hO.mul_zero],oX A (by omega),if_neg (by omega),if_pos rfl,hO.mul_one _ (hb l).1 (hb l).2]
omit hO in
theorem QC {S : List Nat} {b : Nat -> Int} {y : Nat -> Int} (B : ∀ j, y j = aR O (fun i => O.mul (b i) (ent (dQ gen S) i j)) (dQ gen S).length) {j : Nat} (A : j < gen.length) :
   y j=aR O (fun i=>O.mul (b i) (ent gen i (S.getD j 0))) gen.length:=by
 rw[B,dR];exact aJ fun i hi=>by rw[oX hi (by omega),if_pos A]
theorem IZ (hA : dP O q n gen p) {S : List Nat} (D : ∀ i, i < n -> aV O (dF gen S) fun t => (fR gen i).getD t 0) {a : Nat -> Int} (E : ∀ i, 0 <= a i /\ a i < q)
   (H:∀s,s∈S->aR O (fun i=>O.mul (a i) (ent gen i s)) gen.length=0):∀i,i<gen.length->a i=0:=by
 refine pM hO hA a E fun j=>?_;by_cases G:j<n
 . obtain ⟨c, F⟩ := D j G;have hm : ∀ t, t < gen.length -> O.mul (a t) (ent gen t j) = aR O (fun s => O.mul (c s) (O.mul (a t) (ent (dF gen S) s t))) (dF gen S).length := fun t B => by
     have h:=F t;dsimp only at h;rw[tY B] at h;rw[h,dN hO];refine aJ fun s _=>?_;rw[<-hO.mul_assoc,hO.mul_comm (a t),hO.mul_assoc]
   rw[aJ hm,iR hO (fun t s=>O.mul (c s) (O.mul (a t) (ent (dF gen S) s t)))];refine bK hO fun s A=>?_;rw[jQ] at A;have C:aR O (fun t=>O.mul (c s) (O.mul (a t) (ent (dF gen S) s t))) gen.length=O.mul (c s) (aR O (fun t=>O.mul (a t) (ent gen t S[s])) gen.length):=by rw[dN hO];refine aJ fun t B=>?_;rw[show ent (dF gen S) s t=ent gen t S[s] by unfold ent;rw[nU A];exact tY B]
   rw[C,H _ (aY6 A),hO.mul_zero]
 . exact bK hO fun i _=>by rw[kK hA.rows (by omega),hO.mul_zero]
theorem FA (hA : dP O q n gen p) {S : List Nat} (V : S.length = gen.length) (J : ∀ i, i < n -> aV O (dF gen S) fun t => (fR gen i).getD t 0) :
   (aI O (dQ gen S) gen.length).2.length=gen.length:=by
 have hq:0<q:=by have:=hO.lt.pos;omega
 have hR:=nS hO (hA.rows.r hq) S;obtain⟨E,F⟩:=uG hO hR gen.length;have C:(aI O (dQ gen S) gen.length).1.length=gen.length:=(eQ O _ _).trans (dR _ _);have H:=E.len;rw[C] at H;refine aY0 fun X=>?_
 --the row behind the JX is 0
 let r:=(aI O (dQ gen S) gen.length).2.length
 have R:r<gen.length:=by have:r=(aI O (dQ gen S) gen.length).2.length:=rfl;omega
 obtain⟨b,hb,G⟩:=qZ hO (hR.r hq) (F.1 r (by rw[C];exact R));have M:∀i,i<gen.length->b i=0:=IZ hO hA J hb fun s T=>by obtain⟨j,Q,rfl⟩:=List.getElem_of_mem T;have A:=QC G (j:=j) (by omega);rw[E.rest r zr j (by omega)] at A;rw[show S.getD j 0=S[j] by simp[List.getD,Q]] at A;exact A.symm
 have U:∀j,ent (aI O (dQ gen S) gen.length).1 r j=0:=fun j=>by rw[G j,dR];exact bK hO fun i hi=>by rw[M i hi,hO.zero_mul]
 --the rows beside the unit matrix are independent
 have hI:tS O q (ent (dQ gen S)) gen.length:=fun c N P i hi=>by have A:=P9 hO (S:=S) N (y:=fun j=>aR O (fun i=>O.mul (c i) (ent (dQ gen S) i j)) (dQ gen S).length) (fun j=>rfl) hi;rw[<-A,dR];exact P _
 obtain⟨m,hm⟩:∃m,gen.length=m+1:=⟨gen.length-1,by omega⟩
 have B:∀i,∃a:Nat->Int,(∀l,0<=a l/\a l<q)/\(i<gen.length->∀j,ent (dQ gen S) i j=aR O (fun l=>O.mul (a l) (ent (aI O (dQ gen S) gen.length).1 l j)) gen.length):=fun i=>by
   by_cases hi:i<gen.length
   . have I:gW q (aI O (dQ gen S) gen.length).1:=(Rows.elim hO.lt hR gen.length).r hq;obtain⟨a,K,L⟩:=qZ hO I (F.2 i (by rw[dR];exact hi));exact⟨a,K,fun _ j=>by rw[L j,C]⟩
   . exact⟨fun _=>0,fun _=>⟨Int.le_refl _,hq⟩,fun h=>absurd h hi⟩
 have W:=qO hO m gen.length (ent (dQ gen S)) (fun l=>ent (aI O (dQ gen S) gen.length).1 (if l<r then l else l+1)) (fun i l=>(B i).choose (if l<r then l else l+1))
   (fun i l=>(B i).choose_spec.1 _) (fun i j hi=>by rw[(B i).choose_spec.2 hi j];have A:=tN hO (fun l=>O.mul ((B i).choose l) (ent (aI O (dQ gen S) gen.length).1 l j)) (fun l=>hO.lt.mul _ _) (m:=m) (k:=r) (by omega);rw[<-hm] at A;rw[A,U j,hO.mul_zero];have D:=cW hO (fun l=>O.mul ((B i).choose (if l<r then l else l+1)) (ent (aI O (dQ gen S) gen.length).1 (if l<r then l else l+1) j)) m;rw[hO.add_zero _ D.1 D.2]) hI
 omega
theorem UW (hA : dP O q n gen p) {S : List Nat} (A : S.length = gen.length) (R : ∀ i, i < n -> aV O (dF gen S) fun t => (fR gen i).getD t 0) {G : LL} (hGl : G.length = gen.length)
   (P:∀l,l<gen.length->∀j,ent G l j=aR O (fun m=>O.mul (ent (aI O (dQ gen S) gen.length).1 l (gen.length+m)) (ent gen m j)) gen.length):AX O n gen S G:=by
 have hq:0<q:=by have:=hO.lt.pos;omega
 have hR:=nS hO (hA.rows.r hq) S;obtain⟨B,T⟩:=uG hO hR gen.length;have C:=FA hO hA A R;have N:(aI O (dQ gen S) gen.length).1.length=gen.length:=(eQ O _ _).trans (dR _ _);have M:gW q (aI O (dQ gen S) gen.length).1:=(Rows.elim hO.lt hR gen.length).r hq
 --the JX are all columns on the left
 have V:∀i,i<gen.length->i<=pvt (aI O (dQ gen S) gen.length).2 i:=fun i=>by
   induction i with
   |zero=>exact fun _=>aZ5 _
   |succ i ih=>intro hi;have:=ih (by omega);have:=B.inc i (i+1) (by omega) (by rw[C];exact hi);omega
 have X:∀t i,i+t+1=gen.length->pvt (aI O (dQ gen S) gen.length).2 i<=i:=fun t=>by
   induction t with
   |zero=>intro i hi;have:=B.lt i (by rw[C];omega);omega
   |succ t ih=>intro i hi;have:=ih (i+1) (by omega);have:=B.inc i (i+1) (by omega) (by rw[C];omega);omega
 have I:∀i,i<gen.length->pvt (aI O (dQ gen S) gen.length).2 i=i:=fun i hi=>Nat.le_antisymm (X (gen.length-1-i) i (by omega)) (V i hi);have Z:∀i,i<gen.length->ent (aI O (dQ gen S) gen.length).1 i i=1:=fun i hi=>by have h:=B.one i (by rw[C];exact hi);rwa[I i hi] at h
 have Y:∀i,i<gen.length->∀k,k≠i->ent (aI O (dQ gen S) gen.length).1 k i=0:=fun i hi k W=>by have h:=B.off i (by rw[C];exact hi) k W;rwa[I i hi] at h
 --the product of the columns and the inverse
 have Q:∀i,i<gen.length->∀m,m<gen.length->aR O (fun l=>O.mul (ent gen i (S.getD l 0)) (ent (aI O (dQ gen S) gen.length).1 l (gen.length+m))) gen.length=if m=i then 1 else 0:=fun i hi m hm=>by
   obtain⟨c,H,D⟩:=qZ hO M (T.2 i (by rw[dR];exact hi));rw[N] at D;have U:∀l,l<gen.length->c l=ent gen i (S.getD l 0):=fun l A=>by have h:=D l;rw[oX hi (by omega),if_pos A,bP hO (k:=l) (hO.lt.mul _ _) A fun t _ E=>by rw[Y l A t E,hO.mul_zero],Z l A,hO.mul_one _ (H l).1 (H l).2] at h;exact h.symm
   have h:=D (gen.length+m);rw[oX hi (by omega),if_neg (by omega)] at h;refine Eq.trans (aJ fun l A=>?_) (Eq.trans h.symm ?_)
   . rw[U l A]
   by_cases e:m=i
   . rw[if_pos e,if_pos (by omega)]
   . rw[if_neg e,if_neg (by omega)]
 refine⟨hGl,A,fun x b j=>?_⟩;obtain⟨a,d,F⟩:=qZ hO (hA.rows.r hq) b;rw[hGl];have J:∀l,l<gen.length->O.mul (x (S.getD l 0)) (ent G l j)=aR O (fun i=>O.mul (a i) (O.mul (ent gen i (S.getD l 0)) (ent G l j))) gen.length:=fun l _=>by rw[F (S.getD l 0),oR hO];exact aJ fun i _=>hO.mul_assoc _ _ _
 rw[aJ J,iR hO (fun l i=>O.mul (a i) (O.mul (ent gen i (S.getD l 0)) (ent G l j))),F j];refine aJ fun i hi=>?_;rw[<-dN hO];congr 1;have K:∀l,l<gen.length->O.mul (ent gen i (S.getD l 0)) (ent G l j)=aR O (fun m=>O.mul (O.mul (ent gen i (S.getD l 0)) (ent (aI O (dQ gen S) gen.length).1 l (gen.length+m))) (ent gen m j)) gen.length:=fun l A=>by rw[P l A j,dN hO];exact aJ fun m _=>(hO.mul_assoc _ _ _).symm
 rw[aJ K,iR hO (fun l m=>O.mul (O.mul (ent gen i (S.getD l 0)) (ent (aI O (dQ gen S) gen.length).1 l (gen.length+m))) (ent gen m j))];have L:∀m,m<gen.length->aR O (fun l=>O.mul (O.mul (ent gen i (S.getD l 0)) (ent (aI O (dQ gen S) gen.length).1 l (gen.length+m))) (ent gen m j)) gen.length=if m=i then ent gen m j else 0:=fun m hm=>by
   rw[<-oR hO,Q i hi m hm];by_cases e:m=i
   . rw[if_pos e,if_pos e];have h:=hA.rows.r hq m j;exact hO.one_mul h.1 h.2
   . rw[if_neg e,if_neg e,hO.zero_mul]
 rw[aJ L,bP hO (k:=i) (by rw[if_pos rfl];exact hA.rows.r hq i j) hi fun m _ E=>if_neg E,if_pos rfl]
end
theorem oJ:∀{L T:List Nat},L.Nodup->(∀a,a∈L->a∈T)->L.length<=T.length
 |[],_,_,_=>aZ5 _
 |a::L,T,hn,hs=>by obtain⟨A,hn⟩:=List.nodup_cons.1 hn;have h:=oJ (T:=T.erase a) hn fun b hb=>(List.mem_erase_of_ne (by rintro rfl;exact A hb)).2 (hs b (List.mem_cons_of_mem _ hb));have B:=List.length_erase_of_mem (hs a List.mem_cons_self);have C:0<T.length:=List.length_pos_of_mem (hs a List.mem_cons_self);simp only[List.length_cons];omega
theorem NH{O:aO}{gen:LL}{i:Nat}{s T:List Nat}(hT:kF O gen i T)(E:¬kF O gen i s)(hn:s.Nodup)(F:∀a,a∈s->a∈T):s.length<T.length:=by
 refine aY0 fun I=>E fun x G H=>hT x G fun j B=>?_;refine aY0 fun D=>?_;have C:j∉s:=fun h=>D (H j h);have h:=oJ (L:=j::s) (T:=T) (List.nodup_cons.2 ⟨C,hn⟩) fun a A=>by
  rcases List.mem_cons.1 A with e|e
  .rw[e];exact B
  .exact F a e
 simp only[List.length_cons] at h;omega
theorem RD{O:aO}{gen:LL}{i:Nat}{T:List Nat}(hT:kF O gen i T){x:Nat->Int}(D:aV O gen x)(A:x i≠0):∃j,j∈T/\x j≠0:=
 aY0 fun h=>A (hT x D fun j B=>aY0 fun C=>h ⟨j,B,C⟩)
theorem B9{T:List Nat}:∀{l:List Nat},(∃j,j∈l/\j∈T)->∃k,∃h:k<l.length,l[k]∈T/\∀j,j∈l.take k->j∉T
 |[],h=>by obtain⟨j,A,_⟩:=h;exact absurd A List.not_mem_nil
 |a::l,h=>by
  by_cases B:a∈T
  .exact⟨0,by simp,B,fun j A=>by simp at A⟩
  .obtain⟨j,A,C⟩:=h;have F:j∈l:=by
    rcases List.mem_cons.1 A with e|e
    .exact absurd (e▸C) B
    .exact e
   obtain⟨k,G,D,E⟩:=B9 ⟨j,F,C⟩;refine⟨k+1,by simp only[List.length_cons];omega,by simpa using D,fun j A=>?_⟩;rw[List.take_succ_cons] at A;rcases List.mem_cons.1 A with e|e
   .rw[e];exact B
   .exact E j e
def uK(i n:Nat)(s z:List Nat):Nat:=cC (fun j=>decide (j≠i)&&(!s.contains j&&!z.contains j)) n
theorem FW{i n:Nat}{s z A:List Nat}(hn:A.Nodup)(C:∀j,j∈A->j<n/\j≠i/\j∉s/\j∉z){k:Nat}(G:k<A.length):
  uK i n (s++[A[k]]) (z++A.take k)+k+1<=uK i n s z:=by
 have F:((A.take k)).Nodup:=hn.sublist (List.take_sublist _ _);have M:A[k]∉A.take k:=fun h=>by
  have e:A=A.take k++A[k]::A.drop (k+1):=by rw[<-List.drop_eq_getElem_cons G,List.take_append_drop]
  rw[e,List.nodup_append] at hn;exact hn.2.2 _ h _ List.mem_cons_self rfl
 have I:=nT (T:=fun j=>decide (j≠i)&&(!(s++[A[k]]).contains j&&!(z++A.take k).contains j)) (L:=fun j=>(A.take k).contains j) (U:=fun j=>decide (j≠i)&&(!s.contains j&&!z.contains j)) (i:=A[k])
  (fun j h=>by simp only[List.contains_append,List.contains_cons,aY9,decide_eq_true_eq,Bool.not_eq_true',Bool.or_eq_false_iff] at h|-;exact⟨h.1,h.2.1.1,h.2.2.1⟩)
  (fun j h=>by
   have hm:j∈A.take k:=by simpa using h
   obtain⟨_,B,D,E⟩:=C j (List.mem_of_mem_take hm);refine⟨by simp[B,D,E],by simp[hm],fun e=>M (e▸hm)⟩)
  ⟨by obtain⟨_,B,D,E⟩:=C _ (aY6 G);simp[B,D,E],by simp⟩ n
 rw[if_pos (C _ (aY6 G)).1] at I;have J:∀{L:List Nat},L.Nodup->(∀j,j∈L->j<n)->L.length<=cC (fun j=>L.contains j) n:=fun{L} F N=>by rw[<-mA];exact oJ F fun a H=>List.mem_filter.2 ⟨List.mem_range.2 (N a H),by simpa using H⟩
 have B:=J F fun j K=>(C j (List.mem_of_mem_take K)).1;rw[aY3] at B;unfold uK;omega
end Go.Proofs.YtpfhoemohibniaaGreatDoor
