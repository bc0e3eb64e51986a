/- Parts. -/
import Derived.Test.YtnpfliklhbkonaaGreatDoorZA17
set_option maxRecDepth 99999
set_option maxHeartbeats 0
namespace Go.Proofs.YtnpfliklhbkonaaGreatDoor
open Go.Proofs.Tryz
open Go.RowKit
structure vA(w:Wo)(kd:Int)(nm:By)(x:Int)(A:OA)(n c dp sz ln:Nat):Prop where
 form:∀w',Below w w w'->Calls prog 115 #[.agg #[kd,.string nm,x,(),.slice A n c]] w' (nX w' true)
 meas:∀w',Below w w w'->Calls prog 116 #[.agg #[kd,.string nm,x,(),.slice A n c]] w' (ZP w' (dp:Nat))
 size:∀w',Below w w w'->Calls prog 117 #[.agg #[kd,.string nm,x,(),.slice A n c]] w' (kV w' (sz:Nat))
 wr:BS w kd nm x A n c ln
theorem vA.num(w:Wo)(x:Nat)(A:x<10):vA w 1 {data:=#[]} (x:Int) none 0 0 1 1 1:=
 ⟨fun w' _=>WG w' x om,fun w' _=>XB w' x om,fun w' _=>YV w' x om,BS.num w x A⟩
theorem vA.mk'{w:Wo}{nm:By}{A:OA}{m c:Nat}{H:List (List Va)}(hn:nB nm)(K:m<=100)(L:RG 5 w (.slice A m c) H)(M:H=m)(dp O P F I:Nat->Nat)
 (N:∀k,k<m->∃C D x B n c',H k []=XC C D x B n c'/\vA w C D x B n c' (dp k) (O k) (P k))
 (Q:F 0=0)(ds:∀k,k<m->(if F k<dp k then dp k else F k)=F (k+1))(db:∀k,k<=m->F k<=100000/\dp k<=100000)
 (R:I 0=1)(S:∀k,I (k+1)=I k+O k)(sb:∀k,k<=m->I k<=100000/\O k<=100000):vA w 3 nm 0 A m c (F m+1) (I m) (nm.size+1+qZ P m+1):=
 ⟨fun w' E => RQ w' nm A m c H K hn (L.below E zr) M fun k hk => by
  obtain⟨C,D,x,B,n,c',G,h⟩:=N k hk;exact⟨C,D,x,B,n,c',G,fun w2 J=>h.form w2 (aC E J)⟩,
  fun w' E=>SD w' nm A m c H K hn (L.below E zr) M F dp Q ds db fun k hk=>by obtain⟨C,D,x,B,n,c',G,h⟩:=N k hk;exact⟨C,D,x,B,n,c',G,fun w2 J=>h.meas w2 (aC E J)⟩,
  fun w' E=>TY w' nm A m c H K hn (L.below E zr) M I O R S sb fun k hk=>by obtain⟨C,D,x,B,n,c',G,h⟩:=N k hk;exact⟨C,D,x,B,n,c',G,fun w2 J=>h.size w2 (aC E J)⟩,
  BS.call w nm A m c H P L M K fun k hk=>by obtain⟨C,D,x,B,n,c',G,h⟩:=N k hk;exact⟨C,D,x,B,n,c',G,h.wr⟩⟩
theorem vA.gf{w:Wo}{cs:List Va}(h:gfX w cs):∃A c,cs=XC 3 mY 0 A 1 c/\vA w 3 mY 0 A 1 c 2 2 5:=by
 obtain⟨A,c,rfl,E,B,C,D⟩:=h;refine⟨A,c,rfl,?_⟩;have:=vA.mk' (w:=w) (nm:=mY) nB.gf dC C B (fun _=>1) (fun _=>1) (fun _=>1) (fun k=>if k=0 then 0 else 1) (fun k=>k+1) (fun k hk=>by
  have e:E k []=iZ 2:=D k hk;exact⟨1,{data:=#[]},(2:Nat),none,0,0,e,vA.num w 2 dC⟩) rfl (fun k hk=>by
  obtain rfl:k=0:=om;rfl) (fun k hk=>⟨by split<;>omega,om⟩) rfl (fun k=>rfl) (fun k hk=>⟨om,om⟩)
 exact this
theorem vA.ham{w:Wo}{cs:List Va}(h:EK w cs):∃A c,cs=XC 3 fU 0 A 2 c/\vA w 3 fU 0 A 2 c 3 4 17:=by
 obtain⟨A,c,rfl,C,J,K,B⟩:=h;refine⟨A,c,rfl,?_⟩;have H:gfX w (C 0 []):=B 0 dC;have I:C 1 []=iZ 3:=B 1 dC;obtain⟨D,F,G,E⟩:=vA.gf H;have:=vA.mk' (w:=w) (nm:=fU) nB.ham dC K J (fun k=>[2,1].getD k 0) (fun k=>[2,1].getD k 0) (fun k=>[5,1].getD k 0) (fun k=>[0,2,2].getD k 0) (fun k=>if k=0 then 1 else if k=1 then 3 else if k=2 then 4 else 4) (fun k hk=>by
  rcases(by omega:k=0\/k=1) with rfl|rfl
  .exact⟨3,mY,0,D,1,F,G,E⟩
  .exact⟨1,{data:=#[]},(3:Nat),none,0,0,I,vA.num w 3 dC⟩) rfl (fun k hk=>by
  rcases(by omega:k=0\/k=1) with rfl|rfl<;>rfl) (fun k hk=>by
  rcases(by omega:k=0\/k=1\/k=2) with rfl|rfl|rfl<;>decide) rfl (fun k=>by
  rcases(by omega:k=0\/k=1\/2<=k) with rfl|rfl|h
  .rfl
  .rfl
  .have e:([2,1]:List Nat).getD k 0=0:=by rw[aZ4,aY4 (by simpa using h)];rfl
   rw[e,iN om,iN om,iN om];split
   .omega
   .split
    .omega
    .split<;>rfl) (fun k hk=>by
  rcases(by omega:k=0\/k=1\/k=2) with rfl|rfl|rfl<;>decide)
 exact this
theorem QN(w:Wo)(K:Int)(nm:By)(x:Int)(A:OA)(n c dp O L:Nat)(h:vA w K nm x A n c dp O L)(j:dp<=32)(l:O<=1024)(k:L<=50000):
 Calls prog 76 #[.agg #[K,.string nm,x,(),.slice A n c]] w (kV w 0):=by
 have N:=zh h;clear h;have D:=zh (Blk.new w 50 (XC K nm x A n c));have C:=zh (aH w (.cells (XC K nm x A n c).toArray 50));unfold XC at D C;have Z:decide ((32:Int)<(dp:Int))=false:=dG om;have a:decide (32<dp)=false:=dG om;have d:decide ((1024:Int)<(O:Int))=false:=dG om;have f:decide (1024<O)=false:=dG om;have g:decide ((65536:Int)<(L:Int))=false:=dG om;have i:decide (65536<L)=false:=dG om;go_enter func76,ntmps76;go_upto_region 1 with fail;generalize w.alloc (.cells #[K,.string nm,x,(),.slice A n c] 50)=w0 at*;obtain⟨F,G,H,I,J,_,_,_,_,_⟩:=D.five;go_wp2_with fail;apply(N.form w0 C).mono;rintro e w1⟨rfl,B⟩;replace D:=zh (D.belowS B);replace C:=zh (aC C B);clear B F G H I J;obtain⟨F,G,H,I,J,_,_,_,_,_⟩:=D.five;go_wp2_with fail;apply(N.meas w1 C).mono;rintro e w2⟨rfl,B⟩;replace D:=zh (D.belowS B);replace C:=zh (aC C B);clear B F G H I J;obtain⟨F,G,H,I,J,_,_,_,_,_⟩:=D.five;go_wp2_with fail;apply(N.size w2 C).mono;rintro e E⟨rfl,B⟩;replace D:=zh (D.belowS B);replace C:=zh (aC C B);clear B F G H I J;have R:=zh C.size;go_upto_region 7 with fail;have P:Hid (BL E E 0 (E.alloc (.cells #[.pointer none,()] 197))):=aG ⟨[],rfl,Lib.fresh_isBuilder _ _ E⟩;have B:=aH E (.cells #[.pointer none,()] 197);replace D:=zh (D.belowS B);replace C:=zh (aC C B);have M:Hid (w.heap.size<=E.heap.size/\E.heap.size<=(E.alloc (.cells #[.pointer none,()] 197)).heap.size):=aG ⟨R.out,B.size⟩;clear B;generalize E.alloc (.cells #[.pointer none,()] 197)=X at*;obtain⟨F,G,H,I,J,_,_,_,_,_⟩:=D.five;obtain⟨b,S⟩:=xE E.heap.size;rw[<-S] at P M|-;clear S R;have Q:=zh (N.wr.run X b b 0 C M.1 P M.2 om);rw[Nat.zero_add] at Q;go_wp2_with fail;apply Q.mono;rintro e Y⟨rfl,U,T,_⟩;have V:=zh U;have W:=zh (C.trans (T.mono M.1));clear U T F G H I J;go_wp2_with fail;apply(BZ b b L Y V).mono;rintro e m⟨rfl,rfl⟩;go_wp2;go_ret;exact⟨rfl,W.out⟩
theorem QO(w:Wo)(a b c d f:Va)(h:EK w [a,b,c,d,f]):Calls prog 76 #[.agg #[a,b,c,d,f]] w (kV w 0):=by
 obtain⟨A,B,e,C⟩:=vA.ham h;obtain⟨rfl,rfl,rfl,rfl,rfl⟩:a=.int .i64 3/\b=.string fU/\c=.int .i64 0/\d=.slice none 0 0/\f=.slice A 2 B:=by simpa[XC] using e
 exact QN w 3 fU 0 A 2 B 3 4 17 C dC dC dC
