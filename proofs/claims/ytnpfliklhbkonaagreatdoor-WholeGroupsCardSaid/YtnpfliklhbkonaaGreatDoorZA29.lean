/- Parts. -/
import Derived.Test.YtnpfliklhbkonaaGreatDoorZA27
set_option maxRecDepth 99999
set_option maxHeartbeats 0
namespace Go.Proofs.YtnpfliklhbkonaaGreatDoor
open Go.Proofs.Tryz
open Go.RowKit
theorem OP(n:Nat)(h:n<4294967296):bits .and .u64 (n:Int) 4294967295=(n:Int):=by show IntKind.u64.wrap ((BitVec.ofInt 64 (n:Int)&&&BitVec.ofInt 64 4294967295).toNat:Int)=_;rw[BitVec.toNat_and,show BitVec.ofInt 64 (4294967295:Int)=BitVec.ofInt 64 ((4294967295:Nat):Int) from rfl,BitVec.ofInt_natCast,BitVec.ofInt_natCast,BitVec.toNat_ofNat,BitVec.toNat_ofNat,IntKind.wrap_u64];have e:n%2^64=n:=Nat.mod_eq_of_lt om;rw[e,show 4294967295%2^64=2^32-1 from rfl,Nat.and_two_pow_sub_one_eq_mod];omega
theorem IY(x:Nat)(h:x<4294967296):IntKind.u64.wrap (x:Int)=(x:Int):=by rw[IntKind.wrap_u64];omega
theorem ai(x:Nat)(h:x<4294967296):IntKind.i64.wrap (x:Int)=(x:Int):=IntWalk.i64_in _ om
theorem KK(w:Wo)(x y z:Nat)(J:x<65536)(K:y<65536)(A:x*y=z)(L:z<4294967296):
 Calls prog 254 #[.int .u64 (x:Int),.int .u64 (y:Int)] w fun e w'=>e=.returned (.tuple #[.int .u64 0,.int .u64 (z:Int)])/\w=w':=by
 have B:=OP x om;have C:=OP y om;have D:(x:Int)/4294967296=0:=om;have E:(y:Int)/4294967296=0:=om;have F:(x:Int)*(y:Int)=(z:Int):=by rw[<-A];exact(Int.natCast_mul _ _).symm
 have G:(z:Int)/4294967296=0:=om;have H:bits .and .u64 0 4294967295=0:=by decide
 have I:IntKind.u64.wrap (z:Int)=(z:Int):=by rw[IntKind.wrap_u64];omega
 clear A;go_enter func254,ntmps254;go_wp2;go_ret2;exact⟨rfl,rfl⟩
theorem JM(w:Wo)(x y q r:Nat)(K:x<4294967296)(D:0<y)(L:y<65536)(hq:x/y=q)(A:x%y=r):
 Calls prog 255 #[.int .u64 0,.int .u64 (x:Int),.int .u64 (y:Int)] w fun e w'=>e=.returned (.tuple #[.int .u64 (q:Int),.int .u64 (r:Int)])/\Below w w w':=by
 have B:(x:Int)/(y:Int)=(q:Int):=by rw[<-hq];exact(Int.natCast_ediv _ _).symm
 have C:(x:Int)%(y:Int)=(r:Int):=by rw[<-A];exact(Int.natCast_emod _ _).symm
 have E:(x:Int).tdiv (y:Int)=(q:Int):=by rw[<-B];exact Int.tdiv_eq_ediv_of_nonneg om
 have F:(x:Int).tmod (y:Int)=(r:Int):=by rw[<-C];exact Int.tmod_eq_emod_of_nonneg om
 have I:q<=x:=by rw[<-hq];exact Nat.div_le_self _ _
 have J:r<y:=by rw[<-A];exact Nat.mod_lt _ D
 have G:IntKind.u64.wrap (q:Int)=(q:Int):=by rw[IntKind.wrap_u64];omega
 have H:IntKind.u64.wrap (r:Int)=(r:Int):=by rw[IntKind.wrap_u64];omega
 have M:¬(y:Int)=0:=om;have N:¬y=0:=om;clear hq A;go_enter func255,ntmps255;go_upto_region 6 with fail
 go_quiet (fail)
 go_wp2;go_ret2;exact⟨rfl,aY _ _⟩
theorem E4{n k:Nat}(hn:n<=10):chN n k<=1024:=by have h:=BC 1 n k;rw[Nat.one_pow,Nat.mul_one] at h;exact aZ6 h (aZ6 (Nat.pow_le_pow_right om hn) dC)
theorem QP(w:Wo)(n k:Nat)(hn:n<=10)(hk:k<=n):
 Calls prog 137 #[n,k,.int .i64 65536] w fun e w'=>e=.returned (.tuple #[.int .i64 (chN n k:Nat),z0])/\Below w w w':=by
 obtain⟨s,v⟩:=xE (min k (n-k));have μ:s<=n:=om;have x:s+s<=n:=om;have J:Hid (chN n s=chN n k):=aG (by
  rcases Nat.le_total k (n-k) with h|h
  .rw[show s=k from om]
  .rw[show s=n-k from om];exact B6 n (n-k) k om)
 obtain⟨m,u⟩:=xE (n-s);have θ:m<=10:=om;have V:m+s=n:=om;have P:Hid (∀i,chN (m+i) i*(m+(i+1))=(i+1)*chN (m+(i+1)) (i+1)):=aG fun i=>by have:=xD (m+i) i;rw[show m+(i+1)=m+i+1 from om,this,Nat.mul_comm]
 have E:Hid (∀i,i<=s->chN (m+i) i<=1024):=aG fun i hi=>E4 om;have j:(if(n:Int)-(k:Int)<(k:Int) then(n:Int)-(k:Int) else(k:Int))=(s:Int):=by split<;>omega
 have δ:¬(n:Int)<(k:Int):=om;have ι:(n:Int)-(s:Int)=(m:Int):=om;have L:Hid (chN (m+0) 0=1):=aG (tC _);have K:Hid (chN (m+s) s=chN n k):=aG (by rw[V];exact J.out);clear v u;generalize hW:(fun i=>chN (m+i) i)=W;have Q:∀i,chN (m+i) i=W i:=fun i=>by rw[<-hW]
 simp only[Q] at P E L K;clear Q hW V J x;go_enter func137,ntmps137;go_wp2;go_loopw [8,9] (fun o i wr=>∃c:Nat,c<=s/\i=.int .i64 ((c+1:Nat):Int)/\o=.int .i64 (W c:Nat)/\Hid (Below w w wr)) (fun _ i _=>(s+2)-(intOf i).toNat)
 .exact⟨0,aZ5 _,rfl,by rw[L.out];rfl,aG (bE w)⟩
 .
  obtain⟨c,S,rfl,rfl,I⟩:=hrel;clear j;obtain⟨o,B⟩:=xE (W c);have F:o<=1024:=by rw[B];exact E.out c S
  have N:=zh B;rw[<-B];clear B;obtain⟨d,A⟩:=xE (c+1);have M:=zh A;rw[<-A];have q:d<=11:=om;have T:0<d:=om;by_cases l:c<s
  .have U:d<=s:=om;have r:(d:Int)<=(s:Int):=om;obtain⟨t,G⟩:=xE (m+d);have b:=zh G;have ν:(m:Int)+(d:Int)=(t:Int):=by rw[G];push_cast;rfl
   have H:t<=21:=om;have ξ:=IY o (Nat.lt_of_le_of_lt F dC);have π:=IY t (Nat.lt_of_le_of_lt H dC);have ρ:=IY d (Nat.lt_of_le_of_lt q dC);have O:Hid (o*t=d*W d):=aG (by rw[b.out,N.out,M.out];exact P.out c);have f:Hid (W d<=1024):=aG (E.out d U);clear G A S l U;go_wp2_with fail;apply(KK _ o t (o*t) om om rfl (Nat.lt_of_le_of_lt (Nat.mul_le_mul F H) dC)).mono;rintro e w1⟨rfl,rfl⟩;obtain⟨p,C⟩:=xE (o*t);have Y:Hid (p=d*W d):=aG (by rw[C];exact O.out);have κ:p<=1024*21:=by rw[C];exact Nat.mul_le_mul F H
   rw[<-C];clear C O;have ε:¬(d:Int)<=0:=om;go_wp2_with fail;apply(JM _ p d (p/d) (p%d) om T om rfl rfl).mono;rintro e w2⟨rfl,R⟩;have Z:Hid (p/d=W d):=aG (Y.out▸Nat.mul_div_cancel_left _ T);rw[Z.out];obtain⟨z,D⟩:=xE (W d);have y:z<=1024:=by rw[D];exact f.out
   have g:=zh D;rw[<-D];have X:=zh (aC I R);have σ:=ai z (Nat.lt_of_le_of_lt y dC);have τ:¬(65536:Int)<(z:Int):=om;clear R D;go_wp2;exact⟨⟨d,oA M.out,pC,by rw[g.out],X⟩,oI⟩
  .obtain rfl:s=c:=om;have r:(s:Int)<(d:Int):=om;have ζ:s<d:=om;have η:decide ((d:Int)<=(s:Int))=false:=dG om;have a:Hid (o=chN n k):=aG (N.out▸K.out);clear A;go_wp2;go_ret2;exact⟨by rw[a.out];rfl,I.out⟩
