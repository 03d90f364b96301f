import Derived.Test.YtghihmkhdhjhiaaGreatDoorM21
import Derived.Laws.Bits64b
import Derived.Test.YtghihmkhdhjhiaaGreatDoorM22
import Derived.Test.YtghihmkhdhjhiaaGreatDoorLL
namespace Go.Proofs.YtghihmkhdhjhiaaGreatDoor
set_option linter.unusedVariables false
set_option linter.unusedSimpArgs false
set_option maxRecDepth 100000
theorem uP {σ ρ:Type} {f:Nat→σ→Option (Ctl σ ρ)} (I:Nat→σ→Prop):∀ (m k:Nat) (s:σ),I k s→(∀ j s,k≤j→j<k+m→I j s→∃ s',f j s=some (.go s')∧I (j+1) s')→∃ s',dQ f m k s=some (.nx s')∧I (k+m) s'
  | 0,k,s,h,_=>⟨s,rfl,h⟩
  | m+1,k,s,h,hh=>by
    obtain⟨s',h1,h2⟩:=hh k s (by omega) (by omega) h;obtain⟨t,h3,h4⟩:=uP I m (k+1) s' h2 (fun j s hj hm=>hh j s (by omega) (by omega));exact⟨t,by rw[nZ h1];exact h3,by rw[show k+(m+1)=k+1+m by omega];exact h4⟩
theorem uG {σ ρ:Type} {f:σ→Option (Ctl σ ρ)} (I:Nat→σ→Prop) (go:∀ c s,I (c+1) s→∃ s',f s=some (.go s')∧I c s') (stop:∀ s,I 0 s→f s=some (.brk s)):∀ (c N:Nat) (s:σ),c<N→I c s→∃ s',fE f N s=some (.nx s')∧I 0 s'
  | c,0,s,h,_=>by omega
  | 0,N+1,s,_,h=>⟨s,cP (stop s h),h⟩
  | c+1,N+1,s,hN,h=>by
    obtain⟨s',h1,h2⟩:=go c s h;obtain⟨t,h3,h4⟩:=uG I go stop c N s' (by omega) h2;exact⟨t,by rw[gA h1];exact h3,h4⟩
theorem xOu (x:Int):∃ n:Nat,n<18446744073709551616∧IntKind.u64.wrap x=(n:Int):=by
  have h:IntKind.u64.wrap x=x % 18446744073709551616:=by
    unfold IntKind.wrap
    simp [show IntKind.u64.bits=64 from rfl,show IntKind.u64.signed=false from rfl]
  rw[h];exact⟨(x % 18446744073709551616).toNat,by omega,by omega⟩
theorem xLy (x:Int):0≤IntKind.i64.wrap (Go.bits .and .u64 (IntKind.u64.wrap x / 2 ^ (40:Int).toNat) 255):=by
  obtain⟨n,h1,h2⟩:=xOu x;rw[h2,show((n:Int) / 2 ^ (40:Int).toNat)=((n / 1099511627776:Nat):Int) by simp,show(255:Int)=((255:Nat):Int) from rfl,bits_and_u64_nat _ _ (by omega) (by decide)];have h3:(n / 1099511627776) &&& 255≤255:=Nat.and_le_right;rw[IntWalk.i64_in _ ⟨by omega,by omega⟩]
  omega
theorem xLw (code:List UInt8) {at' seed:Int} (h:0≤at'∧at'≤1000000):∃ v s,bW code at' seed=some (v,at'+1,s)∧0≤v:=by
  unfold bW
  have hb:∃ b:Int,0≤b∧(if (decide (at'<(code.length:Int)))=true then xZ (ix code at') fun z23=>some (Out.nx (σ:=Int) (ρ:=Int×Int×Int) (z23.toNat:Int)) else some (.nx 0))=some (.nx b):=by
    by_cases hl:at'<(code.length:Int)
    · refine⟨(code[at'.toNat]'(by omega)).toNat,by omega,?_⟩
      rw[if_pos (by simpa using hl),dT h.1 (List.getElem?_eq_getElem (by omega)),bnd_s]
    · exact⟨0,by omega,by rw[if_neg (by simpa using hl)]⟩
  obtain⟨b,h0,e⟩:=hb;rw[e,thn_nx,zT (by omega) (by omega),bnd_s,xJz h0,bnd_s]
  split
  · exact⟨_,_,rfl,h0⟩
  · exact⟨_,_,rfl,xLy _⟩
theorem xMq {x n:Int} (h:0≤x) (hn:1<n):∃ v,rm x n=some v∧0≤v∧v<n:=by
  refine⟨x.tmod n,by unfold rm;rw[if_neg (by omega)],Int.tmod_nonneg _ h,Int.tmod_lt_of_pos _ (by omega)⟩
theorem aN (code:List UInt8) {at' seed:Int} (n:Int) (h:0≤at'∧at'≤1000000) (hn:1≤n∧n≤200):∃ v a s,oH code at' seed n=some (v,a,s)∧(0≤v∧v<n)∧at'≤a∧a≤at'+1:=by
  unfold oH
  by_cases h1:n≤1
  · rw[if_pos (by simpa using h1)]
    exact⟨0,at',seed,rfl,by omega,by omega⟩
  · rw[if_neg (by simpa using h1)]
    obtain⟨x,s,e,hx⟩:=xLw code (seed:=seed) h;obtain⟨v,e2,h2⟩:=xMq hx (show 1<n by omega);rw[e,bnd_s,if_neg (by simp<;>omega),e2,bnd_s];exact⟨v,_,_,rfl,h2,by simp only;omega,by simp only;omega⟩
theorem xBu {σ ρ:Type} {f:σ→Option (Ctl σ ρ)} (I J:σ→Prop) (μ:σ→Nat) (step:∀ s,I s→(∃ s',f s=some (.go s')∧I s'∧μ s'<μ s)∨(∃ s',f s=some (.brk s')∧J s')):∀ (N:Nat) (s:σ),μ s<N→I s→∃ s',fE f N s=some (.nx s')∧J s'
  | 0,s,h,_=>by omega
  | N+1,s,h,hI=>by
    rcases step s hI with ⟨s',h1,h2,h3⟩ | ⟨s',h1,h2⟩
    · obtain⟨t,h4,h5⟩:=xBu I J μ step N s' (by omega) h2
      exact⟨t,by rw[gA h1];exact h4,h5⟩
    · exact⟨s',cP h1,h2⟩
theorem xEq (code:List UInt8) {p seed:Int} (n:Int) (h:0≤p∧p≤1000000) (hn:1≤n∧n≤200):∃ v a s,aE code p seed n=some (v,a,s)∧p≤a∧a≤p+1:=by
  obtain⟨v,a,s,e,_,h1,h2⟩:=aN code (seed:=seed) n h hn
  unfold aE
  rw[e,bnd_s];exact⟨_,_,_,rfl,h1,h2⟩
theorem iK (code:List UInt8) {p seed:Int} (l:List Int) (h:0≤p∧p≤1000000) (hn:1≤l.length∧l.length≤200):∃ v a s,zB code p seed l=some (v,a,s)∧v∈l∧p≤a∧a≤p+1:=by
  obtain⟨v,a,s,e,hv,h1,h2⟩:=aN code (seed:=seed) (l.length:Int) h (by omega)
  unfold zB
  rw[e,bnd_s,dT hv.1 (List.getElem?_eq_getElem (by omega)),bnd_s];exact⟨_,_,_,rfl,List.getElem_mem _,h1,h2⟩
def RB (r:Rel):Prop:=(1≤r.arity∧r.arity≤4)∧r.tuples.length≤300∧∀ t∈r.tuples,(t.length:Int)=r.arity
theorem wN (code:List UInt8) {p seed:Int} {T n N:Nat} (h:0≤p∧p≤900000) (hT:1≤T∧T≤4) (hn:1≤n∧n≤4) (hN:10≤N):∃ r a s,aY N code p seed (T:Int) (n:Int)=some (r,a,s)∧RB r∧p≤a∧a≤p+600:=by
  have hlen:=xEh hT hn
  unfold aY
  obtain⟨v,a,s,e,hv,ha1,ha2⟩:=aN code (seed:=seed) 5 (at':=p) (by omega) (by decide);rw[e,bnd_s,(xNc hT hn hN).2,bnd_s,Int.toNat_natCast];simp only
  obtain⟨⟨a1,s1,t1⟩,e1,i1⟩:=uP (f:=fun(k209:Nat) (s:Int×Int×(List (List Int)))=>
    match s with
    | (s197,s199,s200)=>
    zW (σ:=Bool×Int×Int) (
     xZ (oH code s197 s199 5) fun z238=>
     if (decide (z238.1≤v)) then  some (.nx (true,z238.2.1,z238.2.2)) else  xZ (aE code z238.2.1 z238.2.2 8) fun z247=>
      some (.nx (z247.1,z247.2.1,z247.2.2))) fun(s234,s235,s237)=>
    if s234 then
     xZ (kN N (T:Int) (n:Int) (k209:Int)) fun z255=>
     xZ (ap s200 ([z255])) fun z262=>
     some (.go (s235,s237,z262))
    else
     some (.go (s235,s237,s200))) (ρ:=Rel×Int×Int) (fun k s=>p≤s.1∧s.1≤p+1+2*k∧s.2.2.length≤k∧∀ t∈s.2.2,(t.length:Int)=n) (eY T n).length 0 (a,s,[]) ⟨by first | omega | (simp only;omega),by first | omega | (simp only;omega),by simp,fun t ht=>nomatch ht⟩ (fun j st _ hj hI=>by
    obtain⟨a0,s0,t0⟩:=st;obtain⟨h1,h2,h3,h4⟩:=hI;simp only at h1 h2 h3 h4;obtain⟨v2,a2,s2,e2,hv2,hb1,hb2⟩:=aN code (seed:=s0) 5 (at':=a0) (by omega) (by decide)
    have hq:∃ b a3 s3,(xZ (oH code a0 s0 5) fun z238=>
     if (decide (z238.1≤v)) then  some (Out.nx (σ:=Bool×Int×Int) (ρ:=Ctl (Int×Int×(List (List Int))) (Rel×Int×Int)) (true,z238.2.1,z238.2.2)) else  xZ (aE code z238.2.1 z238.2.2 8) fun z247=>
      some (.nx (z247.1,z247.2.1,z247.2.2)))=some (.nx (b,a3,s3))∧p≤a3∧a3≤a0+2:=by
      rw[e2,bnd_s];simp only
      split
      · exact⟨_,_,_,rfl,by omega,by omega⟩
      · obtain⟨v4,a4,s4,e4,hc1,hc2⟩:=xEq code (seed:=s2) 8 (p:=a2) (by omega) (by decide)
        rw[e4,bnd_s];exact⟨_,_,_,rfl,by first | omega | (simp only;omega),by first | omega | (simp only;omega)⟩
    obtain⟨b,a3,s3,e3,hd1,hd2⟩:=hq;simp only;rw[e3,thn_nx];simp only
    cases b with
    | true=>
      have hdg:kN N (T:Int) (n:Int) (j:Int)=some (eY T n)[j]:=xMv hT hn hN (by omega);rw[if_pos rfl,hdg,bnd_s,bM (by simp only[List.length_cons,List.length_nil];omega),bnd_s];refine⟨_,rfl,by first | omega | (simp only;omega),by first | omega | (simp only;omega),by simp only[List.length_append,List.length_singleton];omega,fun t ht=>?_⟩
      rcases List.mem_append.1 ht with ht | ht
      · exact h4 t ht
      · rw[List.mem_singleton.1 ht,(lO.1 (List.getElem_mem _)).1]
    | false=>
      rw[if_neg (by simp)]
      exact⟨_,rfl,by first | omega | (simp only;omega),by first | omega | (simp only;omega),by first | omega | (simp only;omega),h4⟩)
  rw[e1,thn_nx];obtain⟨h1,h2,h3,h4⟩:=i1;simp only[Nat.zero_add] at h1 h2 h3 h4;exact⟨_,_,_,rfl,⟨by first | omega | (simp only;omega),by first | omega | (simp only;omega),h4⟩,h1,by omega⟩
theorem rO (code:List UInt8) {p seed:Int} {T N:Nat} (h:0≤p∧p≤800000) (hT:1≤T∧T≤4) (hN:100≤N):∃ t a s,aC N code p seed (T:Int)=some (t,a,s)∧t.size=T∧t.rels.length≤4∧(∀ r∈t.rels,RB r)∧p≤a∧a≤p+3000:=by
  unfold aC
  obtain⟨v,a,s,e,hv,ha1,ha2⟩:=aN code (seed:=seed) 4 (at':=p) (by omega) (by decide);rw[e,bnd_s];simp only
  obtain⟨⟨c1,a1,s1,t1⟩,e1,i1⟩:=uG (ρ:=Template×Int×Int) (f:=fun(s:Int×Int×Int×(List Rel))=>
    match s with
    | (s367,s369,s371,s372)=>
    if (decide (0<s367)) then
     xZ (zB code s369 s371 ([1,2,2,2,3])) fun z401=>
     xZ (aY N code z401.2.1 z401.2.2 (T:Int) z401.1) fun z409=>
     xZ (ap s372 ([(Rel.mk z409.1.arity z409.1.tuples)])) fun z422=>
     xZ (ck (s367 - 1)) fun z549=>
     some (.go (z549,z409.2.1,z409.2.2,z422))
    else
     some (.brk (s367,s369,s371,s372))) (fun c s=>s.1=(c:Int)∧p≤s.2.1∧s.2.1+650*c≤p+2900∧s.2.2.2.length+c≤4∧∀ r∈s.2.2.2,RB r) (fun c st hI=>by
      obtain⟨c0,a0,s0,t0⟩:=st;obtain⟨h1,h2,h3,h4,h5⟩:=hI;simp only at h1 h2 h3 h4 h5;subst h1;obtain⟨v2,a2,s2,e2,hv2,hb1,hb2⟩:=iK code (seed:=s0) [1,2,2,2,3] (p:=a0) (by omega) (by decide);have hv3:∃ n:Nat,v2=n∧1≤n∧n≤4:=⟨v2.toNat,by simp at hv2;omega,by simp at hv2;omega,by simp at hv2;omega⟩;obtain⟨n,rfl,hn1,hn2⟩:=hv3;obtain⟨r,a3,s3,e3,hr,hd1,hd2⟩:=wN code (p:=a2) (seed:=s2) (N:=N) (by omega) hT ⟨hn1,hn2⟩ (by omega);refine⟨(((c:Nat):Int),a3,s3,t0++[r]),?_,rfl,by first | omega | (simp only;omega),by first | omega | (simp only;omega),by simp only[List.length_append,List.length_singleton];omega,fun q hq=>?_⟩
      · simp only
        rw[if_pos (by simp<;>omega),e2,bnd_s,e3,bnd_s];simp only;rw[bM (by simp only[List.length_cons,List.length_nil];omega),bnd_s,zT (by omega) (by omega),bnd_s]
        simp
      · rcases List.mem_append.1 hq with hq | hq
        · exact h5 q hq
        · rw[List.mem_singleton.1 hq];exact hr) (fun st hI=>by
      obtain⟨c0,a0,s0,t0⟩:=st;obtain⟨h1,_⟩:=hI;simp only at h1;subst h1
      rfl) v.toNat N (v,a,s,[]) (by omega) ⟨by first | omega | (simp only;omega),by first | omega | (simp only;omega),by first | omega | (simp only;omega),by simp only[List.length_nil];omega,fun r hr=>nomatch hr⟩
  rw[e1,thn_nx];obtain⟨h1,h2,h3,h4,h5⟩:=i1;simp only at h1 h2 h3 h4 h5;exact⟨_,_,_,rfl,rfl,by first | omega | (simp only;omega),h5,h2,by first | omega | (simp only;omega)⟩
theorem xBq (code:List UInt8) {p seed:Int} {t:Template} {N:Nat} (h:0≤p∧p≤850000) (hl:t.rels.length≤4) (hr:∀ r∈t.rels,RB r) (hN:100≤N):∃ x a s,fN N code p seed t 5=some (x,a,s)∧(1≤x.vars∧x.vars≤5)∧x.cons.length≤6∧p≤a∧a≤p+100:=by
  unfold fN
  obtain⟨v,a,s,e,hv,ha1,ha2⟩:=aN code (seed:=seed) 5 (at':=p) (by omega) (by decide);obtain⟨w,b,s',e',hw,hb1,hb2⟩:=aN code (seed:=s) 7 (at':=a) (by omega) (by decide);rw[e,bnd_s];simp only;rw[zT (by omega) (by omega),bnd_s,e',bnd_s];simp only
  obtain⟨⟨c1,a1,s1,t1⟩,e1,i1⟩:=xBu (ρ:=Instance×Int×Int) (f:=fun(s:Int×Int×Int×(List Con))=>
    match s with
    | (s538,s540,s542,s543)=>
    zW (σ:=Bool) (
     if (decide (0<s538)) then  some (.nx (decide (0<(t.rels.length:Int)))) else  some (.nx false)) fun s569=>
    if s569 then
     xZ (oH code s540 s542 (t.rels.length:Int)) fun z582=>
     xZ (ix t.rels z582.1) fun z595=>
     zW (σ:=Int×Int×Int×(List Int)) (
      fE (σ:=Int×Int×Int×(List Int)) (ρ:=(Ctl (Int×Int×Int×(List Con)) (Instance×Int×Int))) (fun(s:Int×Int×Int×(List Int))=>
        match s with
        | (s722,s724,s726,s727)=>
        if (decide (0<s722)) then
         xZ (oH code s724 s726 (1+v)) fun z745=>
         xZ (ap s727 ([z745.1])) fun z755=>
         xZ (ck (s722 - 1)) fun z793=>
         some (.go (z793,z745.2.1,z745.2.2,z755))
        else
         some (.brk (s722,s724,s726,s727))) N (z595.arity,z582.2.1,z582.2.2,[])) fun(s730,s732,s734,s735)=>
     xZ (ap s543 ([(Con.mk z582.1 s735)])) fun z799=>
     xZ (ck (s538 - 1)) fun z803=>
     some (.go (z803,s732,s734,z799))
    else
     some (.brk (s538,s540,s542,s543))) (fun s=>(0≤s.1∧s.1≤6)∧p≤s.2.1∧s.2.1+10*s.1≤p+70∧(s.2.2.2.length:Int)+s.1≤6) (fun s=>p≤s.2.1∧s.2.1≤p+70∧s.2.2.2.length≤6) (fun s=>s.1.toNat) (fun st hI=>by
      obtain⟨c0,a0,s0,t0⟩:=st;obtain⟨h1,h2,h3,h4⟩:=hI;simp only at h1 h2 h3 h4
      by_cases hc:0<c0
      · by_cases hr0:0<(t.rels.length:Int)
        · left
          obtain⟨v2,a2,s2,e2,hv2,hb1,hb2⟩:=aN code (seed:=s0) (t.rels.length:Int) (at':=a0) (by omega) (by omega)
          have hlt:v2.toNat<t.rels.length:=by omega
          have hrb:=hr _ (List.getElem_mem hlt);obtain⟨hra,_,_⟩:=hrb
          obtain⟨⟨c3,a3,s3,t3⟩,e3,i3⟩:=uG (ρ:=(Ctl (Int×Int×Int×(List Con)) (Instance×Int×Int))) (f:=fun(s:Int×Int×Int×(List Int))=>
        match s with
        | (s722,s724,s726,s727)=>
        if (decide (0<s722)) then
         xZ (oH code s724 s726 (1+v)) fun z745=>
         xZ (ap s727 ([z745.1])) fun z755=>
         xZ (ck (s722 - 1)) fun z793=>
         some (.go (z793,z745.2.1,z745.2.2,z755))
        else
         some (.brk (s722,s724,s726,s727))) (fun c s=>s.1=(c:Int)∧a2≤s.2.1∧s.2.1+c≤a2+4∧s.2.2.2.length+c≤4) (fun c st hI=>by
            obtain⟨c0,a0,s0,t0⟩:=st;obtain⟨h1,h2,h3,h4⟩:=hI;simp only at h1 h2 h3 h4;subst h1;obtain⟨v5,a5,s5,e5,hv5,hb5,hb6⟩:=aN code (seed:=s0) (1+v) (at':=a0) (by omega) (by omega);refine⟨(((c:Nat):Int),a5,s5,t0++[v5]),?_,rfl,by first | omega | (simp only;omega),by first | omega | (simp only;omega),by simp only[List.length_append,List.length_singleton];omega⟩;simp only;rw[if_pos (by simp<;>omega),e5,bnd_s];simp only;rw[bM (by simp only[List.length_cons,List.length_nil];omega),bnd_s,zT (by omega) (by omega),bnd_s]
            simp) (fun st hI=>by
            obtain⟨c0,a0,s0,t0⟩:=st;obtain⟨h1,_⟩:=hI;simp only at h1;subst h1
            rfl) (t.rels[v2.toNat]).arity.toNat N ((t.rels[v2.toNat]).arity,a2,s2,[]) (by omega) ⟨by first | omega | (simp only;omega),by first | omega | (simp only;omega),by first | omega | (simp only;omega),by simp only[List.length_nil];omega⟩
          obtain⟨q1,q2,q3,q4⟩:=i3;simp only at q1 q2 q3 q4;refine⟨(c0 - 1,a3,s3,t0++[Con.mk v2 t3]),?_,⟨by first | omega | (simp only;omega),by first | omega | (simp only;omega),by first | omega | (simp only;omega),by simp only[List.length_append,List.length_singleton];omega⟩,by first | omega | (simp only;omega)⟩;simp only;rw[if_pos (by simpa using hc),thn_nx,if_pos (by simpa using hr0),e2,bnd_s,dT hv2.1 (List.getElem?_eq_getElem hlt),bnd_s];simp only;rw[e3,thn_nx];simp only;rw[bM (by simp only[List.length_cons,List.length_nil];omega),bnd_s,zT (by omega) (by omega),bnd_s]
        · right
          refine⟨(c0,a0,s0,t0),?_,by first | omega | (simp only;omega),by first | omega | (simp only;omega),by first | omega | (simp only;omega)⟩;simp only;rw[if_pos (by simpa using hc),thn_nx,if_neg (by simpa using hr0)]
      · right
        refine⟨(c0,a0,s0,t0),?_,by first | omega | (simp only;omega),by first | omega | (simp only;omega),by first | omega | (simp only;omega)⟩;simp only
        rw[if_neg (by simpa using hc),thn_nx,if_neg (by simp)]) N (w,b,s',[]) (by first | omega | (simp only;omega)) ⟨by first | omega | (simp only;omega),by first | omega | (simp only;omega),by first | omega | (simp only;omega),by simp only[List.length_nil];omega⟩
  rw[e1,thn_nx];obtain⟨h1,h2,h3⟩:=i1;simp only at h1 h2 h3;exact⟨_,_,_,rfl,by first | omega | (simp only;omega),by first | omega | (simp only;omega),h1,by first | omega | (simp only;omega)⟩
theorem rU (code:List UInt8) {p seed:Int} (h:0≤p∧p≤1000000):∃ (T:Nat) (a s:Int),bE code p seed=some ((T:Int),a,s)∧(1≤T∧T≤4)∧p≤a∧a≤p+1:=by
  obtain⟨v,a,s,e,hv,h1,h2⟩:=iK code (seed:=seed) [2,2,3,3,1,4,2] h (by decide)
  unfold bE
  rw[e,bnd_s];refine⟨v.toNat,a,s,?_,by simp at hv;omega,h1,h2⟩;rw[show((v.toNat:Nat):Int)=v by simp at hv;omega]
theorem xNz (code:List UInt8) {p seed:Int} {T N:Nat} (h:0≤p∧p≤850000) (hT:1≤T∧T≤4) (hN:100≤N):∃ r a s,iP N code p seed (T:Int)=some (r,a,s)∧RB r∧p≤a∧a≤p+700:=by
  unfold iP
  obtain⟨v,a,s,e,hv,ha1,ha2⟩:=aN code (seed:=seed) 3 (at':=p) (by omega) (by decide);obtain⟨n,hn,hn1,hn2⟩:∃ n:Nat,1+v=n∧1≤n∧n≤4:=⟨(1+v).toNat,by omega,by omega,by omega⟩;obtain⟨r,a3,s3,e3,hr,hd1,hd2⟩:=wN code (p:=a) (seed:=s) (N:=N) (by omega) hT ⟨hn1,hn2⟩ (by omega);rw[e,bnd_s];simp only;rw[zT (by omega) (by omega),bnd_s,hn,e3,bnd_s];exact⟨_,_,_,rfl,hr,by first | omega | (simp only;omega),by first | omega | (simp only;omega)⟩
theorem xFg (code:List UInt8) {p seed:Int} {N:Nat} (h:0≤p∧p≤800000) (hN:100≤N):∃ z r a s,gZ N code p seed=some (z,r,a,s)∧r.tuples.length≤400∧p≤a∧a≤p+1000:=by
  unfold gZ
  obtain⟨T,a,s,e,hT,ha1,ha2⟩:=rU code (seed:=seed) (p:=p) (by omega);obtain⟨r,b,s',e',hr,hb1,hb2⟩:=xNz code (p:=a) (seed:=s) (N:=N) (by omega) hT hN;obtain⟨v,c,s2,e2,hv,hc1,hc2⟩:=aN code (seed:=s') 24 (at':=b) (by omega) (by decide);obtain⟨hra,hrl,hrt⟩:=hr;rw[e,bnd_s];simp only;rw[e',bnd_s];simp only;rw[e2,bnd_s];simp only
  split
  · obtain⟨v3,a3,s3,e3,_,h1,h2⟩:=iK code (seed:=s2) [0,5,-1,1] (p:=c) (by omega) (by decide)
    rw[e3,bnd_s];exact⟨_,_,_,_,rfl,by first | omega | (simp only;omega),by first | omega | (simp only;omega),by first | omega | (simp only;omega)⟩
  · split
    · rw[zT (by omega) (by omega),bnd_s]
      obtain⟨v3,a3,s3,e3,_,h1,h2⟩:=iK code (seed:=s2) [0,5,r.arity+1] (p:=c) (by omega) (by simp);rw[e3,bnd_s];exact⟨_,_,_,_,rfl,by first | omega | (simp only;omega),by first | omega | (simp only;omega),by first | omega | (simp only;omega)⟩
    · split
      · rw[bM (by simp only[List.length_cons,List.length_nil];omega),bnd_s]
        exact⟨_,_,_,_,rfl,by simp only[List.length_append,List.length_singleton];omega,by first | omega | (simp only;omega),by first | omega | (simp only;omega)⟩
      · split
        · split
          · rename_i hpos
            have hpos':0<r.tuples.length:=by simpa using hpos
            have h0:=hrt _ (List.getElem_mem hpos');obtain⟨v3,a3,s3,e3,_,h1,h2⟩:=iK code (seed:=s2) [-1,(T:Int)] (p:=c) (by omega) (by simp);rw[dT (by omega) (List.getElem?_eq_getElem hpos'),bnd_s,e3,bnd_s,dT (by omega) (List.getElem?_eq_getElem (show(0:Int).toNat<(r.tuples[0]).length by simp;omega)),bnd_s];exact⟨_,_,_,_,rfl,by simp only[List.length_set];omega,by first | omega | (simp only;omega),by first | omega | (simp only;omega)⟩
          · exact⟨_,_,_,_,rfl,by first | omega | (simp only;omega),by first | omega | (simp only;omega),by first | omega | (simp only;omega)⟩
        · exact⟨_,_,_,_,rfl,by first | omega | (simp only;omega),by first | omega | (simp only;omega),by first | omega | (simp only;omega)⟩
theorem RB.small {r:Rel} (h:RB r):r.tuples.length≤400:=by have:=h.2.1;omega
theorem xCw (code:List UInt8) {p seed:Int} {N:Nat} (h:0≤p∧p≤700000) (hN:100≤N):∃ t a s,bB N code p seed=some (t,a,s)∧(∀ r∈t.rels,r.tuples.length≤400)∧p≤a∧a≤p+6000:=by
  unfold bB
  obtain⟨T,a,s,e,hT,ha1,ha2⟩:=rU code (seed:=seed) (p:=p) (by omega);obtain⟨t,b,s',e',ht,hl,hr,hb1,hb2⟩:=rO code (p:=a) (seed:=s) (N:=N) (by omega) hT hN;obtain⟨v,c,s2,e2,hv,hc1,hc2⟩:=aN code (seed:=s') 20 (at':=b) (by omega) (by decide);have hsm:∀ r∈t.rels,r.tuples.length≤400:=fun r hrr=>(hr r hrr).small;rw[e,bnd_s];simp only;rw[e',bnd_s];simp only;rw[e2,bnd_s];simp only
  split
  · obtain⟨v3,a3,s3,e3,_,h1,h2⟩:=iK code (seed:=s2) [0,5,1] (p:=c) (by omega) (by decide)
    rw[e3,bnd_s];exact⟨_,_,_,rfl,hsm,by first | omega | (simp only;omega),by first | omega | (simp only;omega)⟩
  · split
    · obtain⟨z,r,a3,s3,e3,h0,h1,h2⟩:=xFg code (seed:=s2) (p:=c) (N:=N) (by omega) hN
      rw[e3,bnd_s];simp only;rw[bM (by simp only[List.length_cons,List.length_nil];omega),bnd_s];refine⟨_,_,_,rfl,fun q hq=>?_,by first | omega | (simp only;omega),by first | omega | (simp only;omega)⟩
      rcases List.mem_append.1 hq with hq | hq
      · exact hsm q hq
      · rw[List.mem_singleton.1 hq];exact h0
    · split
      · obtain⟨⟨a1,s1,t1⟩,e1,i1⟩:=xBu (ρ:=Template×Int×Int) (f:=fun(s:Int×Int×(List Rel))=>
       match s with
       | (s162,s164,s165)=>
       xZ (oH code s162 s164 2) fun z181=>
       xZ (ck (6+z181.1)) fun z189=>
       if (decide ((s165.length:Int)<z189)) then
        xZ (ap s165 ([(Rel.mk 1 ([]))])) fun z211=>
        some (.go (z181.2.1,z181.2.2,z211))
       else
        some (.brk (z181.2.1,z181.2.2,s165))) (fun s=>c≤s.1∧s.1+((8 - s.2.2.length:Nat):Int)≤c+8∧∀ r∈s.2.2,r.tuples.length≤400) (fun s=>c≤s.1∧s.1≤c+10∧∀ r∈s.2.2,r.tuples.length≤400) (fun s=>8 - s.2.2.length) (fun st hI=>by
          obtain⟨a0,s0,t0⟩:=st;obtain⟨h1,h2,h3⟩:=hI;simp only at h1 h2 h3;obtain⟨v5,a5,s5,e5,hv5,hb5,hb6⟩:=aN code (seed:=s0) 2 (at':=a0) (by omega) (by omega)
          by_cases hlt:(t0.length:Int)<6+v5
          · left
            refine⟨(a5,s5,t0++[Rel.mk 1 []]),?_,⟨by first | omega | (simp only;omega),by simp only[List.length_append,List.length_singleton];omega,fun q hq=>?_⟩,by simp only[List.length_append,List.length_singleton];omega⟩
            · simp only
              rw[e5,bnd_s];simp only;rw[zT (by omega) (by omega),bnd_s,if_pos (by simpa using hlt),bM (by simp only[List.length_cons,List.length_nil];omega),bnd_s]
            · rcases List.mem_append.1 hq with hq | hq
              · exact h3 q hq
              · rw[List.mem_singleton.1 hq];simp
          · right
            refine⟨(a5,s5,t0),?_,by first | omega | (simp only;omega),by first | omega | (simp only;omega),h3⟩;simp only;rw[e5,bnd_s];simp only
            rw[zT (by omega) (by omega),bnd_s,if_neg (by simpa using hlt)]) N (c,s2,t.rels) (by first | omega | (simp only;omega)) ⟨by first | omega | (simp only;omega),by first | omega | (simp only;omega),hsm⟩
        rw[e1,thn_nx];obtain⟨h1,h2,h3⟩:=i1;simp only at h1 h2 h3;exact⟨_,_,_,rfl,h3,by first | omega | (simp only;omega),by first | omega | (simp only;omega)⟩
      · exact⟨_,_,_,rfl,hsm,by first | omega | (simp only;omega),by first | omega | (simp only;omega)⟩
theorem xCj (code:List UInt8) {p seed:Int} {N:Nat} (h:0≤p∧p≤600000) (hN:100≤N):∃ t x a s,hJ N code p seed=some (t,x,a,s)∧(∀ r∈t.rels,r.tuples.length≤400)∧(x.vars≤5∨x.vars=11)∧p≤a∧a≤p+20000:=by
  unfold hJ
  obtain⟨v0,a,s,e,hv0,ha1,ha2⟩:=iK code (seed:=seed) [2,2,3,3,4] (p:=p) (by omega) (by decide);obtain⟨T,hT,hT1⟩:∃ T:Nat,v0=T∧1≤T∧T≤4:=⟨v0.toNat,by simp at hv0;omega,by simp at hv0;omega,by simp at hv0;omega⟩;subst hT;obtain⟨t,b,s',e',ht,hl,hr,hb1,hb2⟩:=rO code (p:=a) (seed:=s) (N:=N) (by omega) hT1 hN;obtain⟨x,b2,s'',e'',hx1,hx2,hb3,hb4⟩:=xBq code (p:=b) (seed:=s') (N:=N) (by omega) hl hr hN;obtain⟨v,c,s2,e2,hv,hc1,hc2⟩:=aN code (seed:=s'') 24 (at':=b2) (by omega) (by decide);have hsm:∀ r∈t.rels,r.tuples.length≤400:=fun r hrr=>(hr r hrr).small;rw[e,bnd_s];simp only;rw[e',bnd_s];simp only;rw[show(Template.mk t.size t.rels)=t from rfl,e'',bnd_s];simp only;rw[e2,bnd_s];simp only
  split
  · obtain⟨t3,a3,s3,e3,h0,h1,h2⟩:=xCw code (seed:=s2) (p:=c) (N:=N) (by omega) hN
    rw[e3,bnd_s];exact⟨_,_,_,_,rfl,h0,.inl hx1.2,by first | omega | (simp only;omega),by first | omega | (simp only;omega)⟩
  · split
    · obtain⟨v3,a3,s3,e3,hm,h1,h2⟩:=iK code (seed:=s2) [0,11,1] (p:=c) (by omega) (by decide)
      rw[e3,bnd_s];exact⟨_,_,_,_,rfl,hsm,by simp at hm;simp only;omega,by first | omega | (simp only;omega),by first | omega | (simp only;omega)⟩
    · split
      · obtain⟨v3,a3,s3,e3,hv3,h1,h2⟩:=aN code (seed:=s2) 5 (at':=c) (by omega) (by decide)
        obtain⟨v4,a4,s4,e4,hv4,h3,h4⟩:=aN code (seed:=s3) 6 (at':=a3) (by omega) (by decide);rw[e3,bnd_s];simp only;rw[zT (by omega) (by omega),bnd_s,e4,bnd_s];simp only;rw[bM (by simp only[List.length_cons,List.length_nil];omega),bnd_s];exact⟨_,_,_,_,rfl,hsm,.inl hx1.2,by first | omega | (simp only;omega),by first | omega | (simp only;omega)⟩
      · split
        · obtain⟨⟨a1,s1,t1⟩,e1,i1⟩:=xBu (ρ:=Template×Instance×Int×Int) (f:=fun(s:Int×Int×(List Con))=>
        match s with
        | (s625,s627,s628)=>
        zW (σ:=Bool×Int×Int) (
         xZ (oH code s625 s627 2) fun z715=>
         xZ (ck (24+z715.1)) fun z723=>
         if (decide ((s628.length:Int)<z723)) then  some (.nx ((decide (0<(s628.length:Int))),z715.2.1,z715.2.2)) else  some (.nx (false,z715.2.1,z715.2.2))) fun(s710,s711,s713)=>
        if s710 then
         xZ (ix s628 0) fun z779=>
         xZ (ap s628 ([z779])) fun z787=>
         some (.go (s711,s713,z787))
        else
         some (.brk (s711,s713,s628))) (fun s=>c≤s.1∧s.1+((26 - s.2.2.length:Nat):Int)≤c+26) (fun s=>c≤s.1∧s.1≤c+30) (fun s=>26 - s.2.2.length) (fun st hI=>by
            obtain⟨a0,s0,t0⟩:=st;obtain⟨h1,h2⟩:=hI;simp only at h1 h2;obtain⟨v5,a5,s5,e5,hv5,hb5,hb6⟩:=aN code (seed:=s0) 2 (at':=a0) (by omega) (by omega)
            have hcond:(xZ (oH code a0 s0 2) fun z715=>
         xZ (ck (24+z715.1)) fun z723=>
         if (decide ((t0.length : Int) < z723)) then  some (Out.nx (σ := Bool × Int × Int) (ρ := Ctl (Int × Int × (List Con)) (Template × Instance × Int × Int)) ((decide (0 < (t0.length : Int))), z715.2.1, z715.2.2)) else  some (.nx (false, z715.2.1, z715.2.2))) = some (.nx (decide ((t0.length : Int) < 24 + v5) && decide (0 < (t0.length : Int)), a5, s5)) := by
              rw[e5,bnd_s];simp only;rw[zT (by omega) (by omega),bnd_s]
              cases decide ((t0.length:Int)<24+v5)<;>rfl
            by_cases hlt:(t0.length:Int)<24+v5∧0<(t0.length:Int)
            · left
              have hp:0<t0.length:=by omega
              refine⟨(a5,s5,t0++[t0[0]]),?_,⟨by first | omega | (simp only;omega),by simp only[List.length_append,List.length_singleton];omega⟩,by simp only[List.length_append,List.length_singleton];omega⟩;simp only;rw[hcond,thn_nx];simp only;rw[if_pos (by rw[Bool.and_eq_true,decide_eq_true_eq,decide_eq_true_eq];exact hlt),dT (by omega) (List.getElem?_eq_getElem hp),bnd_s,bM (by simp only[List.length_cons,List.length_nil];omega),bnd_s]
            · right
              refine⟨(a5,s5,t0),?_,by first | omega | (simp only;omega),by first | omega | (simp only;omega)⟩;simp only;rw[hcond,thn_nx];simp only
              rw[if_neg (by rw[Bool.and_eq_true,decide_eq_true_eq,decide_eq_true_eq];exact hlt)]) N (c,s2,x.cons) (by first | omega | (simp only;omega)) ⟨by first | omega | (simp only;omega),by first | omega | (simp only;omega)⟩
          rw[e1,thn_nx];obtain⟨h1,h2⟩:=i1;simp only at h1 h2;exact⟨_,_,_,_,rfl,hsm,.inl hx1.2,by first | omega | (simp only;omega),by first | omega | (simp only;omega)⟩
        · exact⟨_,_,_,_,rfl,hsm,.inl hx1.2,by first | omega | (simp only;omega),by first | omega | (simp only;omega)⟩
theorem xLx (code:List UInt8) {N:Nat} (hN:100≤N):∃ t x a s,gK N code 0 0=some (t,x,a,s)∧(∀ r∈t.rels,r.tuples.length≤400)∧(x.vars≤5∨x.vars=11):=by
  unfold gK
  obtain⟨b0,a,s,e,ha1,ha2⟩:=xEq code (seed:=0) 4 (p:=0) (by omega) (by decide);rw[e,bnd_s];simp only
  cases b0 with
  | true=>
    rw[if_pos rfl];obtain⟨t,x,a3,s3,e3,h0,h1,h2,h3⟩:=xCj code (p:=a) (seed:=s) (N:=N) (by omega) hN;rw[e3,bnd_s];exact⟨_,_,_,_,rfl,h0,h1⟩
  | false=>
    rw[if_neg (by simp)];obtain⟨v,b,s2,e2,hv,hb1,hb2⟩:=aN code (seed:=s) 2 (at':=a) (by omega) (by decide);obtain⟨T,hT,hT1⟩:∃ T:Nat,2+v=T∧2≤T∧T≤3:=⟨(2+v).toNat,by omega,by omega,by omega⟩;obtain⟨m,hm,hm9⟩:∃ m:Nat,(T:Int)*T=(m:Int)∧m≤9:=⟨T*T,(Int.natCast_mul T T).symm,Nat.mul_le_mul hT1.2 hT1.2⟩;rw[e2,bnd_s];simp only;rw[zT (by omega) (by omega),bnd_s,hT,hm,zT (by omega) (by omega),bnd_s]
    obtain⟨rows,e3,hrows⟩:=uP (ρ:=Template×Instance×Int×Int) (f:=fun(k141:Nat) (s135:(List (List Int)))=>
    xZ (dv (k141:Int) (T:Int)) fun z147=>
    xZ (rm (k141:Int) (T:Int)) fun z149=>
    if (z147 != z149) then
     xZ (ap s135 ([[z147,z149]])) fun z156=>
     some (.go z156)
    else
     some (.go s135)) (fun k s=>s.length≤k) (m:Int).toNat 0 [] (by simp) (fun j st _ hj hI=>by
      have hd:dv (j:Int) (T:Int)=some ((j:Int).tdiv T):=by
        unfold dv
        rw[if_neg (by omega)];have:(j:Int).tdiv T=((j / T:Nat):Int):=rfl;have hle:j / T≤j:=Nat.div_le_self _ _;rw[this];have h0:(0:Int)≤((j / T:Nat):Int):=Int.natCast_nonneg _
        have h1:((j / T:Nat):Int)≤(j:Int):=by exact_mod_cast hle
        generalize ((j / T:Nat):Int)=q at h0 h1;exact zT (by omega) (by omega)
      have hr:rm (j:Int) (T:Int)=some ((j:Int).tmod T):=by
        unfold rm
        rw[if_neg (by omega)]
      rw[hd,bnd_s,hr,bnd_s]
      split
      · rw[bM (by simp only[List.length_cons,List.length_nil];omega),bnd_s]
        exact⟨_,rfl,by rw[List.length_append,List.length_singleton];omega⟩
      · exact⟨_,rfl,by omega⟩)
    rw[e3,thn_nx,bM (by simp),bnd_s];obtain⟨b1,c,s3,e4,hc1,hc2⟩:=xEq code (seed:=s2) 2 (p:=b) (by omega) (by decide);rw[e4,bnd_s];simp only
    have hrel:∃ a5 s5 rl,(if b1=true then
    xZ (aY N code c s3 (T:Int) 2) fun z271=>
    xZ (ap ([]++[Rel.mk 2 rows]) ([(Rel.mk z271.1.arity z271.1.tuples)])) fun z284=>
    some (Out.nx (σ:=Int×Int×(List Rel)) (ρ:=Template×Instance×Int×Int) (z271.2.1,z271.2.2,z284))
   else
    some (.nx (c,s3,[]++[Rel.mk 2 rows])))=some (.nx (a5,s5,rl))∧c≤a5∧a5≤c+600∧(1≤rl.length∧rl.length≤2)∧∀ r∈rl,r.tuples.length≤400:=by
      have hr0:rows.length≤400:=by omega
      cases b1 with
      | true=>
        rw[if_pos rfl];obtain⟨r,a6,s6,e6,hr,hd1,hd2⟩:=wN code (p:=c) (seed:=s3) (T:=T) (n:=2) (N:=N) (by omega) (by omega) (by omega) (by omega);rw[show((2:Nat):Int)=2 from rfl] at e6;rw[e6,bnd_s];simp only;rw[bM (by simp),bnd_s];refine⟨_,_,_,rfl,by omega,by omega,by simp,fun q hq=>?_⟩;simp only[List.nil_append,List.mem_append,List.mem_singleton] at hq
        rcases hq with rfl | rfl
        · exact hr0
        · exact hr.small
      | false=>
        rw[if_neg (by simp)];refine⟨_,_,_,rfl,by omega,by omega,by simp,fun q hq=>?_⟩;simp only[List.nil_append,List.mem_singleton] at hq;rw[hq];exact hr0
    obtain⟨a5,s5,rl,e5,hp1,hp2,hrl,hrs⟩:=hrel;rw[e5,thn_nx];simp only;obtain⟨v7,a7,s7,e7,hv7,h71,h72⟩:=aN code (seed:=s5) 2 (at':=a5) (by omega) (by decide);obtain⟨v8,a8,s8,e8,hv8,h81,h82⟩:=aN code (seed:=s7) 7 (at':=a7) (by omega) (by decide);rw[e7,bnd_s];simp only;rw[zT (by omega) (by omega),bnd_s,e8,bnd_s];simp only;rw[zT (by omega) (by omega),bnd_s]
    obtain⟨⟨c1,a1,s1,t1⟩,e1,i1⟩:=uG (ρ:=Template×Instance×Int×Int) (f:=fun(s:Int×Int×Int×(List Con))=>
     match s with
     | (s661,s663,s665,s666)=>
     if (decide (0<s661)) then
      xZ (oH code s663 s665 (3+v7)) fun z684=>
      xZ (ck (z684.1+1)) fun z692=>
      xZ (ck (3+v7 - 1)) fun z694=>
      xZ (oH code z684.2.1 z684.2.2 z694) fun z696=>
      xZ (ck (z692+z696.1)) fun z704=>
      xZ (rm z704 (3+v7)) fun z706=>
      xZ (oH code z696.2.1 z696.2.2 (rl.length:Int)) fun z724=>
      xZ (ap s666 ([(Con.mk z724.1 ([z684.1,z706]))])) fun z737=>
      xZ (ck (s661 - 1)) fun z827=>
      some (.go (z827,z724.2.1,z724.2.2,z737))
     else
      some (.brk (s661,s663,s665,s666))) (fun c s=>s.1=(c:Int)∧0≤s.2.1∧s.2.1+3*c≤5000∧s.2.2.2.length+c≤10) (fun c st hI=>by
      obtain⟨c0,a0,s0,t0⟩:=st;obtain⟨h1,h2,h3,h4⟩:=hI;simp only at h1 h2 h3 h4;subst h1;obtain⟨w1,p1,q1,f1,hw1,g1,g2⟩:=aN code (seed:=s0) (3+v7) (at':=a0) (by omega) (by omega);obtain⟨w2,p2,q2,f2,hw2,g3,g4⟩:=aN code (seed:=q1) (3+v7 - 1) (at':=p1) (by omega) (by omega);obtain⟨w3,f3,hw3⟩:=xMq (x:=w1+1+w2) (n:=3+v7) (by omega) (by omega);obtain⟨w4,p4,q4,f4,hw4,g5,g6⟩:=aN code (seed:=q2) (rl.length:Int) (at':=p2) (by omega) (by omega);refine⟨(((c:Nat):Int),p4,q4,t0++[Con.mk w4 [w1,w3]]),?_,rfl,by first | omega | (simp only;omega),by first | omega | (simp only;omega),by simp only[List.length_append,List.length_singleton];omega⟩;simp only;rw[if_pos (by simp<;>omega),f1,bnd_s];simp only;rw[zT (by omega) (by omega),bnd_s,zT (by omega) (by omega),bnd_s,f2,bnd_s];simp only;rw[zT (by omega) (by omega),bnd_s,f3,bnd_s,f4,bnd_s];simp only;rw[bM (by simp only[List.length_cons,List.length_nil];omega),bnd_s,zT (by omega) (by omega),bnd_s]
      simp) (fun st hI=>by
      obtain⟨c0,a0,s0,t0⟩:=st;obtain⟨h1,_⟩:=hI;simp only at h1;subst h1
      rfl) (3+v8).toNat N (3+v8,a8,s8,[]) (by omega) ⟨by first | omega | (simp only;omega),by first | omega | (simp only;omega),by first | omega | (simp only;omega),by simp only[List.length_nil];omega⟩
    rw[e1,thn_nx];exact⟨_,_,_,_,rfl,hrs,.inl (by first | omega | (simp only;omega))⟩
theorem xLn:∃ r,iI 2=some r∧r.tuples.length≤400∧sD ⟨2,[r]⟩ ⟨2,[⟨0,[0,1]⟩]⟩=true:=⟨⟨2,[[0,0],[1,1]]⟩,by kernel_rfl,by decide,by decide +kernel⟩
theorem xHm (code:List UInt8) {N:Nat} (hN:100≤N):∃ z,iM N code=some z∧Ri z.1 z.2:=by
  obtain⟨t,x,a,s,e,h0,h1⟩:=xLx code hN
  have hsm:sH t:=fun r hr=>by have:=h0 r hr;omega
  obtain⟨i1,i2⟩:=xDa (t:=t) (x:=x) hsm
  unfold iM iZ
  rw[bnd_s];simp only;rw[e,bnd_s];simp only;rw[show(Template.mk t.size t.rels)=t from rfl,show(Instance.mk x.vars x.cons)=x from rfl,i1,bnd_s]
  cases hv:sD t x with
  | true=>
    rw[if_neg (by simp)];refine⟨(t,x),rfl,hsm,hv,?_⟩;have:=(uI hv).1
    show x.vars≤5
    omega
  | false=>
    rw[if_pos (by rfl)];obtain⟨r,r1,r2,r3⟩:=xLn;rw[r1,bnd_s];exact⟨_,rfl,(fun q hq=>by rw[List.mem_singleton.1 hq];show r.tuples.length≤1048576;omega),r3,(by show(2:Int)≤5;decide)⟩
end Go.Proofs.YtghihmkhdhjhiaaGreatDoor
namespace Go.Proofs.YtghihmkhdhjhiaaGreatDoor
set_option linter.unusedVariables false
set_option linter.unusedSimpArgs false
set_option maxRecDepth 100000
theorem sG {σ ρ:Type} {o:Option (Out σ ρ)} {k:σ→Option ρ} {s:σ} {r:ρ} (h:o=some (.nx s)) (hk:k s=some r):zW o k=some r:=by rw[h,thn_nx];exact hk
theorem gL {α ρ:Type} {o:Option α} {k:α→Option ρ} {a:α} {r:ρ} (h:o=some a) (hk:k a=some r):xZ o k=some r:=by rw[h,bnd_s];exact hk
theorem ix_n {α:Type} {l:List α} {j:Nat} {x:α} (h:l[j]?=some x):ix l (j:Int)=some x:=dT (by omega) (by simpa using h)
theorem xAh {α ρ:Type} {f:Nat→α→Unit→Option (Ctl Unit ρ)}:∀ (l:List α) (k:Nat),(∀ j x,l[j]?=some x→f (k+j) x ()=some (.go ()))→qR f l k ()=some (.nx ())
  | [],k,_=>rfl
  | x::l,k,h=>by
    rw[aB (by have:=h 0 x rfl;rwa [Nat.add_zero] at this)];exact xAh l (k+1) (fun j y hj=>by rw[Nat.add_assoc,Nat.add_comm 1 j];exact h (j+1) y hj)
theorem xBt (l:List Int):dO l l=some true:=by
  unfold dO
  rw[wC,bnd_s,decide_eq_true rfl]
theorem nX (l:List Line):dJ l l=some true:=by
  unfold dJ
  rw[if_neg (by simp)];refine sG (s:=()) (xAh l 0 (fun j x hj=>?_)) rfl;rw[Nat.zero_add];simp only;rw[ix_n hj,bnd_s,if_neg (by simp)]
theorem xIy {x:Template} {y:Instance} (h:Ri x y) {D D':List (List Int)} {seg:List Line} (hr:Rn x y D seg D'):Rg x D→(∀ l∈seg,cK l=true)∧Rg x D':=by
  have hv:=h.vars;have hs:=h.size;have hc:=h.cons
  induction hr with
  | nil=>intro hg;exact⟨(fun l hl=>nomatch hl),hg⟩
  | @rem D D1 l s _ hs2 ih=>
    intro hg;obtain⟨h1,h2⟩:=ih hg;obtain⟨⟨v0,v1⟩,hval,c0,c,p,hcc,_⟩:=hs2;have hci:=(List.getElem?_eq_some_iff.1 hcc).1;have ha:=h2 _ _ hval;refine⟨fun z hz=>?_,fun i a hi=>?_⟩
    · rcases List.mem_append.1 hz with hz | hz
      · exact h1 z hz
      · rw[List.mem_singleton.1 hz];exact jN (by omega) (by omega) (by omega) (by omega) (fun e=>absurd rfl e) (fun e=>absurd e (by decide))
    · by_cases hvl:s.var.toNat<D1.length
      · have hget:D1[s.var.toNat]?=some (D1.getD s.var.toNat []):=by rw[List.getD_eq_getElem?_getD,List.getElem?_eq_getElem hvl];rfl
        exact h2 i a (gM hget (fun b hb=>(List.mem_filter.1 hb).1) i a hi)
      · unfold xFn at hi
        rw[List.set_eq_of_length_le (by omega)] at hi;exact h2 i a hi
  | @pair D D1 D2 l s v a i q _ hv2 hq ha h2q _ hi hd ih1 ih2=>
    intro hg;obtain⟨h1,h2⟩:=ih1 hg;have hra:=h2 v.toNat a (by rw[List.getD_eq_getElem?_getD,hq];exact ha);obtain⟨h3,_⟩:=ih2 (fun j b hb=>h2 j b (gM (w:=[a]) hq (fun z hz=>by rw[List.mem_singleton.1 hz];exact ha) j b hb));refine⟨fun z hz=>?_,fun j b hb=>h2 j b (gM hq (fun z hz=>(List.mem_filter.1 hz).1) j b hb)⟩
    rcases List.mem_append.1 hz with hz | hz
    · exact h1 z hz
    · rcases List.mem_append.1 hz with hz | hz
      · rw[List.mem_singleton.1 hz];exact jN (by omega) (by omega) (by omega) (by omega) (fun _=>rfl) (fun e=>absurd e (by decide))
      · rcases List.mem_append.1 hz with hz | hz
        · exact h3 z hz
        · rw[List.mem_singleton.1 hz];exact jN (by omega) (by omega) (by omega) (by omega) (fun _=>rfl) (fun _=>rfl)
theorem law_FnSearched {N:Nat} (hN:5100≤N) (x y:List UInt8):laws_FnSearched N x y=some true:=by
  unfold laws_FnSearched laws_f6big
  refine sG (s:=(decide (4096<(x.length:Int)) || decide (4096<(y.length:Int)))) (by rw[bnd_s,bnd_s];cases decide (4096<(x.length:Int))<;>rfl) ?_
  by_cases hbig:(decide (4096<(x.length:Int)) || decide (4096<(y.length:Int)))=true
  · rw[if_pos hbig]
  rw[if_neg hbig];obtain⟨⟨t,i⟩,e,h⟩:=xHm x (N:=N) (by omega);refine gL e ?_
  change Ri t i at h
  obtain⟨vl,st,cd,L,rc,S⟩:=xFf h hN;obtain⟨fo,fc,f1,f2⟩:=xEp h hN;obtain⟨r7,l1,l2⟩:=S.less;have s1:=S.st1
  have hfc:cd=fc:=by
    rcases S.end_ with ⟨rfl,_,_,hS⟩ | ⟨rfl,_,hno,_⟩
    · rcases f2 with ⟨rfl,_⟩ | ⟨_,hno⟩
      · rfl
      · exact absurd hS (hno vl)
    · rcases f2 with ⟨_,vs,hS⟩ | ⟨rfl,_⟩
      · exact absurd hS (hno vs)
      · rfl
  subst hfc;refine gL S.i (gL S.s (gL S.ri (gL S.rs (gL f1 ?_))));refine sG (s:=false) ?_ ?_
  · dsimp only
    rw[if_neg (by simp),if_neg (by simp),xBt,bnd_s,if_neg (by simp),if_neg (by simp),if_neg (by simp),nX,bnd_s,if_neg (by simp)]
    have:decide (st<1)=false:=by simp;omega
    rw[this]
  rw[if_neg (by simp)];refine gL (a:=st - 1) (zT (x:=st - 1) (by omega) (by omega)) (gL l1 (gL S.same ?_));refine sG (s:=false) (by dsimp only;rw[if_neg (by rw[l2];simp)];simp) ?_;rw[if_neg (by simp)]
  dsimp only
  rcases S.end_ with ⟨rfl,rfl,rfl,hS⟩ | ⟨rfl,rfl,hno,hl,seg,j,d2,hr,hj,hd,rfl⟩
  · rw[if_pos (by decide)]
    exact gL (xPq h hN hS) (gL (xHs h) (sG (s:=true) rfl rfl))
  · rw[if_neg (by decide)]
    have hB:∀ l∈seg++[Line.mk 3 j 0 0],cK l=true:=fun l hl2=>by
      have hv:=h.vars
      rcases List.mem_append.1 hl2 with hl2 | hl2
      · exact(xIy h hr (xDp (by have:=h.size;omega))).1 l hl2
      · rw[List.mem_singleton.1 hl2];exact jN (by omega) (by omega) (by omega) (by omega) (fun _=>rfl) (fun _=>rfl)
    have hW:xKz (seg++[Line.mk 3 j 0 0])=true:=by
      unfold xKz
      rw[Bool.and_eq_true];exact⟨by rw[decide_eq_true_iff];omega,List.all_eq_true.2 hB⟩
    have ht:aP (seg++[Line.mk 3 j 0 0])=some (qW (nA (seg++[Line.mk 3 j 0 0]))):=by rw[pL,hW,if_pos rfl]
    refine gL (xJq h (by omega) hr hj hd hl) (gL ht (gL (xLp hB hl (by simp)) (sG (s:=true) ?_ rfl)))
    dsimp only
    rw[if_pos (by decide),if_pos (by decide),if_pos (by decide),if_pos (by simp),if_pos (by decide),nX,bnd_s]
end Go.Proofs.YtghihmkhdhjhiaaGreatDoor
