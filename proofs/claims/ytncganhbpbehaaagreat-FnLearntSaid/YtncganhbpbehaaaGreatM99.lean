import Derived.Test.YtncganhbpbehaaaGreatML3
import Derived.Laws.Bits64b
import Derived.Test.YtncganhbpbehaaaGreatLL
namespace Go.Proofs.YtncganhbpbehaaaGreat
set_option linter.unusedVariables false
set_option linter.unusedSimpArgs false
set_option maxRecDepth 100000
theorem wW {σ ρ:Type} {f:Nat→σ→Option (Ctl σ ρ)} (I:Nat→σ→Prop):∀ (m k:Nat) (s:σ),I k s→(∀ j s,k≤j→j<k+m→I j s→∃ s',f j s=some (.go s')∧I (j+1) s')→∃ s',aS f m k s=some (.nx s')∧I (k+m) s'
  | 0,k,s,h,_=>⟨s,rfl,h⟩
  | m+1,k,s,h,hh=>by
    obtain⟨s',h1,h2⟩:=hh k s (by omega) (by omega) h;obtain⟨t,h3,h4⟩:=wW I m (k+1) s' h2 (fun j s hj hm=>hh j s (by omega) (by omega));exact⟨t,by rw[fQ h1];exact h3,by rw[show k+(m+1)=k+1+m by omega];exact h4⟩
theorem wP {σ ρ:Type} {f:σ→Option (Ctl σ ρ)} (I:Nat→σ→Prop) (go:∀ c s,I (c+1) s→∃ s',f s=some (.go s')∧I c s') (stop:∀ s,I 0 s→f s=some (.brk s)):∀ (c N:Nat) (s:σ),c<N→I c s→∃ s',fA f N s=some (.nx s')∧I 0 s'
  | c,0,s,h,_=>by omega
  | 0,N+1,s,_,h=>⟨s,fC (stop s h),h⟩
  | c+1,N+1,s,hN,h=>by
    obtain⟨s',h1,h2⟩:=go c s h;obtain⟨t,h3,h4⟩:=wP I go stop c N s' (by omega) h2;exact⟨t,by rw[iA h1];exact h3,h4⟩
theorem xPh (x:Int):∃ n:Nat,n<18446744073709551616∧IntKind.u64.wrap x=(n:Int):=by
  have h:IntKind.u64.wrap x=x % 18446744073709551616:=by
    unfold IntKind.wrap
    simp [show IntKind.u64.bits=64 from rfl,show IntKind.u64.signed=false from rfl]
  rw[h];exact⟨(x % 18446744073709551616).toNat,by omega,by omega⟩
theorem xLw (x:Int):0≤IntKind.i64.wrap (Go.bits .and .u64 (IntKind.u64.wrap x / 2 ^ (40:Int).toNat) 255):=by
  obtain⟨n,h1,h2⟩:=xPh x;rw[h2,show((n:Int) / 2 ^ (40:Int).toNat)=((n / 1099511627776:Nat):Int) by simp,show(255:Int)=((255:Nat):Int) from rfl,bits_and_u64_nat _ _ (by omega) (by decide)];have h3:(n / 1099511627776) &&& 255≤255:=Nat.and_le_right;rw[IntWalk.i64_in _ ⟨by omega,by omega⟩]
  omega
theorem xMx (code:List UInt8) {at' seed:Int} (h:0≤at'∧at'≤1000000):∃ v s,dF code at' seed=some (v,at'+1,s)∧0≤v:=by
  unfold dF
  have hb:∃ b:Int,0≤b∧(if (decide (at'<(code.length:Int)))=true then xZ (ix code at') fun z23=>some (Out.nx (σ:=Int) (ρ:=Int×Int×Int) (z23.toNat:Int)) else some (.nx 0))=some (.nx b):=by
    by_cases hl:at'<(code.length:Int)
    · refine⟨(code[at'.toNat]'(by omega)).toNat,by omega,?_⟩
      rw[if_pos (by simpa using hl),gN h.1 (List.getElem?_eq_getElem (by omega)),bnd_s]
    · exact⟨0,by omega,by rw[if_neg (by simpa using hl)]⟩
  obtain⟨b,h0,e⟩:=hb;rw[e,thn_nx,kE (by omega) (by omega),bnd_s,xJc h0,bnd_s]
  split
  · exact⟨_,_,rfl,h0⟩
  · exact⟨_,_,rfl,xLw _⟩
theorem xNu {x n:Int} (h:0≤x) (hn:1<n):∃ v,rm x n=some v∧0≤v∧v<n:=by
  refine⟨x.tmod n,by unfold rm;rw[if_neg (by omega)],Int.tmod_nonneg _ h,Int.tmod_lt_of_pos _ (by omega)⟩
theorem aV (code:List UInt8) {at' seed:Int} (n:Int) (h:0≤at'∧at'≤1000000) (hn:1≤n∧n≤200):∃ v a s,oU code at' seed n=some (v,a,s)∧(0≤v∧v<n)∧at'≤a∧a≤at'+1:=by
  unfold oU
  by_cases h1:n≤1
  · rw[if_pos (by simpa using h1)]
    exact⟨0,at',seed,rfl,by omega,by omega⟩
  · rw[if_neg (by simpa using h1)]
    obtain⟨x,s,e,hx⟩:=xMx code (seed:=seed) h;obtain⟨v,e2,h2⟩:=xNu hx (show 1<n by omega);rw[e,bnd_s,if_neg (by simp<;>omega),e2,bnd_s];exact⟨v,_,_,rfl,h2,by simp only;omega,by simp only;omega⟩
theorem xAi {σ ρ:Type} {f:σ→Option (Ctl σ ρ)} (I J:σ→Prop) (μ:σ→Nat) (step:∀ s,I s→(∃ s',f s=some (.go s')∧I s'∧μ s'<μ s)∨(∃ s',f s=some (.brk s')∧J s')):∀ (N:Nat) (s:σ),μ s<N→I s→∃ s',fA f N s=some (.nx s')∧J s'
  | 0,s,h,_=>by omega
  | N+1,s,h,hI=>by
    rcases step s hI with ⟨s',h1,h2,h3⟩ | ⟨s',h1,h2⟩
    · obtain⟨t,h4,h5⟩:=xAi I J μ step N s' (by omega) h2
      exact⟨t,by rw[iA h1];exact h4,h5⟩
    · exact⟨s',fC h1,h2⟩
theorem xGt (code:List UInt8) {p seed:Int} (n:Int) (h:0≤p∧p≤1000000) (hn:1≤n∧n≤200):∃ v a s,aM code p seed n=some (v,a,s)∧p≤a∧a≤p+1:=by
  obtain⟨v,a,s,e,_,h1,h2⟩:=aV code (seed:=seed) n h hn
  unfold aM
  rw[e,bnd_s];exact⟨_,_,_,rfl,h1,h2⟩
theorem jQ (code:List UInt8) {p seed:Int} (l:List Int) (h:0≤p∧p≤1000000) (hn:1≤l.length∧l.length≤200):∃ v a s,zM code p seed l=some (v,a,s)∧v∈l∧p≤a∧a≤p+1:=by
  obtain⟨v,a,s,e,hv,h1,h2⟩:=aV code (seed:=seed) (l.length:Int) h (by omega)
  unfold zM
  rw[e,bnd_s,gN hv.1 (List.getElem?_eq_getElem (by omega)),bnd_s];exact⟨_,_,_,rfl,List.getElem_mem _,h1,h2⟩
def RB (r:Rel):Prop:=(1≤r.arity∧r.arity≤4)∧r.tuples.length≤300∧∀ t∈r.tuples,(t.length:Int)=r.arity
theorem xAj (code:List UInt8) {p seed:Int} {T n N:Nat} (h:0≤p∧p≤900000) (hT:1≤T∧T≤4) (hn:1≤n∧n≤4) (hN:10≤N):∃ r a s,bV N code p seed (T:Int) (n:Int)=some (r,a,s)∧RB r∧p≤a∧a≤p+600:=by
  have hlen:=tK hT hn
  unfold bV
  obtain⟨v,a,s,e,hv,ha1,ha2⟩:=aV code (seed:=seed) 5 (at':=p) (by omega) (by decide);rw[e,bnd_s,(xJv hT hn hN).2,bnd_s,Int.toNat_natCast];simp only
  obtain⟨⟨a1,s1,t1⟩,e1,i1⟩:=wW (f:=fun(k209:Nat) (s:Int×Int×(List (List Int)))=>
    match s with
    | (s197,s199,s200)=>
    zR (σ:=Bool×Int×Int) (
     xZ (oU code s197 s199 5) fun z238=>
     if (decide (z238.1≤v)) then  some (.nx (true,z238.2.1,z238.2.2)) else  xZ (aM code z238.2.1 z238.2.2 8) fun z247=>
      some (.nx (z247.1,z247.2.1,z247.2.2))) fun(s234,s235,s237)=>
    if s234 then
     xZ (gB N (T:Int) (n:Int) (k209:Int)) fun z255=>
     xZ (ap s200 ([z255])) fun z262=>
     some (.go (s235,s237,z262))
    else
     some (.go (s235,s237,s200))) (ρ:=Rel×Int×Int) (fun k s=>p≤s.1∧s.1≤p+1+2*k∧s.2.2.length≤k∧∀ t∈s.2.2,(t.length:Int)=n) (cY T n).length 0 (a,s,[]) ⟨by first | omega | (simp only;omega),by first | omega | (simp only;omega),by simp,fun t ht=>nomatch ht⟩ (fun j st _ hj hI=>by
    obtain⟨a0,s0,t0⟩:=st;obtain⟨h1,h2,h3,h4⟩:=hI;simp only at h1 h2 h3 h4;obtain⟨v2,a2,s2,e2,hv2,hb1,hb2⟩:=aV code (seed:=s0) 5 (at':=a0) (by omega) (by decide)
    have hq:∃ b a3 s3,(xZ (oU code a0 s0 5) fun z238=>
     if (decide (z238.1≤v)) then  some (Out.nx (σ:=Bool×Int×Int) (ρ:=Ctl (Int×Int×(List (List Int))) (Rel×Int×Int)) (true,z238.2.1,z238.2.2)) else  xZ (aM code z238.2.1 z238.2.2 8) fun z247=>
      some (.nx (z247.1,z247.2.1,z247.2.2)))=some (.nx (b,a3,s3))∧p≤a3∧a3≤a0+2:=by
      rw[e2,bnd_s];simp only
      split
      · exact⟨_,_,_,rfl,by omega,by omega⟩
      · obtain⟨v4,a4,s4,e4,hc1,hc2⟩:=xGt code (seed:=s2) 8 (p:=a2) (by omega) (by decide)
        rw[e4,bnd_s];exact⟨_,_,_,rfl,by first | omega | (simp only;omega),by first | omega | (simp only;omega)⟩
    obtain⟨b,a3,s3,e3,hd1,hd2⟩:=hq;simp only;rw[e3,thn_nx];simp only
    cases b with
    | true=>
      have hdg:gB N (T:Int) (n:Int) (j:Int)=some (cY T n)[j]:=xKy hT hn hN (by omega);rw[if_pos rfl,hdg,bnd_s,zX (by simp only[List.length_cons,List.length_nil];omega),bnd_s];refine⟨_,rfl,by first | omega | (simp only;omega),by first | omega | (simp only;omega),by simp only[List.length_append,List.length_singleton];omega,fun t ht=>?_⟩
      rcases List.mem_append.1 ht with ht | ht
      · exact h4 t ht
      · rw[List.mem_singleton.1 ht,(iN.1 (List.getElem_mem _)).1]
    | false=>
      rw[if_neg (by simp)]
      exact⟨_,rfl,by first | omega | (simp only;omega),by first | omega | (simp only;omega),by first | omega | (simp only;omega),h4⟩)
  rw[e1,thn_nx];obtain⟨h1,h2,h3,h4⟩:=i1;simp only[Nat.zero_add] at h1 h2 h3 h4;exact⟨_,_,_,rfl,⟨by first | omega | (simp only;omega),by first | omega | (simp only;omega),h4⟩,h1,by omega⟩
theorem tI (code:List UInt8) {p seed:Int} {T N:Nat} (h:0≤p∧p≤800000) (hT:1≤T∧T≤4) (hN:100≤N):∃ t a s,aJ N code p seed (T:Int)=some (t,a,s)∧t.size=T∧t.rels.length≤4∧(∀ r∈t.rels,RB r)∧p≤a∧a≤p+3000:=by
  unfold aJ
  obtain⟨v,a,s,e,hv,ha1,ha2⟩:=aV code (seed:=seed) 4 (at':=p) (by omega) (by decide);rw[e,bnd_s];simp only
  obtain⟨⟨c1,a1,s1,t1⟩,e1,i1⟩:=wP (ρ:=Template×Int×Int) (f:=fun(s:Int×Int×Int×(List Rel))=>
    match s with
    | (s367,s369,s371,s372)=>
    if (decide (0<s367)) then
     xZ (zM code s369 s371 ([1,2,2,2,3])) fun z401=>
     xZ (bV N code z401.2.1 z401.2.2 (T:Int) z401.1) fun z409=>
     xZ (ap s372 ([(Rel.mk z409.1.arity z409.1.tuples)])) fun z422=>
     xZ (ck (s367 - 1)) fun z549=>
     some (.go (z549,z409.2.1,z409.2.2,z422))
    else
     some (.brk (s367,s369,s371,s372))) (fun c s=>s.1=(c:Int)∧p≤s.2.1∧s.2.1+650*c≤p+2900∧s.2.2.2.length+c≤4∧∀ r∈s.2.2.2,RB r) (fun c st hI=>by
      obtain⟨c0,a0,s0,t0⟩:=st;obtain⟨h1,h2,h3,h4,h5⟩:=hI;simp only at h1 h2 h3 h4 h5;subst h1;obtain⟨v2,a2,s2,e2,hv2,hb1,hb2⟩:=jQ code (seed:=s0) [1,2,2,2,3] (p:=a0) (by omega) (by decide);have hv3:∃ n:Nat,v2=n∧1≤n∧n≤4:=⟨v2.toNat,by simp at hv2;omega,by simp at hv2;omega,by simp at hv2;omega⟩;obtain⟨n,rfl,hn1,hn2⟩:=hv3;obtain⟨r,a3,s3,e3,hr,hd1,hd2⟩:=xAj code (p:=a2) (seed:=s2) (N:=N) (by omega) hT ⟨hn1,hn2⟩ (by omega);refine⟨(((c:Nat):Int),a3,s3,t0++[r]),?_,rfl,by first | omega | (simp only;omega),by first | omega | (simp only;omega),by simp only[List.length_append,List.length_singleton];omega,fun q hq=>?_⟩
      · simp only
        rw[if_pos (by simp<;>omega),e2,bnd_s,e3,bnd_s];simp only;rw[zX (by simp only[List.length_cons,List.length_nil];omega),bnd_s,kE (by omega) (by omega),bnd_s]
        simp
      · rcases List.mem_append.1 hq with hq | hq
        · exact h5 q hq
        · rw[List.mem_singleton.1 hq];exact hr) (fun st hI=>by
      obtain⟨c0,a0,s0,t0⟩:=st;obtain⟨h1,_⟩:=hI;simp only at h1;subst h1
      rfl) v.toNat N (v,a,s,[]) (by omega) ⟨by first | omega | (simp only;omega),by first | omega | (simp only;omega),by first | omega | (simp only;omega),by simp only[List.length_nil];omega,fun r hr=>nomatch hr⟩
  rw[e1,thn_nx];obtain⟨h1,h2,h3,h4,h5⟩:=i1;simp only at h1 h2 h3 h4 h5;exact⟨_,_,_,rfl,rfl,by first | omega | (simp only;omega),h5,h2,by first | omega | (simp only;omega)⟩
theorem xCb (code:List UInt8) {p seed:Int} {t:Template} {N:Nat} (h:0≤p∧p≤850000) (hl:t.rels.length≤4) (hr:∀ r∈t.rels,RB r) (hN:100≤N):∃ x a s,gT N code p seed t 5=some (x,a,s)∧(1≤x.vars∧x.vars≤5)∧x.cons.length≤6∧p≤a∧a≤p+100:=by
  unfold gT
  obtain⟨v,a,s,e,hv,ha1,ha2⟩:=aV code (seed:=seed) 5 (at':=p) (by omega) (by decide);obtain⟨w,b,s',e',hw,hb1,hb2⟩:=aV code (seed:=s) 7 (at':=a) (by omega) (by decide);rw[e,bnd_s];simp only;rw[kE (by omega) (by omega),bnd_s,e',bnd_s];simp only
  obtain⟨⟨c1,a1,s1,t1⟩,e1,i1⟩:=xAi (ρ:=Instance×Int×Int) (f:=fun(s:Int×Int×Int×(List Con))=>
    match s with
    | (s538,s540,s542,s543)=>
    zR (σ:=Bool) (
     if (decide (0<s538)) then  some (.nx (decide (0<(t.rels.length:Int)))) else  some (.nx false)) fun s569=>
    if s569 then
     xZ (oU code s540 s542 (t.rels.length:Int)) fun z582=>
     xZ (ix t.rels z582.1) fun z595=>
     zR (σ:=Int×Int×Int×(List Int)) (
      fA (σ:=Int×Int×Int×(List Int)) (ρ:=(Ctl (Int×Int×Int×(List Con)) (Instance×Int×Int))) (fun(s:Int×Int×Int×(List Int))=>
        match s with
        | (s722,s724,s726,s727)=>
        if (decide (0<s722)) then
         xZ (oU code s724 s726 (1+v)) fun z745=>
         xZ (ap s727 ([z745.1])) fun z755=>
         xZ (ck (s722 - 1)) fun z793=>
         some (.go (z793,z745.2.1,z745.2.2,z755))
        else
         some (.brk (s722,s724,s726,s727))) N (z595.arity,z582.2.1,z582.2.2,[])) fun(s730,s732,s734,s735)=>
     xZ (ap s543 ([(Con.mk z582.1 s735)])) fun z799=>
     xZ (ck (s538 - 1)) fun z803=>
     some (.go (z803,s732,s734,z799))
    else
     some (.brk (s538,s540,s542,s543))) (fun s=>(0≤s.1∧s.1≤6)∧p≤s.2.1∧s.2.1+10*s.1≤p+70∧(s.2.2.2.length:Int)+s.1≤6) (fun s=>p≤s.2.1∧s.2.1≤p+70∧s.2.2.2.length≤6) (fun s=>s.1.toNat) (fun st hI=>by
      obtain⟨c0,a0,s0,t0⟩:=st;obtain⟨h1,h2,h3,h4⟩:=hI;simp only at h1 h2 h3 h4
      by_cases hc:0<c0
      · by_cases hr0:0<(t.rels.length:Int)
        · left
          obtain⟨v2,a2,s2,e2,hv2,hb1,hb2⟩:=aV code (seed:=s0) (t.rels.length:Int) (at':=a0) (by omega) (by omega)
          have hlt:v2.toNat<t.rels.length:=by omega
          have hrb:=hr _ (List.getElem_mem hlt);obtain⟨hra,_,_⟩:=hrb
          obtain⟨⟨c3,a3,s3,t3⟩,e3,i3⟩:=wP (ρ:=(Ctl (Int×Int×Int×(List Con)) (Instance×Int×Int))) (f:=fun(s:Int×Int×Int×(List Int))=>
        match s with
        | (s722,s724,s726,s727)=>
        if (decide (0<s722)) then
         xZ (oU code s724 s726 (1+v)) fun z745=>
         xZ (ap s727 ([z745.1])) fun z755=>
         xZ (ck (s722 - 1)) fun z793=>
         some (.go (z793,z745.2.1,z745.2.2,z755))
        else
         some (.brk (s722,s724,s726,s727))) (fun c s=>s.1=(c:Int)∧a2≤s.2.1∧s.2.1+c≤a2+4∧s.2.2.2.length+c≤4) (fun c st hI=>by
            obtain⟨c0,a0,s0,t0⟩:=st;obtain⟨h1,h2,h3,h4⟩:=hI;simp only at h1 h2 h3 h4;subst h1;obtain⟨v5,a5,s5,e5,hv5,hb5,hb6⟩:=aV code (seed:=s0) (1+v) (at':=a0) (by omega) (by omega);refine⟨(((c:Nat):Int),a5,s5,t0++[v5]),?_,rfl,by first | omega | (simp only;omega),by first | omega | (simp only;omega),by simp only[List.length_append,List.length_singleton];omega⟩;simp only;rw[if_pos (by simp<;>omega),e5,bnd_s];simp only;rw[zX (by simp only[List.length_cons,List.length_nil];omega),bnd_s,kE (by omega) (by omega),bnd_s]
            simp) (fun st hI=>by
            obtain⟨c0,a0,s0,t0⟩:=st;obtain⟨h1,_⟩:=hI;simp only at h1;subst h1
            rfl) (t.rels[v2.toNat]).arity.toNat N ((t.rels[v2.toNat]).arity,a2,s2,[]) (by omega) ⟨by first | omega | (simp only;omega),by first | omega | (simp only;omega),by first | omega | (simp only;omega),by simp only[List.length_nil];omega⟩
          obtain⟨q1,q2,q3,q4⟩:=i3;simp only at q1 q2 q3 q4;refine⟨(c0 - 1,a3,s3,t0++[Con.mk v2 t3]),?_,⟨by first | omega | (simp only;omega),by first | omega | (simp only;omega),by first | omega | (simp only;omega),by simp only[List.length_append,List.length_singleton];omega⟩,by first | omega | (simp only;omega)⟩;simp only;rw[if_pos (by simpa using hc),thn_nx,if_pos (by simpa using hr0),e2,bnd_s,gN hv2.1 (List.getElem?_eq_getElem hlt),bnd_s];simp only;rw[e3,thn_nx];simp only;rw[zX (by simp only[List.length_cons,List.length_nil];omega),bnd_s,kE (by omega) (by omega),bnd_s]
        · right
          refine⟨(c0,a0,s0,t0),?_,by first | omega | (simp only;omega),by first | omega | (simp only;omega),by first | omega | (simp only;omega)⟩;simp only;rw[if_pos (by simpa using hc),thn_nx,if_neg (by simpa using hr0)]
      · right
        refine⟨(c0,a0,s0,t0),?_,by first | omega | (simp only;omega),by first | omega | (simp only;omega),by first | omega | (simp only;omega)⟩;simp only
        rw[if_neg (by simpa using hc),thn_nx,if_neg (by simp)]) N (w,b,s',[]) (by first | omega | (simp only;omega)) ⟨by first | omega | (simp only;omega),by first | omega | (simp only;omega),by first | omega | (simp only;omega),by simp only[List.length_nil];omega⟩
  rw[e1,thn_nx];obtain⟨h1,h2,h3⟩:=i1;simp only at h1 h2 h3;exact⟨_,_,_,rfl,by first | omega | (simp only;omega),by first | omega | (simp only;omega),h1,by first | omega | (simp only;omega)⟩
theorem tG (code:List UInt8) {p seed:Int} (h:0≤p∧p≤1000000):∃ (T:Nat) (a s:Int),cE code p seed=some ((T:Int),a,s)∧(1≤T∧T≤4)∧p≤a∧a≤p+1:=by
  obtain⟨v,a,s,e,hv,h1,h2⟩:=jQ code (seed:=seed) [2,2,3,3,1,4,2] h (by decide)
  unfold cE
  rw[e,bnd_s];refine⟨v.toNat,a,s,?_,by simp at hv;omega,h1,h2⟩;rw[show((v.toNat:Nat):Int)=v by simp at hv;omega]
theorem xOc (code:List UInt8) {p seed:Int} {T N:Nat} (h:0≤p∧p≤850000) (hT:1≤T∧T≤4) (hN:100≤N):∃ r a s,jS N code p seed (T:Int)=some (r,a,s)∧RB r∧p≤a∧a≤p+700:=by
  unfold jS
  obtain⟨v,a,s,e,hv,ha1,ha2⟩:=aV code (seed:=seed) 3 (at':=p) (by omega) (by decide);obtain⟨n,hn,hn1,hn2⟩:∃ n:Nat,1+v=n∧1≤n∧n≤4:=⟨(1+v).toNat,by omega,by omega,by omega⟩;obtain⟨r,a3,s3,e3,hr,hd1,hd2⟩:=xAj code (p:=a) (seed:=s) (N:=N) (by omega) hT ⟨hn1,hn2⟩ (by omega);rw[e,bnd_s];simp only;rw[kE (by omega) (by omega),bnd_s,hn,e3,bnd_s];exact⟨_,_,_,rfl,hr,by first | omega | (simp only;omega),by first | omega | (simp only;omega)⟩
theorem xGp (code:List UInt8) {p seed:Int} {N:Nat} (h:0≤p∧p≤800000) (hN:100≤N):∃ z r a s,iQ N code p seed=some (z,r,a,s)∧r.tuples.length≤400∧p≤a∧a≤p+1000:=by
  unfold iQ
  obtain⟨T,a,s,e,hT,ha1,ha2⟩:=tG code (seed:=seed) (p:=p) (by omega);obtain⟨r,b,s',e',hr,hb1,hb2⟩:=xOc code (p:=a) (seed:=s) (N:=N) (by omega) hT hN;obtain⟨v,c,s2,e2,hv,hc1,hc2⟩:=aV code (seed:=s') 24 (at':=b) (by omega) (by decide);obtain⟨hra,hrl,hrt⟩:=hr;rw[e,bnd_s];simp only;rw[e',bnd_s];simp only;rw[e2,bnd_s];simp only
  split
  · obtain⟨v3,a3,s3,e3,_,h1,h2⟩:=jQ code (seed:=s2) [0,5,-1,1] (p:=c) (by omega) (by decide)
    rw[e3,bnd_s];exact⟨_,_,_,_,rfl,by first | omega | (simp only;omega),by first | omega | (simp only;omega),by first | omega | (simp only;omega)⟩
  · split
    · rw[kE (by omega) (by omega),bnd_s]
      obtain⟨v3,a3,s3,e3,_,h1,h2⟩:=jQ code (seed:=s2) [0,5,r.arity+1] (p:=c) (by omega) (by simp);rw[e3,bnd_s];exact⟨_,_,_,_,rfl,by first | omega | (simp only;omega),by first | omega | (simp only;omega),by first | omega | (simp only;omega)⟩
    · split
      · rw[zX (by simp only[List.length_cons,List.length_nil];omega),bnd_s]
        exact⟨_,_,_,_,rfl,by simp only[List.length_append,List.length_singleton];omega,by first | omega | (simp only;omega),by first | omega | (simp only;omega)⟩
      · split
        · split
          · rename_i hpos
            have hpos':0<r.tuples.length:=by simpa using hpos
            have h0:=hrt _ (List.getElem_mem hpos');obtain⟨v3,a3,s3,e3,_,h1,h2⟩:=jQ code (seed:=s2) [-1,(T:Int)] (p:=c) (by omega) (by simp);rw[gN (by omega) (List.getElem?_eq_getElem hpos'),bnd_s,e3,bnd_s,gN (by omega) (List.getElem?_eq_getElem (show(0:Int).toNat<(r.tuples[0]).length by simp;omega)),bnd_s];exact⟨_,_,_,_,rfl,by simp only[List.length_set];omega,by first | omega | (simp only;omega),by first | omega | (simp only;omega)⟩
          · exact⟨_,_,_,_,rfl,by first | omega | (simp only;omega),by first | omega | (simp only;omega),by first | omega | (simp only;omega)⟩
        · exact⟨_,_,_,_,rfl,by first | omega | (simp only;omega),by first | omega | (simp only;omega),by first | omega | (simp only;omega)⟩
theorem RB.small {r:Rel} (h:RB r):r.tuples.length≤400:=by have:=h.2.1;omega
theorem xFc (code:List UInt8) {p seed:Int} {N:Nat} (h:0≤p∧p≤700000) (hN:100≤N):∃ t a s,bW N code p seed=some (t,a,s)∧(∀ r∈t.rels,r.tuples.length≤400)∧p≤a∧a≤p+6000:=by
  unfold bW
  obtain⟨T,a,s,e,hT,ha1,ha2⟩:=tG code (seed:=seed) (p:=p) (by omega);obtain⟨t,b,s',e',ht,hl,hr,hb1,hb2⟩:=tI code (p:=a) (seed:=s) (N:=N) (by omega) hT hN;obtain⟨v,c,s2,e2,hv,hc1,hc2⟩:=aV code (seed:=s') 20 (at':=b) (by omega) (by decide);have hsm:∀ r∈t.rels,r.tuples.length≤400:=fun r hrr=>(hr r hrr).small;rw[e,bnd_s];simp only;rw[e',bnd_s];simp only;rw[e2,bnd_s];simp only
  split
  · obtain⟨v3,a3,s3,e3,_,h1,h2⟩:=jQ code (seed:=s2) [0,5,1] (p:=c) (by omega) (by decide)
    rw[e3,bnd_s];exact⟨_,_,_,rfl,hsm,by first | omega | (simp only;omega),by first | omega | (simp only;omega)⟩
  · split
    · obtain⟨z,r,a3,s3,e3,h0,h1,h2⟩:=xGp code (seed:=s2) (p:=c) (N:=N) (by omega) hN
      rw[e3,bnd_s];simp only;rw[zX (by simp only[List.length_cons,List.length_nil];omega),bnd_s];refine⟨_,_,_,rfl,fun q hq=>?_,by first | omega | (simp only;omega),by first | omega | (simp only;omega)⟩
      rcases List.mem_append.1 hq with hq | hq
      · exact hsm q hq
      · rw[List.mem_singleton.1 hq];exact h0
    · split
      · obtain⟨⟨a1,s1,t1⟩,e1,i1⟩:=xAi (ρ:=Template×Int×Int) (f:=fun(s:Int×Int×(List Rel))=>
       match s with
       | (s162,s164,s165)=>
       xZ (oU code s162 s164 2) fun z181=>
       xZ (ck (6+z181.1)) fun z189=>
       if (decide ((s165.length:Int)<z189)) then
        xZ (ap s165 ([(Rel.mk 1 ([]))])) fun z211=>
        some (.go (z181.2.1,z181.2.2,z211))
       else
        some (.brk (z181.2.1,z181.2.2,s165))) (fun s=>c≤s.1∧s.1+((8 - s.2.2.length:Nat):Int)≤c+8∧∀ r∈s.2.2,r.tuples.length≤400) (fun s=>c≤s.1∧s.1≤c+10∧∀ r∈s.2.2,r.tuples.length≤400) (fun s=>8 - s.2.2.length) (fun st hI=>by
          obtain⟨a0,s0,t0⟩:=st;obtain⟨h1,h2,h3⟩:=hI;simp only at h1 h2 h3;obtain⟨v5,a5,s5,e5,hv5,hb5,hb6⟩:=aV code (seed:=s0) 2 (at':=a0) (by omega) (by omega)
          by_cases hlt:(t0.length:Int)<6+v5
          · left
            refine⟨(a5,s5,t0++[Rel.mk 1 []]),?_,⟨by first | omega | (simp only;omega),by simp only[List.length_append,List.length_singleton];omega,fun q hq=>?_⟩,by simp only[List.length_append,List.length_singleton];omega⟩
            · simp only
              rw[e5,bnd_s];simp only;rw[kE (by omega) (by omega),bnd_s,if_pos (by simpa using hlt),zX (by simp only[List.length_cons,List.length_nil];omega),bnd_s]
            · rcases List.mem_append.1 hq with hq | hq
              · exact h3 q hq
              · rw[List.mem_singleton.1 hq];simp
          · right
            refine⟨(a5,s5,t0),?_,by first | omega | (simp only;omega),by first | omega | (simp only;omega),h3⟩;simp only;rw[e5,bnd_s];simp only
            rw[kE (by omega) (by omega),bnd_s,if_neg (by simpa using hlt)]) N (c,s2,t.rels) (by first | omega | (simp only;omega)) ⟨by first | omega | (simp only;omega),by first | omega | (simp only;omega),hsm⟩
        rw[e1,thn_nx];obtain⟨h1,h2,h3⟩:=i1;simp only at h1 h2 h3;exact⟨_,_,_,rfl,h3,by first | omega | (simp only;omega),by first | omega | (simp only;omega)⟩
      · exact⟨_,_,_,rfl,hsm,by first | omega | (simp only;omega),by first | omega | (simp only;omega)⟩
theorem xEl (code:List UInt8) {p seed:Int} {N:Nat} (h:0≤p∧p≤600000) (hN:100≤N):∃ t x a s,iT N code p seed=some (t,x,a,s)∧(∀ r∈t.rels,r.tuples.length≤400)∧(x.vars≤5∨x.vars=11)∧p≤a∧a≤p+20000:=by
  unfold iT
  obtain⟨v0,a,s,e,hv0,ha1,ha2⟩:=jQ code (seed:=seed) [2,2,3,3,4] (p:=p) (by omega) (by decide);obtain⟨T,hT,hT1⟩:∃ T:Nat,v0=T∧1≤T∧T≤4:=⟨v0.toNat,by simp at hv0;omega,by simp at hv0;omega,by simp at hv0;omega⟩;subst hT;obtain⟨t,b,s',e',ht,hl,hr,hb1,hb2⟩:=tI code (p:=a) (seed:=s) (N:=N) (by omega) hT1 hN;obtain⟨x,b2,s'',e'',hx1,hx2,hb3,hb4⟩:=xCb code (p:=b) (seed:=s') (N:=N) (by omega) hl hr hN;obtain⟨v,c,s2,e2,hv,hc1,hc2⟩:=aV code (seed:=s'') 24 (at':=b2) (by omega) (by decide);have hsm:∀ r∈t.rels,r.tuples.length≤400:=fun r hrr=>(hr r hrr).small;rw[e,bnd_s];simp only;rw[e',bnd_s];simp only;rw[show(Template.mk t.size t.rels)=t from rfl,e'',bnd_s];simp only;rw[e2,bnd_s];simp only
  split
  · obtain⟨t3,a3,s3,e3,h0,h1,h2⟩:=xFc code (seed:=s2) (p:=c) (N:=N) (by omega) hN
    rw[e3,bnd_s];exact⟨_,_,_,_,rfl,h0,.inl hx1.2,by first | omega | (simp only;omega),by first | omega | (simp only;omega)⟩
  · split
    · obtain⟨v3,a3,s3,e3,hm,h1,h2⟩:=jQ code (seed:=s2) [0,11,1] (p:=c) (by omega) (by decide)
      rw[e3,bnd_s];exact⟨_,_,_,_,rfl,hsm,by simp at hm;simp only;omega,by first | omega | (simp only;omega),by first | omega | (simp only;omega)⟩
    · split
      · obtain⟨v3,a3,s3,e3,hv3,h1,h2⟩:=aV code (seed:=s2) 5 (at':=c) (by omega) (by decide)
        obtain⟨v4,a4,s4,e4,hv4,h3,h4⟩:=aV code (seed:=s3) 6 (at':=a3) (by omega) (by decide);rw[e3,bnd_s];simp only;rw[kE (by omega) (by omega),bnd_s,e4,bnd_s];simp only;rw[zX (by simp only[List.length_cons,List.length_nil];omega),bnd_s];exact⟨_,_,_,_,rfl,hsm,.inl hx1.2,by first | omega | (simp only;omega),by first | omega | (simp only;omega)⟩
      · split
        · obtain⟨⟨a1,s1,t1⟩,e1,i1⟩:=xAi (ρ:=Template×Instance×Int×Int) (f:=fun(s:Int×Int×(List Con))=>
        match s with
        | (s625,s627,s628)=>
        zR (σ:=Bool×Int×Int) (
         xZ (oU code s625 s627 2) fun z715=>
         xZ (ck (24+z715.1)) fun z723=>
         if (decide ((s628.length:Int)<z723)) then  some (.nx ((decide (0<(s628.length:Int))),z715.2.1,z715.2.2)) else  some (.nx (false,z715.2.1,z715.2.2))) fun(s710,s711,s713)=>
        if s710 then
         xZ (ix s628 0) fun z779=>
         xZ (ap s628 ([z779])) fun z787=>
         some (.go (s711,s713,z787))
        else
         some (.brk (s711,s713,s628))) (fun s=>c≤s.1∧s.1+((26 - s.2.2.length:Nat):Int)≤c+26) (fun s=>c≤s.1∧s.1≤c+30) (fun s=>26 - s.2.2.length) (fun st hI=>by
            obtain⟨a0,s0,t0⟩:=st;obtain⟨h1,h2⟩:=hI;simp only at h1 h2;obtain⟨v5,a5,s5,e5,hv5,hb5,hb6⟩:=aV code (seed:=s0) 2 (at':=a0) (by omega) (by omega)
            have hcond:(xZ (oU code a0 s0 2) fun z715=>
         xZ (ck (24+z715.1)) fun z723=>
         if (decide ((t0.length : Int) < z723)) then  some (Out.nx (σ := Bool × Int × Int) (ρ := Ctl (Int × Int × (List Con)) (Template × Instance × Int × Int)) ((decide (0 < (t0.length : Int))), z715.2.1, z715.2.2)) else  some (.nx (false, z715.2.1, z715.2.2))) = some (.nx (decide ((t0.length : Int) < 24 + v5) && decide (0 < (t0.length : Int)), a5, s5)) := by
              rw[e5,bnd_s];simp only;rw[kE (by omega) (by omega),bnd_s]
              cases decide ((t0.length:Int)<24+v5)<;>rfl
            by_cases hlt:(t0.length:Int)<24+v5∧0<(t0.length:Int)
            · left
              have hp:0<t0.length:=by omega
              refine⟨(a5,s5,t0++[t0[0]]),?_,⟨by first | omega | (simp only;omega),by simp only[List.length_append,List.length_singleton];omega⟩,by simp only[List.length_append,List.length_singleton];omega⟩;simp only;rw[hcond,thn_nx];simp only;rw[if_pos (by rw[Bool.and_eq_true,decide_eq_true_eq,decide_eq_true_eq];exact hlt),gN (by omega) (List.getElem?_eq_getElem hp),bnd_s,zX (by simp only[List.length_cons,List.length_nil];omega),bnd_s]
            · right
              refine⟨(a5,s5,t0),?_,by first | omega | (simp only;omega),by first | omega | (simp only;omega)⟩;simp only;rw[hcond,thn_nx];simp only
              rw[if_neg (by rw[Bool.and_eq_true,decide_eq_true_eq,decide_eq_true_eq];exact hlt)]) N (c,s2,x.cons) (by first | omega | (simp only;omega)) ⟨by first | omega | (simp only;omega),by first | omega | (simp only;omega)⟩
          rw[e1,thn_nx];obtain⟨h1,h2⟩:=i1;simp only at h1 h2;exact⟨_,_,_,_,rfl,hsm,.inl hx1.2,by first | omega | (simp only;omega),by first | omega | (simp only;omega)⟩
        · exact⟨_,_,_,_,rfl,hsm,.inl hx1.2,by first | omega | (simp only;omega),by first | omega | (simp only;omega)⟩
theorem xMf (code:List UInt8) {N:Nat} (hN:100≤N):∃ t x a s,iR N code 0 0=some (t,x,a,s)∧(∀ r∈t.rels,r.tuples.length≤400)∧(x.vars≤5∨x.vars=11):=by
  unfold iR
  obtain⟨b0,a,s,e,ha1,ha2⟩:=xGt code (seed:=0) 4 (p:=0) (by omega) (by decide);rw[e,bnd_s];simp only
  cases b0 with
  | true=>
    rw[if_pos rfl];obtain⟨t,x,a3,s3,e3,h0,h1,h2,h3⟩:=xEl code (p:=a) (seed:=s) (N:=N) (by omega) hN;rw[e3,bnd_s];exact⟨_,_,_,_,rfl,h0,h1⟩
  | false=>
    rw[if_neg (by simp)];obtain⟨v,b,s2,e2,hv,hb1,hb2⟩:=aV code (seed:=s) 2 (at':=a) (by omega) (by decide);obtain⟨T,hT,hT1⟩:∃ T:Nat,2+v=T∧2≤T∧T≤3:=⟨(2+v).toNat,by omega,by omega,by omega⟩;obtain⟨m,hm,hm9⟩:∃ m:Nat,(T:Int)*T=(m:Int)∧m≤9:=⟨T*T,(Int.natCast_mul T T).symm,Nat.mul_le_mul hT1.2 hT1.2⟩;rw[e2,bnd_s];simp only;rw[kE (by omega) (by omega),bnd_s,hT,hm,kE (by omega) (by omega),bnd_s]
    obtain⟨rows,e3,hrows⟩:=wW (ρ:=Template×Instance×Int×Int) (f:=fun(k141:Nat) (s135:(List (List Int)))=>
    xZ (dv (k141:Int) (T:Int)) fun z147=>
    xZ (rm (k141:Int) (T:Int)) fun z149=>
    if (z147 != z149) then
     xZ (ap s135 ([[z147,z149]])) fun z156=>
     some (.go z156)
    else
     some (.go s135)) (fun k s=>s.length≤k) (m:Int).toNat 0 [] (by simp) (fun j st _ hj hI=>by
      have hd:dv (j:Int) (T:Int)=some ((j:Int).tdiv T):=by
        unfold dv
        rw[if_neg (by omega)];have:(j:Int).tdiv T=((j / T:Nat):Int):=rfl;have hle:j / T≤j:=Nat.div_le_self _ _;rw[this];have h0:(0:Int)≤((j / T:Nat):Int):=Int.natCast_nonneg _
        have h1:((j / T:Nat):Int)≤(j:Int):=by exact_mod_cast hle
        generalize ((j / T:Nat):Int)=q at h0 h1;exact kE (by omega) (by omega)
      have hr:rm (j:Int) (T:Int)=some ((j:Int).tmod T):=by
        unfold rm
        rw[if_neg (by omega)]
      rw[hd,bnd_s,hr,bnd_s]
      split
      · rw[zX (by simp only[List.length_cons,List.length_nil];omega),bnd_s]
        exact⟨_,rfl,by rw[List.length_append,List.length_singleton];omega⟩
      · exact⟨_,rfl,by omega⟩)
    rw[e3,thn_nx,zX (by simp),bnd_s];obtain⟨b1,c,s3,e4,hc1,hc2⟩:=xGt code (seed:=s2) 2 (p:=b) (by omega) (by decide);rw[e4,bnd_s];simp only
    have hrel:∃ a5 s5 rl,(if b1=true then
    xZ (bV N code c s3 (T:Int) 2) fun z271=>
    xZ (ap ([]++[Rel.mk 2 rows]) ([(Rel.mk z271.1.arity z271.1.tuples)])) fun z284=>
    some (Out.nx (σ:=Int×Int×(List Rel)) (ρ:=Template×Instance×Int×Int) (z271.2.1,z271.2.2,z284))
   else
    some (.nx (c,s3,[]++[Rel.mk 2 rows])))=some (.nx (a5,s5,rl))∧c≤a5∧a5≤c+600∧(1≤rl.length∧rl.length≤2)∧∀ r∈rl,r.tuples.length≤400:=by
      have hr0:rows.length≤400:=by omega
      cases b1 with
      | true=>
        rw[if_pos rfl];obtain⟨r,a6,s6,e6,hr,hd1,hd2⟩:=xAj code (p:=c) (seed:=s3) (T:=T) (n:=2) (N:=N) (by omega) (by omega) (by omega) (by omega);rw[show((2:Nat):Int)=2 from rfl] at e6;rw[e6,bnd_s];simp only;rw[zX (by simp),bnd_s];refine⟨_,_,_,rfl,by omega,by omega,by simp,fun q hq=>?_⟩;simp only[List.nil_append,List.mem_append,List.mem_singleton] at hq
        rcases hq with rfl | rfl
        · exact hr0
        · exact hr.small
      | false=>
        rw[if_neg (by simp)];refine⟨_,_,_,rfl,by omega,by omega,by simp,fun q hq=>?_⟩;simp only[List.nil_append,List.mem_singleton] at hq;rw[hq];exact hr0
    obtain⟨a5,s5,rl,e5,hp1,hp2,hrl,hrs⟩:=hrel;rw[e5,thn_nx];simp only;obtain⟨v7,a7,s7,e7,hv7,h71,h72⟩:=aV code (seed:=s5) 2 (at':=a5) (by omega) (by decide);obtain⟨v8,a8,s8,e8,hv8,h81,h82⟩:=aV code (seed:=s7) 7 (at':=a7) (by omega) (by decide);rw[e7,bnd_s];simp only;rw[kE (by omega) (by omega),bnd_s,e8,bnd_s];simp only;rw[kE (by omega) (by omega),bnd_s]
    obtain⟨⟨c1,a1,s1,t1⟩,e1,i1⟩:=wP (ρ:=Template×Instance×Int×Int) (f:=fun(s:Int×Int×Int×(List Con))=>
     match s with
     | (s661,s663,s665,s666)=>
     if (decide (0<s661)) then
      xZ (oU code s663 s665 (3+v7)) fun z684=>
      xZ (ck (z684.1+1)) fun z692=>
      xZ (ck (3+v7 - 1)) fun z694=>
      xZ (oU code z684.2.1 z684.2.2 z694) fun z696=>
      xZ (ck (z692+z696.1)) fun z704=>
      xZ (rm z704 (3+v7)) fun z706=>
      xZ (oU code z696.2.1 z696.2.2 (rl.length:Int)) fun z724=>
      xZ (ap s666 ([(Con.mk z724.1 ([z684.1,z706]))])) fun z737=>
      xZ (ck (s661 - 1)) fun z827=>
      some (.go (z827,z724.2.1,z724.2.2,z737))
     else
      some (.brk (s661,s663,s665,s666))) (fun c s=>s.1=(c:Int)∧0≤s.2.1∧s.2.1+3*c≤5000∧s.2.2.2.length+c≤10) (fun c st hI=>by
      obtain⟨c0,a0,s0,t0⟩:=st;obtain⟨h1,h2,h3,h4⟩:=hI;simp only at h1 h2 h3 h4;subst h1;obtain⟨w1,p1,q1,f1,hw1,g1,g2⟩:=aV code (seed:=s0) (3+v7) (at':=a0) (by omega) (by omega);obtain⟨w2,p2,q2,f2,hw2,g3,g4⟩:=aV code (seed:=q1) (3+v7 - 1) (at':=p1) (by omega) (by omega);obtain⟨w3,f3,hw3⟩:=xNu (x:=w1+1+w2) (n:=3+v7) (by omega) (by omega);obtain⟨w4,p4,q4,f4,hw4,g5,g6⟩:=aV code (seed:=q2) (rl.length:Int) (at':=p2) (by omega) (by omega);refine⟨(((c:Nat):Int),p4,q4,t0++[Con.mk w4 [w1,w3]]),?_,rfl,by first | omega | (simp only;omega),by first | omega | (simp only;omega),by simp only[List.length_append,List.length_singleton];omega⟩;simp only;rw[if_pos (by simp<;>omega),f1,bnd_s];simp only;rw[kE (by omega) (by omega),bnd_s,kE (by omega) (by omega),bnd_s,f2,bnd_s];simp only;rw[kE (by omega) (by omega),bnd_s,f3,bnd_s,f4,bnd_s];simp only;rw[zX (by simp only[List.length_cons,List.length_nil];omega),bnd_s,kE (by omega) (by omega),bnd_s]
      simp) (fun st hI=>by
      obtain⟨c0,a0,s0,t0⟩:=st;obtain⟨h1,_⟩:=hI;simp only at h1;subst h1
      rfl) (3+v8).toNat N (3+v8,a8,s8,[]) (by omega) ⟨by first | omega | (simp only;omega),by first | omega | (simp only;omega),by first | omega | (simp only;omega),by simp only[List.length_nil];omega⟩
    rw[e1,thn_nx];exact⟨_,_,_,_,rfl,hrs,.inl (by first | omega | (simp only;omega))⟩
theorem xMe:∃ r,jI 2=some r∧r.tuples.length≤400∧pQ ⟨2,[r]⟩ ⟨2,[⟨0,[0,1]⟩]⟩=true:=⟨⟨2,[[0,0],[1,1]]⟩,by kernel_rfl,by decide,by decide +kernel⟩
theorem xIf (code:List UInt8) {N:Nat} (hN:100≤N):∃ z,jM N code=some z∧Ri z.1 z.2:=by
  obtain⟨t,x,a,s,e,h0,h1⟩:=xMf code hN
  have hsm:tU t:=fun r hr=>by have:=h0 r hr;omega
  obtain⟨i1,i2⟩:=xDp (t:=t) (x:=x) hsm
  unfold jM gE
  rw[bnd_s];simp only;rw[e,bnd_s];simp only;rw[show(Template.mk t.size t.rels)=t from rfl,show(Instance.mk x.vars x.cons)=x from rfl,i1,bnd_s]
  cases hv:pQ t x with
  | true=>
    rw[if_neg (by simp)];refine⟨(t,x),rfl,hsm,hv,?_⟩;have:=(wV hv).1
    show x.vars≤5
    omega
  | false=>
    rw[if_pos (by rfl)];obtain⟨r,r1,r2,r3⟩:=xMe;rw[r1,bnd_s];exact⟨_,rfl,(fun q hq=>by rw[List.mem_singleton.1 hq];show r.tuples.length≤1048576;omega),r3,(by show(2:Int)≤5;decide)⟩
end Go.Proofs.YtncganhbpbehaaaGreat
namespace Go.Proofs.YtncganhbpbehaaaGreat
set_option linter.unusedVariables false
set_option linter.unusedSimpArgs false
set_option maxRecDepth 100000
theorem xEd {α σ ρ:Type} {f:Nat→α→σ→Option (Ctl σ ρ)} (I:Nat→σ→Prop):∀ (l:List α) (k:Nat) (s:σ),I k s→(∀ j x s,l[j]?=some x→I (k+j) s→∃ s',f (k+j) x s=some (.go s')∧I (k+j+1) s')→∃ s',qT f l k s=some (.nx s')∧I (k+l.length) s'
  | [],k,s,h,_=>⟨s,by simp [qT],h⟩
  | a::l,k,s,h,hh=>by
    obtain⟨s',h1,h2⟩:=hh 0 a s rfl h;rw[Nat.add_zero] at h1 h2
    obtain⟨t,h3,h4⟩:=xEd I l (k+1) s' h2 (fun j x s hj hI=>by
      have:=hh (j+1) x s (by simpa using hj) (by rw[show k+(j+1)=k+1+j by omega];exact hI)
      rwa [show k+(j+1)=k+1+j by omega] at this)
    exact⟨t,by rw[kB h1];exact h3,by rw[List.length_cons,show k+(l.length+1)=k+1+l.length by omega];exact h4⟩
theorem jO {α σ ρ:Type} {f:Nat→α→σ→Option (Ctl σ ρ)} {l:List α} {s0:σ} {k:σ→Option ρ} {r:ρ} (I:Nat→σ→Prop) (h0:I 0 s0) (hs:∀ j x s,l[j]?=some x→I j s→∃ s',f j x s=some (.go s')∧I (j+1) s') (hk:∀ s,I l.length s→k s=some r):zR (qT f l 0 s0) k=some r:=by
  obtain⟨s,h1,h2⟩:=xEd I l 0 s0 h0 (fun j x s hj hI=>by rw[Nat.zero_add] at hI ⊢;exact hs j x s hj hI);rw[Nat.zero_add] at h2;rw[h1,thn_nx];exact hk s h2
theorem xGu {σ ρ:Type} {f:σ→Option (Ctl σ ρ)} {N:Nat} {s0:σ} {k:σ→Option ρ} {r:ρ} (I J:σ→Prop) (μ:σ→Nat) (hN:μ s0<N) (h0:I s0) (step:∀ s,I s→(∃ s',f s=some (.go s')∧I s'∧μ s'<μ s)∨(∃ s',f s=some (.brk s')∧J s')) (hk:∀ s,J s→k s=some r):zR (fA f N s0) k=some r:=by
  obtain⟨s,h1,h2⟩:=xAi I J μ step N s0 hN h0;rw[h1,thn_nx];exact hk s h2
theorem eG {σ ρ:Type} {o:Option (Out σ ρ)} {k:σ→Option ρ} {s:σ} {r:ρ} (h:o=some (.nx s)) (hk:k s=some r):zR o k=some r:=by rw[h,thn_nx];exact hk
theorem kM {α ρ:Type} {o:Option α} {k:α→Option ρ} {a:α} {r:ρ} (h:o=some a) (hk:k a=some r):xZ o k=some r:=by rw[h,bnd_s];exact hk
theorem xCu (l:List Literal):dW l l=some true:=by
  unfold dW
  rw[if_neg (by simp)];refine jO (fun _ _=>True) trivial (fun j x s hj _=>⟨(),?_,trivial⟩) (fun _ _=>rfl);simp only;rw[qX hj,bnd_s,if_neg (by simp)]
theorem xCv (l:List Int):eW l l=some true:=by
  unfold eW fG
  rw[if_neg (by simp)];refine kM (a:=true) (jO (fun _ _=>True) trivial (fun j x s hj _=>⟨(),?_,trivial⟩) (fun _ _=>rfl)) rfl;simp only;rw[qX hj,bnd_s,if_neg (by simp)]
theorem xHp (n:Nat):(gL 0 n).Pairwise (· < ·):=by
  unfold gL
  rw[List.pairwise_map];exact(List.pairwise_lt_range' (s:=0) (n:=n)).imp (fun h=>by omega)
theorem xJi {n:Nat} {a:Int} (h:a∈gL 0 n):0≤a∧a<(n:Int):=by
  unfold gL at h
  obtain⟨j,hj,rfl⟩:=List.mem_map.1 h;rw[List.mem_range'_1] at hj
  omega
theorem uU {x:Template} {y:Instance} (h:Ri x y) {L:List Int} (hL:L.Sublist (gL 0 y.cons.length)):aK x y L=some (⟨y.vars,eL y L⟩,0):=by
  have hc:=h.cons;have hm:∀ a∈L,0≤a∧a<(y.cons.length:Int):=fun a ha=>xJi (hL.subset ha);have hp:L.Pairwise (· < ·):=(xHp _).sublist hL
  have hll:L.length≤24:=by have:=hL.length_le;rw[yH] at this;omega
  have hr:gU L 0 ((y.cons.length:Int) - 1)=some true:=by
    unfold gU
    refine jO (fun _ _=>True) trivial (fun j a s hj _=>⟨(),?_,trivial⟩) (fun _ _=>rfl);have hjl:=(List.getElem?_eq_some_iff.1 hj).1;have ha:=hm a (List.mem_of_getElem? hj);refine eG (s:=false) ?_ rfl;rw[iO,bnd_s,if_neg (by simp;omega)]
    by_cases h0:0<(j:Int)
    · obtain⟨i,rfl⟩:∃ i,j=i+1:=⟨j - 1,by omega⟩
      have hi:L[i]?=some L[i]:=List.getElem?_eq_getElem (by omega)
      have hlt:L[i]<a:=by
        have:=List.pairwise_iff_getElem.1 hp i (i+1) (by omega) hjl (by omega);rw[(List.getElem?_eq_some_iff.1 hj).2] at this;exact this
      rw[if_pos (by simp),kE (by omega) (by omega),bnd_s,show((i+1:Nat):Int) - 1=(i:Int) by omega,qX hi,bnd_s,decide_eq_false (by omega)]
    · rw[if_neg (by simpa using h0)]
  unfold aK
  refine kM h.inst.1 ?_;rw[if_neg (by simp)];refine kM (kE (by omega) (by omega)) (kM hr ?_);rw[if_neg (by simp)];refine jO (fun k s=>s=eL y (L.take k)) rfl (fun j a s hj hI=>?_) (fun s hI=>by rw[hI,List.take_length]);have hjl:=(List.getElem?_eq_some_iff.1 hj).1;have ha:=hm a (List.mem_of_getElem? hj);have hcc:=ixC (l:=y.cons) ha.1 ha.2
  have hmem:y.cons.getD a.toNat (Con.mk 0 [])∈y.cons:=by rw[List.getD_eq_getElem?_getD,List.getElem?_eq_getElem (by omega)];exact List.getElem_mem _
  have h4:=(h.cok _ hmem).four
  have hsl:s.length≤24:=by rw[hI];unfold eL;rw[List.length_map,List.length_take];omega
  refine⟨s++[y.cons.getD a.toNat (Con.mk 0 [])],?_,?_⟩
  · rw[hcc,bnd_s,own_eq _ (by omega),bnd_s,zX (by simp only[List.length_cons,List.length_nil];omega),bnd_s]
  · rw[hI,List.take_add_one,hj]
    unfold eL
    rw[List.map_append]
    rfl
theorem xEa {α:Type} (l:List α) (k:Nat):(l.take k++l.drop (k+1)).Sublist l:=by
  have h1:(l.drop (k+1)).Sublist (l.drop k):=by
    rw[← List.drop_drop];exact List.drop_sublist _ _
  have:=List.Sublist.append (List.Sublist.refl (l.take k)) h1
  rwa [List.take_append_drop] at this
theorem xJo {α:Type} {l:List α} {k:Nat} (h:k<l.length):sl l 0 (k:Int)=some (l.take k):=by
  unfold sl
  rw[if_pos ⟨by omega,by omega,by omega⟩]
  simp
theorem xHo {α:Type} {l:List α} {k:Nat} (h:k<l.length):sl l ((k:Int)+1) (l.length:Int)=some (l.drop (k+1)):=by
  unfold sl
  rw[if_pos ⟨by omega,by omega,by omega⟩,show((k:Int)+1).toNat=k+1 by omega]
  simp
theorem xKk (code:List UInt8) {n:Int} (hn:1≤n∧n≤200):∃ v,jP code n=some v∧0≤v∧v<n:=by
  obtain⟨v,a,s,e,hv,_⟩:=aV code (seed:=0) n (at':=0) (by omega) hn
  unfold jP gE
  rw[bnd_s];simp only;rw[e,bnd_s];exact⟨v,rfl,hv⟩
theorem law_FnLearnt {N:Nat} (hN:5100≤N) (x y:List UInt8):laws_FnLearnt N x y=some true:=by
  unfold laws_FnLearnt laws_f6big
  refine eG (s:=(decide (4096<(x.length:Int)) || decide (4096<(y.length:Int)))) (by rw[bnd_s,bnd_s];cases decide (4096<(x.length:Int))<;>rfl) ?_
  by_cases hbig:(decide (4096<(x.length:Int)) || decide (4096<(y.length:Int)))=true
  · rw[if_pos hbig]
  rw[if_neg hbig]
  have hy:y.length≤4096:=by simp only[Bool.or_eq_true,decide_eq_true_eq] at hbig;omega
  obtain⟨⟨t,i⟩,e,h⟩:=xIf x (N:=N) (by omega);refine kM e ?_
  change Ri t i at h
  have hv:=h.vars;have hs:=h.size;have hc:=h.cons
  try dsimp only
  refine xGu (fun s=>CL t i s.1∧s.1.map Literal.var=gL 0 s.1.length∧s.2=(s.1.length:Int)∧s.1.length≤3) (fun s=>CL t i s.1∧s.1.map Literal.var=gL 0 s.1.length∧s.1.length≤3) (fun s=>3 - s.1.length) (by simp only;omega) ⟨(fun _ hl=>nomatch hl),rfl,rfl,by simp⟩ (fun s hI=>?_) (fun s hJ=>?_)
  · obtain⟨l,v⟩:=s
    obtain⟨h1,h2,h3,h4⟩:=hI;simp only at h1 h2 h3 h4;subst h3
    by_cases hcond:(l.length:Int)<i.vars∧(l.length:Int)<3
    · left
      obtain⟨a,ha,ha2⟩:=xKk (u8w (l.length:Int)::y) (n:=t.size) (by omega);refine⟨(l++[Literal.mk (l.length:Int) a],(l.length:Int)+1),?_,⟨fun z hz=>?_,?_,?_,?_⟩,?_⟩
      · dsimp only
        refine eG (s:=true) (by rw[if_pos (by simpa using hcond.1),decide_eq_true hcond.2]) ?_;rw[if_pos rfl];refine kM (zX (by simp only[List.length_cons,List.length_nil];omega)) (kM ha (kM (zX (by simp only[List.length_cons,List.length_nil];omega)) (kM (kE (by omega) (by omega)) rfl)))
      · rcases List.mem_append.1 hz with hz | hz
        · exact h1 z hz
        · rw[List.mem_singleton.1 hz];exact⟨⟨by show(0:Int)≤(l.length:Int);omega,hcond.1⟩,ha2⟩
      · simp only[List.map_append,h2,List.map_cons,List.map_nil,List.length_append,List.length_singleton]
        unfold gL
        rw[List.range'_concat,List.map_append]
        simp
      · simp
      · simp only[List.length_append,List.length_singleton];omega
      · simp only[List.length_append,List.length_singleton];omega
    · right
      refine⟨(l,(l.length:Int)),?_,h1,h2,h4⟩
      try dsimp only
      refine eG (s:=false) ?_ (by rw[if_neg (by simp)])
      by_cases h5:(l.length:Int)<i.vars
      · rw[if_pos (by simpa using h5),decide_eq_false (fun h6=>hcond ⟨h5,h6⟩)]
      · rw[if_neg (by simpa using h5)]
  obtain⟨l,v⟩:=s;obtain⟨hcl,hvar,hl3⟩:=hJ;simp only at hcl hvar hl3
  have hnd:(l.map Literal.var).Nodup:=by rw[hvar];exact(xHp _).imp (fun h=>by omega)
  try dsimp only
  obtain⟨r0,a1,_,hr0⟩:=lM hN h hcl;refine kM a1 ?_;obtain⟨L,c2,a2,hc2⟩:=xNa h hN;refine kM a2 ?_
  try dsimp only
  refine eG (s:=false) ?_ ?_
  · rw[if_neg (by simp)]
    rcases hc2 with rfl | ⟨rfl,_⟩<;>rfl
  rw[if_neg (by simp)];refine eG (s:=()) ?_ ?_
  · rcases hc2 with rfl | ⟨rfl,hL200,hL⟩
    · rw[if_neg (by decide)]
    · rw[if_pos (by rfl)]
      let p:List Int→Bool:=fun vs=>l.all fun a=>vs.getD a.var.toNat 0==a.value
      have hp:∀ vs,p vs=true↔tC l vs:=fun vs=>by
        show(l.all _=true)↔_
        rw[List.all_eq_true]
        unfold tC
        constructor
        · intro h a ha;simpa using h a ha
        · intro h a ha;simpa using h a ha
      refine jO (fun k s=>s=(L.take k).any p) rfl (fun j vs s hj hI=>⟨(L.take (j+1)).any p,?_,rfl⟩) (fun s hI=>?_)
      · have hS:=(hL vs).1 (List.mem_of_getElem? hj)
        refine jO (fun k s=>s=(l.take k).all fun a=>vs.getD a.var.toNat 0==a.value) rfl (fun j a s hj hI=>⟨(l.take (j+1)).all fun a=>vs.getD a.var.toNat 0==a.value,?_,rfl⟩) (fun s2 hI2=>?_)
        · have ha:=hcl a (List.mem_of_getElem? hj)
          have hix:ix vs a.var=some (vs.getD a.var.toNat 0):=by
            refine gN ha.1.1 ?_;have:=hS.1;rw[List.getD_eq_getElem?_getD,List.getElem?_eq_getElem (by omega)];rfl
          have e3:((l.take (j+1)).all fun a=>vs.getD a.var.toNat 0==a.value)=(s && (vs.getD a.var.toNat 0==a.value)):=by
            rw[List.take_add_one,hj,List.all_append,← hI]
            simp
          rw[e3];refine eG (s:=(s && (vs.getD a.var.toNat 0==a.value))) ?_ rfl
          cases s with
          | true=>rw[if_pos rfl,hix,bnd_s];rfl
          | false=>rfl
        · rw[List.take_length] at hI2
          have e4:(L.take (j+1)).any p=(s || s2):=by
            rw[List.take_add_one,hj,List.any_append,← hI,hI2]
            simp [p]
          rw[e4];refine eG (s:=(s || s2)) ?_ rfl
          cases s<;>rfl
      · rw[List.take_length] at hI
        have hne:(r0==s)=false:=by
          rw[beq_eq_false_iff_ne];intro e5
          cases hs0:s with
          | true=>
            rw[hs0] at hI e5;obtain⟨vs,hm,hpv⟩:=List.any_eq_true.1 hI.symm;exact hr0.1 e5 vs ((hL vs).1 hm) ((hp vs).1 hpv)
          | false=>
            rw[hs0] at hI e5
            have:r0=true:=hr0.2 (fun vs hS hF=>by
              have:=List.any_eq_false.1 hI.symm vs ((hL vs).2 hS)
              exact this ((hp vs).2 hF))
            rw[this] at e5
            cases e5
        rw[if_neg (by rw[hne];simp)]
  obtain⟨r,c3,a3,a4,hsh⟩:=tY h hcl (by omega) hN;refine kM a3 (kM a4 ?_)
  try dsimp only
  refine eG (s:=false) ?_ ?_
  · rw[if_neg (by simp)]
    refine kM (xCu r) ?_;rw[if_neg (by simp)]
    congr 2
    rcases hsh with ⟨rfl,hb⟩ | ⟨rfl,hb,_⟩
    · cases r0 with
      | true=>exact absurd (hr0.1 rfl) hb
      | false=>rfl
    · rw[hr0.2 hb];rfl
  rw[if_neg (by simp)];refine eG (s:=()) ?_ ?_
  · cases r0 with
    | false=>rfl
    | true=>
      rw[if_pos rfl]
      rcases hsh with ⟨_,hb⟩ | ⟨rfl,_,hrcl,hrb,hrs,hrm⟩
      · exact absurd (hr0.1 rfl) hb
      · have hrl:r.length≤3:=by have:=hrs.length_le;omega
        refine jO (fun _ _=>True) trivial (fun j a s hj _=>⟨(),?_,trivial⟩) (fun _ _=>rfl);have hjl:=(List.getElem?_eq_some_iff.1 hj).1;obtain⟨q,b1,_,b2⟩:=lM hN h (l:=r.take j++r.drop (j+1)) (fun z hz=>hrcl z ((xEa r j).subset hz))
        have hq:q=false:=by
          cases q with
          | false=>rfl
          | true=>exact absurd (b2.1 rfl) (hrm j hjl)
        subst hq
        try dsimp only
        refine kM (xJo hjl) (kM (kE (by omega) (by omega)) (kM (xHo hjl) (kM (a:=r.take j) (zX (by simp;omega)) (kM (a:=r.take j++r.drop (j+1)) (zX (by simp;omega)) (kM b1 ?_)))));refine eG (s:=false) (by rw[if_neg (by simp)]) ?_;rw[if_neg (by simp)]
  refine eG (s:=(r0 && (decide (0<(r.length:Int)) && (decide ((t.rels.length:Int)<6) && decide ((i.cons.length:Int)<24))))) ?_ ?_
  · cases r0 with
    | false=>rfl
    | true=>
      cases decide (0<(r.length:Int)) with
      | false=>rfl
      | true=>cases decide ((t.rels.length:Int)<6)<;>rfl
  refine eG (s:=()) ?_ ?_
  · by_cases hadd:(r0 && (decide (0<(r.length:Int)) && (decide ((t.rels.length:Int)<6) && decide ((i.cons.length:Int)<24))))=true
    · rw[if_pos hadd]
      simp only[Bool.and_eq_true,decide_eq_true_eq] at hadd;obtain⟨q0,q1,q2,q3⟩:=hadd
      rcases hsh with ⟨_,hb⟩ | ⟨rfl,_,hrcl,hrb,hrs,hrm⟩
      · exact absurd (hr0.1 q0) hb
      · have hrl:=hrs.length_le
        obtain⟨u,z,b1,b2,b3,b4⟩:=xMm h hrcl ((hrs.map Literal.var).nodup hnd) (by omega) hrb (by omega) (by omega) hN;refine kM b1 (kM (xFu b3 hN) (kM (xGe h hN) ?_))
        try dsimp only
        refine eG (s:=false) ?_ (by rw[if_neg (by simp)]);rw[if_neg (by simp)];refine kM (kE (by omega) (by omega)) ?_;rw[if_neg (by rw[b2];simp),if_neg (by simp),if_neg (by simp),xFx h b3 b4]
        simp
    · rw[if_neg hadd]
  obtain⟨ql,c8,a8,hl8,hle⟩:=xIl hN h;obtain⟨rs,c9,a9,a10,hrl9,hre⟩:=sR hN h;refine kM a8 (kM a9 (kM a10 ?_))
  try dsimp only
  refine eG (s:=false) ?_ ?_
  · rw[if_neg (by simp)]
    exact kM (xCv rs) rfl
  rw[if_neg (by simp)]
  rcases hre with ⟨rfl,vs,hS⟩ | ⟨rfl,hno,hrsn,hrmin⟩
  · rw[if_pos (by decide)]
    rcases hle with ⟨rfl,_⟩ | ⟨_,hno,_⟩
    · rfl
    · exact absurd hS (hno vs)
  rw[if_neg (by decide)]
  rcases hle with ⟨_,vs,hS⟩ | ⟨hc8,_,hng⟩
  · exact absurd hS (hno vs)
  refine xGu (fun s=>0≤s∧s≤8) (fun _=>True) (fun s=>(8 - s).toNat) (by simp;omega) ⟨by omega,by omega⟩ (fun s hI=>?_) (fun s _=>?_)
  · by_cases hcond:s<(ql.length:Int)∧s<8
    · left
      have hqm:ix ql s=some (ql[s.toNat]'(by omega)):=gN hI.1 (List.getElem?_eq_getElem (by omega));have hq:=hng _ (List.getElem_mem (show s.toNat<ql.length by omega));obtain⟨q,b1,_,b2⟩:=lM hN h hq.1;have hqt:q=true:=b2.2 hq.2;subst hqt;refine⟨s+1,?_,⟨by omega,by omega⟩,by omega⟩;refine eG (s:=true) (by rw[if_pos (by simpa using hcond.1),decide_eq_true hcond.2]) ?_;rw[if_pos rfl];refine kM hqm (kM b1 ?_);refine eG (s:=false) (by rw[if_neg (by simp)];rfl) ?_;rw[if_neg (by simp)];exact kM (kE (by omega) (by omega)) rfl
    · right
      refine⟨s,?_,trivial⟩;refine eG (s:=false) ?_ (by rw[if_neg (by simp)])
      by_cases h5:s<(ql.length:Int)
      · rw[if_pos (by simpa using h5),decide_eq_false (fun h6=>hcond ⟨h5,h6⟩)]
      · rw[if_neg (by simpa using h5)]
  refine kM (uU h hrsn.sub) ?_
  have hin:∀ M:List Int,M.Sublist (gL 0 i.cons.length)→Ri t ⟨i.vars,eL i M⟩:=fun M hM=>h.some (fun c hcc=>by
    have:=xBj (y:=i) (fun a ha=>hM.subset ha) c hcc
    rwa [xBk] at this) (by unfold eL;rw[List.length_map];have:=hM.length_le;rw[yH] at this;omega)
  obtain⟨o,c12,a12,h12⟩:=xBi (hin rs hrsn.sub) hN
  have hc12:c12=6:=by
    rcases h12 with ⟨_,vs,hS⟩ | ⟨h,_⟩
    · exact absurd hS (hrsn.no vs)
    · exact h
  subst hc12;refine kM a12 ?_
  try dsimp only
  refine eG (s:=false) (by rw[if_neg (by simp)];rfl) ?_;rw[if_neg (by simp)];refine jO (fun _ _=>True) trivial (fun j a s hj _=>⟨(),?_,trivial⟩) (fun _ _=>?_)
  · have hjl:=(List.getElem?_eq_some_iff.1 hj).1
    have hsub:=(xEa rs j).trans hrsn.sub;obtain⟨o,c13,a13,h13⟩:=xBi (hin _ hsub) hN
    have hc13:c13=0:=by
      rcases h13 with ⟨h,_⟩ | ⟨_,hno⟩
      · exact h
      · obtain⟨vs,hS⟩:=hrmin j hjl
        exact absurd hS (hno vs)
    subst hc13
    try dsimp only
    refine kM (xJo hjl) (kM (kE (by omega) (by omega)) (kM (xHo hjl) (kM (a:=rs.take j) (zX (by simp;omega)) (kM (a:=rs.take j++rs.drop (j+1)) (zX (by simp;omega)) (kM (uU h hsub) (kM a13 ?_))))))
    try dsimp only
    refine eG (s:=false) (by rw[if_neg (by simp)];rfl) ?_;rw[if_neg (by simp)]
  refine eG (s:=true) ?_ rfl
  rcases hc8 with rfl | rfl<;>rfl
end Go.Proofs.YtncganhbpbehaaaGreat
