import Derived.Test.YtlommebgedmjdaaGreatDoorM70
import Derived.Laws.Bits64b
import Derived.Test.YtlommebgedmjdaaGreatDoorM42
import Derived.Test.YtlommebgedmjdaaGreatDoorLL
namespace Go.Proofs.YtlommebgedmjdaaGreatDoor
set_option linter.unusedVariables false
set_option linter.unusedSimpArgs false
set_option maxRecDepth 100000
theorem xMb {σ ρ:Type} {f:Nat→σ→Option (Ctl σ ρ)} (I:Nat→σ→Prop):∀ (m k:Nat) (s:σ),I k s→(∀ j s,k≤j→j<k+m→I j s→∃ s',f j s=some (.go s')∧I (j+1) s')→∃ s',aY f m k s=some (.nx s')∧I (k+m) s'
  | 0,k,s,h,_=>⟨s,rfl,h⟩
  | m+1,k,s,h,hh=>by
    obtain⟨s',h1,h2⟩:=hh k s (by omega) (by omega) h;obtain⟨t,h3,h4⟩:=xMb I m (k+1) s' h2 (fun j s hj hm=>hh j s (by omega) (by omega));exact⟨t,by rw[fL h1];exact h3,by rw[show k+(m+1)=k+1+m by omega];exact h4⟩
theorem xAv {σ ρ:Type} {f:σ→Option (Ctl σ ρ)} (I:Nat→σ→Prop) (go:∀ c s,I (c+1) s→∃ s',f s=some (.go s')∧I c s') (stop:∀ s,I 0 s→f s=some (.brk s)):∀ (c N:Nat) (s:σ),c<N→I c s→∃ s',whl f N s=some (.nx s')∧I 0 s'
  | c,0,s,h,_=>by omega
  | 0,N+1,s,_,h=>⟨s,wB (stop s h),h⟩
  | c+1,N+1,s,hN,h=>by
    obtain⟨s',h1,h2⟩:=go c s h;obtain⟨t,h3,h4⟩:=xAv I go stop c N s' (by omega) h2;exact⟨t,by rw[uH h1];exact h3,h4⟩
theorem oBs (x:Int):∃ n:Nat,n<18446744073709551616∧IntKind.u64.wrap x=(n:Int):=by
  have h:IntKind.u64.wrap x=x % 18446744073709551616:=by
    unfold IntKind.wrap
    simp [show IntKind.u64.bits=64 from rfl,show IntKind.u64.signed=false from rfl]
  rw[h];exact⟨(x % 18446744073709551616).toNat,by omega,by omega⟩
theorem xWs (x:Int):0≤IntKind.i64.wrap (Go.bits .and .u64 (IntKind.u64.wrap x / 2 ^ (40:Int).toNat) 255):=by
  obtain⟨n,h1,h2⟩:=oBs x;rw[h2,show((n:Int) / 2 ^ (40:Int).toNat)=((n / 1099511627776:Nat):Int) by simp,show(255:Int)=((255:Nat):Int) from rfl,bits_and_u64_nat _ _ (by omega) (by decide)];have h3:(n / 1099511627776) &&& 255≤255:=Nat.and_le_right;rw[IntWalk.i64_in _ ⟨by omega,by omega⟩]
  omega
theorem xVz (code:List UInt8) {at' seed:Int} (h:0≤at'∧at'≤1000000):∃ v s,dC code at' seed=some (v,at'+1,s)∧0≤v:=by
  unfold dC
  have hb:∃ b:Int,0≤b∧(if (decide (at'<(code.length:Int)))=true then xK (ix code at') fun z23=>some (Out.nx (σ:=Int) (ρ:=Int×Int×Int) (z23.toNat:Int)) else some (.nx 0))=some (.nx b):=by
    by_cases hl:at'<(code.length:Int)
    · refine⟨(code[at'.toNat]'(by omega)).toNat,by omega,?_⟩
      rw[if_pos (by simpa using hl),gQ h.1 (List.getElem?_eq_getElem (by omega)),bnd_s]
    · exact⟨0,by omega,by rw[if_neg (by simpa using hl)]⟩
  obtain⟨b,h0,e⟩:=hb;rw[e,thn_nx,kW (by omega) (by omega),bnd_s,xTl h0,bnd_s]
  split
  · exact⟨_,_,rfl,h0⟩
  · exact⟨_,_,rfl,xWs _⟩
theorem oCa {x n:Int} (h:0≤x) (hn:1<n):∃ v,rm x n=some v∧0≤v∧v<n:=by
  refine⟨x.tmod n,by unfold rm;rw[if_neg (by omega)],Int.tmod_nonneg _ h,Int.tmod_lt_of_pos _ (by omega)⟩
theorem gS (code:List UInt8) {at' seed:Int} (n:Int) (h:0≤at'∧at'≤1000000) (hn:1≤n∧n≤200):∃ v a s,xR code at' seed n=some (v,a,s)∧(0≤v∧v<n)∧at'≤a∧a≤at'+1:=by
  unfold xR
  by_cases h1:n≤1
  · rw[if_pos (by simpa using h1)]
    exact⟨0,at',seed,rfl,by omega,by omega⟩
  · rw[if_neg (by simpa using h1)]
    obtain⟨x,s,e,hx⟩:=xVz code (seed:=seed) h;obtain⟨v,e2,h2⟩:=oCa hx (show 1<n by omega);rw[e,bnd_s,if_neg (by simp<;>omega),e2,bnd_s];exact⟨v,_,_,rfl,h2,by simp only;omega,by simp only;omega⟩
theorem xUw {σ ρ:Type} {f:σ→Option (Ctl σ ρ)} (I J:σ→Prop) (μ:σ→Nat) (step:∀ s,I s→(∃ s',f s=some (.go s')∧I s'∧μ s'<μ s)∨(∃ s',f s=some (.brk s')∧J s')):∀ (N:Nat) (s:σ),μ s<N→I s→∃ s',whl f N s=some (.nx s')∧J s'
  | 0,s,h,_=>by omega
  | N+1,s,h,hI=>by
    rcases step s hI with ⟨s',h1,h2,h3⟩ | ⟨s',h1,h2⟩
    · obtain⟨t,h4,h5⟩:=xUw I J μ step N s' (by omega) h2
      exact⟨t,by rw[uH h1];exact h4,h5⟩
    · exact⟨s',wB h1,h2⟩
theorem xZg (code:List UInt8) {p seed:Int} (n:Int) (h:0≤p∧p≤1000000) (hn:1≤n∧n≤200):∃ v a s,cK code p seed n=some (v,a,s)∧p≤a∧a≤p+1:=by
  obtain⟨v,a,s,e,_,h1,h2⟩:=gS code (seed:=seed) n h hn
  unfold cK
  rw[e,bnd_s];exact⟨_,_,_,rfl,h1,h2⟩
theorem xKp (code:List UInt8) {p seed:Int} (l:List Int) (h:0≤p∧p≤1000000) (hn:1≤l.length∧l.length≤200):∃ v a s,kQ code p seed l=some (v,a,s)∧v∈l∧p≤a∧a≤p+1:=by
  obtain⟨v,a,s,e,hv,h1,h2⟩:=gS code (seed:=seed) (l.length:Int) h (by omega)
  unfold kQ
  rw[e,bnd_s,gQ hv.1 (List.getElem?_eq_getElem (by omega)),bnd_s];exact⟨_,_,_,rfl,List.getElem_mem _,h1,h2⟩
theorem uB {α:Type} {f:Nat→α→Unit→Option (Ctl Unit Bool)}:∀ (l:List α) (k:Nat),(∀ j x,l[j]?=some x→f (k+j) x ()=some (.go ()))→oM f l k ()=some (.nx ())
  | [],_,_=>rfl
  | x::l,k,h=>by
    have h0:=h 0 x rfl;rw[Nat.add_zero] at h0;rw[qV h0];exact uB l (k+1) (fun j y hj=>by rw[show k+1+j=k+(j+1) by omega];exact h (j+1) y hj)
theorem xQw {T n:Nat} {t:List Int} (h:t∈vW T n):lD (T:Int) t (n:Int)=true:=by
  obtain⟨h1,h2⟩:=iP.1 h
  unfold lD
  rw[Bool.and_eq_true,beq_iff_eq,List.all_eq_true];refine⟨by omega,fun a ha=>?_⟩;have:=h2 a ha
  unfold okV
  simp
  omega
theorem xQd {T:Nat} {r:Rel} (hT:1≤T∧T≤4) (h:xNr T r):mV (T:Int) r=true:=by
  have hlen:=h.len hT;obtain⟨n,ha,h1,h2,h3,h4⟩:=h
  have hs:okS (T:Int)=true:=by unfold okS;simp;omega
  have ho:okS r.arity=true:=by unfold okS;rw[ha];simp;omega
  unfold mV bP
  rw[xBj,bnd_s,hs,yP,bnd_s,ho];simp only[Bool.not_true,Bool.false_eq_true,if_false,thn_nx]
  rw[uB r.tuples 0 (fun j t hj=>by
    rw[Nat.zero_add];have hjl:=(List.getElem?_eq_some_iff.1 hj).1
    have hv:lD (T:Int) t r.arity=true:=by rw[ha];exact xQw (h4 t (List.mem_of_getElem? hj))
    simp only[pA hs,bnd_s,hv,Bool.not_true,Bool.false_eq_true,if_false]
    by_cases h0:0<j
    · have hp:r.tuples[j - 1]?=some (r.tuples[j - 1]'(by omega)):=List.getElem?_eq_getElem (by omega)
      have hc:cO (r.tuples[j - 1]'(by omega)) t<0:=by
        have h5:=(List.pairwise_iff_getElem.1 h3) (j - 1) j (by omega) hjl (by omega);have h6:r.tuples[j]=t:=(List.getElem?_eq_some_iff.1 hj).2
        rwa [h6] at h5
      rw[if_pos (by simpa using h0),kW (by omega) (by omega),bnd_s,gQ (by omega) (by rw[show((j:Int) - 1).toNat=j - 1 by omega];exact hp),bnd_s,yT,bnd_s,thn_nx];rw[if_neg (by simp;omega)]
    · rw[if_neg (by simpa using h0),thn_nx,if_neg (by simp)])]
  rfl
theorem iY {T:Nat} {u:Template} (h:TV T u):gU u=true:=by
  unfold gU
  rw[h.s,Bool.and_eq_true,Bool.and_eq_true];refine⟨by unfold okS;have:=h.t;simp;omega,by have:=h.n;simp;omega,List.all_eq_true.2 fun r hr=>xQd h.t (h.r r hr)⟩
theorem TV.small {T:Nat} {u:Template} (h:TV T u):aI u:=fun r hr=>by have:=(h.r r hr).len h.t;omega
def RD (T:Nat) (r:Rel):Prop:=xNr T r∧r.arity≤3
theorem xTh (code:List UInt8) {p seed:Int} {T n N:Nat} (h:0≤p∧p≤900000) (hT:1≤T∧T≤4) (hn:1≤n∧n≤3) (hN:10≤N):∃ r a s,gK N code p seed (T:Int) (n:Int)=some (r,a,s)∧RD T r∧p≤a∧a≤p+600:=by
  have hn':1≤n∧n≤4:=by omega
  have hlen:=rA hT hn'
  unfold gK
  obtain⟨v,a,s,e,hv,ha1,ha2⟩:=gS code (seed:=seed) 5 (at':=p) (by omega) (by decide);rw[e,bnd_s,(xCg hT hn' hN).2,bnd_s,Int.toNat_natCast];simp only
  obtain⟨⟨a1,s1,t1⟩,e1,i1⟩:=xMb (f:=fun(k209:Nat) (s:Int×Int×(List (List Int)))=>
    match s with
    | (s197,s199,s200)=>
    vC (σ:=Bool×Int×Int) (
     xK (xR code s197 s199 5) fun z238=>
     if (decide (z238.1≤v)) then  some (.nx (true,z238.2.1,z238.2.2)) else  xK (cK code z238.2.1 z238.2.2 8) fun z247=>
      some (.nx (z247.1,z247.2.1,z247.2.2))) fun(s234,s235,s237)=>
    if s234 then
     xK (kH N (T:Int) (n:Int) (k209:Int)) fun z255=>
     xK (ap s200 ([z255])) fun z262=>
     some (.go (s235,s237,z262))
    else
     some (.go (s235,s237,s200))) (ρ:=Rel×Int×Int) (fun k s=>p≤s.1∧s.1≤p+1+2*k∧s.2.2.length≤k∧s.2.2.Sublist ((vW T n).take k)) (vW T n).length 0 (a,s,[]) ⟨by first | omega | (simp only;omega),by first | omega | (simp only;omega),by simp,List.nil_sublist _⟩ (fun j st _ hj hI=>by
    obtain⟨a0,s0,t0⟩:=st;obtain⟨h1,h2,h3,h4⟩:=hI;simp only at h1 h2 h3 h4;obtain⟨v2,a2,s2,e2,hv2,hb1,hb2⟩:=gS code (seed:=s0) 5 (at':=a0) (by omega) (by decide)
    have hq:∃ b a3 s3,(xK (xR code a0 s0 5) fun z238=>
     if (decide (z238.1≤v)) then  some (Out.nx (σ:=Bool×Int×Int) (ρ:=Ctl (Int×Int×(List (List Int))) (Rel×Int×Int)) (true,z238.2.1,z238.2.2)) else  xK (cK code z238.2.1 z238.2.2 8) fun z247=>
      some (.nx (z247.1,z247.2.1,z247.2.2)))=some (.nx (b,a3,s3))∧p≤a3∧a3≤a0+2:=by
      rw[e2,bnd_s];simp only
      split
      · exact⟨_,_,_,rfl,by omega,by omega⟩
      · obtain⟨v4,a4,s4,e4,hc1,hc2⟩:=xZg code (seed:=s2) 8 (p:=a2) (by omega) (by decide)
        rw[e4,bnd_s];exact⟨_,_,_,rfl,by first | omega | (simp only;omega),by first | omega | (simp only;omega)⟩
    obtain⟨b,a3,s3,e3,hd1,hd2⟩:=hq;simp only;rw[e3,thn_nx];simp only
    cases b with
    | true=>
      have hdg:kH N (T:Int) (n:Int) (j:Int)=some (vW T n)[j]:=xGm hT hn' hN (by omega);rw[if_pos rfl,hdg,bnd_s,zD (by simp only[List.length_cons,List.length_nil];omega),bnd_s];refine⟨_,rfl,by first | omega | (simp only;omega),by first | omega | (simp only;omega),by simp only[List.length_append,List.length_singleton];omega,?_⟩;have h5:=h4.append (List.Sublist.refl [(vW T n)[j]'(by omega)])
      rwa [List.take_append_getElem] at h5
    | false=>
      rw[if_neg (by simp)]
      exact⟨_,rfl,by first | omega | (simp only;omega),by first | omega | (simp only;omega),by first | omega | (simp only;omega),h4.trans (List.take_sublist_take_left (by omega))⟩)
  rw[e1,thn_nx];obtain⟨h1,h2,h3,h4⟩:=i1;simp only[Nat.zero_add] at h1 h2 h3 h4;have h5:=h4.trans (List.take_sublist _ _);exact⟨_,_,_,rfl,⟨⟨n,rfl,hn.1,by omega,(xAb T n).sublist h5,fun t ht=>h5.subset ht⟩,by simp only;omega⟩,h1,by omega⟩
theorem xIt (code:List UInt8) {p seed:Int} {T N:Nat} (h:0≤p∧p≤800000) (hT:1≤T∧T≤4) (hN:100≤N):∃ t a s,kU N code p seed (T:Int)=some (t,a,s)∧t.size=T∧t.rels.length≤3∧(∀ r∈t.rels,RD T r)∧p≤a∧a≤p+3000:=by
  unfold kU
  obtain⟨v,a,s,e,hv,ha1,ha2⟩:=gS code (seed:=seed) 4 (at':=p) (by omega) (by decide);rw[e,bnd_s];simp only
  obtain⟨⟨c1,a1,s1,t1⟩,e1,i1⟩:=xAv (ρ:=Template×Int×Int) (f:=fun(s:Int×Int×Int×(List Rel))=>
    match s with
    | (s367,s369,s371,s372)=>
    if (decide (0<s367)) then
     xK (kQ code s369 s371 ([1,2,2,2,3])) fun z401=>
     xK (gK N code z401.2.1 z401.2.2 (T:Int) z401.1) fun z409=>
     xK (ap s372 ([(Rel.mk z409.1.arity z409.1.tuples)])) fun z422=>
     xK (ck (s367 - 1)) fun z549=>
     some (.go (z549,z409.2.1,z409.2.2,z422))
    else
     some (.brk (s367,s369,s371,s372))) (fun c s=>s.1=(c:Int)∧p≤s.2.1∧s.2.1+650*c≤p+2900∧s.2.2.2.length+c≤3∧∀ r∈s.2.2.2,RD T r) (fun c st hI=>by
      obtain⟨c0,a0,s0,t0⟩:=st;obtain⟨h1,h2,h3,h4,h5⟩:=hI;simp only at h1 h2 h3 h4 h5;subst h1;obtain⟨v2,a2,s2,e2,hv2,hb1,hb2⟩:=xKp code (seed:=s0) [1,2,2,2,3] (p:=a0) (by omega) (by decide);have hv3:∃ n:Nat,v2=n∧1≤n∧n≤3:=⟨v2.toNat,by simp at hv2;omega,by simp at hv2;omega,by simp at hv2;omega⟩;obtain⟨n,rfl,hn1,hn2⟩:=hv3;obtain⟨r,a3,s3,e3,hr,hd1,hd2⟩:=xTh code (p:=a2) (seed:=s2) (N:=N) (by omega) hT ⟨hn1,hn2⟩ (by omega);refine⟨(((c:Nat):Int),a3,s3,t0++[r]),?_,rfl,by first | omega | (simp only;omega),by first | omega | (simp only;omega),by simp only[List.length_append,List.length_singleton];omega,fun q hq=>?_⟩
      · simp only
        rw[if_pos (by simp<;>omega),e2,bnd_s,e3,bnd_s];simp only;rw[zD (by simp only[List.length_cons,List.length_nil];omega),bnd_s,kW (by omega) (by omega),bnd_s]
        simp
      · rcases List.mem_append.1 hq with hq | hq
        · exact h5 q hq
        · rw[List.mem_singleton.1 hq];exact hr) (fun st hI=>by
      obtain⟨c0,a0,s0,t0⟩:=st;obtain⟨h1,_⟩:=hI;simp only at h1;subst h1
      rfl) v.toNat N (v,a,s,[]) (by omega) ⟨by first | omega | (simp only;omega),by first | omega | (simp only;omega),by first | omega | (simp only;omega),by simp only[List.length_nil];omega,fun r hr=>nomatch hr⟩
  rw[e1,thn_nx];obtain⟨h1,h2,h3,h4,h5⟩:=i1;simp only at h1 h2 h3 h4 h5;exact⟨_,_,_,rfl,rfl,by first | omega | (simp only;omega),h5,h2,by first | omega | (simp only;omega)⟩
theorem xOs (code:List UInt8) {a0 s0 V:Int} {m N:Nat} {ρ:Type} (h:0≤a0∧a0≤900000) (hV:1≤V∧V≤200) (hm:m≤4) (hN:m<N):∃ a s l,
    whl (σ:=Int×Int×Int×(List Int)) (ρ:=ρ) (fun(s:Int×Int×Int×(List Int))=>
        match s with
        | (s659,s661,s663,s664)=>
        if (decide (0<s659)) then
         xK (xR code s661 s663 V) fun z682=>
         xK (ap s664 ([z682.1])) fun z692=>
         xK (ck (s659 - 1)) fun z730=>
         some (.go (z730,z682.2.1,z682.2.2,z692))
        else
         some (.brk (s659,s661,s663,s664))) N ((m:Int),a0,s0,[])=some (.nx (0,a,s,l))∧l.length=m∧(∀ i∈l,0≤i∧i<V)∧a0≤a∧a≤a0+m:=by
  obtain ⟨⟨c3, a3, s3, t3⟩, e3, i3⟩ := xAv (ρ := ρ) (f := fun (s : Int × Int × Int × (List Int)) =>
        match s with
        | (s659,s661,s663,s664)=>
        if (decide (0<s659)) then
         xK (xR code s661 s663 V) fun z682=>
         xK (ap s664 ([z682.1])) fun z692=>
         xK (ck (s659 - 1)) fun z730=>
         some (.go (z730,z682.2.1,z682.2.2,z692))
        else
         some (.brk (s659,s661,s663,s664))) (fun c s=>s.1=(c:Int)∧a0≤s.2.1∧s.2.1+c≤a0+m∧s.2.2.2.length+c=m∧∀ i∈s.2.2.2,0≤i∧i<V) (fun c st hI=>by
            obtain⟨c0,a1,s1,t1⟩:=st;obtain⟨h1,h2,h3,h4,h6⟩:=hI;simp only at h1 h2 h3 h4 h6;subst h1;obtain⟨v5,a5,s5,e5,hv5,hb5,hb6⟩:=gS code (seed:=s1) V (at':=a1) (by omega) hV;refine⟨(((c:Nat):Int),a5,s5,t1++[v5]),?_,rfl,by first | omega | (simp only;omega),by first | omega | (simp only;omega),by simp only[List.length_append,List.length_singleton];omega,fun i hi=>?_⟩
            · simp only
              rw[if_pos (by simp<;>omega),e5,bnd_s];simp only;rw[zD (by simp only[List.length_cons,List.length_nil];omega),bnd_s,kW (by omega) (by omega),bnd_s]
              simp
            · rcases List.mem_append.1 hi with hi | hi
              · exact h6 i hi
              · rw[List.mem_singleton.1 hi];exact hv5) (fun st hI=>by
            obtain⟨c0,a1,s1,t1⟩:=st;obtain⟨h1,_⟩:=hI;simp only at h1;subst h1
            rfl) m N ((m:Int),a0,s0,[]) hN ⟨rfl,by first | omega | (simp only;omega),by first | omega | (simp only;omega),by simp,fun i hi=>nomatch hi⟩
  obtain⟨h1,h2,h3,h4,h5⟩:=i3;simp only at h1 h2 h3 h4 h5;subst h1;exact⟨a3,s3,t3,e3,by omega,h5,h2,by omega⟩
theorem xJj (code:List UInt8) {p seed:Int} {T n N:Nat} {u:Template} (h:0≤p∧p≤850000) (hu:TV T u) (hl:u.rels.length≤3) (hn:1≤n∧n≤3) (hN:100≤N):∃ f a s,gH N code p seed u (n:Int)=some (f,a,s)∧FV u f∧f.free=n∧f.vars≤5∧f.atoms.length≤4∧p≤a∧a≤p+60:=by
  unfold gH
  obtain⟨v,a,s,e,hv,ha1,ha2⟩:=gS code (seed:=seed) 3 (at':=p) (by omega) (by decide);obtain⟨w,b,s',e',hw,hb1,hb2⟩:=gS code (seed:=s) 5 (at':=a) (by omega) (by decide);rw[e,bnd_s];simp only;rw[kW (by omega) (by omega),bnd_s,e',bnd_s];simp only
  obtain⟨⟨c1,a1,s1,t1⟩,e1,i1⟩:=xAv (ρ:=Formula×Int×Int) (f:=fun(s:Int×Int×Int×(List Atom))=>
    match s with
    | (s496,s498,s500,s501)=>
    if (decide (0<s496)) then
     xK (ck ((u.rels.length:Int)+1)) fun z524=>
     xK (xR code s498 s500 z524) fun z526=>
     xK (ck (z526.1 - 1)) fun z534=>
     xK (gF u z534) fun z537=>
     vC (σ:=Int×Int×Int×(List Int)) (
      whl (σ:=Int×Int×Int×(List Int)) (ρ:=(Ctl (Int×Int×Int×(List Atom)) (Formula×Int×Int))) (fun(s:Int×Int×Int×(List Int))=>
        match s with
        | (s659,s661,s663,s664)=>
        if (decide (0<s659)) then
         xK (xR code s661 s663 ((n:Int)+v)) fun z682=>
         xK (ap s664 ([z682.1])) fun z692=>
         xK (ck (s659 - 1)) fun z730=>
         some (.go (z730,z682.2.1,z682.2.2,z692))
        else
         some (.brk (s659,s661,s663,s664))) N (z537,z526.2.1,z526.2.2,[])) fun(s667,s669,s671,s672)=>
     xK (ap s501 ([(Atom.mk z534 s672)])) fun z736=>
     xK (ck (s496 - 1)) fun z740=>
     some (.go (z740,s669,s671,z736))
    else
     some (.brk (s496,s498,s500,s501))) (fun c s=>s.1=(c:Int)∧p≤s.2.1∧s.2.1+10*c≤p+50∧s.2.2.2.length+c≤4∧∀ a∈s.2.2.2,AV u ((n:Int)+v).toNat a) (fun c st hI=>by
      obtain⟨c0,a0,s0,t0⟩:=st;obtain⟨h1,h2,h3,h4,h5⟩:=hI;simp only at h1 h2 h3 h4 h5;subst h1;obtain⟨v2,a2,s2,e2,hv2,hd1,hd2⟩:=gS code (seed:=s0) ((u.rels.length:Int)+1) (at':=a0) (by omega) (by omega)
      have har:∃ m:Nat,arS u (v2 - 1)=(m:Int)∧m≤4∧∀ l:List Int,l.length=m→((v2 - 1= -1∧l.length=2)∨∃ r:Rel,0≤v2 - 1∧u.rels[(v2 - 1).toNat]?=some r∧r∈u.rels∧(l.length:Int)=r.arity):=by
        unfold arS
        by_cases hv0:v2 - 1= -1
        · rw[if_pos hv0]
          exact⟨2,rfl,by omega,fun l hl=>.inl ⟨hv0,hl⟩⟩
        · have hlt:(v2 - 1).toNat<u.rels.length:=by omega
          rw[if_neg hv0,if_pos (by omega),List.getD_eq_getElem?_getD,List.getElem?_eq_getElem hlt];obtain⟨m,hm,hm1,hm2,_⟩:=hu.r _ (List.getElem_mem hlt);exact⟨m,hm,by omega,fun l hl=>.inr ⟨_,by omega,rfl,List.getElem_mem hlt,by rw[hl,hm]⟩⟩
      obtain⟨m,har,hm4,hav⟩:=har;obtain⟨a3,s3,l3,e3,hl3,hi3,hd3,hd4⟩:=xOs code (a0:=a2) (s0:=s2) (V:=(n:Int)+v) (m:=m) (N:=N) (ρ:=(Ctl (Int×Int×Int×(List Atom)) (Formula×Int×Int))) (by omega) (by omega) (by omega) (by omega);refine⟨(((c:Nat):Int),a3,s3,t0++[Atom.mk (v2 - 1) l3]),?_,rfl,by first | omega | (simp only;omega),by first | omega | (simp only;omega),by simp only[List.length_append,List.length_singleton];omega,fun q hq=>?_⟩
      · simp only
        rw[if_pos (by simp<;>omega),kW (by omega) (by omega),bnd_s,e2,bnd_s];simp only;rw[kW (by omega) (by omega),bnd_s,xCy (by omega),har,bnd_s,e3,thn_nx];simp only;rw[zD (by simp only[List.length_cons,List.length_nil];omega),bnd_s,kW (by omega) (by omega),bnd_s]
        simp
      · rcases List.mem_append.1 hq with hq | hq
        · exact h5 q hq
        · rw[List.mem_singleton.1 hq]
          exact⟨fun i hi=>by have:=hi3 i hi;omega,hav l3 hl3⟩) (fun st hI=>by
      obtain⟨c0,a0,s0,t0⟩:=st;obtain⟨h1,_⟩:=hI;simp only at h1;subst h1
      rfl) w.toNat N (w,b,s',[]) (by omega) ⟨by first | omega | (simp only;omega),by first | omega | (simp only;omega),by first | omega | (simp only;omega),by simp only[List.length_nil];omega,fun r hr=>nomatch hr⟩
  rw[e1,thn_nx];obtain⟨h1,h2,h3,h4,h5⟩:=i1;simp only at h1 h2 h3 h4 h5;exact⟨_,_,_,rfl,⟨by simp only;omega,by simp only;omega,by simp only;omega,h5⟩,rfl,by simp only;omega,by simp only;omega,by first | omega | (simp only;omega),by first | omega | (simp only;omega)⟩
structure DG (T:Nat) (t u:Template) (g:Gadgets):Prop where
  gv:GV T t u g
  val:∀ (j:Nat) f,g.formulas[j]?=some f→(dN u f T f.free.toNat).tuples=(t.rels.getD j default).tuples
  n:g.formulas.length≤2
  sm:∀ f∈g.formulas,f.vars≤5∧f.atoms.length≤4
theorem xLx (code:List UInt8) {p seed:Int} {T N:Nat} {u:Template} (h:0≤p∧p≤800000) (hu:TV T u) (hl:u.rels.length≤3) (hN:1100≤N):∃ t g a s,gJ N code p seed u=some (t,g,a,s)∧DG T t u g:=by
  unfold gJ
  obtain⟨v,a,s,e,hv,ha1,ha2⟩:=gS code (seed:=seed) 3 (at':=p) (by omega) (by decide);rw[e,bnd_s];simp only
  obtain⟨⟨c1,a1,s1,r1,f1⟩,e1,i1⟩:=xAv (ρ:=Template×Gadgets×Int×Int) (f:=fun(s:Int×Int×Int×(List Rel)×(List Formula))=>
    match s with
    | (s252,s254,s256,s257,s260)=>
    if (decide (0<s252)) then
     xK (kQ code s254 s256 ([1,2,2,3])) fun z292=>
     xK (gH N code z292.2.1 z292.2.2 u z292.1) fun z300=>
     xK (ap s260 ([(Formula.mk z300.1.free z300.1.vars z300.1.atoms)])) fun z323=>
     xK (cV N u (Formula.mk z300.1.free z300.1.vars z300.1.atoms)) fun z327=>
     xK (ap s257 ([(Rel.mk z327.arity z327.tuples)])) fun z344=>
     xK (ck (s252 - 1)) fun z380=>
     some (.go (z380,z300.2.1,z300.2.2,z344,z323))
    else
     some (.brk (s252,s254,s256,s257,s260))) (fun c s=>s.1=(c:Int)∧p≤s.2.1∧s.2.1+100*c≤p+300∧s.2.2.2.1.length=s.2.2.2.2.length∧s.2.2.2.1.length+c≤2∧∀ (j:Nat) f,s.2.2.2.2[j]?=some f→FV u f∧(f.vars≤5∧f.atoms.length≤4)∧s.2.2.2.1[j]?=some (dN u f T f.free.toNat)) (fun c st hI=>by
      obtain⟨c0,a0,s0,t0,g0⟩:=st;obtain⟨h1,h2,h3,h4,h5,h6⟩:=hI;simp only at h1 h2 h3 h4 h5 h6;subst h1;obtain⟨v2,a2,s2,e2,hv2,hb1,hb2⟩:=xKp code (seed:=s0) [1,2,2,3] (p:=a0) (by omega) (by decide);have hv3:∃ n:Nat,v2=n∧1≤n∧n≤3:=⟨v2.toNat,by simp at hv2;omega,by simp at hv2;omega,by simp at hv2;omega⟩;obtain⟨n,rfl,hn1,hn2⟩:=hv3;obtain⟨f,a3,s3,e3,hf,hfn,hf5,hf4,hd1,hd2⟩:=xJj code (p:=a2) (seed:=s2) (N:=N) (by omega) hu hl ⟨hn1,hn2⟩ (by omega);have ev:cV N u f=some (dN u f T n):=(xCb hu hf hfn hN).1;refine⟨(((c:Nat):Int),a3,s3,t0++[dN u f T n],g0++[f]),?_,rfl,by first | omega | (simp only;omega),by first | omega | (simp only;omega),by simp only[List.length_append,List.length_singleton];omega,by simp only[List.length_append,List.length_singleton];omega,fun j q hq=>?_⟩
      · simp only
        rw[if_pos (by simp<;>omega),e2,bnd_s,e3,bnd_s];simp only;rw[zD (by simp only[List.length_cons,List.length_nil];omega),bnd_s,ev,bnd_s,zD (by simp only[List.length_cons,List.length_nil];omega),bnd_s,kW (by omega) (by omega),bnd_s]
        simp
      · simp only at hq ⊢
        by_cases hj:j<g0.length
        · rw[List.getElem?_append_left hj] at hq
          rw[List.getElem?_append_left (by omega)];exact h6 j q hq
        · have hj2:j=g0.length:=by
            have:=(List.getElem?_eq_some_iff.1 hq).1;rw[List.length_append,List.length_singleton] at this
            omega
          subst hj2;rw[List.getElem?_append_right (by omega),Nat.sub_self] at hq;obtain rfl:=Option.some.inj hq;rw[List.getElem?_append_right (by omega),show g0.length - t0.length=0 by omega]
          exact⟨hf,⟨hf5,hf4⟩,by rw[hfn];rfl⟩) (fun st hI=>by
      obtain⟨c0,a0,s0,t0,g0⟩:=st;obtain⟨h1,_⟩:=hI;simp only at h1;subst h1
      rfl) v.toNat N (v,a,s,[],[]) (by omega) ⟨by first | omega | (simp only;omega),by first | omega | (simp only;omega),by first | omega | (simp only;omega),rfl,by simp only[List.length_nil];omega,fun j f hj=>by simp at hj⟩
  rw[e1,thn_nx];obtain⟨h1,h2,h3,h4,h5,h6⟩:=i1;simp only at h1 h2 h3 h4 h5 h6
  have hg:∀ (j:Nat) f,f1[j]?=some f→r1.getD j default=dN u f T f.free.toNat:=fun j f hj=>by rw[List.getD_eq_getElem?_getD,(h6 j f hj).2.2];rfl
  refine⟨⟨u.size,r1⟩,⟨f1⟩,a1,s1,rfl,⟨⟨hu.s,hu.t,fun r hr=>?_,by simp only;omega⟩,hu,by simp only;omega,fun j f hj=>?_⟩,fun j f hj=>?_,by simp only;omega,fun f hf=>?_⟩
  · obtain⟨j,hj,rfl⟩:=List.mem_iff_getElem.1 hr
    have hjf:j<f1.length:=by simp only at hj;omega
    obtain⟨q1,_,q2⟩:=h6 j _ (List.getElem?_eq_getElem hjf);have e2:=(List.getElem?_eq_some_iff.1 q2).2;simp only;rw[e2];have:=q1.f0;exact⟨_,rfl,by omega,by omega,sX.1,sX.2⟩
  · simp only at hj ⊢
    obtain⟨q1,_,q2⟩:=h6 j f hj;rw[hg j f hj];have:=q1.f0;exact⟨q1,by show f.free=((f.free.toNat:Nat):Int);omega,q2⟩
  · simp only at hj ⊢
    rw[hg j f hj]
  · obtain⟨j,hj,rfl⟩:=List.mem_iff_getElem.1 hf
    exact(h6 j _ (List.getElem?_eq_getElem hj)).2.1
theorem xJs (code:List UInt8) {p seed:Int} {T:Nat} {t:Template} {N:Nat} (h:0≤p∧p≤850000) (hl:t.rels.length≤6) (hr:∀ r∈t.rels,xNr T r) (hN:100≤N):∃ x a s,gE N code p seed t 3=some (x,a,s)∧(1≤x.vars∧x.vars≤3)∧x.cons.length≤6∧(∀ c∈x.cons,CV t x.vars c)∧p≤a∧a≤p+100:=by
  unfold gE
  obtain⟨v,a,s,e,hv,ha1,ha2⟩:=gS code (seed:=seed) 3 (at':=p) (by omega) (by decide);obtain⟨w,b,s',e',hw,hb1,hb2⟩:=gS code (seed:=s) 7 (at':=a) (by omega) (by decide);rw[e,bnd_s];simp only;rw[kW (by omega) (by omega),bnd_s,e',bnd_s];simp only
  obtain⟨⟨c1,a1,s1,t1⟩,e1,i1⟩:=xUw (ρ:=Instance×Int×Int) (f:=fun(s:Int×Int×Int×(List Con))=>
    match s with
    | (s538,s540,s542,s543)=>
    vC (σ:=Bool) (
     if (decide (0<s538)) then  some (.nx (decide (0<(t.rels.length:Int)))) else  some (.nx false)) fun s569=>
    if s569 then
     xK (xR code s540 s542 (t.rels.length:Int)) fun z582=>
     xK (ix t.rels z582.1) fun z595=>
     vC (σ:=Int×Int×Int×(List Int)) (
      whl (σ:=Int×Int×Int×(List Int)) (ρ:=(Ctl (Int×Int×Int×(List Con)) (Instance×Int×Int))) (fun(s:Int×Int×Int×(List Int))=>
        match s with
        | (s722,s724,s726,s727)=>
        if (decide (0<s722)) then
         xK (xR code s724 s726 (1+v)) fun z745=>
         xK (ap s727 ([z745.1])) fun z755=>
         xK (ck (s722 - 1)) fun z793=>
         some (.go (z793,z745.2.1,z745.2.2,z755))
        else
         some (.brk (s722,s724,s726,s727))) N (z595.arity,z582.2.1,z582.2.2,[])) fun(s730,s732,s734,s735)=>
     xK (ap s543 ([(Con.mk z582.1 s735)])) fun z799=>
     xK (ck (s538 - 1)) fun z803=>
     some (.go (z803,s732,s734,z799))
    else
     some (.brk (s538,s540,s542,s543))) (fun s=>(0≤s.1∧s.1≤6)∧p≤s.2.1∧s.2.1+10*s.1≤p+70∧(s.2.2.2.length:Int)+s.1≤6∧∀ c∈s.2.2.2,CV t (1+v) c) (fun s=>p≤s.2.1∧s.2.1≤p+70∧s.2.2.2.length≤6∧∀ c∈s.2.2.2,CV t (1+v) c) (fun s=>s.1.toNat) (fun st hI=>by
      obtain⟨c0,a0,s0,t0⟩:=st;obtain⟨h1,h2,h3,h4,h6⟩:=hI;simp only at h1 h2 h3 h4 h6
      by_cases hc:0<c0
      · by_cases hr0:0<(t.rels.length:Int)
        · left
          obtain⟨v2,a2,s2,e2,hv2,hb1,hb2⟩:=gS code (seed:=s0) (t.rels.length:Int) (at':=a0) (by omega) (by omega)
          have hlt:v2.toNat<t.rels.length:=by omega
          obtain⟨m,hm,hm1,hm2,_⟩:=hr _ (List.getElem_mem hlt);obtain⟨a3,s3,t3,e3,hl3,hi3,q2,q3⟩:=xOs code (a0:=a2) (s0:=s2) (V:=1+v) (m:=m) (N:=N) (ρ:=(Ctl (Int×Int×Int×(List Con)) (Instance×Int×Int))) (by omega) (by omega) (by omega) (by omega);refine⟨(c0 - 1,a3,s3,t0++[Con.mk v2 t3]),?_,⟨by first | omega | (simp only;omega),by first | omega | (simp only;omega),by first | omega | (simp only;omega),by simp only[List.length_append,List.length_singleton];omega,fun q hq=>?_⟩,by first | omega | (simp only;omega)⟩
          rotate_left
          · rcases List.mem_append.1 hq with hq | hq
            · exact h6 q hq
            · rw[List.mem_singleton.1 hq]
              exact⟨fun i hi=>by have:=hi3 i hi;omega,_,hv2.1,List.getElem?_eq_getElem hlt,List.getElem_mem hlt,by rw[hm];simp only;omega⟩
          simp only;rw[if_pos (by simpa using hc),thn_nx,if_pos (by simpa using hr0),e2,bnd_s,gQ hv2.1 (List.getElem?_eq_getElem hlt),bnd_s];simp only;rw[hm,e3,thn_nx];simp only;rw[zD (by simp only[List.length_cons,List.length_nil];omega),bnd_s,kW (by omega) (by omega),bnd_s]
        · right
          refine⟨(c0,a0,s0,t0),?_,by first | omega | (simp only;omega),by first | omega | (simp only;omega),by first | omega | (simp only;omega),h6⟩;simp only;rw[if_pos (by simpa using hc),thn_nx,if_neg (by simpa using hr0)]
      · right
        refine⟨(c0,a0,s0,t0),?_,by first | omega | (simp only;omega),by first | omega | (simp only;omega),by first | omega | (simp only;omega),h6⟩;simp only
        rw[if_neg (by simpa using hc),thn_nx,if_neg (by simp)]) N (w,b,s',[]) (by first | omega | (simp only;omega)) ⟨by first | omega | (simp only;omega),by first | omega | (simp only;omega),by first | omega | (simp only;omega),by simp only[List.length_nil];omega,fun c hc=>nomatch hc⟩
  rw[e1,thn_nx];obtain⟨h1,h2,h3,h4⟩:=i1;simp only at h1 h2 h3 h4;exact⟨_,_,_,rfl,by first | omega | (simp only;omega),by first | omega | (simp only;omega),h4,h1,by first | omega | (simp only;omega)⟩
theorem xHj (code:List UInt8) {N:Nat} (hN:1100≤N):∃ u,gA N code 2=some u∧TV 2 u∧u.rels.length≤3:=by
  unfold gA bQ
  obtain⟨t,a,s,e,h1,h2,h3,_⟩:=xIt code (p:=0) (seed:=0) (T:=2) (N:=N) (by omega) (by decide) (by omega);have e':kU N code 0 0 2=some (t,a,s):=e;rw[bnd_s,e',bnd_s];exact⟨t,rfl,⟨h1,by decide,fun r hr=>(h3 r hr).1,by omega⟩,h2⟩
theorem xJh (code:List UInt8) {T N:Nat} {u:Template} (hu:TV T u) (hl:u.rels.length≤3) (hN:1100≤N):∃ t g,eQ N code u=some (t,g)∧DG T t u g:=by
  unfold eQ bQ
  obtain⟨t,g,a,s,e,h⟩:=xLx code (p:=0) (seed:=0) (by omega) hu hl hN;have e':gJ N code 0 0 (Template.mk u.size u.rels)=some (t,g,a,s):=e;rw[bnd_s,e',bnd_s];exact⟨t,g,rfl,h⟩
theorem xHn (code:List UInt8) {T N:Nat} {t:Template} (ht:TV T t) (hN:1100≤N):∃ x,dU N code t 3=some x∧(1≤x.vars∧x.vars≤3)∧x.cons.length≤6∧∀ c∈x.cons,CV t x.vars c:=by
  unfold dU bQ
  obtain⟨x,a,s,e,h1,h2,h3,_⟩:=xJs code (p:=0) (seed:=0) (T:=T) (N:=N) (t:=t) (by omega) ht.n ht.r (by omega);have e':gE N code 0 0 (Template.mk t.size t.rels) 3=some (x,a,s):=e;rw[bnd_s,e',bnd_s];exact⟨x,rfl,h1,h2,h3⟩
theorem xQu (code:List UInt8) {n:Int} (hn:1≤n∧n≤200):∃ v,mP code n=some v∧0≤v∧v<n:=by
  unfold mP bQ
  obtain⟨v,a,s,e,h,_⟩:=gS code (at':=0) (seed:=0) n (by omega) hn;rw[bnd_s,e,bnd_s];exact⟨v,rfl,h⟩
end Go.Proofs.YtlommebgedmjdaaGreatDoor
namespace Go.Proofs.YtlommebgedmjdaaGreatDoor
set_option linter.unusedVariables false
set_option linter.unusedSimpArgs false
set_option maxRecDepth 100000
theorem lP {α:Type} [BEq α] [LawfulBEq α] (a:α):(a != a)=false:=by simp
theorem xOc (l:List Int):aE l l=some true:=by
  unfold aE
  rw[pX,bnd_s]
  simp
theorem xXq (x:Instance):kS x x=some true:=by
  unfold kS nW
  simp only[lP,Bool.false_eq_true,if_false,thn_nx]
  rw[uB x.cons 0 (fun j c hj=>by
    rw[Nat.zero_add]
    simp only[zO hj,bnd_s,lP,Bool.false_eq_true,if_false,pX,decide_true,Bool.not_true,thn_nx]),thn_nx,bnd_s]
theorem oCf (f:Formula):lQ f f=some true:=by
  unfold lQ
  simp only[lP,Bool.false_eq_true,if_false,thn_nx]
  rw[uB f.atoms 0 (fun j a hj=>by
    rw[Nat.zero_add]
    unfold iD
    simp only[zO hj,bnd_s,beq_self_eq_true,if_true,pX,decide_true,Bool.not_true,Bool.false_eq_true,if_false,thn_nx]),thn_nx]
theorem xXi (g:Gadgets):aF g g=some true:=by
  unfold aF nQ
  simp only[lP,Bool.false_eq_true,if_false]
  rw[uB g.formulas 0 (fun j f hj=>by
    rw[Nat.zero_add]
    simp only[zO hj,bnd_s,oCf,Bool.not_true,Bool.false_eq_true,if_false]),thn_nx,bnd_s]
theorem eqI (l:List Int):kG l l=some true:=by
  unfold kG
  simp only[lP,Bool.false_eq_true,if_false]
  rw[uB l 0 (fun j a hj=>by
    rw[Nat.zero_add]
    simp only[zO hj,bnd_s,lP,Bool.false_eq_true,if_false]),thn_nx]
theorem eqF (f:Formula):dE f f=some true:=by
  unfold dE vJ
  simp only[lP,beq_self_eq_true,if_true,Bool.false_eq_true,if_false]
  rw[uB f.atoms 0 (fun j a hj=>by
    rw[Nat.zero_add]
    unfold mL
    simp only[zO hj,bnd_s,beq_self_eq_true,if_true,eqI,thn_nx,Bool.not_true,Bool.false_eq_true,if_false]),thn_nx]
  rfl
theorem eqG (g:Gadgets):dD g g=some true:=by
  unfold dD oZ
  simp only[lP,Bool.false_eq_true,if_false]
  rw[uB g.formulas 0 (fun j f hj=>by
    rw[Nat.zero_add];rw[zO hj,bnd_s]
    show xK (dE f f) _=_
    rw[eqF]
    rfl),thn_nx,bnd_s]
theorem xJd {α ρ:Type} {q:Nat→α→Option ρ}:∀ (l:List α) (k:Nat),(∀ j x,l[j]?=some x→q (k+j) x=none)→fnd q l k=none
  | [],_,_=>rfl
  | x::l,k,h=>by
    have h0:=h 0 x rfl;rw[Nat.add_zero] at h0
    unfold fnd
    rw[h0];exact xJd l (k+1) (fun j y hj=>by rw[show k+1+j=k+(j+1) by omega];exact h (j+1) y hj)
theorem AV.ok {T:Nat} {u:Template} {n:Nat} {a:Atom} {v:Int} (hu:TV T u) (h:AV u n a) (hv:(n:Int)=v):wZ u v a=true∧(1≤v→v≤8→sO v a=true):=by
  have hl:=h.len hu;have hn:=hu.n
  have hall:∀ i∈a.args,0≤i∧i<v:=fun i hi=>by have:=h.1 i hi;omega
  have hok:a.args.all (okV v)=true:=List.all_eq_true.2 fun i hi=>by have:=hall i hi;unfold okV;simp;omega
  have hok2:(a.args.all fun x=>decide (0≤x) && decide (x≤v - 1))=true:=List.all_eq_true.2 fun i hi=>by have:=hall i hi;simp;omega
  rcases h.2 with ⟨e,hl2⟩ | ⟨r,h0,hr,hm,ha⟩
  · unfold wZ sO arS
    rw[if_pos e,hok,hok2,e,hl2];exact⟨rfl,fun _ _=>rfl⟩
  · have hlt:=(List.getElem?_eq_some_iff.1 hr).1
    obtain⟨m,e3,h3,h4,_⟩:=hu.r r hm
    have hg:u.rels.getD a.rel.toNat default=r:=by rw[List.getD_eq_getElem?_getD,hr];rfl
    unfold wZ sO arS
    rw[if_neg (by omega),if_pos (by omega),hg,hok,hok2];refine⟨?_,fun _ _=>?_⟩
    · simp
      omega
    · simp
      omega
theorem FV.ok {T:Nat} {u:Template} {f:Formula} (hu:TV T u) (h:FV u f):tO u f=true∧cM f=true:=by
  have h0:=h.f0;have hv:=h.v0;have hn:=h.n
  have ha:∀ a∈f.atoms,wZ u f.vars a=true∧sO f.vars a=true:=fun a ha=>by
    have:=(h.a a ha).ok hu (show((f.vars.toNat:Nat):Int)=f.vars by omega);exact⟨this.1,this.2 (by omega) (by omega)⟩
  unfold tO cM okS
  rw[List.all_eq_true.2 (fun a h=>(ha a h).1),List.all_eq_true.2 (fun a h=>(ha a h).2)]
  simp
  omega
theorem xOy {T:Nat} {t u:Template} {g:Gadgets} (h:GV T t u g) (hval:∀ (j:Nat) f,g.formulas[j]?=some f→(dN u f T f.free.toNat).tuples=(t.rels.getD j default).tuples):lR t u g=true:=by
  have e:t.size.toNat=T:=by rw[h.tV.s];simp
  unfold lR uO
  rw[iY h.tV,iY h.uV,h.tV.s,h.uV.s,h.n,xJd _ 0 (fun j f hj=>by
    obtain⟨h1,h2,_⟩:=h.f j f hj
    unfold xBt
    rw[Nat.zero_add,(h1.ok h.uV).1,h2]
    simp),Int.toNat_natCast,xJd _ 0 (fun j f hj=>by
    rw[Nat.zero_add]
    exact(rO h hj).2 (hval j f hj))]
  simp
theorem DG.ok {T:Nat} {t u:Template} {g:Gadgets} (h:DG T t u g):lR t u g=true:=xOy h.gv h.val
theorem xTx {T:Nat} {t u:Template} {g:Gadgets} (h:DG T t u g):xGi t u g=(0,[],6):=by
  have h1:=h.ok
  unfold lR at h1
  rw[Bool.and_eq_true] at h1
  unfold xGi
  rw[if_pos h1.1];have h2:=Option.isNone_iff_eq_none.1 h1.2;rw[h2]
theorem xVp {g:Gadgets} (hn:g.formulas.length≤6) (hf:∀ f∈g.formulas,cM f=true):∃ x,aB g=some x∧bL x=some (g,0):=by
  have hw:xDk g=true:=by
    unfold xDk
    rw[List.all_eq_true.2 hf]
    simp
    omega
  refine⟨oE (xGj g),by rw[sN,hw];rfl,?_⟩
  by_cases he:xGj g=[]
  · have hnil:g.formulas=[]:=by
      cases hfs:g.formulas with
      | nil=>rfl
      | cons f l=>
        exfalso
        rw[yV,hfs] at he
        simp at he
    rw[he]
    unfold bL
    have h0:sEq (oE []) (oE [])=true:=xKk _;rw[aC,if_neg (by simp),h0,if_pos rfl]
    cases g
    simp only at hnil;rw[hnil]
  · have hlen:(xGj g).length≤20000:=by
      rw[yV,List.map_map]
      have:=uS ((fun x=>x++[10]) ∘ bA) 3000 g.formulas (fun f h=>by
        have:=uX (hf f h);simp only[Function.comp,List.length_append,List.length_singleton]
        omega)
      omega
    obtain⟨r,h1,_,h2⟩:=xXc (N:=20) (Nat.le_refl _) hlen he;rw[h1,h2 g hw rfl]
end Go.Proofs.YtlommebgedmjdaaGreatDoor
namespace Go.Proofs.YtlommebgedmjdaaGreatDoor
set_option linter.unusedVariables false
set_option linter.unusedSimpArgs false
set_option maxRecDepth 100000
theorem xKc {T n:Nat} {u:Template} {f:Formula} (hu:TV T u) (hf:FV u f) (hn:f.free=n) {d:List Int} (hd:d∈vW T n):d∈(dN u f T n).tuples↔∃ W:List Int,W.length=f.vars.toNat∧Rng u.size.toNat W∧W.take n=d∧∀ a∈f.atoms,cY u a W=true:=by
  have hv:=hf.v0;obtain⟨e1,e2⟩:=iP.1 hd
  have hT:u.size.toNat=T:=by rw[hu.s];simp
  show d∈(vW T n).filter (fun d=>(wL u f d).isSome)↔_
  rw[List.mem_filter]
  constructor
  · rintro ⟨_,h⟩
    obtain⟨ws,h⟩:=Option.isSome_iff_exists.1 h;obtain⟨h1,h2,h3,h4⟩:=xJf hu hf.a (by omega) (fun x hx=>by rw[hT];exact e2 x hx) h;exact⟨ws,h1,h4,by rw[← e1];exact h2,h3⟩
  · rintro ⟨W,h1,h2,h3,h4⟩
    refine⟨hd,?_⟩;have hs:∀ k,1≤k→k≤W.length→vA u f (W.take k)=true:=fun k k1 k2=>xJc hu hf.a h4 k1 k2
    unfold wL
    have hb:xTe u f d=true:=List.all_eq_true.2 fun k hk=>by
      have hk:=List.mem_range'_1.1 hk;rw[← h3,List.take_take,Nat.min_eq_left (by omega)];exact hs k (by omega) (by omega)
    rw[if_pos hb,← h3]
    have hl:(W.take n).length=n:=by rw[List.length_take];omega
    rw[hl];exact yU hs h2 (f.vars.toNat - n) n (by omega)
def wC (k:Nat) (r:Rel):Formula:=⟨r.arity,r.arity,[⟨(k:Int),vH 0 r.arity.toNat⟩]⟩
def xHb:Nat→List Rel→List Formula
  | _,[]=>[]
  | k,r::l=>wC k r::xHb (k+1) l
theorem xEy:∀ (l:List Rel) (k j:Nat),(xHb k l)[j]?=(l[j]?).map (wC (k+j))
  | [],_,_=>rfl
  | r::l,k,0=>rfl
  | r::l,k,j+1=>by
    show(xHb (k+1) l)[j]?=_
    rw[xEy l (k+1) j,show k+1+j=k+(j+1) by omega]
    rfl
theorem xEx:∀ (l:List Rel) (k:Nat),(xHb k l).length=l.length
  | [],_=>rfl
  | r::l,k=>by rw[xHb,List.length_cons,xEx l,List.length_cons]
def mY (t:Template):Gadgets:=⟨xHb 0 t.rels⟩
theorem xOq {t:Template} {j:Nat} {r:Rel} (h:t.rels[j]?=some r):(mY t).formulas.getD j default=wC j r:=by
  show(xHb 0 t.rels).getD j default=_
  rw[List.getD_eq_getElem?_getD,xEy,h,Nat.zero_add]
  rfl
section
variable {T:Nat} {t:Template}
theorem own_atom {k:Nat} {r:Rel} (h:TV T t) (hr:t.rels[k]?=some r):eY t (k:Int)=some (wC k r,0)∧fC t (k:Int)=some (wC k r,0):=by
  have hn:=h.n;have hk:=(List.getElem?_eq_some_iff.1 hr).1;obtain⟨n,ha,h1,h2,_⟩:=h.r r (List.mem_of_getElem? hr)
  have hin:(decide ((0:Int)≤(k:Int)) && decide ((k:Int)≤(t.rels.length:Int) - 1))=true:=by simp;omega
  have e1:oJ (Template.mk t.size t.rels)=some true:=by rw[← iY h];exact dF t h.small
  have e2:vR (Template.mk t.size t.rels)=some true:=by rw[← iY h];exact eZ t h.small
  unfold eY fC wC
  rw[e1,e2,bnd_s,bnd_s,if_neg (by simp),if_neg (by simp),kW (by omega) (by omega),bnd_s,bnd_s,gL,pO,hin,bnd_s,bnd_s,if_neg (by simp),if_neg (by simp),zO hr,bnd_s,bnd_s,ha,xJt (by omega) (by omega),xKe (by omega),bnd_s];exact⟨rfl,rfl⟩
theorem own_loopI {f:Nat→Rel→List Formula→Option (Ctl (List Formula) (Gadgets×Int))}:∀ (l:List Rel) (k:Nat) (s:List Formula),(∀ j r s,l[j]?=some r→s.length≤100→f (k+j) r s=some (.go (s++[wC (k+j) r])))→s.length+l.length≤100→oM f l k s=some (.nx (s++xHb k l))
  | [],_,s,_,_=>by simp [oM,xHb]
  | r::l,k,s,h,hs=>by
    rw[List.length_cons] at hs;have h0:=h 0 r s rfl (by omega);rw[Nat.add_zero] at h0;rw[qV h0,own_loopI l (k+1) _ (fun j r s hj=>by rw[show k+1+j=k+(j+1) by omega];exact h (j+1) r s hj) (by rw[List.length_append,List.length_singleton];omega),List.append_assoc]
    rfl
theorem own_two (h:TV T t):dO t=some (mY t,0)∧dV t=some (mY t,0):=by
  have hn:=h.n
  have e1:oJ (Template.mk t.size t.rels)=some true:=by rw[← iY h];exact dF t h.small
  have e2:vR (Template.mk t.size t.rels)=some true:=by rw[← iY h];exact eZ t h.small
  unfold dO dV
  rw[e1,e2,bnd_s,bnd_s,if_neg (by simp),if_neg (by simp)]
  constructor
  · rw[own_loopI t.rels 0 [] (fun j r s hj hs=>by
      rw[Nat.zero_add,show(Template.mk t.size t.rels)=t from rfl,(own_atom h hj).1,bnd_s,zD (by simp only[List.length_cons,List.length_nil];omega),bnd_s]) (by simp only[List.length_nil];omega),thn_nx]
    rfl
  · rw[own_loopI t.rels 0 [] (fun j r s hj hs=>by
      rw[Nat.zero_add,show(Template.mk t.size t.rels)=t from rfl,(own_atom h hj).2,bnd_s,zD (by simp only[List.length_cons,List.length_nil];omega),bnd_s]) (by simp only[List.length_nil];omega),thn_nx]
    rfl
theorem xUx {m:Nat} {i:Int} (h:i∈vH 0 m):0≤i∧i<(m:Int):=by
  unfold vH at h
  obtain⟨j,hj,rfl⟩:=List.mem_map.1 h;have:=List.mem_range.1 hj
  omega
theorem own_FV {k:Nat} {r:Rel} (h:TV T t) (hr:t.rels[k]?=some r):FV t (wC k r):=by
  obtain⟨n,ha,h1,h2,_⟩:=h.r r (List.mem_of_getElem? hr);refine⟨by show 1≤r.arity∧r.arity≤4;omega,by show r.arity≤r.arity∧r.arity≤8;omega,by show 1≤16;omega,fun a hm=>?_⟩;have e:a=⟨(k:Int),vH 0 r.arity.toNat⟩:=List.mem_singleton.1 hm;subst e;refine⟨fun i hi=>xUx hi,.inr ⟨r,Int.natCast_nonneg k,by show t.rels[((k:Int)).toNat]?=_;rw[Int.toNat_natCast];exact hr,List.mem_of_getElem? hr,?_⟩⟩
  show((vH 0 r.arity.toNat).length:Int)=r.arity
  rw[zG]
  omega
theorem own_get {j:Nat} {f:Formula} (hj:(mY t).formulas[j]?=some f):∃ r,t.rels[j]?=some r∧f=wC j r∧t.rels.getD j default=r:=by
  have h2:(xHb 0 t.rels)[j]?=some f:=hj;rw[xEy,Nat.zero_add] at h2;obtain⟨r,h3,h4⟩:=Option.map_eq_some_iff.1 h2;exact⟨r,h3,h4.symm,by rw[List.getD_eq_getElem?_getD,h3];rfl⟩
theorem own_GV (h:TV T t):GV T t t (mY t):=⟨h,h,xEx _ _,fun j f hj=>by
  obtain⟨r,h1,rfl,h2⟩:=own_get hj
  exact⟨own_FV h h1,by rw[h2];rfl,by rw[h2];exact h1⟩⟩
theorem xGc {l:List Int}:aL l (vH 0 l.length)=l:=by
  unfold aL vH
  apply List.ext_getElem?
  intro j;rw[List.map_map,List.getElem?_map]
  by_cases hj:j<l.length
  · rw[List.getElem?_range hj,List.getElem?_eq_getElem hj,Option.map_some]
    simp only[Function.comp];rw[show((0:Int)+(j:Int)).toNat=j by omega,List.getD_eq_getElem?_getD,List.getElem?_eq_getElem hj]
    rfl
  · rw[List.getElem?_eq_none (by rw[List.length_range];omega),List.getElem?_eq_none (by omega)]
    rfl
theorem own_val (h:TV T t) (j:Nat) (f:Formula) (hj:(mY t).formulas[j]?=some f):(dN t f T f.free.toNat).tuples=(t.rels.getD j default).tuples:=by
  obtain⟨r,h1,rfl,h2⟩:=own_get hj;rw[h2];obtain⟨n,ha,h3,h4,h5,h6⟩:=h.r r (List.mem_of_getElem? h1);have hfn:(wC j r).free=(n:Int):=ha
  have hn:(wC j r).free.toNat=n:=by rw[hfn];simp
  have hvn:(wC j r).vars.toNat=n:=hn
  have hT:t.size.toNat=T:=by rw[h.s];simp
  have hat:∀ W:List Int,W.length=n→(cY t ⟨(j:Int),vH 0 r.arity.toNat⟩ W=true↔W∈r.tuples):=fun W hW=>by
    unfold cY
    rw[if_neg (show ¬ (j:Int)= -1 by omega)]
    show decide (aL W (vH 0 r.arity.toNat)∈(t.rels.getD ((j:Int)).toNat default).tuples)=true↔_
    rw[Int.toNat_natCast,h2,ha,Int.toNat_natCast,← hW,xGc]
    simp
  rw[hn];refine Asc.ext sX.1 h5 (fun d=>?_)
  constructor
  · intro hd
    obtain⟨W,w1,w2,w3,w4⟩:=(xKc h (own_FV h h1) hfn (sX.2 d hd)).1 hd;rw[List.take_of_length_le (by omega)] at w3;rw[← w3];exact(hat W (by omega)).1 (w4 _ (List.mem_singleton.2 rfl))
  · intro hd
    have hd2:=h6 d hd;obtain⟨e1,e2⟩:=iP.1 hd2;refine(xKc h (own_FV h h1) hfn hd2).2 ⟨d,by omega,fun x hx=>by rw[hT];exact e2 x hx,List.take_of_length_le (by omega),fun a hm=>?_⟩;rw[List.mem_singleton.1 hm];exact(hat d e1).2 hd
theorem own_ok (h:TV T t):lR t t (mY t)=true:=xOy (own_GV h) (own_val h)
theorem own_app (h:TV T t) {n:Int}:∀ (l:List Con) (V:Int) (L:List Atom),(∀ c∈l,CV t n c)→l.foldl (fJ (mY t)) (V,L)=(V,L++l.map fun c=>⟨c.rel,c.scope⟩)
  | [],V,L,_=>by simp
  | c::l,V,L,hc=>by
    obtain⟨h1,r,h2,h3,h4,h5⟩:=hc c (by simp)
    have e:fJ (mY t) (V,L) c=(V,L++[⟨c.rel,c.scope⟩]):=by
      unfold fJ
      simp only;rw[xOq h3]
      show(V+(r.arity - r.arity),L++mvB (fun i=>(c.scope++vH V (r.arity - r.arity).toNat).getD i.toNat 0) [⟨((c.rel.toNat:Nat):Int),vH 0 r.arity.toNat⟩])=_
      rw[Int.sub_self,Int.add_zero];have e1:vH V (0:Int).toNat=[]:=rfl;rw[e1,List.append_nil,show r.arity.toNat=c.scope.length by omega];have e2:(vH 0 c.scope.length).map (fun i=>c.scope.getD i.toNat 0)=c.scope:=xGc
      unfold mvB
      simp only[List.map_cons,List.map_nil];rw[e2,show((c.rel.toNat:Nat):Int)=c.rel by omega]
    rw[List.foldl_cons,e,own_app h l V _ (fun d hd=>hc d (by simp [hd]))]
    simp
theorem xIm:∀ (l:List Atom) (S:List Int),(∀ a∈l,a.rel ≠ -1)→l.foldl zN S=S
  | [],_,_=>rfl
  | a::l,S,h=>by
    rw[List.foldl_cons,show zN S a=S by unfold zN;rw[if_neg (h a (by simp))]];exact xIm l S (fun b hb=>h b (by simp [hb]))
theorem xBo (V:Nat):∀ k,k≤V→vX (vH 0 V) k=k
  | 0,_=>rfl
  | k+1,h=>by
    have hf:cZ (vH 0 V) k=true:=by
      unfold cZ
      rw[List.getD_eq_getElem?_getD,fB (by omega)]
      simp
    rw[gG,xBo V k (by omega),hf,if_pos rfl]
theorem xRd (V:Nat):vV (vH 0 V)=vH 0 V:=by
  unfold vV
  apply List.ext_getElem?
  intro j;rw[List.getElem?_map]
  by_cases hj:j<V
  · rw[fB hj,Option.map_some,show((0:Int)+(j:Int)).toNat=j by omega,xBo V j (by omega)]
    simp
  · rw[List.getElem?_eq_none (by rw[zG];omega)]
    rfl
theorem own_apply (h:TV T t) {x:Instance} (hv:1≤x.vars∧x.vars≤10) (hn:x.cons.length≤24) (hc:∀ c∈x.cons,CV t x.vars c):∃ l,zZ (mY t) x=(x,l,0):=by
  have e1:kC (mY t) x=(x.vars,x.cons.map fun c=>⟨c.rel,c.scope⟩):=by
    unfold kC
    rw[own_app h x.cons x.vars [] hc,List.nil_append]
  have hne:∀ a∈(x.cons.map fun c=>(⟨c.rel,c.scope⟩:Atom)),a.rel ≠ -1:=fun a ha=>by
    obtain⟨c,hm,rfl⟩:=List.mem_map.1 ha;obtain⟨_,r,h2,_⟩:=hc c hm
    show c.rel ≠ -1
    omega
  have e2:qO (mY t) x=vH 0 x.vars.toNat:=by
    unfold qO
    rw[e1];exact xIm _ _ hne
  have e3:gO (vH 0 x.vars.toNat) (x.cons.map fun c=>(⟨c.rel,c.scope⟩:Atom))=x.cons:=by
    unfold gO
    rw[List.filter_eq_self.2 (fun a ha=>by simpa using hne a ha),List.map_map];refine(List.map_congr_left (fun c hm=>?_)).trans (List.map_id _);obtain⟨h1,_⟩:=hc c hm;simp only[Function.comp]
    have:aL (vH 0 x.vars.toNat) c.scope=c.scope:=by
      unfold aL
      refine(List.map_congr_left (fun i hi=>?_)).trans (List.map_id _);have:=h1 i hi;rw[List.getD_eq_getElem?_getD,fB (by omega)]
      simp
      omega
    rw[this]
    rfl
  refine⟨(vV (vH 0 x.vars.toNat)).take x.vars.toNat,?_⟩
  unfold zZ
  rw[e2,e1,xRd];simp only;rw[e3,zG,xBo _ _ (Nat.le_refl _),show((x.vars.toNat:Nat):Int)=x.vars by omega,if_neg (by simp;omega)]
end
theorem oAh:sG=vH:=rfl
theorem xRj {u:Template} {f:Formula} (h:FV u f):xKn f=(f,0):=by
  have h1:=h.v0;have h2:=h.n
  unfold xKn
  rw[if_neg (by simp;omega)]
theorem xJw (h:Gadgets):∀ (l acc m:List Formula),l.length=m.length→(∀ (j:Nat) f g,l[j]?=some f→m[j]?=some g→rG h f=(g,0))→xLv h l acc=(⟨acc++m⟩,0)
  | [],acc,[],_,_=>by rw[xLv,List.append_nil]
  | [],_,_::_,hl,_=>by cases hl
  | _::_,_,[],hl,_=>by cases hl
  | f::l,acc,g::m,hl,hh=>by
    have e:=hh 0 f g rfl rfl;rw[xLv,e,if_neg (by simp),xJw h l _ m (by simpa using hl) (fun j f g h1 h2=>hh (j+1) f g h1 h2),List.append_assoc]
    rfl
theorem xVo {n m:Nat} {l:List Atom} (h:∀ b∈l,∀ i∈b.args,0≤i∧i<((n+m:Nat):Int)):mvA (fun i=>(vH 0 n++vH (n:Int) m).getD i.toNat 0) l=l:=by
  have e:vH 0 n++vH (n:Int) m=vH 0 (n+m):=by have:=xKu 0 n m;rwa [Int.zero_add] at this
  rw[e]
  unfold mvA
  refine(List.map_congr_left (fun b hb=>?_)).trans (List.map_id _)
  have:b.args.map (fun i=>(vH 0 (n+m)).getD i.toNat 0)=b.args:=by
    refine(List.map_congr_left (fun i hi=>?_)).trans (List.map_id _);have:=h b hb i hi;rw[List.getD_eq_getElem?_getD,fB (by omega)]
    simp
    omega
  rw[this]
  rfl
theorem xVg {T:Nat} {t u:Template} {g:Gadgets} (h:DG T t u g):xFh t t u (mY t) g=(g,0):=by
  unfold xFh
  rw[own_ok h.gv.tV,h.ok,Bool.and_self,if_pos rfl];have hl:(mY t).formulas.length=g.formulas.length:=(xEx _ _).trans h.gv.n.symm
  rw[xJw g _ [] g.formulas hl (fun j f k h1 h2=>by
    obtain⟨r,q1,rfl,q2⟩:=own_get h1;obtain⟨q3,q4,q5⟩:=h.gv.f j k h2;rw[q2] at q4;obtain⟨n,ha,n1,n2,_⟩:=h.gv.tV.r r (List.mem_of_getElem? q1);have hv:=q3.v0
    have hk:g.formulas.getD (((j:Nat):Int)).toNat default=k:=by rw[Int.toNat_natCast,List.getD_eq_getElem?_getD,h2];rfl
    unfold rG
    have e:((wC j r).atoms.foldl (iB g) ((wC j r).vars,[]))=(k.vars,k.atoms):=by
      show iB g (r.arity,[]) ⟨(j:Int),vH 0 r.arity.toNat⟩=_
      unfold iB
      rw[if_neg (show ¬ (j:Int)= -1 by omega)];simp only
      rw[hk,List.nil_append,oAh,q4,ha,Int.toNat_natCast,xVo (fun b hb i hi=>by
        have:=(q3.a b hb).1 i hi
        omega),show(n:Int)+(k.vars - (n:Int))=k.vars by omega]
    rw[e]
    have e2:(⟨(wC j r).free,k.vars,k.atoms⟩:Formula)=k:=by
      show(⟨r.arity,k.vars,k.atoms⟩:Formula)=k
      rw[← q4]
    show xKn (⟨(wC j r).free,k.vars,k.atoms⟩:Formula)=_
    rw[e2]
    exact xRj q3)]
  rfl
theorem own_fold {T:Nat} {u:Template} (hu:TV T u) {n:Nat}:∀ (l:List Atom) (V:Int) (L:List Atom),(∀ a∈l,AV u n a)→l.foldl (iB (mY u)) (V,L)=(V,L++l)
  | [],V,L,_=>by simp
  | a::l,V,L,h=>by
    have e:iB (mY u) (V,L) a=(V,L++[a]):=by
      unfold iB
      rcases(h a (by simp)).2 with ⟨e,_⟩ | ⟨r,h2,h3,h4,h5⟩
      · rw[if_pos e]
      · rw[if_neg (by omega)]
        simp only;rw[xOq h3]
        show(V+(r.arity - r.arity),L++mvA (fun i=>(a.args++sG V (r.arity - r.arity).toNat).getD i.toNat 0) [⟨((a.rel.toNat:Nat):Int),vH 0 r.arity.toNat⟩])=_
        rw[Int.sub_self,Int.add_zero];have e1:sG V (0:Int).toNat=[]:=rfl;rw[e1,List.append_nil,show r.arity.toNat=a.args.length by omega];have e2:(vH 0 a.args.length).map (fun i=>a.args.getD i.toNat 0)=a.args:=xGc
        unfold mvA
        simp only[List.map_cons,List.map_nil];rw[e2,show((a.rel.toNat:Nat):Int)=a.rel by omega]
    rw[List.foldl_cons,e,own_fold hu l V _ (fun b hb=>h b (by simp [hb])),List.append_assoc]
    rfl
theorem xTk {T:Nat} {t u:Template} {g:Gadgets} (h:DG T t u g):xFh t u u g (mY u)=(g,0):=by
  unfold xFh
  rw[own_ok h.gv.uV,h.ok,Bool.and_self,if_pos rfl]
  rw[xJw (mY u) _ [] g.formulas rfl (fun j f k h1 h2=>by
    rw[h1] at h2;obtain rfl:=Option.some.inj h2;obtain⟨q3,_⟩:=h.gv.f j f h1
    unfold rG
    rw[own_fold h.gv.uV f.atoms f.vars [] q3.a,List.nil_append]
    exact xRj q3)]
  rfl
end Go.Proofs.YtlommebgedmjdaaGreatDoor
namespace Go.Proofs.YtlommebgedmjdaaGreatDoor
set_option linter.unusedVariables false
set_option linter.unusedSimpArgs false
set_option maxRecDepth 100000
theorem own_eq (l:List Int) (h:l.length≤1048576):qE l=some l:=by
  unfold qE
  rw[zD (by simp only[List.length_nil];omega),bnd_s,List.nil_append]
def sM (u:Template) (f:Formula):Nat→List Int→List (List Int)
  | 0,vs=>[vs]
  | d+1,vs=>(List.range' 0 u.size.toNat).flatMap fun(a:Nat)=>if vA u f (vs++[(a:Int)]) then sM u f d (vs++[(a:Int)]) else []
theorem xMo {u:Template} {f:Formula}:∀ (d:Nat) (vs ws:List Int),ws∈sM u f d vs→ws.length=vs.length+d∧ws.take vs.length=vs∧(∀ n,vs.length<n→n≤vs.length+d→vA u f (ws.take n)=true)∧∀ x∈ws.drop vs.length,0≤x∧x<(u.size.toNat:Int)
  | 0,vs,ws,h=>by
    obtain rfl:=List.mem_singleton.1 h;exact⟨rfl,List.take_of_length_le (Nat.le_refl _),fun n h1 h2=>by omega,fun x hx=>by rw[List.drop_of_length_le (Nat.le_refl _)] at hx;cases hx⟩
  | d+1,vs,ws,h=>by
    rw[sM,List.mem_flatMap] at h;obtain⟨a,ha,h⟩:=h;have ha':=(List.mem_range'_1.1 ha).2
    split at h
    · rename_i hs
      obtain⟨h1,h2,h3,h4⟩:=xMo d _ ws h
      have hl:(vs++[(a:Int)]).length=vs.length+1:=by simp
      rw[hl] at h1 h2 h3 h4
      have e2:ws.take vs.length=vs:=by
        have:=congrArg (List.take vs.length) h2;rw[List.take_take,Nat.min_eq_left (by omega),List.take_append_of_le_length (Nat.le_refl _),List.take_of_length_le (Nat.le_refl _)] at this;exact this
      refine⟨by omega,e2,fun n h5 h6=>?_,fun x hx=>?_⟩
      · by_cases e:n=vs.length+1
        · rw[e,h2];exact hs
        · exact h3 n (by omega) (by omega)
      · rw[List.drop_eq_getElem_cons (by omega)] at hx
        rcases List.mem_cons.1 hx with rfl | hx
        · have e3:ws[vs.length]?=some (a:Int):=by
            have:=congrArg (fun l=>l[vs.length]?) h2;simp only[List.getElem?_take,Nat.lt_succ_self,if_true] at this;rw[this]
            simp
          rw[List.getElem?_eq_getElem (by omega)] at e3;rw[Option.some.inj e3]
          omega
        · exact h4 x hx
    · cases h
theorem xHq {u:Template} {f:Formula} {Y:List Int} (hY:∀ n,1≤n→n≤Y.length→vA u f (Y.take n)=true) (hr:∀ x∈Y,0≤x∧x<(u.size.toNat:Int)):∀ (d k:Nat),k+d=Y.length→Y∈sM u f d (Y.take k)
  | 0,k,h=>by rw[sM,List.take_of_length_le (by omega)];simp
  | d+1,k,hk=>by
    have hlt:k<Y.length:=by omega
    have e:Y.take k++[Y[k]]=Y.take (k+1):=by rw[List.take_add_one,List.getElem?_eq_getElem hlt];rfl
    have hx:=hr _ (List.getElem_mem hlt);rw[sM,List.mem_flatMap];refine⟨Y[k].toNat,List.mem_range'_1.2 ⟨by omega,by omega⟩,?_⟩;rw[Int.toNat_of_nonneg hx.1,e,if_pos (hY (k+1) (by omega) (by omega))];exact xHq hY hr d (k+1) (by omega)
theorem xOf {u:Template} {f:Formula} (h4:u.size≤4):∀ (d:Nat) (vs:List Int),(sM u f d vs).length≤4 ^ d
  | 0,vs=>by simp [sM]
  | d+1,vs=>by
    rw[sM]
    have key:∀ (l:List Nat),(l.flatMap fun(a:Nat)=>if vA u f (vs++[(a:Int)]) then sM u f d (vs++[(a:Int)]) else []).length≤l.length*4 ^ d:=fun l=>by
      induction l with
      | nil=>simp
      | cons a l ih=>
        rw[List.flatMap_cons,List.length_append,List.length_cons,Nat.succ_mul]
        have h1:(if vA u f (vs++[(a:Int)]) then sM u f d (vs++[(a:Int)]) else []).length≤4 ^ d:=by
          split
          · exact xOf h4 d _
          · simp
        omega
    refine Nat.le_trans (key _) ?_;rw[List.length_range',Nat.pow_succ,Nat.mul_comm];exact Nat.mul_le_mul_left _ (by omega)
theorem xGx (L M:List (List Int)) (K:Nat):(L.take K++M).take K=(L++M).take K:=by
  rw[List.take_append,List.take_append,List.take_take,Nat.min_self,List.length_take]
  by_cases h:L.length≤K
  · rw[Nat.min_eq_right h]
  · rw[Nat.min_eq_left (by omega),Nat.sub_self,show K - L.length=0 by omega]
theorem xPw {T:Nat} {u:Template} {y:Instance} {vs:List Int} (m n:Int) (L:List (List Int)) (hu:TV T u) (h:∀ c∈y.cons,CW u y.vars c) (hl:1≤vs.length∧vs.length≤1000):vU (l05Find.mk u y m L n) vs=some (vA u (fY 1 y) vs):=(show vU (l05Find.mk u y m L n) vs=vU (l05Find.mk u y 0 [] 0) vs from rfl).trans (xEz 1 hu h hl)
theorem xFv {T:Nat} {u:Template} {y:Instance} (hu:TV T u) (h:∀ c∈y.cons,CW u y.vars c) (hv:0≤y.vars∧y.vars≤10) (K:Nat) (hK:1≤K∧K≤1000):∀ (d N:Nat) (vs:List Int) (L:List (List Int)),(vs.length:Int)+d=y.vars→d+1≤N→L.length<K→vT N u y (K:Int) L (L.length:Int) vs=some ((L++sM u (fY 1 y) d vs).take K,(((L++sM u (fY 1 y) d vs).take K).length:Int))
  | 0,N,vs,L,hd,hN,hL=>by
    obtain⟨M,rfl⟩:∃ M,N=M+1:=⟨N - 1,by omega⟩;rw[vT,if_pos (by simp;omega),kW (by omega) (by omega),bnd_s,if_pos (by simpa using hL),own_eq _ (by omega),bnd_s,zD (by simp only[List.length_cons,List.length_nil];omega),bnd_s,thn_nx,sM,List.take_of_length_le (by simp;omega)]
    simp
  | d+1,N,vs,L,hd,hN,hL=>by
    obtain⟨M,rfl⟩:∃ M,N=M+1:=⟨N - 1,by omega⟩;have ih:=xFv hu h hv K hK d M;rw[vT,if_neg (by simp;omega)]
    have hl:∀ a:Nat,(vs++[(a:Int)]).length=vs.length+1:=fun a=>by simp
    have key:∀ (m k:Nat) (L:List (List Int)) (b:Nat→(List (List Int))×Int→Option (Ctl ((List (List Int))×Int) ((List (List Int))×Int))),L.length≤K →
        (∀ (a:Nat) (L:List (List Int)),L.length=K→b a (L,(L.length:Int))=some (.ret (L,(L.length:Int)))) →
        (∀ (a:Nat) (L:List (List Int)),L.length<K→b a (L,(L.length:Int))=some (.go ((L++if vA u (fY 1 y) (vs++[(a:Int)]) then sM u (fY 1 y) d (vs++[(a:Int)]) else []).take K,(((L++if vA u (fY 1 y) (vs++[(a:Int)]) then sM u (fY 1 y) d (vs++[(a:Int)]) else []).take K).length:Int)))) →
        vC (aY b m k (L,(L.length:Int))) (fun s=>some s)=some ((L++(List.range' k m).flatMap fun(a:Nat)=>if vA u (fY 1 y) (vs++[(a:Int)]) then sM u (fY 1 y) d (vs++[(a:Int)]) else []).take K,(((L++(List.range' k m).flatMap fun(a:Nat)=>if vA u (fY 1 y) (vs++[(a:Int)]) then sM u (fY 1 y) d (vs++[(a:Int)]) else []).take K).length:Int)):=by
      intro m
      induction m with
      | zero=>intro k L b hLK _ _;simp only[List.range'_zero,List.flatMap_nil,List.append_nil];rw[List.take_of_length_le hLK];rfl
      | succ m ihm=>
        intro k L b hLK hb1 hb2;rw[List.range'_succ,List.flatMap_cons]
        by_cases he:L.length=K
        · rw[xOa (hb1 k L he)]
          rw[List.take_append,List.take_of_length_le (by omega),show K - L.length=0 by omega,List.take_zero,List.append_nil]
          rfl
        · rw[fL (hb2 k L (by omega)),ihm (k+1) _ b (by rw[List.length_take];omega) hb1 hb2,xGx,List.append_assoc]
    rw[sM];refine key u.size.toNat 0 L _ (by omega) (fun a L hL=>?_) (fun a L hL=>?_)
    · simp only
      rw[if_pos (by simp;omega),thn_nx,hL]
      simp
    · simp only
      have hne:((L.length:Int)==(K:Int))=false:=by simp;omega
      rw[if_pos (by simp;omega),thn_nx,hne,if_neg (by simp),own_eq _ (by omega),bnd_s,zD (by simp only[List.length_cons,List.length_nil];omega),bnd_s,xPw _ _ _ hu h (by rw[hl];omega),bnd_s]
      by_cases hsu:vA u (fY 1 y) (vs++[(a:Int)])=true
      · rw[if_pos hsu,if_pos hsu,ih _ L (by rw[hl];push_cast;omega) (by omega) hL,bnd_s]
      · rw[if_neg hsu,if_neg hsu,List.append_nil,List.take_of_length_le (by omega)]
structure Ri (T:Nat) (x:Template) (y:Instance):Prop where
  tv:TV T x
  vars:1≤y.vars∧y.vars≤10
  cons:y.cons.length≤24
  cw:∀ c∈y.cons,CW x y.vars c
def Sol (x:Template) (y:Instance) (vs:List Int):Prop:=(vs.length:Int)=y.vars∧Rng x.size.toNat vs∧∀ c∈y.cons,mE x vs c=true
section
variable {T:Nat} {x:Template} {y:Instance}
theorem Ri.size (h:Ri T x y):x.size=T∧1≤T∧T≤4:=⟨h.tv.s,h.tv.t⟩
def xKa (x:Template) (y:Instance):List (List Int):=sM x (fY 1 y) y.vars.toNat []
theorem xOr (h:Ri T x y) {o:List Int} (ho:o∈xKa x y):Sol x y o:=by
  obtain⟨h1,h2,h3,h4⟩:=xMo _ _ _ ho;have hs:=h.size;rw[List.length_nil,Nat.zero_add] at h1 h3;rw[List.length_nil,List.drop_zero] at h4;have hvv:=h.vars;refine⟨by omega,fun a ha=>h4 a ha,fun c hc=>?_⟩;have hw:=h.cw c hc;have hA:AV x y.vars.toNat ⟨c.rel,c.scope⟩:=⟨fun i hi=>by have:=hw.1.1 i hi;have:=h.vars;show 0≤i∧i<(y.vars.toNat:Int);omega,.inr hw.1.2⟩;obtain⟨k3,k4,k5⟩:=hA.rg h.tv;rw[← xAt hw];have hs:=h3 ((mx c.scope).toNat+1) (by simp) (by have:mx c.scope<(y.vars.toNat:Int):=k4;omega)
  unfold vA at hs
  have hs2:=List.all_eq_true.1 hs ⟨c.rel,c.scope⟩ (List.mem_map.2 ⟨c,hc,rfl⟩);have k3':0≤mx c.scope:=k3;have k4':mx c.scope<(y.vars.toNat:Int):=k4
  have hl2:((o.take ((mx c.scope).toNat+1)).length:Int) - 1=mx c.scope:=by rw[List.length_take];omega
  rw[hl2,decide_eq_true (show mx (Atom.mk c.rel c.scope).args=mx c.scope from rfl),Bool.not_true,Bool.false_or,rT (xGq (fun i hi=>by have:=k5 i hi;have k6:mx (Atom.mk c.rel c.scope).args=mx c.scope:=rfl;omega))] at hs2;exact hs2
theorem xNz (h:Ri T x y) {vs:List Int} (hS:Sol x y vs):vs∈xKa x y:=by
  have hl:=hS.1
  have:=xHq (u:=x) (f:=fY 1 y) (Y:=vs) (fun n h1 h2=>xJc h.tv (fun a ha=>by
    obtain⟨c,hc,rfl⟩:=List.mem_map.1 ha;have hw:=h.cw c hc
    exact⟨fun i hi=>by have:=hw.1.1 i hi;have:=h.vars;show 0≤i∧i<(y.vars.toNat:Int);omega,.inr hw.1.2⟩) (fun a ha=>by
    obtain⟨c,hc,rfl⟩:=List.mem_map.1 ha;rw[xAt (h.cw c hc)]
    exact hS.2.2 c hc) h1 h2) (fun z hz=>hS.2.1 z hz) vs.length 0 (by omega)
  have e:vs.length=y.vars.toNat:=by omega
  rw[e] at this;exact this
theorem Ri.inst (h:Ri T x y):wW x y=true:=by
  have hv:=h.vars;have hn:=h.cons
  unfold wW
  rw[iY h.tv,List.all_eq_true.2 (fun c hc=>by
    obtain⟨⟨h1,r,h2,h3,h4,h5⟩,_⟩:=h.cw c hc;have hlt:=(List.getElem?_eq_some_iff.1 h3).1
    unfold xMv
    rw[show x.rels.getD c.rel.toNat default=r by rw[List.getD_eq_getElem?_getD,h3];rfl,h5,List.all_eq_true.2 (fun i hi=>by
      have:=h1 i hi
      unfold okV
      simp
      omega)]
    simp
    omega)]
  simp
  omega
theorem Ri.ok (h:Ri T x y):fP x y=some true:=by rw[← h.inst];exact(xEu h.tv.small).1
theorem xYs (h:Ri T x y) (h3:y.vars≤3) {N:Nat} (hN:1100≤N):∃ L,bX N x y=some (L,0)∧L.length≤200∧∀ vs,vs∈L↔Sol x y vs:=by
  have hv:=h.vars;have hs:=h.size
  unfold bX bY
  have hf:=xFv h.tv h.cw (by omega) 201 (by omega) y.vars.toNat N [] [] (by simp only[List.length_nil];omega) (by omega) (by simp);rw[show(Template.mk x.size x.rels)=x from rfl,show(Instance.mk y.vars y.cons)=y from rfl,h.ok,bnd_s,if_neg (by simp)];have hf2:vT N x y 201 [] 0 []=some ((xKa x y).take 201,(((xKa x y).take 201).length:Int)):=hf;rw[hf2,bnd_s,bnd_s]
  have hl:(xKa x y).length≤64:=by
    have h1:=xOf (f:=fY 1 y) (by omega:x.size≤4) y.vars.toNat [];have h2:4 ^ y.vars.toNat≤4 ^ 3:=Nat.pow_le_pow_right (by omega) (by omega);exact Nat.le_trans h1 h2
  rw[if_neg (by rw[List.length_take];simp;omega),List.take_of_length_le (by omega)];exact⟨xKa x y,rfl,by omega,fun vs=>⟨xOr h,xNz h⟩⟩
theorem xEl (h:Ri T x y) {N:Nat} (hN:1100≤N):(∃ vs,vD N x y=some (vs,0)∧Sol x y vs)∨(vD N x y=some ([],6)∧∀ vs,¬ Sol x y vs):=by
  have hv:=h.vars
  unfold vD bY
  have hf:=xFv h.tv h.cw (by omega) 1 (by omega) y.vars.toNat N [] [] (by simp only[List.length_nil];omega) (by omega) (by simp);rw[show(Template.mk x.size x.rels)=x from rfl,show(Instance.mk y.vars y.cons)=y from rfl,h.ok,bnd_s,if_neg (by simp)];have hf2:vT N x y 1 [] 0 []=some ((xKa x y).take 1,(((xKa x y).take 1).length:Int)):=hf;rw[hf2,bnd_s,bnd_s]
  cases hL:xKa x y with
  | nil=>
    right
    refine⟨by simp,fun vs hS=>?_⟩;have:=xNz h hS;rw[hL] at this
    cases this
  | cons vs L=>
    left
    refine⟨vs,?_,xOr h (by rw[hL];simp)⟩;rw[if_neg (by simp)]
    rfl
theorem xIw (h:Ri T x y) {vs:List Int} (hS:Sol x y vs):lD x.size vs y.vars=true:=by
  have hs:=h.size
  unfold lD
  rw[Bool.and_eq_true,beq_iff_eq,List.all_eq_true];refine⟨hS.1,fun a ha=>?_⟩;have:=hS.2.1 a ha
  unfold okV
  simp
  omega
theorem oBf (h:Ri T x y) {vs:List Int} (hS:Sol x y vs):dQ x y vs=some (true,0):=by
  have hs:=h.size
  have hsz:okS x.size=true:=by unfold okS;simp;omega
  unfold dQ mM
  rw[show(Template.mk x.size x.rels)=x from rfl,show(Instance.mk y.vars y.cons)=y from rfl,h.ok,bnd_s,if_neg (by simp),rR hsz,bnd_s,xIw h hS,if_neg (by simp),bnd_s,if_neg (by simp)];obtain⟨i,j,f1,_,f3,_⟩:=uT (N:=1100) (y:=y) h.tv (vs:=vs) (fun c hc=>by rw[hS.1];exact h.cw c hc) (Nat.le_refl _);rw[f1,bnd_s]
  have:y.cons.any (fun c=>!mE x vs c)=false:=List.any_eq_false.2 fun c hc=>by rw[hS.2.2 c hc];simp
  rw[this] at f3
  have:¬ 0≤i:=by simpa using f3
  rw[decide_eq_true (by omega)]
end
end Go.Proofs.YtlommebgedmjdaaGreatDoor
namespace Go.Proofs.YtlommebgedmjdaaGreatDoor
set_option linter.unusedVariables false
set_option linter.unusedSimpArgs false
set_option maxRecDepth 100000
theorem pK {W args:List Int} {k:Nat} (h:k<args.length):(aL W args).getD k 0=W.getD (args.getD k 0).toNat 0:=by
  unfold aL
  rw[List.getD_eq_getElem?_getD,List.getElem?_map,List.getElem?_eq_getElem h,Option.map_some,Option.getD_some,List.getD_eq_getElem?_getD (l:=args),List.getElem?_eq_getElem h,Option.getD_some]
theorem uY {S:List Int} {a:Atom} (he:a.rel= -1) {i:Nat} (hi:i<S.length):(zN S a).getD i 0=(if S.getD i 0=hiI (S.getD (a.args.getD 0 0).toNat 0) (S.getD (a.args.getD 1 0).toNat 0) then loI (S.getD (a.args.getD 0 0).toNat 0) (S.getD (a.args.getD 1 0).toNat 0) else S.getD i 0):=by
  unfold zN
  rw[if_pos he];simp only;rw[List.getD_eq_getElem?_getD,List.getElem?_map,List.getElem?_eq_getElem hi,Option.map_some,Option.getD_some]
  have:S.getD i 0=S[i]:=by rw[List.getD_eq_getElem?_getD,List.getElem?_eq_getElem hi];rfl
  rw[this]
theorem xNf {S:List Int} {a:Atom} {i j:Nat} (hi:i<S.length) (hj:j<S.length) (h:S.getD i 0=S.getD j 0):(zN S a).getD i 0=(zN S a).getD j 0:=by
  by_cases he:a.rel= -1
  · rw[uY he hi,uY he hj,h]
  · unfold zN
    rw[if_neg he];exact h
theorem xQg {S:List Int} {a:Atom} (he:a.rel= -1) (hi:(a.args.getD 0 0).toNat<S.length) (hj:(a.args.getD 1 0).toNat<S.length):(zN S a).getD (a.args.getD 0 0).toNat 0=(zN S a).getD (a.args.getD 1 0).toNat 0:=by
  rw[uY he hi,uY he hj];generalize S.getD (a.args.getD 0 0).toNat 0=p;generalize S.getD (a.args.getD 1 0).toNat 0=q
  unfold hiI loI
  by_cases h1:p<q
  · have h2:¬ q<p:=by omega
    rw[if_pos h1,if_neg h2,if_pos rfl]
    split<;>omega
  · by_cases h2:q<p
    · rw[if_neg h1,if_pos h2,if_pos rfl]
      split<;>omega
    · rw[if_neg h1,if_neg h2,if_pos rfl]
      split<;>omega
theorem xIp:∀ (l:List Atom) (S:List Int) {i j:Nat},i<S.length→j<S.length→S.getD i 0=S.getD j 0→(l.foldl zN S).getD i 0=(l.foldl zN S).getD j 0
  | [],_,_,_,_,_,h=>h
  | a::l,S,i,j,hi,hj,h=>by
    rw[List.foldl_cons];exact xIp l _ (by rw[cF];exact hi) (by rw[cF];exact hj) (xNf hi hj h)
theorem xIj {V:Nat}:∀ (l:List Atom) (S:List Int),S.length=V→AB V l→∀ a∈l,a.rel= -1→(l.foldl zN S).getD (a.args.getD 0 0).toNat 0=(l.foldl zN S).getD (a.args.getD 1 0).toNat 0
  | [],_,_,_,a,ha,_=>nomatch ha
  | b::l,S,hl,hA,a,ha,he=>by
    rw[List.foldl_cons]
    by_cases hm:a∈l
    · exact xIj l _ (by rw[cF];exact hl) (fun c hc=>hA c (by simp [hc])) a hm he
    · have e:a=b:=by
        rcases List.mem_cons.1 ha with h | h
        · exact h
        · exact absurd h hm
      subst e;obtain⟨_,h2,h3⟩:=hA a (by simp);have hlen:=h2 he
      have hin:∀ k,k<2→(a.args.getD k 0).toNat<S.length:=fun k hk=>by
        have hk2:k<a.args.length:=by omega
        have e3:a.args.getD k 0=a.args[k]:=by rw[List.getD_eq_getElem?_getD,List.getElem?_eq_getElem hk2];rfl
        have:=h3 _ (List.getElem_mem hk2);rw[e3]
        omega
      exact xIp l _ (by rw[cF];exact hin 0 (by omega)) (by rw[cF];exact hin 1 (by omega)) (xQg he (hin 0 (by omega)) (hin 1 (by omega)))
section
variable {T:Nat} {t u:Template} {g:Gadgets} {n:Int}
theorem xOw (hG:GV T t u g) {c:Con} (h:CV t n c):∃ r,t.rels[c.rel.toNat]?=some r∧g.formulas[c.rel.toNat]?=some (g.formulas.getD c.rel.toNat default)∧FV u (g.formulas.getD c.rel.toNat default)∧(g.formulas.getD c.rel.toNat default).free=r.arity∧(c.scope.length:Int)=r.arity∧t.rels.getD c.rel.toNat default=r:=by
  obtain⟨_,r,h2,h3,h4,h5⟩:=h
  have hlt:c.rel.toNat<g.formulas.length:=by rw[hG.n];exact(List.getElem?_eq_some_iff.1 h3).1
  have hf:g.formulas[c.rel.toNat]?=some (g.formulas.getD c.rel.toNat default):=by rw[List.getD_eq_getElem?_getD,List.getElem?_eq_getElem hlt];rfl
  have hd:t.rels.getD c.rel.toNat default=r:=by rw[List.getD_eq_getElem?_getD,h3];rfl
  obtain⟨f1,f2,_⟩:=hG.f _ _ hf;rw[hd] at f2;exact⟨r,h3,hf,f1,f2,h5,hd⟩
theorem pU (hG:GV T t u g) {P:Atom→Prop}:∀ (l:List Con) (V:Int) (L:List Atom),(∀ c∈l,CV t n c)→(∀ a∈(l.foldl (fJ g) (V,L)).2,P a)→V≤(l.foldl (fJ g) (V,L)).1∧(∀ a∈L,P a)∧∀ c∈l,∃ V0,V≤V0∧V0+((g.formulas.getD c.rel.toNat default).vars - (g.formulas.getD c.rel.toNat default).free)≤(l.foldl (fJ g) (V,L)).1∧∀ a∈mvB (fun i=>(c.scope++vH V0 ((g.formulas.getD c.rel.toNat default).vars - (g.formulas.getD c.rel.toNat default).free).toNat).getD i.toNat 0) (g.formulas.getD c.rel.toNat default).atoms,P a
  | [],V,L,_,h=>⟨Int.le_refl _,h,fun c hc=>nomatch hc⟩
  | c::l,V,L,hc,h=>by
    rw[List.foldl_cons] at h ⊢;obtain⟨r,_,_,hf,_⟩:=xOw hG (hc c (by simp));have hv:=hf.v0;have e:fJ g (V,L) c=(V+((g.formulas.getD c.rel.toNat default).vars - (g.formulas.getD c.rel.toNat default).free),L++mvB (fun i=>(c.scope++vH V ((g.formulas.getD c.rel.toNat default).vars - (g.formulas.getD c.rel.toNat default).free).toNat).getD i.toNat 0) (g.formulas.getD c.rel.toNat default).atoms):=rfl;rw[e] at h ⊢;obtain⟨h1,h2,h3⟩:=pU hG l _ _ (fun d hd=>hc d (by simp [hd])) h;refine⟨by omega,fun a ha=>h2 a (List.mem_append_left _ ha),fun d hd=>?_⟩
    by_cases hm:d∈l
    · obtain⟨V0,k1,k2,k3⟩:=h3 d hm
      exact⟨V0,by omega,k2,k3⟩
    · have e2:d=c:=by
        rcases List.mem_cons.1 hd with h | h
        · exact h
        · exact absurd h hm
      subst e2;exact⟨V,Int.le_refl _,h1,fun a ha=>h2 a (List.mem_append_right _ ha)⟩
end
theorem xKf {T:Nat} {t u:Template} {g:Gadgets} {x:Instance} {Y:List Int} (hG:GV T t u g) (hval:∀ (j:Nat) f,g.formulas[j]?=some f→(dN u f T f.free.toNat).tuples=(t.rels.getD j default).tuples) (hx:Ri T t x) (hz:(zZ g x).2.2=0) (hY:Sol u (zZ g x).1 Y):Sol t x (aL Y (zZ g x).2.1):=by
  have hxv:=hx.vars;have hCV:∀ c∈x.cons,CV t x.vars c:=fun c hc=>(hx.cw c hc).1;obtain⟨p1,p2,p3⟩:=jG hG hxv hx.cons hCV;have hVx:x.vars≤(kC g x).1:=(pU hG (P:=fun _=>True) x.cons x.vars [] hCV (fun _ _=>trivial)).1
  have hA':AB (((kC g x).1.toNat:Nat):Int) (kC g x).2:=by rw[Int.toNat_of_nonneg (by omega)];exact p3
  have hrep:Rep (qO g x):=sH _ _ (uJ _) (zG _ _) hA'
  have hSl:(qO g x).length=(kC g x).1.toNat:=by
    have:∀ (l:List Atom) (s:List Int),(l.foldl zN s).length=s.length:=by
      intro l
      induction l with
      | nil=>intro s;rfl
      | cons a l ih=>intro s;rw[List.foldl_cons,ih,cF]
    unfold qO
    rw[this,zG]
  have hRe:zZ g x=(⟨(vX (qO g x) (qO g x).length:Int),gO (vV (qO g x)) (kC g x).2⟩,(vV (qO g x)).take x.vars.toNat,0):=by
    unfold zZ at hz ⊢
    split at hz
    · cases hz
    · rename_i hn
      rw[if_neg hn]
  rw[hRe] at hY ⊢;obtain⟨y1,y2,y3⟩:=hY;simp only at y1 y2 y3 ⊢
  have hnl:(vV (qO g x)).length=(qO g x).length:=by unfold vV;rw[List.length_map]
  have hWlen:(aL Y (vV (qO g x))).length=(kC g x).1.toNat:=by rw[aL,List.length_map,hnl,hSl]
  have hWat:∀ v,v<(qO g x).length→(aL Y (vV (qO g x))).getD v 0=Y.getD (vX (qO g x) ((qO g x).getD v 0).toNat) 0:=fun v hv=>by
    rw[pK (by omega),List.getD_eq_getElem?_getD (l:=vV (qO g x)),mX hv,Option.getD_some,Int.toNat_natCast,List.getD_eq_getElem?_getD (l:=qO g x),List.getElem?_eq_getElem hv,Option.getD_some]
  have hWr:Rng u.size.toNat (aL Y (vV (qO g x))):=fun z hm=>by
    obtain⟨v,hv,rfl⟩:=List.mem_iff_getElem.1 hm
    have hvS:v<(qO g x).length:=by omega
    have e:=hWat v hvS;rw[kA (List.getElem?_eq_getElem hv)] at e;rw[e];have hlt:=xEd hrep hvS;rw[List.getD_eq_getElem?_getD,mX hvS,Option.getD_some] at hlt
    have hk:vX (qO g x) ((qO g x).getD v 0).toNat<Y.length:=by
      rw[List.getD_eq_getElem?_getD,List.getElem?_eq_getElem hvS,Option.getD_some]
      omega
    rw[kA (List.getElem?_eq_getElem hk)];exact y2 _ (List.getElem_mem hk)
  have hat:∀ a∈(kC g x).2,cY u a (aL Y (vV (qO g x)))=true:=fun a ha=>by
    obtain⟨q1,q2,q3⟩:=p3 a ha
    by_cases he:a.rel= -1
    · have hl:=q2 he
      unfold cY
      rw[if_pos he,pK (W:=aL Y (vV (qO g x))) (args:=a.args) (k:=0) (by omega),pK (W:=aL Y (vV (qO g x))) (args:=a.args) (k:=1) (by omega),decide_eq_true_eq]
      have hin:∀ k,k<2→(a.args.getD k 0).toNat<(qO g x).length:=fun k hk=>by
        have hk2:k<a.args.length:=by omega
        have e3:a.args.getD k 0=a.args[k]:=kA (List.getElem?_eq_getElem hk2);have:=q3 _ (List.getElem_mem hk2);rw[e3]
        omega
      rw[hWat _ (hin 0 (by omega)),hWat _ (hin 1 (by omega))];have:=xIj (V:=(kC g x).1.toNat) (kC g x).2 (vH 0 (kC g x).1.toNat) (zG _ _) hA' a ha he;have e:(kC g x).2.foldl zN (vH 0 (kC g x).1.toNat)=qO g x:=rfl;rw[e] at this;rw[this]
    · have hm:(⟨a.rel,aL (vV (qO g x)) a.args⟩:Con)∈gO (vV (qO g x)) (kC g x).2:=List.mem_map.2 ⟨a,List.mem_filter.2 ⟨ha,by simpa using he⟩,rfl⟩
      have h6:=y3 _ hm
      unfold mE at h6
      unfold cY
      rw[if_neg he]
      have e:aL (aL Y (vV (qO g x))) a.args=aL Y (aL (vV (qO g x)) a.args):=by
        have e1:aL Y (aL (vV (qO g x)) a.args)=a.args.map fun i=>Y.getD ((vV (qO g x)).getD i.toNat 0).toNat 0:=by
          unfold aL
          rw[List.map_map]
          rfl
        rw[e1]
        show a.args.map (fun i=>(aL Y (vV (qO g x))).getD i.toNat 0)=_
        apply List.map_congr_left
        intro i hi;have:=q3 i hi;rw[pK (by omega)]
      rw[e];exact h6
  have hvs:∀ v,v<x.vars.toNat→(aL Y ((vV (qO g x)).take x.vars.toNat)).getD v 0=(aL Y (vV (qO g x))).getD v 0:=fun v hv=>by
    rw[pK (by rw[List.length_take];omega),pK (by omega)]
    congr 2
    rw[List.getD_eq_getElem?_getD,List.getElem?_take,if_pos hv,← List.getD_eq_getElem?_getD]
  have hvl:(aL Y ((vV (qO g x)).take x.vars.toNat)).length=x.vars.toNat:=by rw[aL,List.length_map,List.length_take];omega
  refine⟨by omega,fun z hm=>?_,fun c hc=>?_⟩
  · obtain⟨v,hv,rfl⟩:=List.mem_iff_getElem.1 hm
    have e:=hvs v (by omega);rw[kA (List.getElem?_eq_getElem hv),kA (List.getElem?_eq_getElem (show v<(aL Y (vV (qO g x))).length by omega))] at e
    have hsz:t.size=u.size:=by rw[hG.tV.s,hG.uV.s]
    rw[e,hsz];exact hWr _ (List.getElem_mem _)
  · obtain⟨_,_,f3⟩:=pU hG (P:=fun a=>cY u a (aL Y (vV (qO g x)))=true) x.cons x.vars [] hCV hat
    obtain⟨V0,k1,k2,k3⟩:=f3 c hc;obtain⟨r,hr,hf,fv,ffr,hsc,hd⟩:=xOw hG (hCV c hc);have hv:=hval _ _ hf;rw[hd] at hv;have hc1:=(hCV c hc).1;have k2':V0+((g.formulas.getD c.rel.toNat default).vars - (g.formulas.getD c.rel.toNat default).free)≤(kC g x).1:=k2;generalize g.formulas.getD c.rel.toNat default=f at hf fv ffr hv k2' k3;have f0:=fv.f0;have v0:=fv.v0
    have hto:(c.scope++vH V0 (f.vars - f.free).toNat).length=f.vars.toNat:=by rw[List.length_append,zG];omega
    have hall:∀ i∈c.scope++vH V0 (f.vars - f.free).toNat,0≤i∧i<(kC g x).1:=fun i hi=>by
      rcases List.mem_append.1 hi with hi | hi
      · have:=hc1 i hi
        omega
      · unfold vH at hi
        obtain⟨j,hj,rfl⟩:=List.mem_map.1 hi;have:=List.mem_range.1 hj
        omega
    have hsize:((f.free.toNat:Nat):Int)=f.free:=by omega
    have hd2:aL (aL Y (vV (qO g x))) c.scope∈(dN u f T f.free.toNat).tuples:=by
      refine(xKc hG.uV fv hsize.symm (iP.2 ⟨by rw[aL,List.length_map];omega,fun a ha=>?_⟩)).2 ⟨aL (aL Y (vV (qO g x))) (c.scope++vH V0 (f.vars - f.free).toNat),by rw[aL,List.length_map,hto],fun z hm=>?_,?_,fun a ha=>?_⟩
      · obtain⟨i,hi,rfl⟩:=List.mem_map.1 ha
        have:=hall i (List.mem_append_left _ hi)
        have hT:u.size.toNat=T:=by rw[hG.uV.s];simp
        rw[← hT,kA (List.getElem?_eq_getElem (show i.toNat<(aL Y (vV (qO g x))).length by omega))];exact hWr _ (List.getElem_mem _)
      · obtain⟨i,hi,rfl⟩:=List.mem_map.1 hm
        have:=hall i hi;rw[kA (List.getElem?_eq_getElem (show i.toNat<(aL Y (vV (qO g x))).length by omega))];exact hWr _ (List.getElem_mem _)
      · have e:aL (aL Y (vV (qO g x))) (c.scope++vH V0 (f.vars - f.free).toNat)=aL (aL Y (vV (qO g x))) c.scope++aL (aL Y (vV (qO g x))) (vH V0 (f.vars - f.free).toNat):=by unfold aL;rw[List.map_append]
        rw[e,List.take_append_of_le_length (by rw[aL,List.length_map];omega),List.take_of_length_le (by rw[aL,List.length_map];omega)]
      · have h6:=k3 ⟨a.rel,a.args.map fun i=>(c.scope++vH V0 (f.vars - f.free).toNat).getD i.toNat 0⟩ (List.mem_map.2 ⟨a,ha,rfl⟩)
        have e:aL (aL (aL Y (vV (qO g x))) (c.scope++vH V0 (f.vars - f.free).toNat)) a.args=aL (aL Y (vV (qO g x))) (a.args.map fun i=>(c.scope++vH V0 (f.vars - f.free).toNat).getD i.toNat 0):=by
          show a.args.map (fun i=>(aL (aL Y (vV (qO g x))) (c.scope++vH V0 (f.vars - f.free).toNat)).getD i.toNat 0)=(a.args.map _).map _
          rw[List.map_map]
          apply List.map_congr_left
          intro i hi;have:=(fv.a a ha).1 i hi;rw[pK (by omega)]
          rfl
        unfold cY at h6 ⊢
        rw[e];exact h6
    unfold mE
    rw[hd,← hv,decide_eq_true_eq]
    have e:aL (aL Y ((vV (qO g x)).take x.vars.toNat)) c.scope=aL (aL Y (vV (qO g x))) c.scope:=by
      unfold aL
      apply List.map_congr_left
      intro i hi;have:=hc1 i hi;exact hvs i.toNat (by omega)
    rw[e];exact hd2
end Go.Proofs.YtlommebgedmjdaaGreatDoor
namespace Go.Proofs.YtlommebgedmjdaaGreatDoor
set_option linter.unusedVariables false
set_option linter.unusedSimpArgs false
set_option maxRecDepth 100000
theorem oCj {T:Nat} {t:Template} {x:Instance} (ht:TV T t) (hv:1≤x.vars∧x.vars≤10) (hn:x.cons.length≤24) (hc:∀ c∈x.cons,CV t x.vars c):Ri T t x:=⟨ht,hv,hn,fun c h=>⟨hc c h,by
  obtain⟨_,r,_,_,hr,ha⟩:=hc c h;obtain⟨n,e,_,hn4,_⟩:=ht.r r hr
  omega⟩⟩
theorem xVc {T:Nat} {t u:Template} {g:Gadgets} {x:Instance} (hG:GV T t u g) (hx:Ri T t x) (hz:(zZ g x).2.2=0):Ri T u (zZ g x).1∧((zZ g x).2.1.length:Int)=x.vars:=by
  have hxv:=hx.vars;have hCV:∀ c∈x.cons,CV t x.vars c:=fun c hc=>(hx.cw c hc).1;obtain⟨_,_,p3⟩:=jG hG hxv hx.cons hCV;have hVx:x.vars≤(kC g x).1:=(pU hG (P:=fun _=>True) x.cons x.vars [] hCV (fun _ _=>trivial)).1;obtain⟨q1,_⟩:=xEg hG hCV (by omega) p3
  have hA':AB (((kC g x).1.toNat:Nat):Int) (kC g x).2:=by rw[Int.toNat_of_nonneg (by omega)];exact p3
  have hrep:Rep (qO g x):=sH _ _ (uJ _) (zG _ _) hA'
  have hSl:(qO g x).length=(kC g x).1.toNat:=by
    have:∀ (l:List Atom) (s:List Int),(l.foldl zN s).length=s.length:=by
      intro l
      induction l with
      | nil=>intro s;rfl
      | cons a l ih=>intro s;rw[List.foldl_cons,ih,cF]
    unfold qO
    rw[this,zG]
  have hRe:zZ g x=(⟨(vX (qO g x) (qO g x).length:Int),gO (vV (qO g x)) (kC g x).2⟩,(vV (qO g x)).take x.vars.toNat,0)∧(vX (qO g x) (qO g x).length:Int)≤10∧(gO (vV (qO g x)) (kC g x).2).length≤24:=by
    unfold zZ at hz ⊢
    split at hz
    · cases hz
    · rename_i hn
      rw[if_neg hn];simp only[Bool.or_eq_true,decide_eq_true_eq,not_or] at hn;exact⟨rfl,by omega,by omega⟩
  obtain⟨eR,c10,c24⟩:=hRe
  have h0:0<(qO g x).length:=by omega
  have hlt:=xEd hrep h0;rw[eR] at q1 ⊢;refine⟨⟨hG.uV,by show 1≤(vX (qO g x) (qO g x).length:Int)∧_;exact⟨by omega,c10⟩,c24,q1⟩,?_⟩
  show(((vV (qO g x)).take x.vars.toNat).length:Int)=_
  rw[List.length_take]
  unfold vV
  rw[List.length_map]
  omega
theorem xOh {T:Nat} {t u:Template} {g:Gadgets} {x:Instance} {Y:List Int} (hG:GV T t u g) (hx:Ri T t x) (ha:mS t u g x=true) (hz:(zZ g x).2.2=0) (hY:Sol u (zZ g x).1 Y):xLj t u g x Y=(aL Y (zZ g x).2.1,0):=by
  have hri:=(xVc hG hx hz).1
  unfold xLj
  rw[ha,if_pos rfl,hz,if_neg (by simp),xIw hri hY,if_pos rfl]
  have:((zZ g x).1.cons.any fun c=>!mE u Y c)=false:=List.any_eq_false.2 fun c hc=>by rw[hY.2.2 c hc];simp
  rw[this,if_neg (by simp)]
theorem xYt {u:Template} {y:Instance} {Y l:List Int} (hl:l.length≤1000) (h:∀ i∈l,0≤i∧i<(Y.length:Int)):gD Y l=some (aL Y l):=by
  unfold gD
  rw[lG h hl,bnd_s]
theorem law_FnGadgets {N:Nat} (hN:1100≤N) (x y:List UInt8):laws_FnGadgets N x y=some true:=by
  unfold laws_FnGadgets laws_f6big
  rw[bnd_s,bnd_s]
  by_cases hx:decide (4096<(x.length:Int))=true
  · rw[hx,if_pos rfl,thn_nx,if_pos rfl]
  rw[if_neg hx]
  by_cases hy:decide (4096<(y.length:Int))=true
  · rw[hy,thn_nx,if_pos rfl]
  rw[show decide (4096<(y.length:Int))=false by simpa using hy,thn_nx,if_neg (by simp)];obtain⟨u,e1,hu,hur⟩:=xHj x hN;obtain⟨t,g,e2,hD⟩:=xJh y hu hur hN;have hG:=hD.gv;have ht:=hG.tV;have hts:=ht.small;have hus:=hu.small;have e2':eQ N y (Template.mk u.size u.rels)=some (t,g):=e2;rw[e1,bnd_s,e2',bnd_s];simp only
  obtain⟨tx,e3,e4⟩:=xVp (g:=g) (by have:=hD.n;omega) (fun f hf=>by
    obtain⟨j,hj,rfl⟩:=List.mem_iff_getElem.1 hf
    exact((hG.f j _ (List.getElem?_eq_getElem hj)).1.ok hu).2)
  have e3':aB (Gadgets.mk g.formulas)=some tx:=e3
  have e5:dS N (Template.mk t.size t.rels) (Template.mk u.size u.rels) (Gadgets.mk g.formulas)=some (0,[],6):=by rw[← xTx hD];exact(xFz hts hus hN).2
  have e6:qU N (Template.mk t.size t.rels) (Template.mk u.size u.rels) (Gadgets.mk g.formulas)=some true:=by rw[← hD.ok];exact(iM hts hus hN).2
  rw[e3',bnd_s,e4,bnd_s,e5,bnd_s];simp only;rw[if_neg (by simp),show aF (Gadgets.mk g.formulas) (Gadgets.mk g.formulas)=some true from xXi g,bnd_s,if_neg (by simp),show dD (Gadgets.mk g.formulas) (Gadgets.mk g.formulas)=some true from eqG g,bnd_s,if_neg (by simp),e6,bnd_s,if_neg (by simp),thn_nx,if_neg (by simp)];obtain⟨z,e7,hz3,hz6,hzc⟩:=xHn x ht hN;have hri:Ri 2 t z:=oCj ht (by omega) (by omega) hzc
  have hask:mS t u g z=true:=by unfold mS;rw[hD.ok,hri.inst];rfl
  have happ:yZ t u g z=zZ g z:=by unfold yZ;rw[hask,if_pos rfl]
  have e7':dU N x (Template.mk t.size t.rels) 3=some z:=e7
  have e8:kR N (Template.mk t.size t.rels) (Template.mk u.size u.rels) (Gadgets.mk g.formulas) (Instance.mk z.vars z.cons)=some (zZ g z):=by rw[← happ];exact(mH hts hus hN).2
  have e9:cA N (Template.mk t.size t.rels) (Template.mk u.size u.rels) (Gadgets.mk g.formulas) (Instance.mk z.vars z.cons)=some (zZ g z):=by rw[← happ];exact(mH hts hus hN).1
  rw[e7',bnd_s,e8,bnd_s,e9,bnd_s,lP,if_neg (by simp),show kS (Instance.mk (zZ g z).1.vars (zZ g z).1.cons) (Instance.mk (zZ g z).1.vars (zZ g z).1.cons)=some true from xXq _,bnd_s,if_neg (by simp),xOc,bnd_s,thn_nx,if_neg (by simp)];have hown:=own_two ht;have hownu:=own_two hu
  have haskO:mS t t (mY t) z=true:=by unfold mS;rw[own_ok ht,hri.inst];rfl
  obtain⟨l0,hl0⟩:=own_apply ht hri.vars hri.cons hzc;have e10:dO (Template.mk t.size t.rels)=some (mY t,0):=hown.1
  have e11:kR N (Template.mk t.size t.rels) (Template.mk t.size t.rels) (Gadgets.mk (mY t).formulas) (Instance.mk z.vars z.cons)=some (z,l0,0):=by
    rw[← hl0]
    have:yZ t t (mY t) z=zZ (mY t) z:=by unfold yZ;rw[haskO,if_pos rfl]
    rw[← this];exact(mH hts hts hN).2
  rw[e10,bnd_s,e11,bnd_s];simp only;rw[if_neg (by simp),if_neg (by simp),show kS (Instance.mk z.vars z.cons) (Instance.mk z.vars z.cons)=some true from xXq _,bnd_s,thn_nx,if_neg (by simp)]
  have e12:zW N (Template.mk t.size t.rels) (Template.mk t.size t.rels) (Template.mk u.size u.rels) (Gadgets.mk (mY t).formulas) (Gadgets.mk g.formulas)=some (g,0):=by rw[← xVg hD];exact(pM hts hts hus hN).2
  have e13:dV (Template.mk u.size u.rels)=some (mY u,0):=hownu.2
  have e14:zW N (Template.mk t.size t.rels) (Template.mk u.size u.rels) (Template.mk u.size u.rels) (Gadgets.mk g.formulas) (Gadgets.mk (mY u).formulas)=some (g,0):=by rw[← xTk hD];exact(pM hts hus hus hN).2
  rw[e12,bnd_s,e13,bnd_s,e14,bnd_s];simp only;rw[if_neg (by simp),e6,bnd_s,if_neg (by simp),if_neg (by simp),if_neg (by simp),show aF (Gadgets.mk g.formulas) (Gadgets.mk g.formulas)=some true from xXi g,bnd_s,thn_nx,if_neg (by simp)]
  by_cases hz:(zZ g z).2.2=0
  rotate_left
  · have h3:(zZ g z).2.2=3:=by
      unfold zZ at hz ⊢
      split
      · rfl
      · rename_i hn
        rw[if_neg hn] at hz;exact absurd rfl hz
    rw[if_pos (by simpa using hz),h3]
    rfl
  rw[if_neg (by simp [hz])];obtain⟨hri2,hpl⟩:=xVc hG hri hz
  have ei:∀ i∈(zZ g z).2.1,0≤i∧i<(zZ g z).1.vars:=by
    have hCV:∀ c∈z.cons,CV t z.vars c:=hzc;obtain⟨_,_,p3⟩:=jG hG hri.vars hri.cons hCV;have hVx:z.vars≤(kC g z).1:=(pU hG (P:=fun _=>True) z.cons z.vars [] hCV (fun _ _=>trivial)).1;exact(xEg hG hCV (by omega) p3).2 hz
  have f1:∀ r,vD N t z=some r→vD N (Template.mk t.size t.rels) (Instance.mk z.vars z.cons)=some r:=fun r h=>h;have f2:∀ r,vD N u (zZ g z).1=some r→vD N (Template.mk u.size u.rels) (Instance.mk (zZ g z).1.vars (zZ g z).1.cons)=some r:=fun r h=>h
  have forth:∀ vs,Sol t z vs→∃ r,cG N t u g z vs=some (r,0)∧cJ N t u g z vs=some (r,0)∧Sol u (zZ g z).1 r∧aL r (zZ g z).2.1=vs:=fun vs hS=>by
    obtain⟨⟨r,c⟩,k1,k2,_,k3⟩:=xFu (x:=z) (vs:=vs) (g:=g) hts hus hN;obtain⟨k4,k5,k6,k7,k8⟩:=k3 hask (xIw hri hS) hS.2.2 hz;simp only at k4;subst k4;exact⟨r,k1,k2,⟨k5,k6,k7⟩,k8⟩
  rcases xEl hri hN with ⟨v1,a1,s1⟩ | ⟨a1,s1⟩
  · rcases xEl hri2 hN with ⟨v2,a2,s2⟩ | ⟨a2,s2⟩
    rotate_left
    · obtain⟨r,_,_,k,_⟩:=forth v1 s1
      exact absurd k (s2 r)
    rw[f1 _ a1,bnd_s,f2 _ a2,bnd_s];simp only;rw[if_neg (by simp),if_neg (by simp)];have hb:=xKf hG hD.val hri hz s2
    have e15:bU N (Template.mk t.size t.rels) (Template.mk u.size u.rels) (Gadgets.mk g.formulas) (Instance.mk z.vars z.cons) v2=some (aL v2 (zZ g z).2.1,0):=by rw[← xOh hG hri hask hz s2];exact(wV hts hus hN).2
    have e16:gD v2 (zZ g z).2.1=some (aL v2 (zZ g z).2.1):=xYt (u:=u) (y:=z) (by omega) (fun i hi=>by have:=ei i hi;have:=s2.1;omega);have e17:dQ (Template.mk t.size t.rels) (Instance.mk z.vars z.cons) (aL v2 (zZ g z).2.1)=some (true,0):=oBf hri hb;rw[e15,bnd_s,e16,bnd_s,e17,bnd_s];simp only;rw[if_neg (by simp),if_neg (by simp),if_neg (by simp),xOc,bnd_s,thn_nx,if_neg (by simp)];obtain⟨L,a3,hL,hm⟩:=xYs hri hz3.2 hN;have a3':bX N (Template.mk t.size t.rels) (Instance.mk z.vars z.cons)=some (L,0):=a3;have hL0:0<L.length:=List.length_pos_of_mem ((hm v1).2 s1);rw[a3',bnd_s];simp only;rw[if_neg (by simp),thn_nx,if_neg (by simp;intro h;rw[h] at hL0;simp at hL0)];obtain⟨k,a4,k0,k1⟩:=xQu y (n:=(L.length:Int)) (by omega);have hk:L[k.toNat]?=some (L[k.toNat]'(by omega)):=List.getElem?_eq_getElem (by omega);have hS:=(hm _).1 (List.getElem_mem (show k.toNat<L.length by omega));generalize L[k.toNat]'(by omega)=w at hk hS;obtain⟨r,b1,b2,b3,b4⟩:=forth w hS;have b1':cG N (Template.mk t.size t.rels) (Template.mk u.size u.rels) (Gadgets.mk g.formulas) (Instance.mk z.vars z.cons) w=some (r,0):=b1;have b2':cJ N (Template.mk t.size t.rels) (Template.mk u.size u.rels) (Gadgets.mk g.formulas) (Instance.mk z.vars z.cons) w=some (r,0):=b2
    have e18:bU N (Template.mk t.size t.rels) (Template.mk u.size u.rels) (Gadgets.mk g.formulas) (Instance.mk z.vars z.cons) r=some (w,0):=by
      have:=xOh hG hri hask hz b3;rw[b4] at this;rw[← this];exact(wV hts hus hN).2
    rw[a4,bnd_s,gQ k0 hk,bnd_s,b2',bnd_s,b1',bnd_s];simp only;rw[if_neg (by simp),if_neg (by simp),xOc,bnd_s,thn_nx,if_neg (by simp),e18,bnd_s];simp only;rw[if_pos (by simp),xOc,bnd_s,thn_nx]
  · rcases xEl hri2 hN with ⟨v2,a2,s2⟩ | ⟨a2,s2⟩
    · exact absurd (xKf hG hD.val hri hz s2) (s1 _)
    rw[f1 _ a1,bnd_s,f2 _ a2,bnd_s]
    simp
end Go.Proofs.YtlommebgedmjdaaGreatDoor
