import Derived.Test.YticojbhjloeckaaGreatRows
import Derived.Test.YticojbhjloeckaaGreatT
import Derived.BigQuiet
import Derived.Lib.QuietBelow
namespace Go.Proofs.YticojbhjloeckaaGreat
set_option maxHeartbeats 1000000
set_option linter.unusedVariables false
set_option linter.unusedSimpArgs false
open Go.RowKit Go.Sort
set_option maxRecDepth 100000
theorem toInt64S_any (v:Value) (l:List Int) (bs:List Nat) (w:World) (h:Sl 1 xH w v l bs) (hm:oZ bs w) (hs:l.length≤1048576) :
    Calls Tryz.prog 94 #[v] w (RetSl 1 xH l w):=by
  have hl:l.length≤1048576:=hs;obtain⟨a,c,rfl,hc1,hc2,hc3,hat0⟩:=h.open;have hat:=hd hat0;have hs':=hd hs
  clear hat0 hc3 h hs
  have hmk:=make_n (P:=Tryz.prog) (t:=30) (e:=2) (z:=.int .i64 0) (size:=1) (bytes:=8) (by kernel_rfl) (by kernel_rfl) l.length (by omega) (by omega)
  go_enter Tryz.func94,Tryz.ntmps94
  go_wp2
  go_loopw [4] (fun i wr=>∃ (k:Nat) (cur:Array Value) (bss:List (List Nat)),k≤l.length∧i= .int .i64 k∧Made 1 xH 2 w l w.heap.size l.length k wr cur bss) (fun i _=>l.length - (intOf i).toNat)
  case atStart=>exact⟨0,_,[],Nat.zero_le _,rfl,Made.start 1 xH _ w l l.length _ (by simp [size_madeCells])⟩
  case round=>
    obtain⟨k,cur,bss,hk,rfl,hM⟩:=hrel
    by_cases hlt:k<l.length
    · obtain⟨b,o,bss',bi,rfl,rfl,hE,hbi,hsub,hr0⟩:=hat.out k hlt
      clear hE
      obtain⟨x,hx0,hx1⟩:∃ x,l[k]?=some x∧x=l[k]:=⟨_,List.getElem?_eq_getElem hlt,rfl⟩;rw[← hx1] at hr0;have hx:=hd hx0
      clear hx0 hx1
      have hr:xH wr (fun j=>wr.cell? ⟨b,o+k*1+j,none⟩) x bi:=xH.fr _ _ _ _ _ _ hr0 (fun c hc=>hM.below.block c (hm c (hsub c hc))) (fun j _=>(bcell hM.below).1 b _ (hm b (by simp)));have hbw:oZ bi wr:=(fun c hc=>Nat.lt_of_lt_of_le (hm c (hsub c hc)) hM.below.size)
      clear hr0 hm hsub hbi
      obtain⟨c0,r0,rfl⟩:=hr;simp only[Nat.mul_one,Nat.add_zero] at c0;obtain⟨⟨u0,e0⟩,f0⟩:=hM.room hlt (Below.refl _ _) 0 (by omega);rw[Nat.mul_one,Nat.add_zero] at e0 f0
      go_wp2
      go_round
      case rel=>
        obtain⟨cur',hM'⟩:=hM.step xH.fr hlt (Below.refl _ _) (vs:=[.int .i64 x]) rfl hx.out (bi:=[]) ⟨rfl,r0,rfl⟩ (Own.nil _ _);rw[Nat.mul_one] at hM';exact⟨k+1,cur',_,hlt,by go_num,hM'⟩
      case measure=>simp [intOf];omega
    · obtain rfl:k=l.length:=by omega
      go_wp2
      go_ret
      exact⟨_,_,rfl,(hM.done xH.fr (by unfold maxLen;omega)).1,(hM.done xH.fr (by unfold maxLen;omega)).2,hM.below⟩
theorem toInt64SS_any (v:Value) (l:List (List Int)) (bs:List Nat) (w:World) (h:Sl 1 zT w v l bs) (hm:oZ bs w) (hs:szS List.length l≤1048576) :
    Calls Tryz.prog 93 #[v] w (RetSl 1 zT l w):=by
  have hl:l.length≤1048576:=Nat.le_trans (length_le_szS _) hs;obtain⟨a,c,rfl,hc1,hc2,hc3,hat0⟩:=h.open;have hat:=hd hat0;have hs':=hd hs
  clear hat0 hc3 h hs
  have hmk:=make_n (P:=Tryz.prog) (t:=67) (e:=30) (z:=.slice none 0 0) (size:=1) (bytes:=24) (by kernel_rfl) (by kernel_rfl) l.length (by omega) (by omega)
  go_enter Tryz.func93,Tryz.ntmps93
  go_wp2
  go_loopw [4] (fun i wr=>∃ (k:Nat) (cur:Array Value) (bss:List (List Nat)),k≤l.length∧i= .int .i64 k∧Made 1 zT 30 w l w.heap.size l.length k wr cur bss) (fun i _=>l.length - (intOf i).toNat)
  case atStart=>exact⟨0,_,[],Nat.zero_le _,rfl,Made.start 1 zT _ w l l.length _ (by simp [size_madeCells])⟩
  case round=>
    obtain⟨k,cur,bss,hk,rfl,hM⟩:=hrel
    by_cases hlt:k<l.length
    · obtain⟨b,o,bss',bi,rfl,rfl,hE,hbi,hsub,hr0⟩:=hat.out k hlt
      clear hE
      obtain⟨x,hx0,hx1⟩:∃ x,l[k]?=some x∧x=l[k]:=⟨_,List.getElem?_eq_getElem hlt,rfl⟩;rw[← hx1] at hr0;have hx:=hd hx0
      clear hx0 hx1
      have hr:zT wr (fun j=>wr.cell? ⟨b,o+k*1+j,none⟩) x bi:=zT.fr _ _ _ _ _ _ hr0 (fun c hc=>hM.below.block c (hm c (hsub c hc))) (fun j _=>(bcell hM.below).1 b _ (hm b (by simp)));have hbw:oZ bi wr:=(fun c hc=>Nat.lt_of_lt_of_le (hm c (hsub c hc)) hM.below.size)
      clear hr0 hm hsub hbi
      have hrr:=hd hr;obtain⟨v0,c0,r0⟩:=hr;obtain⟨a0,n0,rfl⟩:=r0.val;simp only[Nat.mul_one,Nat.add_zero] at c0
      go_wp2_with fail
      (with_reducible refine(toInt64S_any _ x bi _ r0 hbw (by have:=le_szS (c:=List.length) hx.out;have:=hs'.out;omega)).mono ?_)
      rintro e w1 ⟨v',bs',rfl,hv,ho,hb⟩
      obtain⟨a',n',rfl⟩:=hv.val;obtain⟨⟨u0,e0⟩,f0⟩:=hM.room hlt hb 0 (by omega);rw[Nat.mul_one,Nat.add_zero] at e0 f0
      go_wp2
      go_round
      case rel=>
        obtain⟨cur',hM'⟩:=hM.step zT.fr hlt hb (vs:=[.slice a' x.length n']) rfl hx.out (bi:=bs') ⟨_,rfl,hv⟩ ho;rw[Nat.mul_one] at hM';exact⟨k+1,cur',_,hlt,by go_num,hM'⟩
      case measure=>simp [intOf];omega
    · obtain rfl:k=l.length:=by omega
      go_wp2
      go_ret
      exact⟨_,_,rfl,(hM.done zT.fr (by unfold maxLen;omega)).1,(hM.done zT.fr (by unfold maxLen;omega)).2,hM.below⟩
theorem szInt64S_any (v:Value) (l:List Int) (left:Int) (bs:List Nat) (w:World) (h:Sl 1 xH w v l bs) (_hm:oZ bs w) (h0:0≤left) (h1:left≤1048576) :
    Calls Tryz.prog 81 #[v,.int .i64 left] w (vV (.int .i64 (szR left (l.length))) w):=by
  obtain⟨a,c,rfl,hc1,hc2,_⟩:=h.open
  clear h
  by_cases hle:(l.length:Int)≤left
  · rw[show szR left l.length=left - l.length from if_pos hle]
    have hle2:¬ (left - (l.length:Int)<0):=by omega
    go_enter Tryz.func81,Tryz.ntmps81
    go_wp2
    go_ret
    exact⟨rfl,Below.refl _ _⟩
  · rw[show szR left l.length= -1 from if_neg hle]
    have hle2:left - (l.length:Int)<0:=by omega
    go_enter Tryz.func81,Tryz.ntmps81
    go_wp2
    go_ret
    exact⟨rfl,Below.refl _ _⟩
theorem szInt64SS_any (v:Value) (l:List (List Int)) (left:Int) (bs:List Nat) (w:World) (h:Sl 1 zT w v l bs) (hm:oZ bs w) (h0:0≤left) (h1:left≤1048576) :
    Calls Tryz.prog 80 #[v,.int .i64 left] w (vV (.int .i64 (szR left (szS List.length l))) w):=by
  obtain⟨a,c,rfl,hc1,hc2,hc3,hat0⟩:=h.open;have hat:=hd hat0
  clear hat0 hc3 h
  by_cases hle:(l.length:Int)≤left
  rotate_left
  · rw[show szR left (szS List.length l)= -1 from if_neg (by have:=length_le_szS (c:=List.length) l;omega)]
    have hle2:left - (l.length:Int)<0:=by omega
    go_enter Tryz.func80,Tryz.ntmps80
    go_wp2
    go_ret
    exact⟨rfl,Below.refl _ _⟩
  have hle2:¬ (left - (l.length:Int)<0):=by omega
  go_enter Tryz.func80,Tryz.ntmps80
  go_wp2
  go_loopw [1,5] (fun r i wr=>∃ k:Nat,k≤l.length∧i= .int .i64 k∧r= .int .i64 (left - l.length - (zK List.length (l.take k):Nat))∧(zK List.length (l.take k):Int)≤left - l.length∧Below w.heap.size w wr) (fun _ i _=>l.length - (intOf i).toNat)
  case atStart=>exact⟨0,Nat.zero_le _,rfl,by simp [zK],by simp [zK];omega,Below.refl _ _⟩
  case round=>
    obtain⟨k,hk,rfl,rfl,hcl,hB⟩:=hrel
    by_cases hlt:k<l.length
    · obtain⟨b,o,bss',bi,rfl,rfl,hE,hbi,hsub,hr0⟩:=hat.out k hlt
      clear hE
      obtain⟨x,hx0,hx1⟩:∃ x,l[k]?=some x∧x=l[k]:=⟨_,List.getElem?_eq_getElem hlt,rfl⟩;rw[← hx1] at hr0;have hx:=hd hx0;have hsucc:=hd (kQ (c:=List.length) hx0);have hadd:=cntS_take_add (c:=List.length) hx0;have hadd':=hd hadd
      clear hx0 hx1 hadd
      have hr:zT wr (fun j=>wr.cell? ⟨b,o+k*1+j,none⟩) x bi:=zT.fr _ _ _ _ _ _ hr0 (fun c hc=>hB.block c (hm c (hsub c hc))) (fun j _=>(bcell hB).1 b _ (hm b (by simp)));have hbw:oZ bi wr:=(fun c hc=>Nat.lt_of_lt_of_le (hm c (hsub c hc)) hB.size)
      clear hr0 hm hsub hbi
      have hrr:=hd hr;obtain⟨v0,c0,r0⟩:=hr;obtain⟨a0,n0,rfl⟩:=r0.val;simp only[Nat.mul_one,Nat.add_zero] at c0;generalize hcc:zK List.length (l.take k)=cc at *
      clear hcc
      by_cases hfit:(x.length:Int)≤left - l.length - cc
      · have hz:¬ (left - l.length - cc - (x.length:Int)<0):=by omega
        go_wp2_with fail
        (with_reducible refine(szInt64S_any _ x _ bi _ r0 hbw (by omega) (by omega)).mono ?_)
        rintro e w1 ⟨rfl,hb⟩
        rw[show szR (left - l.length - cc) x.length=left - l.length - cc - x.length from if_pos hfit];have hb':=Below.through hb hB
        go_wp2
        go_roundw
        case rel=>exact⟨k+1,hlt,by go_num,by rw[hsucc.out];apply congrArg;omega,by rw[hsucc.out];omega,hb'⟩
        case measure=>simp [intOf];omega
      · have hz:szR (left - l.length - cc) x.length= -1:=if_neg hfit
        have hz':=hd hz
        clear hz
        have hneg:szR left (szS List.length l)= -1:=if_neg (by have:=hadd'.out;rw[szS_eq];omega);have hneg':=hd hneg
        clear hneg
        go_wp2_with fail
        (with_reducible refine(szInt64S_any _ x _ bi _ r0 hbw (by omega) (by omega)).mono ?_)
        rintro e w1 ⟨rfl,hb⟩
        rw[hz'.out];have hb':=Below.through hb hB
        go_wp2
        go_ret
        exact⟨by rw[hneg'.out];rfl,hb'⟩
    · obtain rfl:k=l.length:=by omega
      rw[List.take_length] at hcl ⊢
      have hfin:szR left (szS List.length l)=left - l.length - (zK List.length l:Nat):=by unfold szR;rw[szS_eq,if_pos (by omega)];omega
      have hfin':=hd hfin
      clear hfin
      go_wp2
      go_ret
      exact⟨by rw[hfin'.out];rfl,hB⟩
theorem eqInt64S_any (v1 v2:Value) (l:List Int) (bs1 bs2:List Nat) (w:World) (h1:Sl 1 xH w v1 l bs1) (h2:Sl 1 xH w v2 l bs2) (hm1:oZ bs1 w) (hm2:oZ bs2 w) :
    Calls Tryz.prog 10 #[v1,v2] w (vV (.bool true) w):=by
  obtain⟨a,c,rfl,hc1,hc2,_,hat0⟩:=h1.open;have hat:=hd hat0
  clear hat0 h1
  obtain⟨a',c',rfl,hc1',hc2',_,hat0⟩:=h2.open;have hat':=hd hat0
  clear hat0 h2
  go_enter Tryz.func10,Tryz.ntmps10
  go_wp2
  go_loopw [5] (fun i wr=>∃ k:Nat,k≤l.length∧i= .int .i64 k∧Below w.heap.size w wr) (fun i _=>l.length - (intOf i).toNat)
  case atStart=>exact⟨0,Nat.zero_le _,rfl,Below.refl _ _⟩
  case round=>
    obtain⟨k,hk,rfl,hB⟩:=hrel
    by_cases hlt:k<l.length
    · obtain⟨b,o,bss',bi,rfl,rfl,hE,hbi,hsub,hr0⟩:=hat.out k hlt
      clear hE
      obtain⟨b',o',bss'',bi',rfl,rfl,hE,hbi',hsub',hr0'⟩:=hat'.out k hlt
      clear hE
      obtain⟨x,hx1⟩:∃ x,x=l[k]:=⟨_,rfl⟩;rw[← hx1] at hr0 hr0'
      clear hx1
      have hr:xH wr (fun j=>wr.cell? ⟨b,o+k*1+j,none⟩) x bi:=xH.fr _ _ _ _ _ _ hr0 (fun c hc=>hB.block c (hm1 c (hsub c hc))) (fun j _=>(bcell hB).1 b _ (hm1 b (by simp)));have hbw:oZ bi wr:=(fun c hc=>Nat.lt_of_lt_of_le (hm1 c (hsub c hc)) hB.size);have hr':xH wr (fun j=>wr.cell? ⟨b',o'+k*1+j,none⟩) x bi':=xH.fr _ _ _ _ _ _ hr0' (fun c hc=>hB.block c (hm2 c (hsub' c hc))) (fun j _=>(bcell hB).1 b' _ (hm2 b' (by simp)));have hbw':oZ bi' wr:=(fun c hc=>Nat.lt_of_lt_of_le (hm2 c (hsub' c hc)) hB.size)
      clear hr0 hr0' hm1 hm2 hsub hsub' hbi hbi'
      obtain⟨c0,-,rfl⟩:=hr;obtain⟨c1,-,rfl⟩:=hr';simp only[Nat.mul_one,Nat.add_zero] at c0 c1
      have hlt':(k:Int)<(l.length:Int):=by omega
      go_wp2
      go_quiet (fail)
      go_wp2
      go_roundw
      case rel=>exact⟨k+1,hlt,by go_num,by repeat (first | exact hB | apply Below.drew | apply below_drewN)⟩
      case measure=>simp [intOf];omega
    · obtain rfl:k=l.length:=by omega
      go_wp2
      go_ret
      exact⟨rfl,hB⟩
theorem eqInt64SS_any (v1 v2:Value) (l:List (List Int)) (bs1 bs2:List Nat) (w:World) (h1:Sl 1 zT w v1 l bs1) (h2:Sl 1 zT w v2 l bs2) (hm1:oZ bs1 w) (hm2:oZ bs2 w) :
    Calls Tryz.prog 122 #[v1,v2] w (vV (.bool true) w):=by
  obtain⟨a,c,rfl,hc1,hc2,_,hat0⟩:=h1.open;have hat:=hd hat0
  clear hat0 h1
  obtain⟨a',c',rfl,hc1',hc2',_,hat0⟩:=h2.open;have hat':=hd hat0
  clear hat0 h2
  go_enter Tryz.func122,Tryz.ntmps122
  go_wp2
  go_loopw [5] (fun i wr=>∃ k:Nat,k≤l.length∧i= .int .i64 k∧Below w.heap.size w wr) (fun i _=>l.length - (intOf i).toNat)
  case atStart=>exact⟨0,Nat.zero_le _,rfl,Below.refl _ _⟩
  case round=>
    obtain⟨k,hk,rfl,hB⟩:=hrel
    by_cases hlt:k<l.length
    · obtain⟨b,o,bss',bi,rfl,rfl,hE,hbi,hsub,hr0⟩:=hat.out k hlt
      clear hE
      obtain⟨b',o',bss'',bi',rfl,rfl,hE,hbi',hsub',hr0'⟩:=hat'.out k hlt
      clear hE
      obtain⟨x,hx1⟩:∃ x,x=l[k]:=⟨_,rfl⟩;rw[← hx1] at hr0 hr0'
      clear hx1
      have hr:zT wr (fun j=>wr.cell? ⟨b,o+k*1+j,none⟩) x bi:=zT.fr _ _ _ _ _ _ hr0 (fun c hc=>hB.block c (hm1 c (hsub c hc))) (fun j _=>(bcell hB).1 b _ (hm1 b (by simp)));have hbw:oZ bi wr:=(fun c hc=>Nat.lt_of_lt_of_le (hm1 c (hsub c hc)) hB.size);have hr':zT wr (fun j=>wr.cell? ⟨b',o'+k*1+j,none⟩) x bi':=zT.fr _ _ _ _ _ _ hr0' (fun c hc=>hB.block c (hm2 c (hsub' c hc))) (fun j _=>(bcell hB).1 b' _ (hm2 b' (by simp)));have hbw':oZ bi' wr:=(fun c hc=>Nat.lt_of_lt_of_le (hm2 c (hsub' c hc)) hB.size)
      clear hr0 hr0' hm1 hm2 hsub hsub' hbi hbi'
      have hrr:=hd hr;have hrr':=hd hr';obtain⟨v0,c0,r0⟩:=hr;obtain⟨a0,n0,rfl⟩:=r0.val;simp only[Nat.mul_one,Nat.add_zero] at c0;obtain⟨v1,d0,r1⟩:=hr';obtain⟨e0,m0,rfl⟩:=r1.val;simp only[Nat.mul_one,Nat.add_zero] at d0
      have cE:=hd (show ∀ d os,Calls Tryz.prog 10 #[.slice a0 x.length n0,.slice e0 x.length m0] (grow (redrawn wr d) os) fun e w''=>e= .returned (.bool true)∧∃ p:Regrown,w''=grow (redrawn wr p.d) p.os from fun d os=>
        Calls.regrown_of (eqInt64S_any _ _ x bi bi' _ (r0.same xH.fr (hbw.same (below_regrown wr d os))) (r1.same xH.fr (hbw'.same (below_regrown wr d os))) (hbw.le (below_regrown wr d os).size) (hbw'.le (below_regrown wr d os).size)))
      have kc0:=cell_regrown c0;have kd0:=cell_regrown d0
      have hlt':(k:Int)<(l.length:Int):=by omega
      clear hrr hrr'
      go_wp2
      refine wp_region_quiet_below (by kernel_rfl) (by kernel_rfl) ?_
      repeat (quiet_step (exact cE.out _ _))
      refine wpQuiet_nil ?_;intro _ hw';obtain⟨⟨dq,osq⟩,hw''⟩:=hw';subst hw'';have hq:=below_regrown wr dq osq
      clear kc0 kd0
      go_wp2
      go_roundw
      case rel=>exact⟨k+1,hlt,by go_num,Below.through hq hB⟩
      case measure=>simp [intOf];omega
    · obtain rfl:k=l.length:=by omega
      go_wp2
      go_ret
      exact⟨rfl,hB⟩
theorem markInt64S_any (v:Value) (l:List Int) (k:Int) (bs:List Nat) (B:Nat) (w:World) (h:Sl 1 xH w v l bs) (ho:Own B bs w) (h0:0≤k) (hk:k+(zK cI l:Nat)≤4611686018427387904) :
    Calls Tryz.prog 15 #[v,.int .i64 k] w (Marks 1 xH v (mkS mkI cI l k) bs (k+(zK cI l:Nat)) B w):=by
  obtain⟨a,c,rfl,hc1,hc2,hc3,-⟩:=h.open;obtain⟨n,hn0⟩:∃ n,n=l.length:=⟨_,rfl⟩;have hn:=hd hn0
  have h':Sl 1 xH w (.slice a n c) l bs:=by rw[hn0];exact h
  rw[← hn0] at hc1 ⊢
  clear h hc3 hn0
  go_enter Tryz.func15,Tryz.ntmps15
  go_wp2
  go_loopw [1,5] (fun r i wr=>∃ j:Nat,j≤n∧i= .int .i64 j∧r= .int .i64 (k+(zK cI (l.take j):Nat))∧Sl 1 xH wr (.slice a n c) (mkS mkI cI (l.take j) k++l.drop j) bs∧Own B bs wr∧Only bs w wr) (fun _ i _=>n - (intOf i).toNat)
  case atStart=>exact⟨0,Nat.zero_le _,rfl,by simp [zK],h',ho,Only.refl _ _⟩
  case round=>
    obtain⟨j,hj,rfl,rfl,hS,hO,hU⟩:=hrel
    clear h' ho
    by_cases hlt:j<n
    · obtain⟨x,hx0⟩:∃ x,l[j]?=some x:=⟨_,List.getElem?_eq_getElem (by rw[← hn.out];exact hlt)⟩
      have hget:=mk_get (m:=mkI) (c:=cI) hx0 k;have hset:=hd (mk_set (m:=mkI) (c:=cI) hx0 k);have hlen:=mk_len (m:=mkI) (c:=cI) l j (by rw[← hn.out];exact hj) k;rw[← hn.out] at hlen;generalize mkS mkI cI (l.take j) k++l.drop j=L at *
      have hlt2:j<L.length:=by rw[hlen];exact hlt
      obtain⟨b,o,bss,bi,rfl,rfl,hE,hbi,hsub,hr,hrow⟩:=Sl.at' hS hO hlt2 hget;have hL:=hd hlen
      clear hget hlen
      have hx:=hd hx0;have hsucc:=hd (kQ (c:=cI) hx0);have hadd:=cntS_take_add (c:=cI) hx0;have hle:=hd hadd
      clear hx0 hadd
      obtain⟨hnb,hoi⟩:=Own.split hO hbi;have hbi_in:oZ bi wr:=fun c hc=>hO.inMem c (hsub c hc);obtain⟨c0,-,rfl⟩:=hr;simp only[Nat.mul_one,Nat.add_zero] at c0
      have hrf:∀ m,wr.frozen? ⟨b,m,none⟩=false:=by obtain⟨cur,e,hh⟩:=hrow;exact fun m=>(Own.cell0 hh m).2
      generalize hcc:zK cI (l.take j)=cc at *
      clear hcc
      have hle2:cc+1≤zK cI l:=hle.out;have hu0:Upd b (o+j*1) (o+j*1+1) [] wr wr:=Upd.refl hrow;have hbs:b<wr.heap.size:=lt_of_some hrow.choose_spec.choose_spec
      clear hrow
      go_wp2
      go_roundw
      case rel=>
        refine⟨j+1,hlt,by go_num,?_,?_,?_,?_⟩
        · rw[hsucc.out];unfold cI;apply congrArg;omega
        · rw[← hset.out]
          exact Sl.upd xH.fr hL.out hc1 (by unfold maxLen;omega) hE hO.1 hO.inMem hlt2 hbi (by repeat (first | with_reducible exact hu0 | with_reducible apply Upd.set' | omega)) ⟨(show World.cell? _ ⟨b,o+j*1+0,none⟩=some (.int .i64 (k+cc)) from by simp [cell_set,c0]),(show xY (k+cc) from xY.of ⟨by omega,by omega⟩),rfl⟩
        · exact Own.upd hO (lo:=o+j*1) (hi:=o+j*1+1) (bi:=[]) (by repeat (first | with_reducible exact hu0 | with_reducible apply Upd.set' | omega)) (Own.nil _ _)
        · exact hU.trans ((Upd.only (b:=b) (lo:=o+j*1) (hi:=o+j*1+1) (bi:=[]) (by repeat (first | with_reducible exact hu0 | with_reducible apply Upd.set' | omega))).mono (fun d hd=>by rcases List.mem_cons.1 hd with rfl | hd<;>first | (simp;done) | exact hsub d hd))
      case measure=>simp [intOf];omega
    · obtain rfl:j=n:=by omega
      have e1:l.take j=l:=List.take_of_length_le (by rw[← hn.out];exact Nat.le_refl _);have e2:l.drop j=[]:=List.drop_of_length_le (by rw[← hn.out];exact Nat.le_refl _);rw[e1,e2,List.append_nil] at hS;rw[e1]
      clear e1 e2
      go_wp2
      go_ret
      exact⟨rfl,hU,hS,hO⟩
theorem markInt64SS_any (v:Value) (l:List (List Int)) (k:Int) (bs:List Nat) (B:Nat) (w:World) (h:Sl 1 zT w v l bs) (ho:Own B bs w) (h0:0≤k) (hk:k+(zK List.length l:Nat)≤4611686018427387904) :
    Calls Tryz.prog 79 #[v,.int .i64 k] w (Marks 1 zT v (mkS mkInts List.length l k) bs (k+(zK List.length l:Nat)) B w):=by
  obtain⟨a,c,rfl,hc1,hc2,hc3,-⟩:=h.open;obtain⟨n,hn0⟩:∃ n,n=l.length:=⟨_,rfl⟩;have hn:=hd hn0
  have h':Sl 1 zT w (.slice a n c) l bs:=by rw[hn0];exact h
  rw[← hn0] at hc1 ⊢
  clear h hc3 hn0
  go_enter Tryz.func79,Tryz.ntmps79
  go_wp2
  go_loopw [1,5] (fun r i wr=>∃ j:Nat,j≤n∧i= .int .i64 j∧r= .int .i64 (k+(zK List.length (l.take j):Nat))∧Sl 1 zT wr (.slice a n c) (mkS mkInts List.length (l.take j) k++l.drop j) bs∧Own B bs wr∧Only bs w wr) (fun _ i _=>n - (intOf i).toNat)
  case atStart=>exact⟨0,Nat.zero_le _,rfl,by simp [zK],h',ho,Only.refl _ _⟩
  case round=>
    obtain⟨j,hj,rfl,rfl,hS,hO,hU⟩:=hrel
    clear h' ho
    by_cases hlt:j<n
    · obtain⟨x,hx0⟩:∃ x,l[j]?=some x:=⟨_,List.getElem?_eq_getElem (by rw[← hn.out];exact hlt)⟩
      have hget:=mk_get (m:=mkInts) (c:=List.length) hx0 k;have hset:=hd (mk_set (m:=mkInts) (c:=List.length) hx0 k);have hlen:=mk_len (m:=mkInts) (c:=List.length) l j (by rw[← hn.out];exact hj) k;rw[← hn.out] at hlen;generalize mkS mkInts List.length (l.take j) k++l.drop j=L at *
      have hlt2:j<L.length:=by rw[hlen];exact hlt
      obtain⟨b,o,bss,bi,rfl,rfl,hE,hbi,hsub,hr,hrow⟩:=Sl.at' hS hO hlt2 hget;have hL:=hd hlen
      clear hget hlen
      have hx:=hd hx0;have hsucc:=hd (kQ (c:=List.length) hx0);have hadd:=cntS_take_add (c:=List.length) hx0;have hle:=hd hadd
      clear hx0 hadd
      obtain⟨hnb,hoi⟩:=Own.split hO hbi;have hbi_in:oZ bi wr:=fun c hc=>hO.inMem c (hsub c hc);obtain⟨v0,c0,r0⟩:=hr;obtain⟨a0,n0,rfl⟩:=r0.val;simp only[Nat.mul_one,Nat.add_zero] at c0
      have hrf:∀ m,wr.frozen? ⟨b,m,none⟩=false:=by obtain⟨cur,e,hh⟩:=hrow;exact fun m=>(Own.cell0 hh m).2
      generalize hcc:zK List.length (l.take j)=cc at *
      clear hcc
      obtain⟨y0,hy0⟩:∃ y:Nat,y=zK cI x:=⟨_,rfl⟩
      have hle2:cc+y0≤zK List.length l:=by rw[hy0,cntI];exact hle.out
      have hy0':=hd hy0.symm
      clear hy0
      have OW0:Own B bi wr:=hoi;have hin0:∀ c∈bi,c∈bi:=fun c hc=>hc;have hne0:∀ c∈bi,c≠b:=fun c hc e=>hnb (e ▸ hin0 c hc);have hu0:Upd b (o+j*1) (o+j*1+1) bi wr wr:=Upd.refl hrow;have hbs:b<wr.heap.size:=lt_of_some hrow.choose_spec.choose_spec
      clear hrow
      go_wp2_with fail
      (with_reducible refine(markInt64S_any _ x _ bi B _ ?_ ?_ ?_ ?_).mono ?_)
      · exact r0.same xH.fr (by repeat (first | with_reducible exact qJ.refl _ _ | ((with_reducible refine qJ.set ?_ ?_ _);rotate_left;focus (intro c hc;exact hne0 c hc))))
      · exact OW0.same (by repeat (first | with_reducible exact qJ.refl _ _ | ((with_reducible refine qJ.set ?_ ?_ _);rotate_left;focus (intro c hc;exact hne0 c hc))))
      · omega
      · rw[hy0'.out];omega
      rintro e p0 ⟨rfl,l0,s0,ow0⟩
      rw[hy0'.out];have U0:Upd b (o+j*1) (o+j*1+1) bi wr p0:=Upd.call (by repeat (first | with_reducible exact hu0 | with_reducible apply Upd.set' | omega)) hin0 hnb l0;have C0:=l0.cell (fun hc=>hnb (hin0 b hc)) (by simpa using hbs)
      have hrf0:∀ m,p0.frozen? ⟨b,m,none⟩=false:=by obtain⟨cur,e,hh⟩:=U0.row;exact fun m=>(Own.cell0 hh m).2
      have hbs0:b<p0.heap.size:=Nat.lt_of_lt_of_le hbs U0.only.size
      go_wp2
      go_roundw
      case rel=>
        refine⟨j+1,hlt,by go_num,?_,?_,?_,?_⟩
        · have h1:=hy0'.out;rw[cntI] at h1;rw[hsucc.out];apply congrArg;omega
        · rw[← hset.out]
          exact Sl.upd zT.fr hL.out hc1 (by unfold maxLen;omega) hE hO.1 hO.inMem hlt2 hbi (by repeat (first | with_reducible exact U0 | with_reducible apply Upd.set' | omega)) ⟨_,(by simp [cell_set,C0,c0]),(s0.same xH.fr (by repeat (first | with_reducible exact qJ.refl _ _ | ((with_reducible refine qJ.set ?_ ?_ _);rotate_left;focus (intro c hc;exact hne0 c hc)))))⟩
        · exact Own.upd hO (lo:=o+j*1) (hi:=o+j*1+1) (bi:=bi) (by repeat (first | with_reducible exact U0 | with_reducible apply Upd.set' | omega)) (ow0.same (by repeat (first | with_reducible exact qJ.refl _ _ | ((with_reducible refine qJ.set ?_ ?_ _);rotate_left;focus (intro c hc;exact hne0 c hc)))))
        · exact hU.trans ((Upd.only (b:=b) (lo:=o+j*1) (hi:=o+j*1+1) (bi:=bi) (by repeat (first | with_reducible exact U0 | with_reducible apply Upd.set' | omega))).mono (fun d hd=>by rcases List.mem_cons.1 hd with rfl | hd<;>first | (simp;done) | exact hsub d hd))
      case measure=>simp [intOf];omega
    · obtain rfl:j=n:=by omega
      have e1:l.take j=l:=List.take_of_length_le (by rw[← hn.out];exact Nat.le_refl _);have e2:l.drop j=[]:=List.drop_of_length_le (by rw[← hn.out];exact Nat.le_refl _);rw[e1,e2,List.append_nil] at hS;rw[e1]
      clear e1 e2
      go_wp2
      go_ret
      exact⟨rfl,hU,hS,hO⟩
theorem heldInt64S_any (v:Value) (l:List Int) (k:Int) (bs:List Nat) (w:World) (h:Sl 1 xH w v (mkS mkI cI l k) bs) (hm:oZ bs w) (h0:0≤k) (hk:k+(zK cI l:Nat)≤4611686018427387904) :
    Calls Tryz.prog 16 #[v,.int .i64 k] w (vV (.int .i64 (k+(zK cI l:Nat))) w):=by
  obtain⟨a,c,rfl,hc1,hc2,hc3,hat0⟩:=h.open;have hat:=hd hat0
  clear hat0 hc3 h
  have hlen:=length_mkS (m:=mkI) (c:=cI) l k;obtain⟨n,hn0⟩:∃ n,n=(mkS mkI cI l k).length:=⟨_,rfl⟩;have hn:=hd (hn0.trans hlen);have hn':=hd hn0;rw[← hn0] at hc1 ⊢
  clear hlen hn0
  go_enter Tryz.func16,Tryz.ntmps16
  go_wp2
  go_loopw [1,5] (fun r i wr=>∃ j:Nat,j≤n∧i= .int .i64 j∧r= .int .i64 (k+(zK cI (l.take j):Nat))∧Below w.heap.size w wr) (fun _ i _=>n - (intOf i).toNat)
  case atStart=>exact⟨0,Nat.zero_le _,rfl,by simp [zK],Below.refl _ _⟩
  case round=>
    obtain⟨j,hj,rfl,rfl,hB⟩:=hrel
    by_cases hlt:j<n
    · obtain⟨x,hx0⟩:∃ x,l[j]?=some x:=⟨_,List.getElem?_eq_getElem (by rw[← hn.out];exact hlt)⟩
      have hge:=getElem?_mkS (m:=mkI) (c:=cI) hx0 k;obtain⟨b,o,bss',bi,rfl,rfl,hE,hbi,hsub,hr0⟩:=hat.out j (by rw[← hn'.out];exact hlt);have hge2:(mkS mkI cI l k)[j]'(by rw[← hn'.out];exact hlt)=mkI x (k+zK cI (l.take j)):=(List.getElem?_eq_some_iff.1 hge).choose_spec;rw[hge2] at hr0
      clear hE hge hge2
      have hsucc:=hd (kQ (c:=cI) hx0);have hadd:=cntS_take_add (c:=cI) hx0;have hle:=hd hadd
      clear hx0 hadd
      have hr:xH wr (fun i=>wr.cell? ⟨b,o+j*1+i,none⟩) (mkI x (k+zK cI (l.take j))) bi:=xH.fr _ _ _ _ _ _ hr0 (fun c hc=>hB.block c (hm c (hsub c hc))) (fun i _=>(bcell hB).1 b _ (hm b (by simp)));have hbw:oZ bi wr:=(fun c hc=>Nat.lt_of_lt_of_le (hm c (hsub c hc)) hB.size)
      clear hr0 hm hsub hbi
      generalize hcc:zK cI (l.take j)=cc at *
      clear hcc
      obtain⟨c0,-,rfl⟩:=hr;simp only[Nat.mul_one,Nat.add_zero] at c0;have hle2:cc+1≤zK cI l:=hle.out;have e0:wr.cell? ⟨b,o+j,none⟩=some (.int .i64 (k+cc)):=c0
      clear c0
      have hbl:b<wr.heap.size:=by cases hw:wr.heap[b]? with | none=>simp [World.cell?,hw] at e0 | some o=>exact lt_of_some hw
      go_wp2
      go_roundw
      case rel=>exact⟨j+1,hlt,by go_num,by rw[hsucc.out];unfold cI;apply congrArg;omega,hB⟩
      case measure=>simp [intOf];omega
    · obtain rfl:j=n:=by omega
      have e1:l.take j=l:=List.take_of_length_le (by rw[← hn.out];exact Nat.le_refl _);rw[e1]
      clear e1
      go_wp2
      go_ret
      exact⟨rfl,hB⟩
end Go.Proofs.YticojbhjloeckaaGreat
