-- Written by a program of this session out of the translation of the seat: Lean functions and the proofs that the Go functions come to them.
import Derived.Test.YtghimjkoaldafaaProg
import Derived.Test.YtghimjkoaldafaaStab
import Derived.Shelf.SlSortCmp.Insertion1
import Derived.Sort.OwnSortedInts
namespace Go.Proofs.Ytghimjkoaldafaa.P
open Go.Shelf Go.RowKit Go.Lib Go.Sort Go.Proofs
open Nat renaming le_refl → aa
open Go.Stab renaming symMerge → ab, rotate → ac, bs → ae, rotate_at → af, firsts → ag, rotLoop → ah, swapRange → ai, merges → aj, swapFrom → ak, down → al, pass → am, stable → an, up → ao
open Go.IntKind renaming i64 → ad
set_option maxHeartbeats 8000000
set_option maxRecDepth 100000
variable {α : Type} [Inhabited α]
set_option linter.unusedVariables false
set_option linter.unusedSimpArgs false
set_option pp.deepTerms true
set_option pp.maxSteps 100000
theorem stab_swapRange (enc : α→Value) (g : Nat) (cb : Array Value) (blk off cap a b n : Nat) (d0 d : Array α) (l w : World) (R : Row1 enc l blk off d0) (hs : d0.size = d.size) (S : SW enc l blk off d w) (ha : a + n≤d.size) (hb : b + n≤d.size) (hsz : d.size < 4611686018427387904) :
    Calls Try.prog 52 #[.slice (some ⟨blk,off,none⟩) d.size cap,.int .i64 a,.int .i64 b,.int .i64 n,.func (.func g) #[] cb] w fun e w'=>e = .returned (.tuple #[])∧SW enc l blk off (ai d a b n) w':=by
  have mixed : Try.prog.follows .mixedOrders = true:=by kernel_rfl
  have hcl0:=R.hO.cells;simp only [Value.cells] at hcl0
  have hst:=R.hO.store Try.prog;have S0 : Aside (SW enc l blk off d w):=S;clear S;go_enter Try.func52,Try.ntmps52
  go_wp2
  go_loopg [10] n (fun kx s5 wr=>∃ (i : Nat) (dk : Array α),s5 = .int .i64 i∧i≤n∧n - i≤kx∧dk.size = d.size∧Aside (SW enc l blk off dk wr)∧ak a b (n - i) i dk = ak a b n 0 d)
  case atStart=>exact ⟨0,d,rfl,by omega,by omega,rfl,S0,rfl⟩
  case round=>
    clear S0;obtain ⟨i,dk,rfl,hin,hkx,hds,S1,heq⟩:=hrel;by_cases hlt : i < n
    · have hltz : (i : Int) < (n : Int):=by omega
      go_wp2_with fail
      obtain ⟨iN1,hiN1⟩ : ∃ q,q = a + i:=⟨_,rfl⟩
      obtain ⟨jN1,hjN1⟩ : ∃ q,q = b + i:=⟨_,rfl⟩
      have ea1 : ((a : Int) + (i : Int)).toNat = iN1:=by omega
      have pa1 : (0 : Int)≤(a : Int) + (i : Int):=by omega
      have ba1 : (a : Int) + (i : Int) < (d.size : Int):=by omega
      have ra1 : ad.wrap ((a : Int) + (i : Int)) = (a : Int) + (i : Int):=by rw [IntKind.wrap_i64];omega
      have ec1 : ((b : Int) + (i : Int)).toNat = jN1:=by omega
      have pc1 : (0 : Int)≤(b : Int) + (i : Int):=by omega
      have bc1 : (b : Int) + (i : Int) < (d.size : Int):=by omega
      have rc1 : ad.wrap ((b : Int) + (i : Int)) = (b : Int) + (i : Int):=by rw [IntKind.wrap_i64];omega
      obtain ⟨x1,hx1⟩ : ∃ x,x = dk[a + i]!:=⟨_,rfl⟩
      obtain ⟨y1,hy1⟩ : ∃ x,x = dk[b + i]!:=⟨_,rfl⟩
      have S2 : Aside (SW enc l blk off (swp dk (a + i) (b + i)) ((wr.setCell ⟨blk,off + iN1,none⟩ (enc y1)).setCell ⟨blk,off + jN1,none⟩ (enc x1)).drew):=by rw [hiN1,hjN1,hx1,hy1];exact S1.out.swapped R (a + i) (b + i) (by omega) (by omega)
      have ca1:=S1.out.c1 R (by omega) (a + i) (by omega);have cb1:=S1.out.c1 R (by omega) (b + i) (by omega);have fa1:=S1.out.f1 R (by omega) (a + i) (by omega);have fb1:=S1.out.f1 R (by omega) (b + i) (by omega);obtain ⟨u1,cc1⟩:=S1.out.c2 R (by omega) (a + i) (b + i) (by omega) (by omega) (enc y1);rw [← hjN1,← hiN1] at cc1
      rw [← hx1,← hiN1] at ca1
      rw [← hy1,← hjN1] at cb1
      rw [← hiN1] at fa1
      rw [← hjN1] at fb1
      clear S1 hx1 hy1 hiN1 hjN1;go_wp2_with fail
      go_big_region_o
      clear ca1 cb1 cc1 fa1 fb1;generalize ((wr.setCell ⟨blk,off + iN1,none⟩ (enc y1)).setCell ⟨blk,off + jN1,none⟩ (enc x1)).drew = o at S2 ⊢;clear ea1 ec1;go_wp2
      go_roundg (n - (i + 1))
      case measure=>omega
      case rel=>
        refine ⟨i + 1,swp dk (a + i) (b + i),by go_num,by omega,aa _,by rw [size_swp];exact hds,S2,?_⟩;rw [← heq]
        obtain ⟨k,hk⟩ : ∃ k,n - i = k + 1:=⟨n - (i + 1),by omega⟩
        rw [hk,show n - (i + 1) = k by omega]
        rfl
    · have hltz : ¬ (i : Int) < (n : Int):=by omega
      go_wp2
      go_end0
      refine ⟨rfl,?_⟩;rw [show n - i = 0 by omega] at heq
      rw [ai,← heq]
      exact S1.out
theorem stab_rotate (enc : α→Value) (g : Nat) (cb : Array Value) (blk off cap a m b : Nat) (d0 d : Array α) (l w : World) (R : Row1 enc l blk off d0) (hs : d0.size = d.size) (S : SW enc l blk off d w) (ha : a≤m) (hm : m≤b) (hb : b≤d.size) (h1 : a < m) (h2 : m < b) (hsz : d.size < 4611686018427387904) :
    Calls Try.prog 51 #[.slice (some ⟨blk,off,none⟩) d.size cap,.int .i64 a,.int .i64 m,.int .i64 b,.func (.func g) #[] cb] w fun e w'=>e = .returned (.tuple #[])∧SW enc l blk off (ac d a m b) w':=by
  have mixed : Try.prog.follows .mixedOrders = true:=by kernel_rfl
  have hcl0:=R.hO.cells;simp only [Value.cells] at hcl0
  have hst:=R.hO.store Try.prog;have S0 : Aside (SW enc l blk off d w):=S;clear S;have z0 : (m : Int) - (a : Int) = ((m - a : Nat) : Int):=by omega
  have z1 : (b : Int) - (m : Int) = ((b - m : Nat) : Int):=by omega
  go_enter Try.func51,Try.ntmps51
  go_wp2
  go_loopg [10,11] (m - a + (b - m)) (fun kx s10 s11 wr=>∃ (i j : Nat) (dk : Array α),s10 = .int .i64 i∧s11 = .int .i64 j∧0 < i∧0 < j∧a + i≤m∧m + j≤b∧i + j≤kx∧dk.size = d.size∧Aside (SW enc l blk off dk wr)∧∃ f,i + j≤f∧ah m f i j dk = ac d a m b)
  case atStart=>exact ⟨m - a,b - m,d,by go_num,by go_num,by omega,by omega,by omega,by omega,aa _,rfl,S0,m - a + (b - m),aa _,rfl⟩
  case round=>
    clear S0;obtain ⟨i,j,dk,rfl,rfl,hi,hj,hai,hmj,hkx,hds,S1,f,hf,heq⟩:=hrel;obtain ⟨f,rfl⟩ : ∃ q,f = q + 1:=⟨f - 1,by omega⟩
    by_cases hij : i = j
    · subst hij;rw [ah,if_pos rfl] at heq
      have hC2:=stab_swapRange enc g cb blk off cap (m - i) (m) (i) d0 dk l wr R (by omega) S1.out (by omega) (by omega) (by omega);rw [hds,show ((m - i : Nat) : Int) = (m : Int) - (i : Int) by omega,show ((m : Nat) : Int) = (m : Int) by omega] at hC2
      clear S1;go_wp2_with (go_at_call 52;refine hC2.mono ?_;rintro e w' ⟨rfl,S3⟩)
      go_end0
      exact ⟨rfl,by rw [← heq];exact S3⟩
    · have hne : ¬ (i : Int) = (j : Int):=by omega
      rw [ah,if_neg hij] at heq
      by_cases hg : i > j
      · have hgz : (j : Int) < (i : Int):=by omega
        rw [if_pos hg] at heq
        have hC3:=stab_swapRange enc g cb blk off cap (m - i) (m) (j) d0 dk l wr R (by omega) S1.out (by omega) (by omega) (by omega);rw [hds,show ((m - i : Nat) : Int) = (m : Int) - (i : Int) by omega,show ((m : Nat) : Int) = (m : Int) by omega] at hC3
        clear S1;go_wp2_with (go_at_call 52;refine hC3.mono ?_;rintro e w' ⟨rfl,S3⟩)
        go_roundg (i + j - 1)
        case measure=>omega
        case rel=>exact ⟨i - j,j,ai dk (m - i) m j,by go_num,rfl,by omega,hj,by omega,hmj,by omega,(Stab.swapRange_at dk (m - i) m j (by omega) (by omega)).1.trans hds,S3,f,by omega,heq⟩
      · have hgz : ¬ (j : Int) < (i : Int):=by omega
        rw [if_neg hg] at heq
        have hC4:=stab_swapRange enc g cb blk off cap (m - i) (m + j - i) (i) d0 dk l wr R (by omega) S1.out (by omega) (by omega) (by omega);rw [hds,show ((m - i : Nat) : Int) = (m : Int) - (i : Int) by omega,show ((m + j - i : Nat) : Int) = (m : Int) + (j : Int) - (i : Int) by omega] at hC4
        clear S1;go_wp2_with (go_at_call 52;refine hC4.mono ?_;rintro e w' ⟨rfl,S3⟩)
        go_roundg (i + j - 1)
        case measure=>omega
        case rel=>exact ⟨i,j - i,ai dk (m - i) (m + j - i) i,rfl,by go_num,hi,by omega,hai,by omega,by omega,(Stab.swapRange_at dk (m - i) (m + j - i) i (by omega) (by omega)).1.trans hds,S3,f,by omega,heq⟩
theorem stab_up_size : ∀ (n k : Nat) (d : Array α),(ao n k d).size = d.size
  | 0,k,d=>rfl
  | n + 1,k,d=>by rw [ao,stab_up_size n];exact size_swp d k (k + 1)
theorem stab_down_size : ∀ (n k : Nat) (d : Array α),(al n k d).size = d.size
  | 0,k,d=>rfl
  | n + 1,k,d=>by rw [al,stab_down_size n];exact size_swp d k (k - 1)
theorem stab_swapFrom_size (a b : Nat) : ∀ (k i : Nat) (d : Array α),(ak a b k i d).size = d.size
  | 0,i,d=>rfl
  | k + 1,i,d=>by rw [ak,stab_swapFrom_size a b k];exact size_swp d (a + i) (b + i)
theorem stab_rotLoop_size (m : Nat) : ∀ (f i j : Nat) (d : Array α),(ah m f i j d).size = d.size
  | 0,i,j,d=>rfl
  | f + 1,i,j,d=>by
    rw [ah]
    split
    · exact stab_swapFrom_size _ _ _ _ _
    · split
      · rw [stab_rotLoop_size m f];exact stab_swapFrom_size _ _ _ _ _
      · rw [stab_rotLoop_size m f];exact stab_swapFrom_size _ _ _ _ _
theorem stab_size (lt : α→α→Bool) : ∀ (f a m b : Nat) (d : Array α),(ab lt f a m b d).size = d.size
  | 0,a,m,b,d=>rfl
  | f + 1,a,m,b,d=>by
    rw [ab]
    split
    · exact stab_up_size _ _ _
    · split
      · exact stab_down_size _ _ _
      · simp only []
        have r : ∀ (s e : Nat) (c : Prop) [Decidable c],(if c then ac d s m e else d).size = d.size:=fun s e c _=>by
          split
          · exact stab_rotLoop_size _ _ _ _ _
          · rfl
        have q : ∀ (c : Prop) [Decidable c] (x y z : Nat) (dd : Array α),(if c then ab lt f x y z dd else dd).size = dd.size:=fun c _ x y z dd=>by
          split
          · exact stab_size lt f x y z dd
          · rfl
        rw [q,q,r]
theorem stab_sym1 (enc : α→Value) (cf : α→α→Int) (g : Nat) (cb : Array Value) (blk off cap f a m b : Nat) (d0 d : Array α) (l w : World) (eg : ∀ args w,(callFunc g args).run Try.prog w = .ok (.enter g args) w) (hcmp : CmpLays1 Try.prog g cb enc cf blk off d0.size l) (R : Row1 enc l blk off d0) (hs : d0.size = d.size) (S : SW enc l blk off d w) (h1 : a < m) (h2 : m < b) (h3 : b≤d.size) (hsz : d0.size < 4611686018427387904) (c1 : m - a = 1) :
    Calls Try.prog 50 #[.slice (some ⟨blk,off,none⟩) d.size cap,.int .i64 a,.int .i64 m,.int .i64 b,.func (.func g) #[] cb] w fun e w'=>e = .returned (.tuple #[])∧SW enc l blk off (ab (ltOf cf) (f + 1) a m b d) w':=by
  have hu59:=Try.underlying75;have mixed : Try.prog.follows .mixedOrders = true:=by kernel_rfl
  have hcl0:=R.hO.cells;simp only [Value.cells] at hcl0
  have hst:=R.hO.store Try.prog;have S0 : Aside (SW enc l blk off d w):=S;clear S;have HC : Aside _:=hcmp;clear hcmp;have z1 : (m : Int) - (a : Int) = 1:=by omega
  go_enter Try.func50,Try.ntmps50
  go_wp2
  go_loopg [10,11] (b - m) (fun kx va vb wr=>∃ (i j : Nat),va = .int .i64 i∧vb = .int .i64 j∧m≤i∧i≤j∧j≤b∧j - i≤kx∧Aside (SW enc l blk off d wr)∧∃ f',j - i≤f'∧Hid (ae (fun q=>ltOf cf d[q]! d[a]!) f' i j = ae (fun q=>ltOf cf d[q]! d[a]!) (b - m) m b))
  case atStart=>exact ⟨m,b,by first|rfl|go_num|(congr 1;omega),by first|rfl|go_num|(congr 1;omega),aa _,by omega,aa _,aa _,S0,b - m,aa _,rfl⟩
  case round=>
    clear S0;obtain ⟨i,j,rfl,rfl,hi0,hij,hj0,hkx,S1,f',hf',HB⟩:=hrel;by_cases hlt : i < j
    · have hltz : (i : Int) < (j : Int):=by omega
      obtain ⟨f',rfl⟩ : ∃ q,f' = q + 1:=⟨f' - 1,by omega⟩
      cases hlv : ltOf cf d[(i + j) / 2]! d[a]! with
      | true=>
        go_wp2_with fail
        obtain ⟨iN6,hiN6⟩ : ∃ q,q = (i + j) / 2:=⟨_,rfl⟩
        obtain ⟨jN6,hjN6⟩ : ∃ q,q = a:=⟨_,rfl⟩
        have ea6 : (((i : Int) + (j : Int)) / 2).toNat = iN6:=by omega
        have pa6 : (0 : Int)≤((i : Int) + (j : Int)) / 2:=by omega
        have ba6 : ((i : Int) + (j : Int)) / 2 < (d.size : Int):=by omega
        have ra6 : ad.wrap (((i : Int) + (j : Int)) / 2) = ((i : Int) + (j : Int)) / 2:=by rw [IntKind.wrap_i64];omega
        have ec6 : ((a : Int)).toNat = jN6:=by omega
        have pc6 : (0 : Int)≤(a : Int):=by omega
        have bc6 : (a : Int) < (d.size : Int):=by omega
        have rc6 : ad.wrap ((a : Int)) = (a : Int):=by rw [IntKind.wrap_i64];omega
        obtain ⟨x6,hx6⟩ : ∃ x,x = d[(i + j) / 2]!:=⟨_,rfl⟩
        obtain ⟨y6,hy6⟩ : ∃ x,x = d[a]!:=⟨_,rfl⟩
        have la6:=S1.out.cl R (by omega) ((i + j) / 2) (by omega);have lb6:=S1.out.cl R (by omega) (a) (by omega);rw [← hx6,← hiN6] at la6
        rw [← hy6,← hjN6] at lb6
        have hc6:=S1.out.cmp HC.out (by omega) x6 y6;have hv6 : cf x6 y6 < 0:=by rw [hx6,hy6];exact of_decide_eq_true hlv
        have hd6 : decide (cf x6 y6 < 0) = true:=decide_eq_true hv6;clear hx6 hy6 hiN6 hjN6;go_wp2_with fail
        go_quiet_grown (first|(go_at_fn g;refine Calls.grown_of (hc6 _ _)))
        have S2 : Aside (SW enc l blk off d (grow (wr.drewN nq) osq)):=S1.out.grown nq osq;clear la6 lb6 hc6 S1;generalize grow (wr.drewN nq) osq = o at S2 ⊢;clear nq osq;clear ea6 ec6;go_wp2
        go_roundg (j - ((i + j) / 2 + 1))
        case measure=>omega
        case rel=>
          refine ⟨(i + j) / 2 + 1,j,by first|rfl|go_num|(congr 1;omega),rfl,by omega,by omega,hj0,aa _,S2,f',by omega,(show _ = _ from ?_)⟩;rw [← HB.out,ae,if_pos hlt]
          (try simp only []);rw [hlv]
          rfl
      | false=>
        go_wp2_with fail
        obtain ⟨iN7,hiN7⟩ : ∃ q,q = (i + j) / 2:=⟨_,rfl⟩
        obtain ⟨jN7,hjN7⟩ : ∃ q,q = a:=⟨_,rfl⟩
        have ea7 : (((i : Int) + (j : Int)) / 2).toNat = iN7:=by omega
        have pa7 : (0 : Int)≤((i : Int) + (j : Int)) / 2:=by omega
        have ba7 : ((i : Int) + (j : Int)) / 2 < (d.size : Int):=by omega
        have ra7 : ad.wrap (((i : Int) + (j : Int)) / 2) = ((i : Int) + (j : Int)) / 2:=by rw [IntKind.wrap_i64];omega
        have ec7 : ((a : Int)).toNat = jN7:=by omega
        have pc7 : (0 : Int)≤(a : Int):=by omega
        have bc7 : (a : Int) < (d.size : Int):=by omega
        have rc7 : ad.wrap ((a : Int)) = (a : Int):=by rw [IntKind.wrap_i64];omega
        obtain ⟨x7,hx7⟩ : ∃ x,x = d[(i + j) / 2]!:=⟨_,rfl⟩
        obtain ⟨y7,hy7⟩ : ∃ x,x = d[a]!:=⟨_,rfl⟩
        have la7:=S1.out.cl R (by omega) ((i + j) / 2) (by omega);have lb7:=S1.out.cl R (by omega) (a) (by omega);rw [← hx7,← hiN7] at la7
        rw [← hy7,← hjN7] at lb7
        have hc7:=S1.out.cmp HC.out (by omega) x7 y7;have hv7 : ¬ cf x7 y7 < 0:=by rw [hx7,hy7];exact of_decide_eq_false hlv
        have hd7 : decide (cf x7 y7 < 0) = false:=decide_eq_false hv7;clear hx7 hy7 hiN7 hjN7;go_wp2_with fail
        go_quiet_grown (first|(go_at_fn g;refine Calls.grown_of (hc7 _ _)))
        have S2 : Aside (SW enc l blk off d (grow (wr.drewN nq) osq)):=S1.out.grown nq osq;clear la7 lb7 hc7 S1;generalize grow (wr.drewN nq) osq = o at S2 ⊢;clear nq osq;clear ea7 ec7;go_wp2
        go_roundg ((i + j) / 2 - i)
        case measure=>omega
        case rel=>
          refine ⟨i,(i + j) / 2,rfl,by first|rfl|go_num|(congr 1;omega),hi0,by omega,by omega,aa _,S2,f',by omega,(show _ = _ from ?_)⟩;rw [← HB.out,ae,if_pos hlt]
          (try simp only []);rw [hlv]
          rfl
    · have hltz : ¬ (i : Int) < (j : Int):=by omega
      obtain rfl : i = j:=by omega
      have hr : ae (fun q=>ltOf cf d[q]! d[a]!) (b - m) m b = i:=by
        rw [← HB.out]
        cases f' with
        | zero=>rfl
        | succ f'=>rw [ae,if_neg hlt]
      clear HB;go_wp2
      go_loopg [13] (i - 1 - a) (fun kx vk wr=>∃ (k : Nat) (dk : Array α),vk = .int .i64 k∧a≤k∧k≤i - 1∧i - 1 - k≤kx∧dk.size = d.size∧Aside (SW enc l blk off dk wr)∧Hid (ao (i - 1 - k) k dk = ao (i - 1 - a) a d))
      case atStart=>exact ⟨a,d,rfl,by omega,by omega,aa _,rfl,S1,rfl⟩
      case round=>
        clear S1;obtain ⟨k,dk,rfl,hk1,hk2,hkx2,hds,S3,HU⟩:=hrel;by_cases hkl : k < i - 1
        · have hklz : (k : Int) < (i : Int) - 1:=by omega
          go_wp2_with fail
          obtain ⟨iN5,hiN5⟩ : ∃ q,q = k:=⟨_,rfl⟩
          obtain ⟨jN5,hjN5⟩ : ∃ q,q = k + 1:=⟨_,rfl⟩
          have ea5 : ((k : Int)).toNat = iN5:=by omega
          have pa5 : (0 : Int)≤(k : Int):=by omega
          have ba5 : (k : Int) < (d.size : Int):=by omega
          have ra5 : ad.wrap ((k : Int)) = (k : Int):=by rw [IntKind.wrap_i64];omega
          have ec5 : ((k : Int) + 1).toNat = jN5:=by omega
          have pc5 : (0 : Int)≤(k : Int) + 1:=by omega
          have bc5 : (k : Int) + 1 < (d.size : Int):=by omega
          have rc5 : ad.wrap ((k : Int) + 1) = (k : Int) + 1:=by rw [IntKind.wrap_i64];omega
          obtain ⟨x5,hx5⟩ : ∃ x,x = dk[k]!:=⟨_,rfl⟩
          obtain ⟨y5,hy5⟩ : ∃ x,x = dk[k + 1]!:=⟨_,rfl⟩
          have S4 : Aside (SW enc l blk off (swp dk (k) (k + 1)) ((wr.setCell ⟨blk,off + iN5,none⟩ (enc y5)).setCell ⟨blk,off + jN5,none⟩ (enc x5)).drew):=by rw [hiN5,hjN5,hx5,hy5];exact S3.out.swapped R (k) (k + 1) (by omega) (by omega)
          have ca5:=S3.out.c1 R (by omega) (k) (by omega);have cb5:=S3.out.c1 R (by omega) (k + 1) (by omega);have fa5:=S3.out.f1 R (by omega) (k) (by omega);have fb5:=S3.out.f1 R (by omega) (k + 1) (by omega);obtain ⟨u5,cc5⟩:=S3.out.c2 R (by omega) (k) (k + 1) (by omega) (by omega) (enc y5);rw [← hjN5,← hiN5] at cc5
          rw [← hx5,← hiN5] at ca5
          rw [← hy5,← hjN5] at cb5
          rw [← hiN5] at fa5
          rw [← hjN5] at fb5
          clear S3 hx5 hy5 hiN5 hjN5;go_wp2_with fail
          go_big_region_o
          clear ca5 cb5 cc5 fa5 fb5;generalize ((wr.setCell ⟨blk,off + iN5,none⟩ (enc y5)).setCell ⟨blk,off + jN5,none⟩ (enc x5)).drew = t at S4 ⊢;clear ea5 ec5;go_wp2
          go_roundg (i - 1 - (k + 1))
          case measure=>omega
          case rel=>
            refine ⟨k + 1,swp dk (k) (k + 1),by first|rfl|go_num|(congr 1;omega),by omega,by omega,aa _,by rw [size_swp];exact hds,S4,(show _ = _ from ?_)⟩;rw [← HU.out]
            obtain ⟨q,hq⟩ : ∃ q,i - 1 - k = q + 1:=⟨i - 1 - k - 1,by omega⟩
            rw [hq,show i - 1 - (k + 1) = q by omega]
            rfl
        · have hklz : ¬ (k : Int) < (i : Int) - 1:=by omega
          go_wp2
          (try simp only [Exit.inBlock,Exit.then]);refine bodyPost_ret (results_none rfl _ _ _) rfl ?_;refine ⟨rfl,?_⟩;have e0 : i - 1 - k = 0:=by omega
          have e:=HU.out;rw [e0] at e
          rw [ab,if_pos c1]
          (try simp only []);rw [hr]
          rw [show ao (i - 1 - a) a d = dk from e.symm]
          exact S3.out
theorem stab_sym2 (enc : α→Value) (cf : α→α→Int) (g : Nat) (cb : Array Value) (blk off cap f a m b : Nat) (d0 d : Array α) (l w : World) (eg : ∀ args w,(callFunc g args).run Try.prog w = .ok (.enter g args) w) (hcmp : CmpLays1 Try.prog g cb enc cf blk off d0.size l) (R : Row1 enc l blk off d0) (hs : d0.size = d.size) (S : SW enc l blk off d w) (h1 : a < m) (h2 : m < b) (h3 : b≤d.size) (hsz : d0.size < 4611686018427387904) (c1 : ¬ m - a = 1) (c2 : b - m = 1) :
    Calls Try.prog 50 #[.slice (some ⟨blk,off,none⟩) d.size cap,.int .i64 a,.int .i64 m,.int .i64 b,.func (.func g) #[] cb] w fun e w'=>e = .returned (.tuple #[])∧SW enc l blk off (ab (ltOf cf) (f + 1) a m b d) w':=by
  have hu59:=Try.underlying75;have mixed : Try.prog.follows .mixedOrders = true:=by kernel_rfl
  have hcl0:=R.hO.cells;simp only [Value.cells] at hcl0
  have hst:=R.hO.store Try.prog;have S0 : Aside (SW enc l blk off d w):=S;clear S;have HC : Aside _:=hcmp;clear hcmp;have z1 : ¬ (m : Int) - (a : Int) = 1:=by omega
  have z1b : ((m : Int) - (a : Int) == 1) = false:=beq_eq_false_iff_ne.mpr z1;have z2 : (b : Int) - (m : Int) = 1:=by omega
  go_enter Try.func50,Try.ntmps50
  go_wp2
  go_loopg [14,15] (m - a) (fun kx va vb wr=>∃ (i j : Nat),va = .int .i64 i∧vb = .int .i64 j∧a≤i∧i≤j∧j≤m∧j - i≤kx∧Aside (SW enc l blk off d wr)∧∃ f',j - i≤f'∧Hid (ae (fun q=>!ltOf cf d[m]! d[q]!) f' i j = ae (fun q=>!ltOf cf d[m]! d[q]!) (m - a) a m))
  case atStart=>exact ⟨a,m,by first|rfl|go_num|(congr 1;omega),by first|rfl|go_num|(congr 1;omega),aa _,by omega,aa _,aa _,S0,m - a,aa _,rfl⟩
  case round=>
    clear S0;obtain ⟨i,j,rfl,rfl,hi0,hij,hj0,hkx,S1,f',hf',HB⟩:=hrel;by_cases hlt : i < j
    · have hltz : (i : Int) < (j : Int):=by omega
      obtain ⟨f',rfl⟩ : ∃ q,f' = q + 1:=⟨f' - 1,by omega⟩
      cases hlv : ltOf cf d[m]! d[(i + j) / 2]! with
      | true=>
        go_wp2_with fail
        obtain ⟨iN9,hiN9⟩ : ∃ q,q = m:=⟨_,rfl⟩
        obtain ⟨jN9,hjN9⟩ : ∃ q,q = (i + j) / 2:=⟨_,rfl⟩
        have ea9 : ((m : Int)).toNat = iN9:=by omega
        have pa9 : (0 : Int)≤(m : Int):=by omega
        have ba9 : (m : Int) < (d.size : Int):=by omega
        have ra9 : ad.wrap ((m : Int)) = (m : Int):=by rw [IntKind.wrap_i64];omega
        have ec9 : (((i : Int) + (j : Int)) / 2).toNat = jN9:=by omega
        have pc9 : (0 : Int)≤((i : Int) + (j : Int)) / 2:=by omega
        have bc9 : ((i : Int) + (j : Int)) / 2 < (d.size : Int):=by omega
        have rc9 : ad.wrap (((i : Int) + (j : Int)) / 2) = ((i : Int) + (j : Int)) / 2:=by rw [IntKind.wrap_i64];omega
        obtain ⟨x9,hx9⟩ : ∃ x,x = d[m]!:=⟨_,rfl⟩
        obtain ⟨y9,hy9⟩ : ∃ x,x = d[(i + j) / 2]!:=⟨_,rfl⟩
        have la9:=S1.out.cl R (by omega) (m) (by omega);have lb9:=S1.out.cl R (by omega) ((i + j) / 2) (by omega);rw [← hx9,← hiN9] at la9
        rw [← hy9,← hjN9] at lb9
        have hc9:=S1.out.cmp HC.out (by omega) x9 y9;have hv9 : cf x9 y9 < 0:=by rw [hx9,hy9];exact of_decide_eq_true hlv
        have hd9 : decide (cf x9 y9 < 0) = true:=decide_eq_true hv9;clear hx9 hy9 hiN9 hjN9;go_wp2_with fail
        go_quiet_grown (first|(go_at_fn g;refine Calls.grown_of (hc9 _ _)))
        have S2 : Aside (SW enc l blk off d (grow (wr.drewN nq) osq)):=S1.out.grown nq osq;clear la9 lb9 hc9 S1;generalize grow (wr.drewN nq) osq = o at S2 ⊢;clear nq osq;clear ea9 ec9;go_wp2
        go_roundg ((i + j) / 2 - i)
        case measure=>omega
        case rel=>
          refine ⟨i,(i + j) / 2,rfl,by first|rfl|go_num|(congr 1;omega),hi0,by omega,by omega,aa _,S2,f',by omega,(show _ = _ from ?_)⟩;rw [← HB.out,ae,if_pos hlt]
          (try simp only []);rw [hlv]
          rfl
      | false=>
        go_wp2_with fail
        obtain ⟨iN10,hiN10⟩ : ∃ q,q = m:=⟨_,rfl⟩
        obtain ⟨jN10,hjN10⟩ : ∃ q,q = (i + j) / 2:=⟨_,rfl⟩
        have ea10 : ((m : Int)).toNat = iN10:=by omega
        have pa10 : (0 : Int)≤(m : Int):=by omega
        have ba10 : (m : Int) < (d.size : Int):=by omega
        have ra10 : ad.wrap ((m : Int)) = (m : Int):=by rw [IntKind.wrap_i64];omega
        have ec10 : (((i : Int) + (j : Int)) / 2).toNat = jN10:=by omega
        have pc10 : (0 : Int)≤((i : Int) + (j : Int)) / 2:=by omega
        have bc10 : ((i : Int) + (j : Int)) / 2 < (d.size : Int):=by omega
        have rc10 : ad.wrap (((i : Int) + (j : Int)) / 2) = ((i : Int) + (j : Int)) / 2:=by rw [IntKind.wrap_i64];omega
        obtain ⟨x10,hx10⟩ : ∃ x,x = d[m]!:=⟨_,rfl⟩
        obtain ⟨y10,hy10⟩ : ∃ x,x = d[(i + j) / 2]!:=⟨_,rfl⟩
        have la10:=S1.out.cl R (by omega) (m) (by omega);have lb10:=S1.out.cl R (by omega) ((i + j) / 2) (by omega);rw [← hx10,← hiN10] at la10
        rw [← hy10,← hjN10] at lb10
        have hc10:=S1.out.cmp HC.out (by omega) x10 y10;have hv10 : ¬ cf x10 y10 < 0:=by rw [hx10,hy10];exact of_decide_eq_false hlv
        have hd10 : decide (cf x10 y10 < 0) = false:=decide_eq_false hv10;clear hx10 hy10 hiN10 hjN10;go_wp2_with fail
        go_quiet_grown (first|(go_at_fn g;refine Calls.grown_of (hc10 _ _)))
        have S2 : Aside (SW enc l blk off d (grow (wr.drewN nq) osq)):=S1.out.grown nq osq;clear la10 lb10 hc10 S1;generalize grow (wr.drewN nq) osq = o at S2 ⊢;clear nq osq;clear ea10 ec10;go_wp2
        go_roundg (j - ((i + j) / 2 + 1))
        case measure=>omega
        case rel=>
          refine ⟨(i + j) / 2 + 1,j,by first|rfl|go_num|(congr 1;omega),rfl,by omega,by omega,hj0,aa _,S2,f',by omega,(show _ = _ from ?_)⟩;rw [← HB.out,ae,if_pos hlt]
          (try simp only []);rw [hlv]
          rfl
    · have hltz : ¬ (i : Int) < (j : Int):=by omega
      obtain rfl : i = j:=by omega
      have hr : ae (fun q=>!ltOf cf d[m]! d[q]!) (m - a) a m = i:=by
        rw [← HB.out]
        cases f' with
        | zero=>rfl
        | succ f'=>rw [ae,if_neg hlt]
      clear HB;go_wp2
      go_loopg [17] (m - i) (fun kx vk wr=>∃ (k : Nat) (dk : Array α),vk = .int .i64 k∧i≤k∧k≤m∧k - i≤kx∧dk.size = d.size∧Aside (SW enc l blk off dk wr)∧Hid (al (k - i) k dk = al (m - i) m d))
      case atStart=>exact ⟨m,d,rfl,by omega,by omega,aa _,rfl,S1,rfl⟩
      case round=>
        clear S1;obtain ⟨k,dk,rfl,hk1,hk2,hkx2,hds,S3,HU⟩:=hrel;by_cases hkl : i < k
        · have hklz : (i : Int) < (k : Int):=by omega
          go_wp2_with fail
          obtain ⟨iN8,hiN8⟩ : ∃ q,q = k:=⟨_,rfl⟩
          obtain ⟨jN8,hjN8⟩ : ∃ q,q = k - 1:=⟨_,rfl⟩
          have ea8 : ((k : Int)).toNat = iN8:=by omega
          have pa8 : (0 : Int)≤(k : Int):=by omega
          have ba8 : (k : Int) < (d.size : Int):=by omega
          have ra8 : ad.wrap ((k : Int)) = (k : Int):=by rw [IntKind.wrap_i64];omega
          have ec8 : ((k : Int) - 1).toNat = jN8:=by omega
          have pc8 : (0 : Int)≤(k : Int) - 1:=by omega
          have bc8 : (k : Int) - 1 < (d.size : Int):=by omega
          have rc8 : ad.wrap ((k : Int) - 1) = (k : Int) - 1:=by rw [IntKind.wrap_i64];omega
          obtain ⟨x8,hx8⟩ : ∃ x,x = dk[k]!:=⟨_,rfl⟩
          obtain ⟨y8,hy8⟩ : ∃ x,x = dk[k - 1]!:=⟨_,rfl⟩
          have S4 : Aside (SW enc l blk off (swp dk (k) (k - 1)) ((wr.setCell ⟨blk,off + iN8,none⟩ (enc y8)).setCell ⟨blk,off + jN8,none⟩ (enc x8)).drew):=by rw [hiN8,hjN8,hx8,hy8];exact S3.out.swapped R (k) (k - 1) (by omega) (by omega)
          have ca8:=S3.out.c1 R (by omega) (k) (by omega);have cb8:=S3.out.c1 R (by omega) (k - 1) (by omega);have fa8:=S3.out.f1 R (by omega) (k) (by omega);have fb8:=S3.out.f1 R (by omega) (k - 1) (by omega);obtain ⟨u8,cc8⟩:=S3.out.c2 R (by omega) (k) (k - 1) (by omega) (by omega) (enc y8);rw [← hjN8,← hiN8] at cc8
          rw [← hx8,← hiN8] at ca8
          rw [← hy8,← hjN8] at cb8
          rw [← hiN8] at fa8
          rw [← hjN8] at fb8
          clear S3 hx8 hy8 hiN8 hjN8;go_wp2_with fail
          go_big_region_o
          clear ca8 cb8 cc8 fa8 fb8;generalize ((wr.setCell ⟨blk,off + iN8,none⟩ (enc y8)).setCell ⟨blk,off + jN8,none⟩ (enc x8)).drew = t at S4 ⊢;clear ea8 ec8;go_wp2
          go_roundg ((k - 1) - i)
          case measure=>omega
          case rel=>
            refine ⟨k - 1,swp dk (k) (k - 1),by first|rfl|go_num|(congr 1;omega),by omega,by omega,aa _,by rw [size_swp];exact hds,S4,(show _ = _ from ?_)⟩;rw [← HU.out]
            obtain ⟨q,hq⟩ : ∃ q,k - i = q + 1:=⟨k - i - 1,by omega⟩
            rw [hq,show (k - 1) - i = q by omega]
            rfl
        · have hklz : ¬ (i : Int) < (k : Int):=by omega
          go_wp2
          (try simp only [Exit.inBlock,Exit.then]);refine bodyPost_ret (results_none rfl _ _ _) rfl ?_;refine ⟨rfl,?_⟩;have e0 : k - i = 0:=by omega
          have e:=HU.out;rw [e0] at e
          rw [ab,if_neg c1,if_pos c2]
          (try simp only []);rw [hr]
          rw [show al (m - i) m d = dk from e.symm]
          exact S3.out
theorem stab_sym3a (enc : α→Value) (cf : α→α→Int) (g : Nat) (cb : Array Value) (blk off cap f a m b : Nat) (d0 d : Array α) (l w : World) (eg : ∀ args w,(callFunc g args).run Try.prog w = .ok (.enter g args) w) (hcmp : CmpLays1 Try.prog g cb enc cf blk off d0.size l) (R : Row1 enc l blk off d0) (hs : d0.size = d.size) (S : SW enc l blk off d w) (h1 : a < m) (h2 : m < b) (h3 : b≤d.size) (hsz : d0.size < 4611686018427387904) (IH : Aside (∀ (a m b : Nat) (d : Array α) (w : World),d0.size = d.size→SW enc l blk off d w→a < m→m < b→b≤d.size→b - a≤f→Calls Try.prog 50 #[.slice (some ⟨blk,off,none⟩) d.size cap,.int .i64 a,.int .i64 m,.int .i64 b,.func (.func g) #[] cb] w fun e w'=>e = .returned (.tuple #[])∧SW enc l blk off (ab (ltOf cf) f a m b d) w')) (hf : b - a≤f + 1) (c1 : ¬ m - a = 1) (c2 : ¬ b - m = 1) (cm : m > (a + b) / 2) :
    Calls Try.prog 50 #[.slice (some ⟨blk,off,none⟩) d.size cap,.int .i64 a,.int .i64 m,.int .i64 b,.func (.func g) #[] cb] w fun e w'=>e = .returned (.tuple #[])∧SW enc l blk off (ab (ltOf cf) (f + 1) a m b d) w':=by
  have hu59:=Try.underlying75;have mixed : Try.prog.follows .mixedOrders = true:=by kernel_rfl
  have hcl0:=R.hO.cells;simp only [Value.cells] at hcl0
  have hst:=R.hO.store Try.prog;have S0 : Aside (SW enc l blk off d w):=S;clear S;have HC : Aside _:=hcmp;clear hcmp;have z1 : ¬ (m : Int) - (a : Int) = 1:=by omega
  have z1b : ((m : Int) - (a : Int) == 1) = false:=beq_eq_false_iff_ne.mpr z1;have z2 : ¬ (b : Int) - (m : Int) = 1:=by omega
  have z2b : ((b : Int) - (m : Int) == 1) = false:=beq_eq_false_iff_ne.mpr z2;obtain ⟨mid,hmid⟩ : ∃ z,z = (a + b) / 2:=⟨_,rfl⟩
  have zm : ((a : Int) + (b : Int)) / 2 = (mid : Int):=by omega
  have hm1 : 2 * mid≤a + b:=by omega
  have hm2 : a + b≤2 * mid + 1:=by omega
  have HM : Aside (mid = (a + b) / 2):=hmid;clear hmid;replace cm : m > mid:=by rw [HM.out];exact cm
  have cmz : (mid : Int) < (m : Int):=by omega
  go_enter Try.func50,Try.ntmps50
  go_wp2
  go_loopg [20,21] (mid - (mid + m - b)) (fun kx va vb wr=>∃ (i j : Nat),va = .int .i64 i∧vb = .int .i64 j∧(mid + m - b)≤i∧i≤j∧j≤mid∧j - i≤kx∧Aside (SW enc l blk off d wr)∧∃ f',j - i≤f'∧Hid (ae (fun q=>!ltOf cf d[mid + m - 1 - q]! d[q]!) f' i j = ae (fun q=>!ltOf cf d[mid + m - 1 - q]! d[q]!) (mid - (mid + m - b)) (mid + m - b) mid))
  case atStart=>exact ⟨(mid + m - b),mid,by first|rfl|go_num|(congr 1;omega),by first|rfl|go_num|(congr 1;omega),aa _,by omega,aa _,aa _,S0,mid - (mid + m - b),aa _,rfl⟩
  case round=>
    clear S0;obtain ⟨i,j,rfl,rfl,hi0,hij,hj0,hkx,S1,f',hf',HB⟩:=hrel;by_cases hlt : i < j
    · have hltz : (i : Int) < (j : Int):=by omega
      obtain ⟨f',rfl⟩ : ∃ q,f' = q + 1:=⟨f' - 1,by omega⟩
      obtain ⟨tN,htN⟩ : ∃ z,z = mid + m - 1 - (i + j) / 2:=⟨_,rfl⟩
      have zt : (mid : Int) + (m : Int) - 1 - ((i : Int) + (j : Int)) / 2 = (tN : Int):=by omega
      have u : tN < b:=by omega
      have HT : Aside (tN = mid + m - 1 - (i + j) / 2):=htN;clear htN;cases hlv : ltOf cf d[tN]! d[(i + j) / 2]! with
      | true=>
        go_wp2_with fail
        obtain ⟨iN11,hiN11⟩ : ∃ q,q = tN:=⟨_,rfl⟩
        obtain ⟨jN11,hjN11⟩ : ∃ q,q = (i + j) / 2:=⟨_,rfl⟩
        have ea11 : ((tN : Int)).toNat = iN11:=by omega
        have pa11 : (0 : Int)≤(tN : Int):=by omega
        have ba11 : (tN : Int) < (d.size : Int):=by omega
        have ra11 : ad.wrap ((tN : Int)) = (tN : Int):=by rw [IntKind.wrap_i64];omega
        have ec11 : (((i : Int) + (j : Int)) / 2).toNat = jN11:=by omega
        have pc11 : (0 : Int)≤((i : Int) + (j : Int)) / 2:=by omega
        have bc11 : ((i : Int) + (j : Int)) / 2 < (d.size : Int):=by omega
        have rc11 : ad.wrap (((i : Int) + (j : Int)) / 2) = ((i : Int) + (j : Int)) / 2:=by rw [IntKind.wrap_i64];omega
        obtain ⟨x11,hx11⟩ : ∃ x,x = d[tN]!:=⟨_,rfl⟩
        obtain ⟨y11,hy11⟩ : ∃ x,x = d[(i + j) / 2]!:=⟨_,rfl⟩
        have la11:=S1.out.cl R (by omega) (tN) (by omega);have lb11:=S1.out.cl R (by omega) ((i + j) / 2) (by omega);rw [← hx11,← hiN11] at la11
        rw [← hy11,← hjN11] at lb11
        have hc11:=S1.out.cmp HC.out (by omega) x11 y11;have hv11 : cf x11 y11 < 0:=by rw [hx11,hy11];exact of_decide_eq_true hlv
        have hd11 : decide (cf x11 y11 < 0) = true:=decide_eq_true hv11;clear hx11 hy11 hiN11 hjN11;go_wp2_with fail
        go_quiet_grown (first|(go_at_fn g;refine Calls.grown_of (hc11 _ _)))
        have S2 : Aside (SW enc l blk off d (grow (wr.drewN nq) osq)):=S1.out.grown nq osq;clear la11 lb11 hc11 S1;generalize grow (wr.drewN nq) osq = o at S2 ⊢;clear nq osq;clear ea11 ec11;go_wp2
        go_roundg ((i + j) / 2 - i)
        case measure=>omega
        case rel=>
          refine ⟨i,(i + j) / 2,rfl,by first|rfl|go_num|(congr 1;omega),hi0,by omega,by omega,aa _,S2,f',by omega,(show _ = _ from ?_)⟩;rw [← HB.out,ae,if_pos hlt]
          (try simp only []);rw [← HT.out]
          rw [hlv]
          rfl
      | false=>
        go_wp2_with fail
        obtain ⟨iN12,hiN12⟩ : ∃ q,q = tN:=⟨_,rfl⟩
        obtain ⟨jN12,hjN12⟩ : ∃ q,q = (i + j) / 2:=⟨_,rfl⟩
        have ea12 : ((tN : Int)).toNat = iN12:=by omega
        have pa12 : (0 : Int)≤(tN : Int):=by omega
        have ba12 : (tN : Int) < (d.size : Int):=by omega
        have ra12 : ad.wrap ((tN : Int)) = (tN : Int):=by rw [IntKind.wrap_i64];omega
        have ec12 : (((i : Int) + (j : Int)) / 2).toNat = jN12:=by omega
        have pc12 : (0 : Int)≤((i : Int) + (j : Int)) / 2:=by omega
        have bc12 : ((i : Int) + (j : Int)) / 2 < (d.size : Int):=by omega
        have rc12 : ad.wrap (((i : Int) + (j : Int)) / 2) = ((i : Int) + (j : Int)) / 2:=by rw [IntKind.wrap_i64];omega
        obtain ⟨x12,hx12⟩ : ∃ x,x = d[tN]!:=⟨_,rfl⟩
        obtain ⟨y12,hy12⟩ : ∃ x,x = d[(i + j) / 2]!:=⟨_,rfl⟩
        have la12:=S1.out.cl R (by omega) (tN) (by omega);have lb12:=S1.out.cl R (by omega) ((i + j) / 2) (by omega);rw [← hx12,← hiN12] at la12
        rw [← hy12,← hjN12] at lb12
        have hc12:=S1.out.cmp HC.out (by omega) x12 y12;have hv12 : ¬ cf x12 y12 < 0:=by rw [hx12,hy12];exact of_decide_eq_false hlv
        have hd12 : decide (cf x12 y12 < 0) = false:=decide_eq_false hv12;clear hx12 hy12 hiN12 hjN12;go_wp2_with fail
        go_quiet_grown (first|(go_at_fn g;refine Calls.grown_of (hc12 _ _)))
        have S2 : Aside (SW enc l blk off d (grow (wr.drewN nq) osq)):=S1.out.grown nq osq;clear la12 lb12 hc12 S1;generalize grow (wr.drewN nq) osq = o at S2 ⊢;clear nq osq;clear ea12 ec12;go_wp2
        go_roundg (j - ((i + j) / 2 + 1))
        case measure=>omega
        case rel=>
          refine ⟨(i + j) / 2 + 1,j,by first|rfl|go_num|(congr 1;omega),rfl,by omega,by omega,hj0,aa _,S2,f',by omega,(show _ = _ from ?_)⟩;rw [← HB.out,ae,if_pos hlt]
          (try simp only []);rw [← HT.out]
          rw [hlv]
          rfl
    · have hltz : ¬ (i : Int) < (j : Int):=by omega
      obtain rfl : i = j:=by omega
      have hr : ae (fun q=>!ltOf cf d[mid + m - 1 - q]! d[q]!) (mid - (mid + m - b)) (mid + m - b) mid = i:=by
        rw [← HB.out]
        cases f' with
        | zero=>rfl
        | succ f'=>rw [ae,if_neg hlt]
      clear HB;obtain ⟨e,he⟩ : ∃ z,z = mid + m - i:=⟨_,rfl⟩
      have ze : (mid : Int) + (m : Int) - (i : Int) = (e : Int):=by omega
      have p : a≤i∧i≤m∧i≤mid∧m≤e∧e≤b∧i + e≤mid + m∧mid + m≤i + e:=by omega
      have GOAL : ab (ltOf cf) (f + 1) a m b d = (let d1:=if i < m∧m < e then ac d i m e else d;let d2:=if a < i∧i < mid then ab (ltOf cf) f a i mid d1 else d1;if mid < e∧e < b then ab (ltOf cf) f mid e b d2 else d2):=by
        rw [ab,if_neg c1,if_neg c2]
        simp only []
        rw [← HM.out,if_pos cm,if_pos cm,hr,← he]
      simp only [] at GOAL
      have G : Aside _:=GOAL;clear GOAL hr he;by_cases cq : i < mid
      · skip
        by_cases cx : a < i
        · skip
          by_cases cy : e < b
          · skip
            have f1 : (i : Int) < (m : Int):=by omega
            have f2 : (m : Int) < (e : Int):=by omega
            have f3 : (a : Int) < (i : Int):=by omega
            have f4 : (i : Int) < (mid : Int):=by omega
            have f5 : (mid : Int) < (e : Int):=by omega
            have f6 : (e : Int) < (b : Int):=by omega
            have hR:=stab_rotate enc g cb blk off cap i m e d0 d l _ R (by omega) S1.out (by omega) (by omega) (by omega) (by omega) (by omega) (by omega);have sz1 : (ac d i m e).size = d.size:=(af d i m e (by omega) (by omega) (by omega)).1;clear S1;have hA:=fun W (h : SW enc l blk off (ac d i m e) W)=>IH.out a i mid (ac d i m e) W (by omega) h (by omega) (by omega) (by omega) (by omega)
            simp only [sz1] at hA
            have sz2 : (ab (ltOf cf) f a i mid (ac d i m e)).size = d.size:=(stab_size (ltOf cf) f a i mid (ac d i m e)).trans sz1;have hB:=fun W (h : SW enc l blk off (ab (ltOf cf) f a i mid (ac d i m e)) W)=>IH.out mid e b (ab (ltOf cf) f a i mid (ac d i m e)) W (by omega) h (by omega) (by omega) (by omega) (by omega)
            simp only [sz2] at hB
            go_wp2_with (first|(go_at_call 51;refine hR.mono ?_;rintro e1 p ⟨rfl,T1⟩)|(go_at_call 50;with_reducible refine (hA _ T1).mono ?_;rintro e2 o ⟨rfl,T2⟩)|(go_at_call 50;with_reducible refine (hB _ T2).mono ?_;rintro e3 t ⟨rfl,T3⟩))
            all_goals (go_end0;exact ⟨rfl,by rw [G.out,if_pos (show i < m∧m < e by omega),if_pos (show a < i∧i < mid by omega),if_pos (show mid < e∧e < b by omega)];exact T3⟩)
          · skip
            have f1 : (i : Int) < (m : Int):=by omega
            have f2 : (m : Int) < (e : Int):=by omega
            have f3 : (a : Int) < (i : Int):=by omega
            have f4 : (i : Int) < (mid : Int):=by omega
            have f5 : (mid : Int) < (e : Int):=by omega
            have f6 : ¬ (e : Int) < (b : Int):=by omega
            have hR:=stab_rotate enc g cb blk off cap i m e d0 d l _ R (by omega) S1.out (by omega) (by omega) (by omega) (by omega) (by omega) (by omega);have sz1 : (ac d i m e).size = d.size:=(af d i m e (by omega) (by omega) (by omega)).1;clear S1;have hA:=fun W (h : SW enc l blk off (ac d i m e) W)=>IH.out a i mid (ac d i m e) W (by omega) h (by omega) (by omega) (by omega) (by omega)
            simp only [sz1] at hA
            have sz2 : (ab (ltOf cf) f a i mid (ac d i m e)).size = d.size:=(stab_size (ltOf cf) f a i mid (ac d i m e)).trans sz1;go_wp2_with (first|(go_at_call 51;refine hR.mono ?_;rintro e1 p ⟨rfl,T1⟩)|(go_at_call 50;with_reducible refine (hA _ T1).mono ?_;rintro e2 o ⟨rfl,T2⟩))
            all_goals (go_end0;exact ⟨rfl,by rw [G.out,if_pos (show i < m∧m < e by omega),if_pos (show a < i∧i < mid by omega),if_neg (show ¬ (mid < e∧e < b) by omega)];exact T2⟩)
        · skip
          by_cases cy : e < b
          · skip
            have f1 : (i : Int) < (m : Int):=by omega
            have f2 : (m : Int) < (e : Int):=by omega
            have f3 : ¬ (a : Int) < (i : Int):=by omega
            have f4 : (i : Int) < (mid : Int):=by omega
            have f5 : (mid : Int) < (e : Int):=by omega
            have f6 : (e : Int) < (b : Int):=by omega
            have hR:=stab_rotate enc g cb blk off cap i m e d0 d l _ R (by omega) S1.out (by omega) (by omega) (by omega) (by omega) (by omega) (by omega);have sz1 : (ac d i m e).size = d.size:=(af d i m e (by omega) (by omega) (by omega)).1;clear S1;have hB:=fun W (h : SW enc l blk off (ac d i m e) W)=>IH.out mid e b (ac d i m e) W (by omega) h (by omega) (by omega) (by omega) (by omega)
            simp only [sz1] at hB
            go_wp2_with (first|(go_at_call 51;refine hR.mono ?_;rintro e1 p ⟨rfl,T1⟩)|(go_at_call 50;with_reducible refine (hB _ T1).mono ?_;rintro e3 t ⟨rfl,T3⟩))
            all_goals (go_end0;exact ⟨rfl,by rw [G.out,if_pos (show i < m∧m < e by omega),if_neg (show ¬ (a < i∧i < mid) by omega),if_pos (show mid < e∧e < b by omega)];exact T3⟩)
          · skip
            have f1 : (i : Int) < (m : Int):=by omega
            have f2 : (m : Int) < (e : Int):=by omega
            have f3 : ¬ (a : Int) < (i : Int):=by omega
            have f4 : (i : Int) < (mid : Int):=by omega
            have f5 : (mid : Int) < (e : Int):=by omega
            have f6 : ¬ (e : Int) < (b : Int):=by omega
            have hR:=stab_rotate enc g cb blk off cap i m e d0 d l _ R (by omega) S1.out (by omega) (by omega) (by omega) (by omega) (by omega) (by omega);have sz1 : (ac d i m e).size = d.size:=(af d i m e (by omega) (by omega) (by omega)).1;clear S1;go_wp2_with (first|(go_at_call 51;refine hR.mono ?_;rintro e1 p ⟨rfl,T1⟩))
            all_goals (go_end0;exact ⟨rfl,by rw [G.out,if_pos (show i < m∧m < e by omega),if_neg (show ¬ (a < i∧i < mid) by omega),if_neg (show ¬ (mid < e∧e < b) by omega)];exact T1⟩)
      · skip
        by_cases cx : a < i
        · skip
          by_cases cy : e < b
          · skip
            have f1 : (i : Int) < (m : Int):=by omega
            have f2 : ¬ (m : Int) < (e : Int):=by omega
            have f3 : (a : Int) < (i : Int):=by omega
            have f4 : ¬ (i : Int) < (mid : Int):=by omega
            have f5 : (mid : Int) < (e : Int):=by omega
            have f6 : (e : Int) < (b : Int):=by omega
            have hB:=fun W (h : SW enc l blk off d W)=>IH.out mid e b d W (by omega) h (by omega) (by omega) (by omega) (by omega)
            go_wp2_with (first|(go_at_call 50;with_reducible refine (hB _ S1.out).mono ?_;rintro e3 t ⟨rfl,T3⟩))
            all_goals (go_end0;exact ⟨rfl,by rw [G.out,if_neg (show ¬ (i < m∧m < e) by omega),if_neg (show ¬ (a < i∧i < mid) by omega),if_pos (show mid < e∧e < b by omega)];exact T3⟩)
          · skip
            have f1 : (i : Int) < (m : Int):=by omega
            have f2 : ¬ (m : Int) < (e : Int):=by omega
            have f3 : (a : Int) < (i : Int):=by omega
            have f4 : ¬ (i : Int) < (mid : Int):=by omega
            have f5 : (mid : Int) < (e : Int):=by omega
            have f6 : ¬ (e : Int) < (b : Int):=by omega
            go_wp2
            all_goals (go_end0;exact ⟨rfl,by rw [G.out,if_neg (show ¬ (i < m∧m < e) by omega),if_neg (show ¬ (a < i∧i < mid) by omega),if_neg (show ¬ (mid < e∧e < b) by omega)];exact S1.out⟩)
        · skip
          by_cases cy : e < b
          · skip
            have f1 : (i : Int) < (m : Int):=by omega
            have f2 : ¬ (m : Int) < (e : Int):=by omega
            have f3 : ¬ (a : Int) < (i : Int):=by omega
            have f4 : ¬ (i : Int) < (mid : Int):=by omega
            have f5 : (mid : Int) < (e : Int):=by omega
            have f6 : (e : Int) < (b : Int):=by omega
            have hB:=fun W (h : SW enc l blk off d W)=>IH.out mid e b d W (by omega) h (by omega) (by omega) (by omega) (by omega)
            go_wp2_with (first|(go_at_call 50;with_reducible refine (hB _ S1.out).mono ?_;rintro e3 t ⟨rfl,T3⟩))
            all_goals (go_end0;exact ⟨rfl,by rw [G.out,if_neg (show ¬ (i < m∧m < e) by omega),if_neg (show ¬ (a < i∧i < mid) by omega),if_pos (show mid < e∧e < b by omega)];exact T3⟩)
          · skip
            have f1 : (i : Int) < (m : Int):=by omega
            have f2 : ¬ (m : Int) < (e : Int):=by omega
            have f3 : ¬ (a : Int) < (i : Int):=by omega
            have f4 : ¬ (i : Int) < (mid : Int):=by omega
            have f5 : (mid : Int) < (e : Int):=by omega
            have f6 : ¬ (e : Int) < (b : Int):=by omega
            go_wp2
            all_goals (go_end0;exact ⟨rfl,by rw [G.out,if_neg (show ¬ (i < m∧m < e) by omega),if_neg (show ¬ (a < i∧i < mid) by omega),if_neg (show ¬ (mid < e∧e < b) by omega)];exact S1.out⟩)
theorem stab_sym3b (enc : α→Value) (cf : α→α→Int) (g : Nat) (cb : Array Value) (blk off cap f a m b : Nat) (d0 d : Array α) (l w : World) (eg : ∀ args w,(callFunc g args).run Try.prog w = .ok (.enter g args) w) (hcmp : CmpLays1 Try.prog g cb enc cf blk off d0.size l) (R : Row1 enc l blk off d0) (hs : d0.size = d.size) (S : SW enc l blk off d w) (h1 : a < m) (h2 : m < b) (h3 : b≤d.size) (hsz : d0.size < 4611686018427387904) (IH : Aside (∀ (a m b : Nat) (d : Array α) (w : World),d0.size = d.size→SW enc l blk off d w→a < m→m < b→b≤d.size→b - a≤f→Calls Try.prog 50 #[.slice (some ⟨blk,off,none⟩) d.size cap,.int .i64 a,.int .i64 m,.int .i64 b,.func (.func g) #[] cb] w fun e w'=>e = .returned (.tuple #[])∧SW enc l blk off (ab (ltOf cf) f a m b d) w')) (hf : b - a≤f + 1) (c1 : ¬ m - a = 1) (c2 : ¬ b - m = 1) (cm : ¬ m > (a + b) / 2) :
    Calls Try.prog 50 #[.slice (some ⟨blk,off,none⟩) d.size cap,.int .i64 a,.int .i64 m,.int .i64 b,.func (.func g) #[] cb] w fun e w'=>e = .returned (.tuple #[])∧SW enc l blk off (ab (ltOf cf) (f + 1) a m b d) w':=by
  have hu59:=Try.underlying75;have mixed : Try.prog.follows .mixedOrders = true:=by kernel_rfl
  have hcl0:=R.hO.cells;simp only [Value.cells] at hcl0
  have hst:=R.hO.store Try.prog;have S0 : Aside (SW enc l blk off d w):=S;clear S;have HC : Aside _:=hcmp;clear hcmp;have z1 : ¬ (m : Int) - (a : Int) = 1:=by omega
  have z1b : ((m : Int) - (a : Int) == 1) = false:=beq_eq_false_iff_ne.mpr z1;have z2 : ¬ (b : Int) - (m : Int) = 1:=by omega
  have z2b : ((b : Int) - (m : Int) == 1) = false:=beq_eq_false_iff_ne.mpr z2;obtain ⟨mid,hmid⟩ : ∃ z,z = (a + b) / 2:=⟨_,rfl⟩
  have zm : ((a : Int) + (b : Int)) / 2 = (mid : Int):=by omega
  have hm1 : 2 * mid≤a + b:=by omega
  have hm2 : a + b≤2 * mid + 1:=by omega
  have HM : Aside (mid = (a + b) / 2):=hmid;clear hmid;replace cm : ¬ m > mid:=by rw [HM.out];exact cm
  have cmz : ¬ (mid : Int) < (m : Int):=by omega
  go_enter Try.func50,Try.ntmps50
  go_wp2
  go_loopg [20,21] (m - a) (fun kx va vb wr=>∃ (i j : Nat),va = .int .i64 i∧vb = .int .i64 j∧a≤i∧i≤j∧j≤m∧j - i≤kx∧Aside (SW enc l blk off d wr)∧∃ f',j - i≤f'∧Hid (ae (fun q=>!ltOf cf d[mid + m - 1 - q]! d[q]!) f' i j = ae (fun q=>!ltOf cf d[mid + m - 1 - q]! d[q]!) (m - a) a m))
  case atStart=>exact ⟨a,m,by first|rfl|go_num|(congr 1;omega),by first|rfl|go_num|(congr 1;omega),aa _,by omega,aa _,aa _,S0,m - a,aa _,rfl⟩
  case round=>
    clear S0;obtain ⟨i,j,rfl,rfl,hi0,hij,hj0,hkx,S1,f',hf',HB⟩:=hrel;by_cases hlt : i < j
    · have hltz : (i : Int) < (j : Int):=by omega
      obtain ⟨f',rfl⟩ : ∃ q,f' = q + 1:=⟨f' - 1,by omega⟩
      obtain ⟨tN,htN⟩ : ∃ z,z = mid + m - 1 - (i + j) / 2:=⟨_,rfl⟩
      have zt : (mid : Int) + (m : Int) - 1 - ((i : Int) + (j : Int)) / 2 = (tN : Int):=by omega
      have u : tN < b:=by omega
      have HT : Aside (tN = mid + m - 1 - (i + j) / 2):=htN;clear htN;cases hlv : ltOf cf d[tN]! d[(i + j) / 2]! with
      | true=>
        go_wp2_with fail
        obtain ⟨iN13,hiN13⟩ : ∃ q,q = tN:=⟨_,rfl⟩
        obtain ⟨jN13,hjN13⟩ : ∃ q,q = (i + j) / 2:=⟨_,rfl⟩
        have ea13 : ((tN : Int)).toNat = iN13:=by omega
        have pa13 : (0 : Int)≤(tN : Int):=by omega
        have ba13 : (tN : Int) < (d.size : Int):=by omega
        have ra13 : ad.wrap ((tN : Int)) = (tN : Int):=by rw [IntKind.wrap_i64];omega
        have ec13 : (((i : Int) + (j : Int)) / 2).toNat = jN13:=by omega
        have pc13 : (0 : Int)≤((i : Int) + (j : Int)) / 2:=by omega
        have bc13 : ((i : Int) + (j : Int)) / 2 < (d.size : Int):=by omega
        have rc13 : ad.wrap (((i : Int) + (j : Int)) / 2) = ((i : Int) + (j : Int)) / 2:=by rw [IntKind.wrap_i64];omega
        obtain ⟨x13,hx13⟩ : ∃ x,x = d[tN]!:=⟨_,rfl⟩
        obtain ⟨y13,hy13⟩ : ∃ x,x = d[(i + j) / 2]!:=⟨_,rfl⟩
        have la13:=S1.out.cl R (by omega) (tN) (by omega);have lb13:=S1.out.cl R (by omega) ((i + j) / 2) (by omega);rw [← hx13,← hiN13] at la13
        rw [← hy13,← hjN13] at lb13
        have hc13:=S1.out.cmp HC.out (by omega) x13 y13;have hv13 : cf x13 y13 < 0:=by rw [hx13,hy13];exact of_decide_eq_true hlv
        have hd13 : decide (cf x13 y13 < 0) = true:=decide_eq_true hv13;clear hx13 hy13 hiN13 hjN13;go_wp2_with fail
        go_quiet_grown (first|(go_at_fn g;refine Calls.grown_of (hc13 _ _)))
        have S2 : Aside (SW enc l blk off d (grow (wr.drewN nq) osq)):=S1.out.grown nq osq;clear la13 lb13 hc13 S1;generalize grow (wr.drewN nq) osq = o at S2 ⊢;clear nq osq;clear ea13 ec13;go_wp2
        go_roundg ((i + j) / 2 - i)
        case measure=>omega
        case rel=>
          refine ⟨i,(i + j) / 2,rfl,by first|rfl|go_num|(congr 1;omega),hi0,by omega,by omega,aa _,S2,f',by omega,(show _ = _ from ?_)⟩;rw [← HB.out,ae,if_pos hlt]
          (try simp only []);rw [← HT.out]
          rw [hlv]
          rfl
      | false=>
        go_wp2_with fail
        obtain ⟨iN14,hiN14⟩ : ∃ q,q = tN:=⟨_,rfl⟩
        obtain ⟨jN14,hjN14⟩ : ∃ q,q = (i + j) / 2:=⟨_,rfl⟩
        have ea14 : ((tN : Int)).toNat = iN14:=by omega
        have pa14 : (0 : Int)≤(tN : Int):=by omega
        have ba14 : (tN : Int) < (d.size : Int):=by omega
        have ra14 : ad.wrap ((tN : Int)) = (tN : Int):=by rw [IntKind.wrap_i64];omega
        have ec14 : (((i : Int) + (j : Int)) / 2).toNat = jN14:=by omega
        have pc14 : (0 : Int)≤((i : Int) + (j : Int)) / 2:=by omega
        have bc14 : ((i : Int) + (j : Int)) / 2 < (d.size : Int):=by omega
        have rc14 : ad.wrap (((i : Int) + (j : Int)) / 2) = ((i : Int) + (j : Int)) / 2:=by rw [IntKind.wrap_i64];omega
        obtain ⟨x14,hx14⟩ : ∃ x,x = d[tN]!:=⟨_,rfl⟩
        obtain ⟨y14,hy14⟩ : ∃ x,x = d[(i + j) / 2]!:=⟨_,rfl⟩
        have la14:=S1.out.cl R (by omega) (tN) (by omega);have lb14:=S1.out.cl R (by omega) ((i + j) / 2) (by omega);rw [← hx14,← hiN14] at la14
        rw [← hy14,← hjN14] at lb14
        have hc14:=S1.out.cmp HC.out (by omega) x14 y14;have hv14 : ¬ cf x14 y14 < 0:=by rw [hx14,hy14];exact of_decide_eq_false hlv
        have hd14 : decide (cf x14 y14 < 0) = false:=decide_eq_false hv14;clear hx14 hy14 hiN14 hjN14;go_wp2_with fail
        go_quiet_grown (first|(go_at_fn g;refine Calls.grown_of (hc14 _ _)))
        have S2 : Aside (SW enc l blk off d (grow (wr.drewN nq) osq)):=S1.out.grown nq osq;clear la14 lb14 hc14 S1;generalize grow (wr.drewN nq) osq = o at S2 ⊢;clear nq osq;clear ea14 ec14;go_wp2
        go_roundg (j - ((i + j) / 2 + 1))
        case measure=>omega
        case rel=>
          refine ⟨(i + j) / 2 + 1,j,by first|rfl|go_num|(congr 1;omega),rfl,by omega,by omega,hj0,aa _,S2,f',by omega,(show _ = _ from ?_)⟩;rw [← HB.out,ae,if_pos hlt]
          (try simp only []);rw [← HT.out]
          rw [hlv]
          rfl
    · have hltz : ¬ (i : Int) < (j : Int):=by omega
      obtain rfl : i = j:=by omega
      have hr : ae (fun q=>!ltOf cf d[mid + m - 1 - q]! d[q]!) (m - a) a m = i:=by
        rw [← HB.out]
        cases f' with
        | zero=>rfl
        | succ f'=>rw [ae,if_neg hlt]
      clear HB;obtain ⟨e,he⟩ : ∃ z,z = mid + m - i:=⟨_,rfl⟩
      have ze : (mid : Int) + (m : Int) - (i : Int) = (e : Int):=by omega
      have p : a≤i∧i≤m∧i≤mid∧m≤e∧e≤b∧i + e≤mid + m∧mid + m≤i + e:=by omega
      have GOAL : ab (ltOf cf) (f + 1) a m b d = (let d1:=if i < m∧m < e then ac d i m e else d;let d2:=if a < i∧i < mid then ab (ltOf cf) f a i mid d1 else d1;if mid < e∧e < b then ab (ltOf cf) f mid e b d2 else d2):=by
        rw [ab,if_neg c1,if_neg c2]
        simp only []
        rw [← HM.out,if_neg cm,if_neg cm,hr,← he]
      simp only [] at GOAL
      have G : Aside _:=GOAL;clear GOAL hr he;by_cases cp : i < m
      · skip
        by_cases cx : a < i
        · skip
          by_cases cy : e < b
          · skip
            have f1 : (i : Int) < (m : Int):=by omega
            have f2 : (m : Int) < (e : Int):=by omega
            have f3 : (a : Int) < (i : Int):=by omega
            have f4 : (i : Int) < (mid : Int):=by omega
            have f5 : (mid : Int) < (e : Int):=by omega
            have f6 : (e : Int) < (b : Int):=by omega
            have hR:=stab_rotate enc g cb blk off cap i m e d0 d l _ R (by omega) S1.out (by omega) (by omega) (by omega) (by omega) (by omega) (by omega);have sz1 : (ac d i m e).size = d.size:=(af d i m e (by omega) (by omega) (by omega)).1;clear S1;have hA:=fun W (h : SW enc l blk off (ac d i m e) W)=>IH.out a i mid (ac d i m e) W (by omega) h (by omega) (by omega) (by omega) (by omega)
            simp only [sz1] at hA
            have sz2 : (ab (ltOf cf) f a i mid (ac d i m e)).size = d.size:=(stab_size (ltOf cf) f a i mid (ac d i m e)).trans sz1;have hB:=fun W (h : SW enc l blk off (ab (ltOf cf) f a i mid (ac d i m e)) W)=>IH.out mid e b (ab (ltOf cf) f a i mid (ac d i m e)) W (by omega) h (by omega) (by omega) (by omega) (by omega)
            simp only [sz2] at hB
            go_wp2_with (first|(go_at_call 51;refine hR.mono ?_;rintro e1 p ⟨rfl,T1⟩)|(go_at_call 50;with_reducible refine (hA _ T1).mono ?_;rintro e2 o ⟨rfl,T2⟩)|(go_at_call 50;with_reducible refine (hB _ T2).mono ?_;rintro e3 t ⟨rfl,T3⟩))
            all_goals (go_end0;exact ⟨rfl,by rw [G.out,if_pos (show i < m∧m < e by omega),if_pos (show a < i∧i < mid by omega),if_pos (show mid < e∧e < b by omega)];exact T3⟩)
          · skip
            have f1 : (i : Int) < (m : Int):=by omega
            have f2 : (m : Int) < (e : Int):=by omega
            have f3 : (a : Int) < (i : Int):=by omega
            have f4 : (i : Int) < (mid : Int):=by omega
            have f5 : (mid : Int) < (e : Int):=by omega
            have f6 : ¬ (e : Int) < (b : Int):=by omega
            have hR:=stab_rotate enc g cb blk off cap i m e d0 d l _ R (by omega) S1.out (by omega) (by omega) (by omega) (by omega) (by omega) (by omega);have sz1 : (ac d i m e).size = d.size:=(af d i m e (by omega) (by omega) (by omega)).1;clear S1;have hA:=fun W (h : SW enc l blk off (ac d i m e) W)=>IH.out a i mid (ac d i m e) W (by omega) h (by omega) (by omega) (by omega) (by omega)
            simp only [sz1] at hA
            have sz2 : (ab (ltOf cf) f a i mid (ac d i m e)).size = d.size:=(stab_size (ltOf cf) f a i mid (ac d i m e)).trans sz1;go_wp2_with (first|(go_at_call 51;refine hR.mono ?_;rintro e1 p ⟨rfl,T1⟩)|(go_at_call 50;with_reducible refine (hA _ T1).mono ?_;rintro e2 o ⟨rfl,T2⟩))
            all_goals (go_end0;exact ⟨rfl,by rw [G.out,if_pos (show i < m∧m < e by omega),if_pos (show a < i∧i < mid by omega),if_neg (show ¬ (mid < e∧e < b) by omega)];exact T2⟩)
        · skip
          by_cases cy : e < b
          · skip
            have f1 : (i : Int) < (m : Int):=by omega
            have f2 : (m : Int) < (e : Int):=by omega
            have f3 : ¬ (a : Int) < (i : Int):=by omega
            have f4 : (i : Int) < (mid : Int):=by omega
            have f5 : (mid : Int) < (e : Int):=by omega
            have f6 : (e : Int) < (b : Int):=by omega
            have hR:=stab_rotate enc g cb blk off cap i m e d0 d l _ R (by omega) S1.out (by omega) (by omega) (by omega) (by omega) (by omega) (by omega);have sz1 : (ac d i m e).size = d.size:=(af d i m e (by omega) (by omega) (by omega)).1;clear S1;have hB:=fun W (h : SW enc l blk off (ac d i m e) W)=>IH.out mid e b (ac d i m e) W (by omega) h (by omega) (by omega) (by omega) (by omega)
            simp only [sz1] at hB
            go_wp2_with (first|(go_at_call 51;refine hR.mono ?_;rintro e1 p ⟨rfl,T1⟩)|(go_at_call 50;with_reducible refine (hB _ T1).mono ?_;rintro e3 t ⟨rfl,T3⟩))
            all_goals (go_end0;exact ⟨rfl,by rw [G.out,if_pos (show i < m∧m < e by omega),if_neg (show ¬ (a < i∧i < mid) by omega),if_pos (show mid < e∧e < b by omega)];exact T3⟩)
          · skip
            have f1 : (i : Int) < (m : Int):=by omega
            have f2 : (m : Int) < (e : Int):=by omega
            have f3 : ¬ (a : Int) < (i : Int):=by omega
            have f4 : (i : Int) < (mid : Int):=by omega
            have f5 : (mid : Int) < (e : Int):=by omega
            have f6 : ¬ (e : Int) < (b : Int):=by omega
            have hR:=stab_rotate enc g cb blk off cap i m e d0 d l _ R (by omega) S1.out (by omega) (by omega) (by omega) (by omega) (by omega) (by omega);have sz1 : (ac d i m e).size = d.size:=(af d i m e (by omega) (by omega) (by omega)).1;clear S1;go_wp2_with (first|(go_at_call 51;refine hR.mono ?_;rintro e1 p ⟨rfl,T1⟩))
            all_goals (go_end0;exact ⟨rfl,by rw [G.out,if_pos (show i < m∧m < e by omega),if_neg (show ¬ (a < i∧i < mid) by omega),if_neg (show ¬ (mid < e∧e < b) by omega)];exact T1⟩)
      · skip
        by_cases cq : i < mid
        · skip
          by_cases cx : a < i
          · skip
            by_cases cy : e < b
            · skip
              have f1 : ¬ (i : Int) < (m : Int):=by omega
              have f2 : (m : Int) < (e : Int):=by omega
              have f3 : (a : Int) < (i : Int):=by omega
              have f4 : (i : Int) < (mid : Int):=by omega
              have f5 : ¬ (mid : Int) < (e : Int):=by omega
              have f6 : (e : Int) < (b : Int):=by omega
              have hA:=fun W (h : SW enc l blk off d W)=>IH.out a i mid d W (by omega) h (by omega) (by omega) (by omega) (by omega)
              have sz2 : (ab (ltOf cf) f a i mid d).size = d.size:=(stab_size (ltOf cf) f a i mid d)
              go_wp2_with (first|(go_at_call 50;with_reducible refine (hA _ S1.out).mono ?_;rintro e2 o ⟨rfl,T2⟩))
              all_goals (go_end0;exact ⟨rfl,by rw [G.out,if_neg (show ¬ (i < m∧m < e) by omega),if_pos (show a < i∧i < mid by omega),if_neg (show ¬ (mid < e∧e < b) by omega)];exact T2⟩)
            · skip
              have f1 : ¬ (i : Int) < (m : Int):=by omega
              have f2 : (m : Int) < (e : Int):=by omega
              have f3 : (a : Int) < (i : Int):=by omega
              have f4 : (i : Int) < (mid : Int):=by omega
              have f5 : ¬ (mid : Int) < (e : Int):=by omega
              have f6 : ¬ (e : Int) < (b : Int):=by omega
              have hA:=fun W (h : SW enc l blk off d W)=>IH.out a i mid d W (by omega) h (by omega) (by omega) (by omega) (by omega)
              have sz2 : (ab (ltOf cf) f a i mid d).size = d.size:=(stab_size (ltOf cf) f a i mid d)
              go_wp2_with (first|(go_at_call 50;with_reducible refine (hA _ S1.out).mono ?_;rintro e2 o ⟨rfl,T2⟩))
              all_goals (go_end0;exact ⟨rfl,by rw [G.out,if_neg (show ¬ (i < m∧m < e) by omega),if_pos (show a < i∧i < mid by omega),if_neg (show ¬ (mid < e∧e < b) by omega)];exact T2⟩)
          · skip
            by_cases cy : e < b
            · skip
              have f1 : ¬ (i : Int) < (m : Int):=by omega
              have f2 : (m : Int) < (e : Int):=by omega
              have f3 : ¬ (a : Int) < (i : Int):=by omega
              have f4 : (i : Int) < (mid : Int):=by omega
              have f5 : ¬ (mid : Int) < (e : Int):=by omega
              have f6 : (e : Int) < (b : Int):=by omega
              go_wp2
              all_goals (go_end0;exact ⟨rfl,by rw [G.out,if_neg (show ¬ (i < m∧m < e) by omega),if_neg (show ¬ (a < i∧i < mid) by omega),if_neg (show ¬ (mid < e∧e < b) by omega)];exact S1.out⟩)
            · skip
              have f1 : ¬ (i : Int) < (m : Int):=by omega
              have f2 : (m : Int) < (e : Int):=by omega
              have f3 : ¬ (a : Int) < (i : Int):=by omega
              have f4 : (i : Int) < (mid : Int):=by omega
              have f5 : ¬ (mid : Int) < (e : Int):=by omega
              have f6 : ¬ (e : Int) < (b : Int):=by omega
              go_wp2
              all_goals (go_end0;exact ⟨rfl,by rw [G.out,if_neg (show ¬ (i < m∧m < e) by omega),if_neg (show ¬ (a < i∧i < mid) by omega),if_neg (show ¬ (mid < e∧e < b) by omega)];exact S1.out⟩)
        · skip
          by_cases cx : a < i
          · skip
            by_cases cy : e < b
            · skip
              have f1 : ¬ (i : Int) < (m : Int):=by omega
              have f2 : ¬ (m : Int) < (e : Int):=by omega
              have f3 : (a : Int) < (i : Int):=by omega
              have f4 : ¬ (i : Int) < (mid : Int):=by omega
              have f5 : ¬ (mid : Int) < (e : Int):=by omega
              have f6 : (e : Int) < (b : Int):=by omega
              go_wp2
              all_goals (go_end0;exact ⟨rfl,by rw [G.out,if_neg (show ¬ (i < m∧m < e) by omega),if_neg (show ¬ (a < i∧i < mid) by omega),if_neg (show ¬ (mid < e∧e < b) by omega)];exact S1.out⟩)
            · skip
              have f1 : ¬ (i : Int) < (m : Int):=by omega
              have f2 : ¬ (m : Int) < (e : Int):=by omega
              have f3 : (a : Int) < (i : Int):=by omega
              have f4 : ¬ (i : Int) < (mid : Int):=by omega
              have f5 : ¬ (mid : Int) < (e : Int):=by omega
              have f6 : ¬ (e : Int) < (b : Int):=by omega
              go_wp2
              all_goals (go_end0;exact ⟨rfl,by rw [G.out,if_neg (show ¬ (i < m∧m < e) by omega),if_neg (show ¬ (a < i∧i < mid) by omega),if_neg (show ¬ (mid < e∧e < b) by omega)];exact S1.out⟩)
          · skip
            by_cases cy : e < b
            · skip
              have f1 : ¬ (i : Int) < (m : Int):=by omega
              have f2 : ¬ (m : Int) < (e : Int):=by omega
              have f3 : ¬ (a : Int) < (i : Int):=by omega
              have f4 : ¬ (i : Int) < (mid : Int):=by omega
              have f5 : ¬ (mid : Int) < (e : Int):=by omega
              have f6 : (e : Int) < (b : Int):=by omega
              go_wp2
              all_goals (go_end0;exact ⟨rfl,by rw [G.out,if_neg (show ¬ (i < m∧m < e) by omega),if_neg (show ¬ (a < i∧i < mid) by omega),if_neg (show ¬ (mid < e∧e < b) by omega)];exact S1.out⟩)
            · skip
              have f1 : ¬ (i : Int) < (m : Int):=by omega
              have f2 : ¬ (m : Int) < (e : Int):=by omega
              have f3 : ¬ (a : Int) < (i : Int):=by omega
              have f4 : ¬ (i : Int) < (mid : Int):=by omega
              have f5 : ¬ (mid : Int) < (e : Int):=by omega
              have f6 : ¬ (e : Int) < (b : Int):=by omega
              go_wp2
              all_goals (go_end0;exact ⟨rfl,by rw [G.out,if_neg (show ¬ (i < m∧m < e) by omega),if_neg (show ¬ (a < i∧i < mid) by omega),if_neg (show ¬ (mid < e∧e < b) by omega)];exact S1.out⟩)
theorem stab_symMerge (enc : α→Value) (cf : α→α→Int) (g : Nat) (cb : Array Value) (blk off cap : Nat) (d0 : Array α) (l : World) (eg : ∀ args w,(callFunc g args).run Try.prog w = .ok (.enter g args) w) (hcmp : CmpLays1 Try.prog g cb enc cf blk off d0.size l) (R : Row1 enc l blk off d0) (hsz : d0.size < 4611686018427387904) : ∀ (f a m b : Nat) (d : Array α) (w : World),d0.size = d.size→SW enc l blk off d w→a < m→m < b→b≤d.size→b - a≤f→
    Calls Try.prog 50 #[.slice (some ⟨blk,off,none⟩) d.size cap,.int .i64 a,.int .i64 m,.int .i64 b,.func (.func g) #[] cb] w fun e w'=>e = .returned (.tuple #[])∧SW enc l blk off (ab (ltOf cf) f a m b d) w'
  | 0,a,m,b,d,w,hs,S,h1,h2,h3,hf=>by omega
  | f + 1,a,m,b,d,w,hs,S,h1,h2,h3,hf=>by
    have ih:=stab_symMerge enc cf g cb blk off cap d0 l eg hcmp R hsz f;by_cases c1 : m - a = 1
    · exact stab_sym1 enc cf g cb blk off cap f a m b d0 d l w eg hcmp R hs S h1 h2 h3 hsz c1
    by_cases c2 : b - m = 1
    · exact stab_sym2 enc cf g cb blk off cap f a m b d0 d l w eg hcmp R hs S h1 h2 h3 hsz c1 c2
    by_cases cm : m > (a + b) / 2
    · exact stab_sym3a enc cf g cb blk off cap f a m b d0 d l w eg hcmp R hs S h1 h2 h3 hsz ih hf c1 c2 cm
    · exact stab_sym3b enc cf g cb blk off cap f a m b d0 d l w eg hcmp R hs S h1 h2 h3 hsz ih hf c1 c2 cm
theorem stab_insertion (enc : α→Value) (cf : α→α→Int) (g : Nat) (cb : Array Value) (blk off cap a b : Nat) (d0 d : Array α) (l w : World) (eg : ∀ args w,(callFunc g args).run Try.prog w = .ok (.enter g args) w) (hcmp : CmpLays1 Try.prog g cb enc cf blk off d0.size l) (R : Row1 enc l blk off d0) (hs : d0.size = d.size) (S : SW enc l blk off d w) (hab : a≤b) (hb : b≤d.size) (hsz : d.size < 4611686018427387904) :
    Calls Try.prog 49 #[.slice (some ⟨blk,off,none⟩) d.size cap,.int .i64 a,.int .i64 b,.func (.func g) #[] cb] w fun e w'=>e = .returned (.tuple #[])∧SW enc l blk off (Sort.insertionSort (ltOf cf) d a b) w':=by
  have mixed : Try.prog.follows .mixedOrders = true:=by kernel_rfl
  have hcl0:=R.hO.cells;simp only [Value.cells] at hcl0
  have hst:=R.hO.store Try.prog;have S0 : Aside (SW enc l blk off d w):=S;clear S;have HC : Aside _:=hcmp;clear hcmp;go_enter Try.func49,Try.ntmps49
  go_wp2
  go_loopg [8] (b - a) (fun g1 vi wr=>∃ (i : Nat) (dk : Array α),vi = .int .i64 i∧a < i∧i≤b + 1∧b + 1 - i≤g1 + 1∧dk.size = d.size∧Aside (SW enc l blk off dk wr)∧Hid (insOuter (ltOf cf) a b i dk = insOuter (ltOf cf) a b (a + 1) d))
  case atStart=>exact ⟨a + 1,d,by go_num,by omega,by omega,by omega,rfl,S0,rfl⟩
  case round=>
    clear S0;obtain ⟨i,dk,rfl,hai,hib,hg1,hsk,S1,HO⟩:=hrel;by_cases hlt : i < b
    · have hltz : (i : Int) < (b : Int):=by omega
      go_wp2
      go_loopg [9] i (fun g2 vj wr2=>∃ (j : Nat) (dj : Array α),vj = .int .i64 j∧a≤j∧j≤i∧j≤g2∧dj.size = d.size∧Aside (SW enc l blk off dj wr2)∧Hid (insInner (ltOf cf) a j dj = insInner (ltOf cf) a i dk))
      case atStart=>exact ⟨i,dk,rfl,by omega,aa _,aa _,hsk,S1,rfl⟩
      case round=>
        clear S1;obtain ⟨j,dj,rfl,haj,hji,hg2,hsj,SJ,HI⟩:=hrel
        have out : (j≤a∨(ltOf cf) dj[j]! dj[j - 1]! = false)→Hid (insOuter (ltOf cf) a b (i + 1) dj = insOuter (ltOf cf) a b (a + 1) d):=fun hs=>by
          show _ = _
          rw [← HO.out,insOuter_go _ _ _ _ _ hlt,← HI.out,insInner_stop _ _ _ _ hs]
        have OUT : Aside _:=out;clear out;by_cases hja : a < j
        · have hjaz : (a : Int) < (j : Int):=by omega
          obtain ⟨jp,hjp⟩ : ∃ q,q + 1 = j:=⟨j - 1,by omega⟩
          have zjp : (j : Int) = (jp : Int) + 1:=by omega
          have hjad : decide ((jp : Int) + 1 > (a : Int)) = true:=decide_eq_true (by omega);have hjaz' : (a : Int) < (jp : Int) + 1:=by omega
          cases hlv : (ltOf cf) dj[j]! dj[j - 1]! with
          | true=>
            obtain ⟨iN15,hiN15⟩ : ∃ q,q = j:=⟨_,rfl⟩
            obtain ⟨jN15,hjN15⟩ : ∃ q,q = j - 1:=⟨_,rfl⟩
            have ea15 : ((jp : Int) + 1).toNat = iN15:=by omega
            have pa15 : (0 : Int)≤(jp : Int) + 1:=by omega
            have ba15 : (jp : Int) + 1 < (d.size : Int):=by omega
            have ra15 : ad.wrap ((jp : Int) + 1) = (jp : Int) + 1:=by rw [IntKind.wrap_i64];omega
            have ec15 : ((jp : Int)).toNat = jN15:=by omega
            have pc15 : (0 : Int)≤(jp : Int):=by omega
            have bc15 : (jp : Int) < (d.size : Int):=by omega
            have rc15 : ad.wrap ((jp : Int)) = (jp : Int):=by rw [IntKind.wrap_i64];omega
            obtain ⟨x15,hx15⟩ : ∃ x,x = dj[j]!:=⟨_,rfl⟩
            obtain ⟨y15,hy15⟩ : ∃ x,x = dj[j - 1]!:=⟨_,rfl⟩
            have la15:=SJ.out.cl R (by omega) (j) (by omega);have lb15:=SJ.out.cl R (by omega) (j - 1) (by omega);rw [← hx15,← hiN15] at la15
            rw [← hy15,← hjN15] at lb15
            have hc15:=SJ.out.cmp HC.out (by omega) x15 y15;have hv15 : cf x15 y15 < 0:=by rw [hx15,hy15];exact of_decide_eq_true hlv
            have hd15 : decide (cf x15 y15 < 0) = true:=decide_eq_true hv15;clear hx15 hy15 hiN15 hjN15;go_wp2_with fail
            go_quiet_grown (first|(go_at_fn g;refine Calls.grown_of (hc15 _ _)))
            have S2 : Aside (SW enc l blk off dj (grow (wr.drewN nq) osq)):=SJ.out.grown nq osq;clear la15 lb15 hc15 SJ;generalize grow (wr.drewN nq) osq = o at S2 ⊢;clear nq osq;clear ea15 ec15;go_wp2_with fail
            obtain ⟨iN16,hiN16⟩ : ∃ q,q = j:=⟨_,rfl⟩
            obtain ⟨jN16,hjN16⟩ : ∃ q,q = j - 1:=⟨_,rfl⟩
            have ea16 : ((jp : Int) + 1).toNat = iN16:=by omega
            have pa16 : (0 : Int)≤(jp : Int) + 1:=by omega
            have ba16 : (jp : Int) + 1 < (d.size : Int):=by omega
            have ra16 : ad.wrap ((jp : Int) + 1) = (jp : Int) + 1:=by rw [IntKind.wrap_i64];omega
            have ec16 : ((jp : Int)).toNat = jN16:=by omega
            have pc16 : (0 : Int)≤(jp : Int):=by omega
            have bc16 : (jp : Int) < (d.size : Int):=by omega
            have rc16 : ad.wrap ((jp : Int)) = (jp : Int):=by rw [IntKind.wrap_i64];omega
            obtain ⟨x16,hx16⟩ : ∃ x,x = dj[j]!:=⟨_,rfl⟩
            obtain ⟨y16,hy16⟩ : ∃ x,x = dj[j - 1]!:=⟨_,rfl⟩
            have S3 : Aside (SW enc l blk off (swp dj (j) (j - 1)) ((o.setCell ⟨blk,off + iN16,none⟩ (enc y16)).setCell ⟨blk,off + jN16,none⟩ (enc x16)).drew):=by rw [hiN16,hjN16,hx16,hy16];exact S2.out.swapped R (j) (j - 1) (by omega) (by omega)
            have ca16:=S2.out.c1 R (by omega) (j) (by omega);have cb16:=S2.out.c1 R (by omega) (j - 1) (by omega);have fa16:=S2.out.f1 R (by omega) (j) (by omega);have fb16:=S2.out.f1 R (by omega) (j - 1) (by omega);obtain ⟨u16,cc16⟩:=S2.out.c2 R (by omega) (j) (j - 1) (by omega) (by omega) (enc y16);rw [← hjN16,← hiN16] at cc16
            rw [← hx16,← hiN16] at ca16
            rw [← hy16,← hjN16] at cb16
            rw [← hiN16] at fa16
            rw [← hjN16] at fb16
            clear S2 hx16 hy16 hiN16 hjN16;go_wp2_with fail
            go_big_region_o
            clear ca16 cb16 cc16 fa16 fb16;generalize ((o.setCell ⟨blk,off + iN16,none⟩ (enc y16)).setCell ⟨blk,off + jN16,none⟩ (enc x16)).drew = t at S3 ⊢;clear ea16 ec16;go_wp2
            go_roundg (j - 1)
            case measure=>omega
            case rel=>exact ⟨j - 1,swp dj j (j - 1),by first|rfl|go_num|(congr 1;omega),by omega,by omega,aa _,by rw [size_swp];exact hsj,S3,(show Hid _ from by rw [← HI.out,insInner_go (ltOf cf) a j dj hja hlv];exact rfl)⟩
          | false=>
            obtain ⟨iN17,hiN17⟩ : ∃ q,q = j:=⟨_,rfl⟩
            obtain ⟨jN17,hjN17⟩ : ∃ q,q = j - 1:=⟨_,rfl⟩
            have ea17 : ((jp : Int) + 1).toNat = iN17:=by omega
            have pa17 : (0 : Int)≤(jp : Int) + 1:=by omega
            have ba17 : (jp : Int) + 1 < (d.size : Int):=by omega
            have ra17 : ad.wrap ((jp : Int) + 1) = (jp : Int) + 1:=by rw [IntKind.wrap_i64];omega
            have ec17 : ((jp : Int)).toNat = jN17:=by omega
            have pc17 : (0 : Int)≤(jp : Int):=by omega
            have bc17 : (jp : Int) < (d.size : Int):=by omega
            have rc17 : ad.wrap ((jp : Int)) = (jp : Int):=by rw [IntKind.wrap_i64];omega
            obtain ⟨x17,hx17⟩ : ∃ x,x = dj[j]!:=⟨_,rfl⟩
            obtain ⟨y17,hy17⟩ : ∃ x,x = dj[j - 1]!:=⟨_,rfl⟩
            have la17:=SJ.out.cl R (by omega) (j) (by omega);have lb17:=SJ.out.cl R (by omega) (j - 1) (by omega);rw [← hx17,← hiN17] at la17
            rw [← hy17,← hjN17] at lb17
            have hc17:=SJ.out.cmp HC.out (by omega) x17 y17;have hv17 : ¬ cf x17 y17 < 0:=by rw [hx17,hy17];exact of_decide_eq_false hlv
            have hd17 : decide (cf x17 y17 < 0) = false:=decide_eq_false hv17;clear hx17 hy17 hiN17 hjN17;go_wp2_with fail
            go_quiet_grown (first|(go_at_fn g;refine Calls.grown_of (hc17 _ _)))
            have S2 : Aside (SW enc l blk off dj (grow (wr.drewN nq) osq)):=SJ.out.grown nq osq;clear la17 lb17 hc17 SJ;generalize grow (wr.drewN nq) osq = o at S2 ⊢;clear nq osq;clear ea17 ec17;go_wp2
            go_roundg (b - (i + 1))
            case measure=>omega
            case rel=>exact ⟨i + 1,dj,by go_num,by omega,by omega,by omega,hsj,S2,OUT.out (Or.inr hlv)⟩
        · have hjaz : decide ((j : Int) > (a : Int)) = false:=decide_eq_false (by omega);have hjaz' : ¬ (a : Int) < (j : Int):=by omega
          go_wp2_with fail
          go_big_region_o
          have S2 : Aside (SW enc l blk off dj wr.drew):=SJ.out.drew;clear SJ;generalize wr.drew = o at S2 ⊢;go_wp2
          go_roundg (b - (i + 1))
          case measure=>omega
          case rel=>exact ⟨i + 1,dj,by go_num,by omega,by omega,by omega,hsj,S2,OUT.out (Or.inl (by omega))⟩
    · have hltz : ¬ (i : Int) < (b : Int):=by omega
      go_wp2
      go_end0
      exact ⟨rfl,by unfold Sort.insertionSort;rw [← HO.out,insOuter_stop _ _ _ _ _ hlt];exact S1.out⟩
theorem stab_ins_size (lt : α→α→Bool) (a b : Nat) (d : Array α) : (Sort.insertionSort lt d a b).size = d.size:=by
  have inner : ∀ (j : Nat) (d : Array α),(insInner lt a j d).size = d.size:=by
    intro j;induction j with
    | zero=>intro d;rfl
    | succ j ih=>
      intro d;rw [insInner]
      split
      · rw [ih];exact size_swp d (j + 1) j
      · rfl
  have outer : ∀ (k i : Nat) (d : Array α),b - i≤k→(insOuter lt a b i d).size = d.size:=by
    intro k;induction k with
    | zero=>intro i d h;rw [insOuter,if_neg (by omega)]
    | succ k ih=>
      intro i d h;rw [insOuter]
      split
      · rw [ih (i + 1) _ (by omega),inner]
      · rfl
  exact outer _ _ _ (aa _)
theorem stab_firsts (lt : α→α→Bool) (n : Nat) {f a : Nat} {d : Array α} (h : ¬ a + 20≤n) : ag lt n f a d = (a,d):=by
  cases f with
  | zero=>rfl
  | succ f=>rw [ag,if_neg h]
theorem stab_pass (lt : α→α→Bool) (n z : Nat) {f a : Nat} {d : Array α} (h : ¬ a + 2 * z≤n) : am lt n z f a d = (a,d):=by
  cases f with
  | zero=>rfl
  | succ f=>rw [am,if_neg h]
theorem stab_stable (enc : α→Value) (cf : α→α→Int) (g : Nat) (cb : Array Value) (blk off cap n : Nat) (d0 d : Array α) (l w : World) (eg : ∀ args w,(callFunc g args).run Try.prog w = .ok (.enter g args) w) (hcmp : CmpLays1 Try.prog g cb enc cf blk off d0.size l) (R : Row1 enc l blk off d0) (hs : d0.size = d.size) (S : SW enc l blk off d w) (hn : n≤d.size) (hsz : d0.size < 1152921504606846976) :
    Calls Try.prog 45 #[.slice (some ⟨blk,off,none⟩) d.size cap,.int .i64 n,.func (.func g) #[] cb] w fun e w'=>e = .returned (.tuple #[])∧SW enc l blk off (an (ltOf cf) d n) w':=by
  have mixed : Try.prog.follows .mixedOrders = true:=by kernel_rfl
  have hcl0:=R.hO.cells;simp only [Value.cells] at hcl0
  have hst:=R.hO.store Try.prog;have S0 : Aside (SW enc l blk off d w):=S;clear S;have hI:=fun (a b : Nat) (dk : Array α) (W : World) (h : SW enc l blk off dk W) (hk : dk.size = d.size) (h1 : a≤b) (h2 : b≤n)=>stab_insertion enc cf g cb blk off cap a b d0 dk l W eg hcmp R (by omega) h h1 (by omega) (by omega)
  have hM:=fun (f a m b : Nat) (dk : Array α) (W : World) (h : SW enc l blk off dk W) (hk : dk.size = d.size) (h1 : a < m) (h2 : m < b) (h3 : b≤n) (h4 : b - a≤f)=>stab_symMerge enc cf g cb blk off cap d0 l eg hcmp R (by omega) f a m b dk W (by omega) h h1 h2 (by omega) h4
  have HI : Aside _:=hI;have HM : Aside _:=hM;clear hI hM hcmp;obtain ⟨d1,hd1⟩ : ∃ x,x = Sort.insertionSort (ltOf cf) (ag (ltOf cf) n n 0 d).2 (ag (ltOf cf) n n 0 d).1 n:=⟨_,rfl⟩
  have HD : Aside (d1 = _):=hd1;clear hd1;go_enter Try.func45,Try.ntmps45
  go_wp2
  go_loopg [7,8] n (fun kx va vb wr=>∃ (a : Nat) (dk : Array α),va = .int .i64 a∧vb = .int .i64 ((a : Int) + 20)∧a≤n∧n - a≤kx∧dk.size = d.size∧Aside (SW enc l blk off dk wr)∧∃ f,n≤f + a∧Hid (ag (ltOf cf) n f a dk = ag (ltOf cf) n n 0 d))
  case atStart=>exact ⟨0,d,rfl,rfl,by omega,by omega,rfl,S0,n,aa _,rfl⟩
  case round=>
    clear S0;obtain ⟨a,dk,rfl,rfl,han,hkx,hds,S1,f,hf,HF⟩:=hrel;by_cases hlt : a + 20≤n
    · have hltz : (a : Int) + 20≤(n : Int):=by omega
      obtain ⟨f,rfl⟩ : ∃ q,f = q + 1:=⟨f - 1,by omega⟩
      have hC18:=HI.out a (a + 20) dk _ S1.out hds (by omega) hlt;rw [hds,show ((a + 20 : Nat) : Int) = (a : Int) + 20 by omega] at hC18
      clear S1;go_wp2_with (go_at_call 49;with_reducible refine hC18.mono ?_;rintro e w' ⟨rfl,S2⟩)
      clear hC18;go_wp2
      go_roundg (n - (a + 20))
      case measure=>omega
      case rel=>exact ⟨a + 20,Sort.insertionSort (ltOf cf) dk a (a + 20),by first|rfl|go_num|(congr 1;omega),by first|rfl|go_num|(congr 1;omega),hlt,aa _,(stab_ins_size _ _ _ _).trans hds,S2,f,by omega,(show _ = _ from by rw [← HF.out,ag,if_pos hlt])⟩
    · have hltz : ¬ (a : Int) + 20≤(n : Int):=by omega
      have hf1:=HF.out;rw [stab_firsts _ _ hlt] at hf1
      have hd1 : d1 = Sort.insertionSort (ltOf cf) dk a n:=by rw [HD.out,← hf1]
      have HD1 : Aside _:=hd1;clear hd1 hf1 HF;have hC19:=HI.out a n dk _ S1.out hds han (aa _);rw [hds] at hC19
      clear S1;go_wp2_with (go_at_call 49;with_reducible refine hC19.mono ?_;rintro e w' ⟨rfl,S2⟩)
      clear hC19;replace S2 : SW enc l blk off d1 w':=by rw [HD1.out];exact S2
      have hds1 : d1.size = d.size:=by rw [HD1.out];exact (stab_ins_size _ _ _ _).trans hds
      have S3 : Aside _:=S2;clear S2 hds HD1;go_loopg [6] n (fun kx vz wr=>∃ (z : Nat) (dk : Array α),vz = .int .i64 z∧20≤z∧z < 4611686018427387904∧n - z≤kx∧dk.size = d.size∧Aside (SW enc l blk off dk wr)∧∃ f,n≤f + z∧Hid (aj (ltOf cf) n f z dk = aj (ltOf cf) n n 20 d1))
      case atStart=>exact ⟨20,d1,rfl,by omega,by omega,by omega,hds1,S3,n,by omega,rfl⟩
      case round=>
        clear S3;obtain ⟨z,dz,rfl,hz0,hz1,hkx2,hdz,S4,f2,hf2,HZ⟩:=hrel;by_cases hzn : z < n
        · have hznz : (z : Int) < (n : Int):=by omega
          obtain ⟨f2,rfl⟩ : ∃ q,f2 = q + 1:=⟨f2 - 1,by omega⟩
          obtain ⟨zz,hzz⟩ : ∃ q,q = 2 * z:=⟨_,rfl⟩
          have zz1 : 2 * (z : Int) = (zz : Int):=by omega
          have zz2 : zz < 2305843009213693952:=by omega
          have zz3 : z < zz:=by omega
          have HZZ : Aside (zz = 2 * z):=hzz;clear hzz;go_wp2
          go_loopg [7,8] n (fun kx va vb wr=>∃ (a : Nat) (dk : Array α),va = .int .i64 a∧vb = .int .i64 ((a : Int) + (zz : Int))∧a≤n∧n - a≤kx∧dk.size = d.size∧Aside (SW enc l blk off dk wr)∧∃ f,n≤f + a∧Hid (am (ltOf cf) n z f a dk = am (ltOf cf) n z n 0 dz))
          case atStart=>exact ⟨0,dz,rfl,by first|rfl|go_num|(congr 1;omega),by omega,by omega,hdz,S4,n,aa _,rfl⟩
          case round=>
            clear S4;obtain ⟨a,dk,rfl,rfl,han2,hkx3,hds,S5,f3,hf3,HP⟩:=hrel;by_cases hlt2 : a + zz≤n
            · have hlt2z : (a : Int) + (zz : Int)≤(n : Int):=by omega
              obtain ⟨f3,rfl⟩ : ∃ q,f3 = q + 1:=⟨f3 - 1,by omega⟩
              have hC20:=HM.out zz a (a + z) (a + zz) dk _ S5.out hds (by omega) (by omega) hlt2 (by omega);rw [hds,show ((a + z : Nat) : Int) = (a : Int) + (z : Int) by omega,show ((a + zz : Nat) : Int) = (a : Int) + (zz : Int) by omega] at hC20
              clear S5;go_wp2_with (go_at_call 50;with_reducible refine hC20.mono ?_;rintro e w' ⟨rfl,S6⟩)
              clear hC20;go_wp2
              go_roundg (n - (a + zz))
              case measure=>omega
              case rel=>exact ⟨a + zz,ab (ltOf cf) zz a (a + z) (a + zz) dk,by first|rfl|go_num|(congr 1;omega),by first|rfl|go_num|(congr 1;omega),hlt2,aa _,(stab_size _ _ _ _ _ _).trans hds,S6,f3,by omega,(show _ = _ from by rw [← HP.out,am,← HZZ.out,if_pos hlt2])⟩
            · have hlt2z : ¬ (a : Int) + (zz : Int)≤(n : Int):=by omega
              have hp1:=HP.out;rw [stab_pass _ _ _ (by rw [← HZZ.out];exact hlt2)] at hp1
              have hr : Stab.round (ltOf cf) n z dz = if a + z < n then ab (ltOf cf) zz a (a + z) n dk else dk:=by rw [Stab.round];(try simp only []);rw [← hp1,HZZ.out]
              have HR : Aside _:=hr;clear hr hp1 HP;by_cases hm : a + z < n
              · have hmz : (a : Int) + (z : Int) < (n : Int):=by omega
                have hC21:=HM.out zz a (a + z) n dk _ S5.out hds (by omega) hm (aa _) (by omega);rw [hds,show ((a + z : Nat) : Int) = (a : Int) + (z : Int) by omega] at hC21
                clear S5;go_wp2_with (go_at_call 50;with_reducible refine hC21.mono ?_;rintro e w' ⟨rfl,S6⟩)
                clear hC21;go_wp2
                go_roundg (n - zz)
                case measure=>omega
                case rel=>exact ⟨zz,ab (ltOf cf) zz a (a + z) n dk,by first|rfl|go_num|(congr 1;omega),by omega,by omega,by omega,(stab_size _ _ _ _ _ _).trans hds,S6,f2,by omega,(show _ = _ from by rw [← HZ.out,aj,if_pos hzn,HR.out,if_pos hm,← HZZ.out])⟩
              · have hmz : ¬ (a : Int) + (z : Int) < (n : Int):=by omega
                go_wp2
                go_roundg (n - zz)
                case measure=>omega
                case rel=>exact ⟨zz,dk,by first|rfl|go_num|(congr 1;omega),by omega,by omega,by omega,hds,S5,f2,by omega,(show _ = _ from by rw [← HZ.out,aj,if_pos hzn,HR.out,if_neg hm,← HZZ.out])⟩
        · have hznz : ¬ (z : Int) < (n : Int):=by omega
          go_wp2
          go_end0
          refine ⟨rfl,?_⟩
          have e : an (ltOf cf) d n = dz:=by
            rw [an];(try simp only []);rw [← HD.out,← HZ.out]
            cases f2 with
            | zero=>rfl
            | succ f2=>rw [aj,if_neg hzn]
          rw [e]
          exact S4.out
end Go.Proofs.Ytghimjkoaldafaa.P
