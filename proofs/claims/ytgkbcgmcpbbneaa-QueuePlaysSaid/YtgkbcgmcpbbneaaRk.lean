/- The walk of the document's queue: Cells. -/
import Derived.Test.YtgkbcgmcpbbneaaRj
import Derived.BigRegion
namespace Go.Proofs.Ytgkbcgmcpbbneaa.Q
open Go Go.RowKit Go.Maps Go.Proofs.YtgkbcgmcpbbneaaW.PrintWords Go.Proofs.YtgkbcgmcpbbneaaW.PrintLast Go.Proofs.YtgkbcgmcpbbneaaW.PrintMore
set_option maxRecDepth 100000
set_option linter.unusedVariables false
set_option linter.unusedSimpArgs false
attribute [local go_sem high] eqA30
attribute [local go_sem] max2_int min2_int max_two min_two max_three min_three max_four min_four
def leW (sn : List S46) (a b : Wt) : Prop := ltE (entW sn b) (entW sn a) = false
theorem leW_trans {sn : List S46} {a b c : Wt} (h : leW sn a b) (k : leW sn b c) : leW sn a c := le63_trans h k
theorem leW_of_lt {sn : List S46} {a b : Wt} (h : ltE (entW sn a) (entW sn b) = true) : leW sn a b := ltE_asymm h
def Near (sn : List S46) (ys : List Wt) (k : Nat) : Prop := (∀ a b, a < b → b < ys.length → a ≠ k → b ≠ k → leW sn (ys.getD a zWt) (ys.getD b zWt)) ∧ ∀ b, k < b → b < ys.length → leW sn (ys.getD k zWt) (ys.getD b zWt)
def swW (l : List Wt) (i j : Nat) : List Wt := (l.set i (l.getD j zWt)).set j (l.getD i zWt)
theorem swW_length (l : List Wt) (i j : Nat) : (swW l i j).length = l.length := by simp [swW]
theorem getD_swW {l : List Wt} {i j : Nat} (hi : i < l.length) (hj : j < l.length) (hne : i ≠ j) (a : Nat) : (swW l i j).getD a zWt = if a = j then l.getD i zWt else if a = i then l.getD j zWt else l.getD a zWt := by
  unfold swW
  by_cases e : a = j
  · subst e
    rw [if_pos rfl, List.getD_eq_getElem?_getD, List.getElem?_set_self (by rw [List.length_set]; exact hj)]; rfl
  · rw [if_neg e, List.getD_eq_getElem?_getD, List.getElem?_set_ne (Ne.symm e)]
    by_cases e2 : a = i
    · subst e2
      rw [if_pos rfl, List.getElem?_set_self hi]; rfl
    · rw [if_neg e2, List.getElem?_set_ne (Ne.symm e2), List.getD_eq_getElem?_getD]
theorem swW_perm {l : List Wt} {i j : Nat} (hi : i < l.length) (hj : j < l.length) : (swW l i j).Perm l := by
  unfold swW
  rw [List.getD_eq_getElem?_getD, List.getD_eq_getElem?_getD, List.getElem?_eq_getElem hi, List.getElem?_eq_getElem hj]
  exact List.set_set_perm hi hj
theorem Near.end_ {sn : List S46} {ys : List Wt} {k : Nat} (h : Near sn ys k) (h0 : k = 0 ∨ leW sn (ys.getD (k - 1) zWt) (ys.getD k zWt)) : ys.Pairwise (leW sn) := by
  rw [List.pairwise_iff_getElem]
  intro a b ha hb hab
  rw [← rdW ys a ha, ← rdW ys b hb]
  by_cases e1 : a = k
  · subst e1; exact h.2 b hab hb
  · by_cases e2 : b = k
    · subst e2
      rcases h0 with h0 | h0
      · omega
      · by_cases e3 : a = b - 1
        · subst e3; exact h0
        · exact leW_trans (h.1 a (b - 1) (by omega) (by omega) e1 (by omega)) h0
    · exact h.1 a b hab hb e1 e2
theorem Near.swap {sn : List S46} {ys : List Wt} {u k : Nat} (hk : k < ys.length) (hu : u + 1 = k) (h : Near sn ys k) (hl : ltE (entW sn (ys.getD k zWt)) (entW sn (ys.getD u zWt)) = true) : Near sn (swW ys k u) u := by
  have hg := fun a => getD_swW (l := ys) (i := k) (j := u) hk (by omega) (by omega) a
  refine ⟨fun a b hab hb ha hb2 => ?_, fun b hub hb => ?_⟩
  · rw [swW_length] at hb
    rw [hg a, hg b, if_neg ha, if_neg hb2]
    by_cases e1 : a = k
    · rw [if_pos e1, if_neg (by omega)]
      exact h.1 u b (by omega) hb (by omega) (by omega)
    · rw [if_neg e1]
      by_cases e2 : b = k
      · rw [if_pos e2]
        exact h.1 a u (by omega) (by omega) e1 (by omega)
      · rw [if_neg e2]
        exact h.1 a b hab hb e1 e2
  · rw [swW_length] at hb
    rw [hg u, hg b, if_pos rfl, if_neg (by omega)]
    by_cases e2 : b = k
    · rw [if_pos e2]; exact leW_of_lt hl
    · rw [if_neg e2]; exact h.2 b (by omega) hb
theorem Near.start {sn : List S46} {ys : List Wt} {x : Wt} (h : ys.Pairwise (leW sn)) : Near sn (ys ++ [x]) ys.length := by
  refine ⟨fun a b hab hb ha hb2 => ?_, fun b hb hb2 => ?_⟩
  · rw [List.length_append, List.length_singleton] at hb
    have := List.pairwise_iff_getElem.1 h a b (by omega) (by omega) hab
    rw [List.getD_eq_getElem?_getD, List.getD_eq_getElem?_getD, List.getElem?_append_left (by omega), List.getElem?_append_left (by omega), List.getElem?_eq_getElem (by omega), List.getElem?_eq_getElem (by omega)]
    exact this
  · rw [List.length_append, List.length_singleton] at hb2
    omega
theorem cells_done {L : List Wt} (hu : Uniq L) {sn : List S46} {ys : List Wt} (hp : ys.Perm L) (hs : ys.Pairwise (leW sn)) : ys.map (·.1) = cellsOf L sn := by
  have h : ys.map (entW sn) = sortS (entsOf L sn) := by
    refine eq_of_sorted _ _ ?_ (sorted_pw _) ?_
    · rw [List.pairwise_map]; exact hs
    · rw [ents_w hu]; exact (hp.map _).trans (by rw [← ents_w hu]; exact (sortS_perm _).symm)
  unfold cellsOf
  rw [← h, List.map_map]
  rfl
def put4 (w : World) (g o : Nat) (x : Wt) : World := (((w.setCell ⟨g, o, none⟩ (.int .i64 x.1.f0)).setCell ⟨g, o + 1, none⟩ (.int .i64 x.1.f1)).setCell ⟨g, o + 2, none⟩ (.int .i64 x.1.f2)).setCell ⟨g, o + 3, none⟩ (.int .i64 x.2)
theorem put4_R {w : World} {OK : Nat → Prop} {g n cap : Nat} {xs : List Wt} (h : Kd.R k69 69 w 0 OK (.slice (some ⟨g, 0, none⟩) n cap) xs) (i : Nat) (hi : i < n) (x : Wt) :
    Kd.R k69 69 (put4 w g (i * 4) x) 0 OK (.slice (some ⟨g, 0, none⟩) n cap) (xs.set i x) ∧ w.grownBy (put4 w g (i * 4) x) (some g) := by
  obtain ⟨c, hcl, hM, hcc, hfr⟩ := Kd.R_elem h zWt (i : Int) (by omega) (by omega)
  obtain rfl := k69_open (k69.K_of_M hM)
  exact Kd.R_seg h (i : Int) (by omega) (by omega) (seg := wc4 x) (j := 0) hcl hcc (show 0 + 4 ≤ 4 by decide) (x' := x) (k69_mkM _ _ (fun _ => False) x) (fun _ hk => hk.elim)
theorem swap_W {w : World} {OK : Nat → Prop} {g n cap : Nat} {xs : List Wt} (h : Kd.R k69 69 w 0 OK (.slice (some ⟨g, 0, none⟩) n cap) xs) (i u : Nat) (hi : i < n) (hu : u < n) {xa xb : Wt} (ha : xs.getD i zWt = xa) (hb : xs.getD u zWt = xb) :
    Kd.R k69 69 (put4 (put4 w g (i * 4) xb) g (u * 4) xa) 0 OK (.slice (some ⟨g, 0, none⟩) n cap) (swW xs i u) ∧ w.grownBy (put4 (put4 w g (i * 4) xb) g (u * 4) xa) (some g) := by
  obtain ⟨h1, g1⟩ := put4_R h i hi xb
  obtain ⟨h2, g2⟩ := put4_R h1 u hu xa
  subst ha hb
  exact ⟨h2, g1.andThen g2 (fun j hj => .inr hj)⟩
theorem elN {w : World} {ok : Nat → Prop} {g n cap : Nat} {L : List Wt} (h : Kd.R k69 69 w 0 ok (.slice (some ⟨g, 0, none⟩) n cap) L) (i : Nat) (hi : i < n) {x : Wt} (hx : L.getD i zWt = x) : (∀ j u, (wc4 x)[j]? = some u → w.cell? ⟨g, i * 4 + j, none⟩ = some u) ∧ ∀ j, w.frozen? ⟨g, i * 4 + j, none⟩ = false := by
  have := elW h (i : Int) (by omega) (by omega)
  rwa [Int.toNat_natCast, hx] at this

set_option maxHeartbeats 8000000 in
theorem dcells_calls (w : World) (F : Nat → Prop) (db : Nat) (L : List Wt) (sn : List S46) (hD : DQ w F db L sn) (hu : Uniq L) (hl : L.length ≤ 1000000) (hs : sn.length ≤ 1000000) : Calls Try.prog 35 #[.pointer (some ⟨db, 0, none⟩)] w (CellsPost w L sn) := by
  have hu30 := Try.underlying30
  have hu38 := Try.underlying38
  have hu39 := Try.underlying39
  have hu41 := Try.underlying41
  have hu69 := Try.underlying69
  have hu27 := Try.underlying27
  have HLL := Aside0.mk hl
  have HU := Aside0.mk hu
  have HSN := Aside0.mk hs
  clear hl hu hs
  obtain ⟨vl, va, hD⟩ := hD
  obtain ⟨A, cap, ev⟩ := Kd.R_slice hD.list
  subst ev
  have HD : Aside0 (DAt w (fun k => F k ∧ k < w.heap.size) db (.slice A L.length cap) va L sn) := ⟨hD.bound⟩
  have HB : Aside0 (Below w.heap.size w w) := ⟨Below.refl _ _⟩
  clear hD
  obtain ⟨N, hN⟩ : ∃ N, w.heap.size = N := ⟨_, rfl⟩
  have HN0 := Aside0.mk hN
  rw [hN] at HD
  clear hN
  go_enter Try.func35, Try.ntmps35
  go_wp2
  go_loopg [3, 4] (L.length + 1) (fun gg v3 v4 wr => ∃ (x4 : Int) (i : Nat) (ys : List Wt), v4 = .int .i64 x4 ∧ L.length - i + 1 ≤ gg ∧ Aside0 (x4 = (i : Int) ∧ i ≤ L.length ∧ ys.Perm (L.take i) ∧ ys.Pairwise (leW sn)) ∧ Aside0 (Below w.heap.size w wr) ∧ Aside0 (DAt wr (fun k => F k ∧ k < N) db (.slice A L.length cap) va L sn) ∧ Aside0 (Kd.R k69 69 wr 0 (fun k => w.heap.size ≤ k) v3 ys))
  case atStart => exact ⟨0, 0, [], rfl, by omega, ⟨rfl, Nat.zero_le _, List.Perm.nil, List.Pairwise.nil⟩, HB, HD, ⟨Kd.R_nil ..⟩⟩
  case round =>
    clear HB HD
    obtain ⟨x4, i, ys, rfl, hgg, HI, HB, HD, HR⟩ := hrel
    have HGG := Aside0.mk hgg
    clear hgg
    have HYL : Aside0 (ys.length = i) := ⟨by rw [HI.out.2.2.1.length_eq, List.length_take_of_le HI.out.2.1]⟩
    obtain ⟨B3, c3, ev⟩ := Kd.R_slice HR.out
    subst ev
    by_cases c2 : x4 < (L.length : Int)
    · have c2b : decide (x4 < (L.length : Int)) = true := decide_eq_true c2
      have c3_ : 0 ≤ x4 := by have := HI.out.1; omega
      have c3b : decide (0 ≤ x4) = true := decide_eq_true c3_
      have hil : i < L.length := by have := HI.out.1; omega
      obtain ⟨gl, cap2, hv, _, _, _⟩ := Kd.R_form HD.out.list (by omega)
      injection hv with hA _ hc2
      subst hA
      subst hc2
      obtain ⟨he, _⟩ := elW HD.out.list x4 c3_ c2
      have HIL := Aside0.mk hil
      obtain ⟨x, hx⟩ : ∃ x, L.getD x4.toNat zWt = x := ⟨_, rfl⟩
      rw [hx] at he
      have HX : Aside0 (L.getD i zWt = x) := ⟨by rw [← hx, HI.out.1, Int.toNat_natCast]⟩
      have hx0 : wr.cell? ⟨gl, x4.toNat * 4, none⟩ = some (.int .i64 x.1.f0) := he 0 _ rfl
      have hx1 : wr.cell? ⟨gl, x4.toNat * 4 + 1, none⟩ = some (.int .i64 x.1.f1) := he 1 _ rfl
      have hx2 : wr.cell? ⟨gl, x4.toNat * 4 + 2, none⟩ = some (.int .i64 x.1.f2) := he 2 _ rfl
      have hx3 : wr.cell? ⟨gl, x4.toNat * 4 + 3, none⟩ = some (.int .i64 x.2) := he 3 _ rfl
      have c2t := eq_true c2
      have c3t := eq_true c3_
      clear c3_ c2 hil hx he
      have hd0 : wr.cell? ⟨db, 0, none⟩ = some (.slice (some ⟨gl, 0, none⟩) L.length cap) := (blk_cell HD.out.blk 0).trans rfl
      go_wp2_with (at_builtin; (refine Kd.R_append k69 (w0 := wr) (W := wr) 0 rfl (.tmp 19) (.tmp 27) 38 69 (.agg #[.int .i64 0, .int .i64 0, .int .i64 0, .int .i64 0]) 32 rfl Try.underlying38 info69 rfl (by decide) (by omega) (.slice B3 ys.length c3) ys x (wc4 x) (fun k => w.heap.size ≤ k) (fun _ => False) rfl ?hx (k69_mkM _ _ _ x) (fun _ hk => hk.elim) (fun k hk => Nat.le_trans HB.out.size hk) HR.out (Below.refl 0 wr) (Nat.zero_le _) (by have := HLL.out; have := HYL.out; have := HIL.out; omega) ?_); (case hx => first | rfl | (go_simp; done) | (go_simp; rfl)); intro v1 w3 hR hb hg hat; have hown : ∀ k, (Value.slice B3 ys.length c3).ownBlock = some k → w.heap.size ≤ k := fun k e => HR.out.1 k e; have n0_ : Aside0 (Below w.heap.size w w3) := ⟨HB.out.grown hg HB.out.size hown⟩; have n1_ : Aside0 (DAt w3 (fun k => F k ∧ k < N) db (.slice (some ⟨gl, 0, none⟩) L.length cap) va L sn) := ⟨HD.out.move (fun k hk _ => hg.block k (Nat.lt_of_lt_of_le (by rw [← HN0.out] at hk; exact hk.2) HB.out.size) (fun e => by have := hown k e.symm; have := HN0.out; omega))⟩; have HR3 := Aside0.mk hR; clear hR hb hg hat hown HB HD HR hx0 hx1 hx2 hx3 hd0; have HB := n0_; have HD := n1_; clear n0_ n1_)
      obtain ⟨zs, hzs⟩ : ∃ zs, ys ++ [x] = zs := ⟨_, rfl⟩
      rw [hzs] at HR3
      obtain ⟨n, hn⟩ : ∃ n, zs.length = n := ⟨_, rfl⟩
      have HN : Aside0 (n = i + 1 ∧ zs.Perm (L.take (i + 1)) ∧ Near sn zs i) := ⟨by
          refine ⟨by rw [← hn, ← hzs, List.length_append, HYL.out]; rfl, ?_, ?_⟩
          · rw [← hzs, List.take_succ_eq_append_getElem HIL.out]
            have : L[i]'HIL.out = x := by rw [← rdW L i HIL.out, HX.out]
            rw [this]
            exact HI.out.2.2.1.append_right _
          · rw [← hzs]
            have := Near.start (x := x) HI.out.2.2.2
            rwa [HYL.out] at this⟩
      obtain ⟨g, c4, hv, _, _, _⟩ := Kd.R_form HR3.out (by rw [hn]; have := HN.out.1; omega)
      subst hv
      rw [hn] at HR3 ⊢
      have HZN := Aside0.mk hn
      clear hzs hn
      have HYI := Aside0.mk HYL.out
      rw [HYL.out]
      go_loopg [5] (i + 1) (fun gg v5 wr => ∃ (k : Nat) (zs : List Wt), v5 = .int .i64 (k : Int) ∧ k + 1 ≤ gg ∧ Aside0 (k < n ∧ zs.length = n ∧ zs.Perm (L.take (i + 1)) ∧ Near sn zs k) ∧ Aside0 (Below w.heap.size w wr) ∧ Aside0 (DAt wr (fun k => F k ∧ k < N) db (.slice (some ⟨gl, 0, none⟩) L.length cap) va L sn) ∧ Aside0 (Kd.R k69 69 wr 0 (fun k => w.heap.size ≤ k) (.slice (some ⟨g, 0, none⟩) n c4) zs))
      case atStart => exact ⟨i, zs, rfl, by omega, ⟨by have := HN.out.1; omega, HZN.out, HN.out.2.1, HN.out.2.2⟩, HB, HD, HR3⟩
      case round =>
        have HN1 := Aside0.mk HN.out.1
        have HGG0 := HGG
        clear HB HD HR3 HN HZN HGG
        obtain ⟨k, zs, rfl, hgg, HK, HB, HD, HR⟩ := hrel
        have HGG := Aside0.mk hgg
        clear hgg
        by_cases hk0 : 0 < k
        · have hk1 := HK.out.1
          have hcb : decide ((0 : Int) < (k : Int)) = true := decide_eq_true (by omega)
          have hic : ((0 : Int) < (k : Int)) = True := eq_true (by omega)
          have hicn : (0 < k) = True := eq_true hk0
          obtain ⟨u, hu⟩ : ∃ u, u + 1 = k := ⟨k - 1, by omega⟩
          have hnn : n ≤ 1000000 := by have := HN1.out; have := HIL.out; have := HLL.out; omega
          have hq1 : IntKind.i64.wrap ((k : Int) - 1) = (u : Int) := by rw [IntKind.wrap_i64]; omega
          have hq2 : wrap64 ((k : Int) - 1) = (u : Int) := by rw [w64 (by omega) (by omega)]; omega
          have HUK := Aside0.mk hu
          obtain ⟨xa, hxa⟩ : ∃ xa, zs.getD k zWt = xa := ⟨_, rfl⟩
          obtain ⟨xb, hxb⟩ : ∃ xb, zs.getD u zWt = xb := ⟨_, rfl⟩
          have hun : u < n := by omega
          have huk : u < k := by omega
          have HEA : Aside0 ((∀ j v, (wc4 xa)[j]? = some v → wr.cell? ⟨g, k * 4 + j, none⟩ = some v) ∧ ∀ j, wr.frozen? ⟨g, k * 4 + j, none⟩ = false) := ⟨elN HR.out k hk1 hxa⟩
          have HEB : Aside0 ((∀ j v, (wc4 xb)[j]? = some v → wr.cell? ⟨g, u * 4 + j, none⟩ = some v) ∧ ∀ j, wr.frozen? ⟨g, u * 4 + j, none⟩ = false) := ⟨elN HR.out u hun hxb⟩
          have HXA := Aside0.mk hxa
          have HXB := Aside0.mk hxb
          have hu0 : (0 : Int) ≤ (u : Int) := by omega
          have hunI : (u : Int) < (n : Int) := by omega
          have hk00 : (0 : Int) ≤ (k : Int) := by omega
          have hkn : (k : Int) < (n : Int) := by omega
          clear hu hxa hxb
          cases hr : ltE (entW sn xa) (entW sn xb) with
          | true =>
            have HRR := Aside0.mk hr
            clear hr
            go_wp2
            refine start_ (n := 15) (S := fun w' => w'.cell? ⟨g, k * 4, none⟩ = some (.int .i64 xa.1.f0) ∧ w'.cell? ⟨g, k * 4 + 1, none⟩ = some (.int .i64 xa.1.f1) ∧ w'.cell? ⟨g, k * 4 + 2, none⟩ = some (.int .i64 xa.1.f2) ∧ w'.cell? ⟨g, k * 4 + 3, none⟩ = some (.int .i64 xa.2) ∧ w'.cell? ⟨g, u * 4, none⟩ = some (.int .i64 xb.1.f0) ∧ w'.cell? ⟨g, u * 4 + 1, none⟩ = some (.int .i64 xb.1.f1) ∧ w'.cell? ⟨g, u * 4 + 2, none⟩ = some (.int .i64 xb.1.f2) ∧ w'.cell? ⟨g, u * 4 + 3, none⟩ = some (.int .i64 xb.2)) (ds := [13]) #[false, false, false, false, false, false, false, false, false, false, false, false, false, false, false] (by kernel_rfl) rfl rfl ⟨HEA.out.1 0 _ rfl, HEA.out.1 1 _ rfl, HEA.out.1 2 _ rfl, HEA.out.1 3 _ rfl, HEB.out.1 0 _ rfl, HEB.out.1 1 _ rfl, HEB.out.1 2 _ rfl, HEB.out.1 3 _ rfl⟩ (fun hHeld => ?_)
            refine pure_ (i := 0) (N := some 29) (v := ?_) (a' := ?_) #[true, false, false, false, false, false, false, false, false, false, false, false, false, false, false] rfl rfl (by kernel_rfl) (fun _ _ _ h => h) (Or.inl ⟨by rfl, ?_⟩) ?_ ?_
            rotate_left
            · intro w'
              go_simp
              with_reducible rfl
            rotate_left
            · simp only [Act.put, List.setIfInBounds_toArray, List.set_cons_zero, List.set_cons_succ, i64_w, i32_w]
              rfl
            refine pure_ (i := 1) (N := some 30) (v := ?_) (a' := ?_) #[true, true, false, false, false, false, false, false, false, false, false, false, false, false, false] rfl rfl (by kernel_rfl) (fun _ _ _ h => h) (Or.inl ⟨by rfl, ?_⟩) ?_ ?_
            rotate_left
            · intro w'
              go_simp
              with_reducible rfl
            rotate_left
            · simp only [Act.put, List.setIfInBounds_toArray, List.set_cons_zero, List.set_cons_succ, i64_w, i32_w]
              rfl
            refine pure_ (i := 2) (N := some 31) (v := ?_) (a' := ?_) #[true, true, true, false, false, false, false, false, false, false, false, false, false, false, false] rfl rfl (by kernel_rfl) (fun _ _ _ h => h) (Or.inl ⟨by rfl, ?_⟩) ?_ ?_
            rotate_left
            · intro w'
              go_simp
              with_reducible rfl
            rotate_left
            · simp only [Act.put, List.setIfInBounds_toArray, List.set_cons_zero, List.set_cons_succ, i64_w, i32_w]
              rfl
            refine pure_ (i := 3) (N := some 32) (v := ?_) (a' := ?_) #[true, true, true, true, false, false, false, false, false, false, false, false, false, false, false] rfl rfl (by kernel_rfl) (fun _ _ _ h => h) (Or.inl ⟨by rfl, ?_⟩) ?_ ?_
            rotate_left
            · intro w'
              go_simp
              with_reducible rfl
            rotate_left
            · simp only [Act.put, List.setIfInBounds_toArray, List.set_cons_zero, List.set_cons_succ, i64_w, i32_w]
              rfl
            refine pure_ (i := 4) (N := some 33) (v := ?_) (a' := ?_) #[true, true, true, true, true, false, false, false, false, false, false, false, false, false, false] rfl rfl (by kernel_rfl) (fun _ _ _ h => h) (Or.inl ⟨by rfl, ?_⟩) ?_ ?_
            rotate_left
            · intro w'
              go_simp
              with_reducible rfl
            rotate_left
            · simp only [Act.put, List.setIfInBounds_toArray, List.set_cons_zero, List.set_cons_succ, i64_w, i32_w]
              rfl
            refine pure_ (i := 5) (N := some 34) (v := ?_) (a' := ?_) #[true, true, true, true, true, true, false, false, false, false, false, false, false, false, false] rfl rfl (by kernel_rfl) (fun _ _ _ h => h) (Or.inl ⟨by rfl, ?_⟩) ?_ ?_
            rotate_left
            · intro w'
              go_simp
              with_reducible rfl
            rotate_left
            · simp only [Act.put, List.setIfInBounds_toArray, List.set_cons_zero, List.set_cons_succ, i64_w, i32_w]
              rfl
            refine pure_ (i := 6) (N := some 35) (v := ?_) (a' := ?_) #[true, true, true, true, true, true, true, false, false, false, false, false, false, false, false] rfl rfl (by kernel_rfl) (fun _ _ _ h => h) (Or.inl ⟨by rfl, ?_⟩) ?_ ?_
            rotate_left
            · intro w'
              go_simp
              with_reducible rfl
            rotate_left
            · simp only [Act.put, List.setIfInBounds_toArray, List.set_cons_zero, List.set_cons_succ, i64_w, i32_w]
              rfl
            refine pure_ (i := 8) (N := some 37) (v := ?_) (a' := ?_) #[true, true, true, true, true, true, true, false, true, false, false, false, false, false, false] rfl rfl (by kernel_rfl) (fun _ _ _ h => h) (Or.inl ⟨by rfl, ?_⟩) ?_ ?_
            rotate_left
            · intro w'
              go_simp
              with_reducible rfl
            rotate_left
            · simp only [Act.put, List.setIfInBounds_toArray, List.set_cons_zero, List.set_cons_succ, i64_w, i32_w]
              rfl
            refine pure_ (i := 9) (N := some 38) (v := ?_) (a' := ?_) #[true, true, true, true, true, true, true, false, true, true, false, false, false, false, false] rfl rfl (by kernel_rfl) (fun _ _ _ h => h) (Or.inl ⟨by rfl, ?_⟩) ?_ ?_
            rotate_left
            · intro w'
              go_simp
              with_reducible rfl
            rotate_left
            · simp only [Act.put, List.setIfInBounds_toArray, List.set_cons_zero, List.set_cons_succ, i64_w, i32_w]
              rfl
            refine pure_ (i := 10) (N := some 39) (v := ?_) (a' := ?_) #[true, true, true, true, true, true, true, false, true, true, true, false, false, false, false] rfl rfl (by kernel_rfl) (fun _ _ _ h => h) (Or.inl ⟨by rfl, ?_⟩) ?_ ?_
            rotate_left
            · intro w'
              go_simp
              with_reducible rfl
            rotate_left
            · simp only [Act.put, List.setIfInBounds_toArray, List.set_cons_zero, List.set_cons_succ, i64_w, i32_w]
              rfl
            refine pure_ (i := 11) (N := some 40) (v := ?_) (a' := ?_) #[true, true, true, true, true, true, true, false, true, true, true, true, false, false, false] rfl rfl (by kernel_rfl) (fun _ _ _ h => h) (Or.inl ⟨by rfl, ?_⟩) ?_ ?_
            rotate_left
            · intro w'
              go_simp
              with_reducible rfl
            rotate_left
            · simp only [Act.put, List.setIfInBounds_toArray, List.set_cons_zero, List.set_cons_succ, i64_w, i32_w]
              rfl
            refine take_ (i := 7) (N := some 36) (v := ?_) (a' := ?_) #[true, true, true, true, true, true, true, true, true, true, true, true, false, false, false] rfl rfl (by kernel_rfl) (fun _ _ _ h => h) (Or.inl ⟨by rfl, ?_⟩) hHeld ?_ ?_
            rotate_left
            · rintro w' ⟨s0, s1, s2, s3, s4, s5, s6, s7⟩
              go_simp
              with_reducible rfl
            rotate_left
            · simp only [Act.put, List.setIfInBounds_toArray, List.set_cons_zero, List.set_cons_succ, i64_w, i32_w]
              rfl
            refine take_ (i := 12) (N := some 41) (v := ?_) (a' := ?_) #[true, true, true, true, true, true, true, true, true, true, true, true, true, false, false] rfl rfl (by kernel_rfl) (fun _ _ _ h => h) (Or.inl ⟨by rfl, ?_⟩) hHeld ?_ ?_
            rotate_left
            · rintro w' ⟨s0, s1, s2, s3, s4, s5, s6, s7⟩
              go_simp
              with_reducible rfl
            rotate_left
            · simp only [Act.put, List.setIfInBounds_toArray, List.set_cons_zero, List.set_cons_succ, i64_w, i32_w]
              rfl
            refine last_ (i := 13) (N := some 42) #[true, true, true, true, true, true, true, true, true, true, true, true, true, true, false] rfl rfl (by kernel_rfl) (by decide) (fun K hK => ?_)
            have n0_ : Aside0 (Below w.heap.size w wr.drew) := ⟨(below_step HB.out (below_drew1 (Below.refl wr.heap.size wr)))⟩
            have n1_ : Aside0 (DAt wr.drew (fun k => F k ∧ k < N) db (.slice (some ⟨gl, 0, none⟩) L.length cap) va L sn) := ⟨(DAt.below HD.out (below_drew1 (Below.refl wr.heap.size wr)))⟩
            have n2_ : Aside0 (Kd.R k69 69 wr.drew 0 (fun k => w.heap.size ≤ k) (.slice (some ⟨g, 0, none⟩) n c4) zs) := ⟨(Kd.R_below HR.out (below_drew1 (Below.refl wr.heap.size wr)))⟩
            clear HB HD HR
            have HB := n0_
            have HD := n1_
            have HR := n2_
            clear n0_ n1_ n2_
            refine goes_ Try.func42 (by kernel_rfl) rfl #[.pointer (some ⟨db, 0, none⟩), .agg #[.int .i64 xa.1.f0, .int .i64 xa.1.f1, .int .i64 xa.1.f2, .int .i64 xa.2], .agg #[.int .i64 xb.1.f0, .int .i64 xb.1.f1, .int .i64 xb.1.f2, .int .i64 xb.2]] (by rfl) rfl rfl (by simp only [List.map_toArray, List.map_cons, List.map_nil]; rfl) ?_
            with_reducible refine (ahead_calls wr.drew (fun k => F k ∧ k < N) db _ va L sn HD.out xa xb HSN.out).mono ?_
            rintro e w6 ⟨rfl, hb⟩
            refine ⟨_, rfl, ?_⟩
            rw [HRR.out]
            have n0_ : Aside0 (Below w.heap.size w w6) := ⟨(below_step HB.out hb)⟩
            have n1_ : Aside0 (DAt w6 (fun k => F k ∧ k < N) db (.slice (some ⟨gl, 0, none⟩) L.length cap) va L sn) := ⟨(DAt.below HD.out hb)⟩
            have n2_ : Aside0 (Kd.R k69 69 w6 0 (fun k => w.heap.size ≤ k) (.slice (some ⟨g, 0, none⟩) n c4) zs) := ⟨(Kd.R_below HR.out hb)⟩
            clear HB HD HR
            have HB := n0_
            have HD := n1_
            have HR := n2_
            clear n0_ n1_ n2_
            clear hb
            refine hK.out _ _ ?_
            clear hK K
            refine norm_ (a' := ?_) ?_ ?_
            rotate_left
            · show Act.put _ (some 42) _ = _
              simp only [Act.put, List.setIfInBounds_toArray, List.set_cons_zero, List.set_cons_succ, i64_w, i32_w]
              rfl
            refine pure_ (i := 14) (N := some 43) (v := ?_) (a' := ?_) #[true, true, true, true, true, true, true, true, true, true, true, true, true, true, true] rfl rfl (by kernel_rfl) (fun _ _ _ h => h) (Or.inl ⟨by rfl, ?_⟩) ?_ ?_
            rotate_left
            · intro w'
              go_simp
              with_reducible rfl
            rotate_left
            · simp only [Act.put, List.setIfInBounds_toArray, List.set_cons_zero, List.set_cons_succ, i64_w, i32_w]
              rfl
            refine done_ (by kernel_rfl) ?_
            clear HEA HEB
            have HEA : Aside0 ((∀ j v, (wc4 xa)[j]? = some v → w6.cell? ⟨g, k * 4 + j, none⟩ = some v) ∧ ∀ j, w6.frozen? ⟨g, k * 4 + j, none⟩ = false) := ⟨elN HR.out k hk1 HXA.out⟩
            have HEB : Aside0 ((∀ j v, (wc4 xb)[j]? = some v → w6.cell? ⟨g, u * 4 + j, none⟩ = some v) ∧ ∀ j, w6.frozen? ⟨g, u * 4 + j, none⟩ = false) := ⟨elN HR.out u hun HXB.out⟩
            go_wp2
            have hHEA0 : w6.cell? ⟨g, k * 4, none⟩ = some (.int .i64 xa.1.f0) := HEA.out.1 0 _ rfl
            have hfHEA0 : w6.frozen? ⟨g, k * 4, none⟩ = false := HEA.out.2 0
            have hHEA1 : w6.cell? ⟨g, k * 4 + 1, none⟩ = some (.int .i64 xa.1.f1) := HEA.out.1 1 _ rfl
            have hfHEA1 : w6.frozen? ⟨g, k * 4 + 1, none⟩ = false := HEA.out.2 1
            have hHEA2 : w6.cell? ⟨g, k * 4 + 2, none⟩ = some (.int .i64 xa.1.f2) := HEA.out.1 2 _ rfl
            have hfHEA2 : w6.frozen? ⟨g, k * 4 + 2, none⟩ = false := HEA.out.2 2
            have hHEA3 : w6.cell? ⟨g, k * 4 + 3, none⟩ = some (.int .i64 xa.2) := HEA.out.1 3 _ rfl
            have hfHEA3 : w6.frozen? ⟨g, k * 4 + 3, none⟩ = false := HEA.out.2 3
            have hHEB0 : w6.cell? ⟨g, u * 4, none⟩ = some (.int .i64 xb.1.f0) := HEB.out.1 0 _ rfl
            have hfHEB0 : w6.frozen? ⟨g, u * 4, none⟩ = false := HEB.out.2 0
            have hHEB1 : w6.cell? ⟨g, u * 4 + 1, none⟩ = some (.int .i64 xb.1.f1) := HEB.out.1 1 _ rfl
            have hfHEB1 : w6.frozen? ⟨g, u * 4 + 1, none⟩ = false := HEB.out.2 1
            have hHEB2 : w6.cell? ⟨g, u * 4 + 2, none⟩ = some (.int .i64 xb.1.f2) := HEB.out.1 2 _ rfl
            have hfHEB2 : w6.frozen? ⟨g, u * 4 + 2, none⟩ = false := HEB.out.2 2
            have hHEB3 : w6.cell? ⟨g, u * 4 + 3, none⟩ = some (.int .i64 xb.2) := HEB.out.1 3 _ rfl
            have hfHEB3 : w6.frozen? ⟨g, u * 4 + 3, none⟩ = false := HEB.out.2 3
            go_region
            clear hHEA0 hfHEA0 hHEA1 hfHEA1 hHEA2 hfHEA2 hHEA3 hfHEA3 hHEB0 hfHEB0 hHEB1 hfHEB1 hHEB2 hfHEB2 hHEB3 hfHEB3
            have HSW : Aside0 (Kd.R k69 69 ((((((((w6.setCell ⟨g, k * 4, none⟩ (.int .i64 xb.1.f0)).setCell ⟨g, k * 4 + 1, none⟩ (.int .i64 xb.1.f1)).setCell ⟨g, k * 4 + 2, none⟩ (.int .i64 xb.1.f2)).setCell ⟨g, k * 4 + 3, none⟩ (.int .i64 xb.2)).setCell ⟨g, u * 4, none⟩ (.int .i64 xa.1.f0)).setCell ⟨g, u * 4 + 1, none⟩ (.int .i64 xa.1.f1)).setCell ⟨g, u * 4 + 2, none⟩ (.int .i64 xa.1.f2)).setCell ⟨g, u * 4 + 3, none⟩ (.int .i64 xa.2)) 0 (fun k => w.heap.size ≤ k) (.slice (some ⟨g, 0, none⟩) n c4) (swW zs k u) ∧ w6.grownBy ((((((((w6.setCell ⟨g, k * 4, none⟩ (.int .i64 xb.1.f0)).setCell ⟨g, k * 4 + 1, none⟩ (.int .i64 xb.1.f1)).setCell ⟨g, k * 4 + 2, none⟩ (.int .i64 xb.1.f2)).setCell ⟨g, k * 4 + 3, none⟩ (.int .i64 xb.2)).setCell ⟨g, u * 4, none⟩ (.int .i64 xa.1.f0)).setCell ⟨g, u * 4 + 1, none⟩ (.int .i64 xa.1.f1)).setCell ⟨g, u * 4 + 2, none⟩ (.int .i64 xa.1.f2)).setCell ⟨g, u * 4 + 3, none⟩ (.int .i64 xa.2)) (some g)) := ⟨swap_W HR.out k u hk1 hun HXA.out HXB.out⟩
            generalize ((((((((w6.setCell ⟨g, k * 4, none⟩ (.int .i64 xb.1.f0)).setCell ⟨g, k * 4 + 1, none⟩ (.int .i64 xb.1.f1)).setCell ⟨g, k * 4 + 2, none⟩ (.int .i64 xb.1.f2)).setCell ⟨g, k * 4 + 3, none⟩ (.int .i64 xb.2)).setCell ⟨g, u * 4, none⟩ (.int .i64 xa.1.f0)).setCell ⟨g, u * 4 + 1, none⟩ (.int .i64 xa.1.f1)).setCell ⟨g, u * 4 + 2, none⟩ (.int .i64 xa.1.f2)).setCell ⟨g, u * 4 + 3, none⟩ (.int .i64 xa.2)) = w7 at HSW ⊢
            have hgo : w.heap.size ≤ g := HR.out.1 g rfl
            have n0_ : Aside0 (Below w.heap.size w w7.drew) := ⟨below_drew1 (HB.out.grown HSW.out.2 HB.out.size (fun k e => by cases e; exact hgo))⟩
            have n1_ : Aside0 (DAt w7.drew (fun k => F k ∧ k < N) db (.slice (some ⟨gl, 0, none⟩) L.length cap) va L sn) := ⟨HD.out.move (fun k hk hlt => HSW.out.2.block k hlt (fun e => by injection e with e; have := HN0.out; have := hk.2; omega))⟩
            have n2_ : Aside0 (Kd.R k69 69 w7.drew 0 (fun k => w.heap.size ≤ k) (.slice (some ⟨g, 0, none⟩) n c4) (swW zs k u)) := ⟨Kd.R_drew HSW.out.1⟩
            clear HB HD HR HSW HEA HEB hgo
            have HB := n0_
            have HD := n1_
            have HR := n2_
            clear n0_ n1_ n2_
            generalize w7.drew = w8 at HB HD HR ⊢
            go_wp2
            go_roundg k
            case measure => have := HGG.out; have := HUK.out; omega
            case rel => exact ⟨u, swW zs k u, rfl, by omega, ⟨hun, by rw [swW_length]; exact HK.out.2.1, (swW_perm (by rw [HK.out.2.1]; exact hk1) (by rw [HK.out.2.1]; exact hun)).trans HK.out.2.2.1, Near.swap (by rw [HK.out.2.1]; exact hk1) HUK.out HK.out.2.2.2 (by rw [HXA.out, HXB.out]; exact HRR.out)⟩, HB, HD, HR⟩
          | false =>
            have HRR := Aside0.mk hr
            clear hr
            go_wp2
            refine start_ (n := 15) (S := fun w' => w'.cell? ⟨g, k * 4, none⟩ = some (.int .i64 xa.1.f0) ∧ w'.cell? ⟨g, k * 4 + 1, none⟩ = some (.int .i64 xa.1.f1) ∧ w'.cell? ⟨g, k * 4 + 2, none⟩ = some (.int .i64 xa.1.f2) ∧ w'.cell? ⟨g, k * 4 + 3, none⟩ = some (.int .i64 xa.2) ∧ w'.cell? ⟨g, u * 4, none⟩ = some (.int .i64 xb.1.f0) ∧ w'.cell? ⟨g, u * 4 + 1, none⟩ = some (.int .i64 xb.1.f1) ∧ w'.cell? ⟨g, u * 4 + 2, none⟩ = some (.int .i64 xb.1.f2) ∧ w'.cell? ⟨g, u * 4 + 3, none⟩ = some (.int .i64 xb.2)) (ds := [13]) #[false, false, false, false, false, false, false, false, false, false, false, false, false, false, false] (by kernel_rfl) rfl rfl ⟨HEA.out.1 0 _ rfl, HEA.out.1 1 _ rfl, HEA.out.1 2 _ rfl, HEA.out.1 3 _ rfl, HEB.out.1 0 _ rfl, HEB.out.1 1 _ rfl, HEB.out.1 2 _ rfl, HEB.out.1 3 _ rfl⟩ (fun hHeld => ?_)
            refine pure_ (i := 0) (N := some 29) (v := ?_) (a' := ?_) #[true, false, false, false, false, false, false, false, false, false, false, false, false, false, false] rfl rfl (by kernel_rfl) (fun _ _ _ h => h) (Or.inl ⟨by rfl, ?_⟩) ?_ ?_
            rotate_left
            · intro w'
              go_simp
              with_reducible rfl
            rotate_left
            · simp only [Act.put, List.setIfInBounds_toArray, List.set_cons_zero, List.set_cons_succ, i64_w, i32_w]
              rfl
            refine pure_ (i := 1) (N := some 30) (v := ?_) (a' := ?_) #[true, true, false, false, false, false, false, false, false, false, false, false, false, false, false] rfl rfl (by kernel_rfl) (fun _ _ _ h => h) (Or.inl ⟨by rfl, ?_⟩) ?_ ?_
            rotate_left
            · intro w'
              go_simp
              with_reducible rfl
            rotate_left
            · simp only [Act.put, List.setIfInBounds_toArray, List.set_cons_zero, List.set_cons_succ, i64_w, i32_w]
              rfl
            refine pure_ (i := 2) (N := some 31) (v := ?_) (a' := ?_) #[true, true, true, false, false, false, false, false, false, false, false, false, false, false, false] rfl rfl (by kernel_rfl) (fun _ _ _ h => h) (Or.inl ⟨by rfl, ?_⟩) ?_ ?_
            rotate_left
            · intro w'
              go_simp
              with_reducible rfl
            rotate_left
            · simp only [Act.put, List.setIfInBounds_toArray, List.set_cons_zero, List.set_cons_succ, i64_w, i32_w]
              rfl
            refine pure_ (i := 3) (N := some 32) (v := ?_) (a' := ?_) #[true, true, true, true, false, false, false, false, false, false, false, false, false, false, false] rfl rfl (by kernel_rfl) (fun _ _ _ h => h) (Or.inl ⟨by rfl, ?_⟩) ?_ ?_
            rotate_left
            · intro w'
              go_simp
              with_reducible rfl
            rotate_left
            · simp only [Act.put, List.setIfInBounds_toArray, List.set_cons_zero, List.set_cons_succ, i64_w, i32_w]
              rfl
            refine pure_ (i := 4) (N := some 33) (v := ?_) (a' := ?_) #[true, true, true, true, true, false, false, false, false, false, false, false, false, false, false] rfl rfl (by kernel_rfl) (fun _ _ _ h => h) (Or.inl ⟨by rfl, ?_⟩) ?_ ?_
            rotate_left
            · intro w'
              go_simp
              with_reducible rfl
            rotate_left
            · simp only [Act.put, List.setIfInBounds_toArray, List.set_cons_zero, List.set_cons_succ, i64_w, i32_w]
              rfl
            refine pure_ (i := 5) (N := some 34) (v := ?_) (a' := ?_) #[true, true, true, true, true, true, false, false, false, false, false, false, false, false, false] rfl rfl (by kernel_rfl) (fun _ _ _ h => h) (Or.inl ⟨by rfl, ?_⟩) ?_ ?_
            rotate_left
            · intro w'
              go_simp
              with_reducible rfl
            rotate_left
            · simp only [Act.put, List.setIfInBounds_toArray, List.set_cons_zero, List.set_cons_succ, i64_w, i32_w]
              rfl
            refine pure_ (i := 6) (N := some 35) (v := ?_) (a' := ?_) #[true, true, true, true, true, true, true, false, false, false, false, false, false, false, false] rfl rfl (by kernel_rfl) (fun _ _ _ h => h) (Or.inl ⟨by rfl, ?_⟩) ?_ ?_
            rotate_left
            · intro w'
              go_simp
              with_reducible rfl
            rotate_left
            · simp only [Act.put, List.setIfInBounds_toArray, List.set_cons_zero, List.set_cons_succ, i64_w, i32_w]
              rfl
            refine pure_ (i := 8) (N := some 37) (v := ?_) (a' := ?_) #[true, true, true, true, true, true, true, false, true, false, false, false, false, false, false] rfl rfl (by kernel_rfl) (fun _ _ _ h => h) (Or.inl ⟨by rfl, ?_⟩) ?_ ?_
            rotate_left
            · intro w'
              go_simp
              with_reducible rfl
            rotate_left
            · simp only [Act.put, List.setIfInBounds_toArray, List.set_cons_zero, List.set_cons_succ, i64_w, i32_w]
              rfl
            refine pure_ (i := 9) (N := some 38) (v := ?_) (a' := ?_) #[true, true, true, true, true, true, true, false, true, true, false, false, false, false, false] rfl rfl (by kernel_rfl) (fun _ _ _ h => h) (Or.inl ⟨by rfl, ?_⟩) ?_ ?_
            rotate_left
            · intro w'
              go_simp
              with_reducible rfl
            rotate_left
            · simp only [Act.put, List.setIfInBounds_toArray, List.set_cons_zero, List.set_cons_succ, i64_w, i32_w]
              rfl
            refine pure_ (i := 10) (N := some 39) (v := ?_) (a' := ?_) #[true, true, true, true, true, true, true, false, true, true, true, false, false, false, false] rfl rfl (by kernel_rfl) (fun _ _ _ h => h) (Or.inl ⟨by rfl, ?_⟩) ?_ ?_
            rotate_left
            · intro w'
              go_simp
              with_reducible rfl
            rotate_left
            · simp only [Act.put, List.setIfInBounds_toArray, List.set_cons_zero, List.set_cons_succ, i64_w, i32_w]
              rfl
            refine pure_ (i := 11) (N := some 40) (v := ?_) (a' := ?_) #[true, true, true, true, true, true, true, false, true, true, true, true, false, false, false] rfl rfl (by kernel_rfl) (fun _ _ _ h => h) (Or.inl ⟨by rfl, ?_⟩) ?_ ?_
            rotate_left
            · intro w'
              go_simp
              with_reducible rfl
            rotate_left
            · simp only [Act.put, List.setIfInBounds_toArray, List.set_cons_zero, List.set_cons_succ, i64_w, i32_w]
              rfl
            refine take_ (i := 7) (N := some 36) (v := ?_) (a' := ?_) #[true, true, true, true, true, true, true, true, true, true, true, true, false, false, false] rfl rfl (by kernel_rfl) (fun _ _ _ h => h) (Or.inl ⟨by rfl, ?_⟩) hHeld ?_ ?_
            rotate_left
            · rintro w' ⟨s0, s1, s2, s3, s4, s5, s6, s7⟩
              go_simp
              with_reducible rfl
            rotate_left
            · simp only [Act.put, List.setIfInBounds_toArray, List.set_cons_zero, List.set_cons_succ, i64_w, i32_w]
              rfl
            refine take_ (i := 12) (N := some 41) (v := ?_) (a' := ?_) #[true, true, true, true, true, true, true, true, true, true, true, true, true, false, false] rfl rfl (by kernel_rfl) (fun _ _ _ h => h) (Or.inl ⟨by rfl, ?_⟩) hHeld ?_ ?_
            rotate_left
            · rintro w' ⟨s0, s1, s2, s3, s4, s5, s6, s7⟩
              go_simp
              with_reducible rfl
            rotate_left
            · simp only [Act.put, List.setIfInBounds_toArray, List.set_cons_zero, List.set_cons_succ, i64_w, i32_w]
              rfl
            refine last_ (i := 13) (N := some 42) #[true, true, true, true, true, true, true, true, true, true, true, true, true, true, false] rfl rfl (by kernel_rfl) (by decide) (fun K hK => ?_)
            have n0_ : Aside0 (Below w.heap.size w wr.drew) := ⟨(below_step HB.out (below_drew1 (Below.refl wr.heap.size wr)))⟩
            have n1_ : Aside0 (DAt wr.drew (fun k => F k ∧ k < N) db (.slice (some ⟨gl, 0, none⟩) L.length cap) va L sn) := ⟨(DAt.below HD.out (below_drew1 (Below.refl wr.heap.size wr)))⟩
            have n2_ : Aside0 (Kd.R k69 69 wr.drew 0 (fun k => w.heap.size ≤ k) (.slice (some ⟨g, 0, none⟩) n c4) zs) := ⟨(Kd.R_below HR.out (below_drew1 (Below.refl wr.heap.size wr)))⟩
            clear HB HD HR
            have HB := n0_
            have HD := n1_
            have HR := n2_
            clear n0_ n1_ n2_
            refine goes_ Try.func42 (by kernel_rfl) rfl #[.pointer (some ⟨db, 0, none⟩), .agg #[.int .i64 xa.1.f0, .int .i64 xa.1.f1, .int .i64 xa.1.f2, .int .i64 xa.2], .agg #[.int .i64 xb.1.f0, .int .i64 xb.1.f1, .int .i64 xb.1.f2, .int .i64 xb.2]] (by rfl) rfl rfl (by simp only [List.map_toArray, List.map_cons, List.map_nil]; rfl) ?_
            with_reducible refine (ahead_calls wr.drew (fun k => F k ∧ k < N) db _ va L sn HD.out xa xb HSN.out).mono ?_
            rintro e w6 ⟨rfl, hb⟩
            refine ⟨_, rfl, ?_⟩
            rw [HRR.out]
            have n0_ : Aside0 (Below w.heap.size w w6) := ⟨(below_step HB.out hb)⟩
            have n1_ : Aside0 (DAt w6 (fun k => F k ∧ k < N) db (.slice (some ⟨gl, 0, none⟩) L.length cap) va L sn) := ⟨(DAt.below HD.out hb)⟩
            have n2_ : Aside0 (Kd.R k69 69 w6 0 (fun k => w.heap.size ≤ k) (.slice (some ⟨g, 0, none⟩) n c4) zs) := ⟨(Kd.R_below HR.out hb)⟩
            clear HB HD HR
            have HB := n0_
            have HD := n1_
            have HR := n2_
            clear n0_ n1_ n2_
            clear hb
            refine hK.out _ _ ?_
            clear hK K
            refine norm_ (a' := ?_) ?_ ?_
            rotate_left
            · show Act.put _ (some 42) _ = _
              simp only [Act.put, List.setIfInBounds_toArray, List.set_cons_zero, List.set_cons_succ, i64_w, i32_w]
              rfl
            refine pure_ (i := 14) (N := some 43) (v := ?_) (a' := ?_) #[true, true, true, true, true, true, true, true, true, true, true, true, true, true, true] rfl rfl (by kernel_rfl) (fun _ _ _ h => h) (Or.inl ⟨by rfl, ?_⟩) ?_ ?_
            rotate_left
            · intro w'
              go_simp
              with_reducible rfl
            rotate_left
            · simp only [Act.put, List.setIfInBounds_toArray, List.set_cons_zero, List.set_cons_succ, i64_w, i32_w]
              rfl
            refine done_ (by kernel_rfl) ?_
            clear HEA HEB
            go_wp2
            go_roundg (L.length - i)
            case measure => have := HGG0.out; have := HIL.out; omega
            case rel =>
              have he : wrap64 (x4 + 1) = ((i + 1 : Nat) : Int) := by have := HI.out.1; have := HLL.out; have := HIL.out; rw [w64 (by omega) (by omega)]; omega
              exact ⟨wrap64 (x4 + 1), i + 1, zs, rfl, by have := HIL.out; omega, ⟨he, HIL.out, HK.out.2.2.1, HK.out.2.2.2.end_ (.inr (by rw [show k - 1 = u by have := HUK.out; omega, HXA.out, HXB.out]; exact HRR.out))⟩, HB, HD, HR⟩
        · obtain rfl : k = 0 := by omega
          have hcb : decide ((0 : Int) < ((0 : Nat) : Int)) = false := by decide
          go_wp2
          refine start_ (n := 15) (S := fun w' => True) (ds := []) #[false, false, false, false, false, false, false, false, false, false, false, false, false, false, false] (by kernel_rfl) rfl rfl (trivial) (fun hHeld => ?_)
          refine pure_ (i := 0) (N := some 29) (v := ?_) (a' := ?_) #[true, false, false, false, false, false, false, false, false, false, false, false, false, false, false] rfl rfl (by kernel_rfl) (fun _ _ _ h => h) (Or.inl ⟨by rfl, ?_⟩) ?_ ?_
          rotate_left
          · intro w'
            go_simp
            with_reducible rfl
          rotate_left
          · simp only [Act.put, List.setIfInBounds_toArray, List.set_cons_zero, List.set_cons_succ, i64_w, i32_w]
            rfl
          refine pure_ (i := 1) (N := some 30) (v := ?_) (a' := ?_) #[true, true, false, false, false, false, false, false, false, false, false, false, false, false, false] rfl rfl (by kernel_rfl) (fun _ _ _ h => h) (Or.inl ⟨by rfl, ?_⟩) ?_ ?_
          rotate_left
          · intro w'
            go_simp
            with_reducible rfl
          rotate_left
          · simp only [Act.put, List.setIfInBounds_toArray, List.set_cons_zero, List.set_cons_succ, i64_w, i32_w]
            rfl
          refine pure_ (i := 2) (N := some 31) (v := ?_) (a' := ?_) #[true, true, true, false, false, false, false, false, false, false, false, false, false, false, false] rfl rfl (by kernel_rfl) (fun _ _ _ h => h) (Or.inl ⟨by rfl, ?_⟩) ?_ ?_
          rotate_left
          · intro w'
            go_simp
            with_reducible rfl
          rotate_left
          · simp only [Act.put, List.setIfInBounds_toArray, List.set_cons_zero, List.set_cons_succ, i64_w, i32_w]
            rfl
          refine pure_ (i := 3) (N := some 32) (v := undef) (a' := ?_) #[true, true, true, true, false, false, false, false, false, false, false, false, false, false, false] rfl rfl (by kernel_rfl) (fun _ _ _ h => h) (Or.inr ⟨by rfl, rfl⟩) ?_ ?_
          rotate_left
          · simp only [Act.put, List.setIfInBounds_toArray, List.set_cons_zero, List.set_cons_succ, i64_w, i32_w]
            rfl
          refine pure_ (i := 4) (N := some 33) (v := undef) (a' := ?_) #[true, true, true, true, true, false, false, false, false, false, false, false, false, false, false] rfl rfl (by kernel_rfl) (fun _ _ _ h => h) (Or.inr ⟨by rfl, rfl⟩) ?_ ?_
          rotate_left
          · simp only [Act.put, List.setIfInBounds_toArray, List.set_cons_zero, List.set_cons_succ, i64_w, i32_w]
            rfl
          refine pure_ (i := 5) (N := some 34) (v := undef) (a' := ?_) #[true, true, true, true, true, true, false, false, false, false, false, false, false, false, false] rfl rfl (by kernel_rfl) (fun _ _ _ h => h) (Or.inr ⟨by rfl, rfl⟩) ?_ ?_
          rotate_left
          · simp only [Act.put, List.setIfInBounds_toArray, List.set_cons_zero, List.set_cons_succ, i64_w, i32_w]
            rfl
          refine pure_ (i := 6) (N := some 35) (v := undef) (a' := ?_) #[true, true, true, true, true, true, true, false, false, false, false, false, false, false, false] rfl rfl (by kernel_rfl) (fun _ _ _ h => h) (Or.inr ⟨by rfl, rfl⟩) ?_ ?_
          rotate_left
          · simp only [Act.put, List.setIfInBounds_toArray, List.set_cons_zero, List.set_cons_succ, i64_w, i32_w]
            rfl
          refine pure_ (i := 7) (N := some 36) (v := undef) (a' := ?_) #[true, true, true, true, true, true, true, true, false, false, false, false, false, false, false] rfl rfl (by kernel_rfl) (fun _ _ _ h => h) (Or.inr ⟨by rfl, rfl⟩) ?_ ?_
          rotate_left
          · simp only [Act.put, List.setIfInBounds_toArray, List.set_cons_zero, List.set_cons_succ, i64_w, i32_w]
            rfl
          refine pure_ (i := 8) (N := some 37) (v := undef) (a' := ?_) #[true, true, true, true, true, true, true, true, true, false, false, false, false, false, false] rfl rfl (by kernel_rfl) (fun _ _ _ h => h) (Or.inr ⟨by rfl, rfl⟩) ?_ ?_
          rotate_left
          · simp only [Act.put, List.setIfInBounds_toArray, List.set_cons_zero, List.set_cons_succ, i64_w, i32_w]
            rfl
          refine pure_ (i := 9) (N := some 38) (v := undef) (a' := ?_) #[true, true, true, true, true, true, true, true, true, true, false, false, false, false, false] rfl rfl (by kernel_rfl) (fun _ _ _ h => h) (Or.inr ⟨by rfl, rfl⟩) ?_ ?_
          rotate_left
          · simp only [Act.put, List.setIfInBounds_toArray, List.set_cons_zero, List.set_cons_succ, i64_w, i32_w]
            rfl
          refine pure_ (i := 10) (N := some 39) (v := undef) (a' := ?_) #[true, true, true, true, true, true, true, true, true, true, true, false, false, false, false] rfl rfl (by kernel_rfl) (fun _ _ _ h => h) (Or.inr ⟨by rfl, rfl⟩) ?_ ?_
          rotate_left
          · simp only [Act.put, List.setIfInBounds_toArray, List.set_cons_zero, List.set_cons_succ, i64_w, i32_w]
            rfl
          refine pure_ (i := 11) (N := some 40) (v := undef) (a' := ?_) #[true, true, true, true, true, true, true, true, true, true, true, true, false, false, false] rfl rfl (by kernel_rfl) (fun _ _ _ h => h) (Or.inr ⟨by rfl, rfl⟩) ?_ ?_
          rotate_left
          · simp only [Act.put, List.setIfInBounds_toArray, List.set_cons_zero, List.set_cons_succ, i64_w, i32_w]
            rfl
          refine pure_ (i := 12) (N := some 41) (v := undef) (a' := ?_) #[true, true, true, true, true, true, true, true, true, true, true, true, true, false, false] rfl rfl (by kernel_rfl) (fun _ _ _ h => h) (Or.inr ⟨by rfl, rfl⟩) ?_ ?_
          rotate_left
          · simp only [Act.put, List.setIfInBounds_toArray, List.set_cons_zero, List.set_cons_succ, i64_w, i32_w]
            rfl
          refine pure_ (i := 13) (N := some 42) (v := undef) (a' := ?_) #[true, true, true, true, true, true, true, true, true, true, true, true, true, true, false] rfl rfl (by kernel_rfl) (fun _ _ _ h => h) (Or.inr ⟨by rfl, rfl⟩) ?_ ?_
          rotate_left
          · simp only [Act.put, List.setIfInBounds_toArray, List.set_cons_zero, List.set_cons_succ, i64_w, i32_w]
            rfl
          refine pure_ (i := 14) (N := some 43) (v := ?_) (a' := ?_) #[true, true, true, true, true, true, true, true, true, true, true, true, true, true, true] rfl rfl (by kernel_rfl) (fun _ _ _ h => h) (Or.inl ⟨by rfl, ?_⟩) ?_ ?_
          rotate_left
          · intro w'
            go_simp
            with_reducible rfl
          rotate_left
          · simp only [Act.put, List.setIfInBounds_toArray, List.set_cons_zero, List.set_cons_succ, i64_w, i32_w]
            rfl
          refine done_ (by kernel_rfl) ?_
          have n0_ : Aside0 (Below w.heap.size w wr.drew) := ⟨(below_step HB.out (below_drew1 (Below.refl wr.heap.size wr)))⟩
          have n1_ : Aside0 (DAt wr.drew (fun k => F k ∧ k < N) db (.slice (some ⟨gl, 0, none⟩) L.length cap) va L sn) := ⟨(DAt.below HD.out (below_drew1 (Below.refl wr.heap.size wr)))⟩
          have n2_ : Aside0 (Kd.R k69 69 wr.drew 0 (fun k => w.heap.size ≤ k) (.slice (some ⟨g, 0, none⟩) n c4) zs) := ⟨(Kd.R_below HR.out (below_drew1 (Below.refl wr.heap.size wr)))⟩
          clear HB HD HR
          have HB := n0_
          have HD := n1_
          have HR := n2_
          clear n0_ n1_ n2_
          go_wp2
          go_roundg (L.length - i)
          case measure => have := HGG0.out; have := HIL.out; omega
          case rel =>
            have he : wrap64 (x4 + 1) = ((i + 1 : Nat) : Int) := by have := HI.out.1; have := HLL.out; have := HIL.out; rw [w64 (by omega) (by omega)]; omega
            exact ⟨wrap64 (x4 + 1), i + 1, zs, rfl, by have := HIL.out; omega, ⟨he, HIL.out, HK.out.2.2.1, HK.out.2.2.2.end_ (.inl rfl)⟩, HB, HD, HR⟩
    · have c2b : decide (x4 < (L.length : Int)) = false := decide_eq_false c2
      have c2f := eq_false c2
      obtain rfl : i = L.length := by have := HI.out; omega
      have hd0 : wr.cell? ⟨db, 0, none⟩ = some (.slice A L.length cap) := (blk_cell HD.out.blk 0).trans rfl
      clear c2
      have HPM : Aside0 (ys.map (·.1) = cellsOf L sn) := ⟨cells_done HU.out (by have := HI.out.2.2.1; rwa [List.take_length] at this) HI.out.2.2.2⟩
      go_wp2
      clear hd0 HI HD
      obtain ⟨M, hM⟩ : ∃ M, wr.heap.size = M := ⟨_, rfl⟩
      have HY : Aside0 (Kd.R k69 69 wr 0 (fun k => w.heap.size ≤ k ∧ k < M) (.slice B3 ys.length c3) ys) := ⟨by rw [← hM]; exact Kd.R_mono (Kd.R_bound HR.out) (fun k hk => ⟨hk.1, hk.2.2.1⟩)⟩
      have HM : Aside0 (w.heap.size ≤ M ∧ M ≤ wr.heap.size) := ⟨by rw [← hM]; exact ⟨HB.out.size, Nat.le_refl _⟩⟩
      clear HR hM
      have HYB : Aside0 (ys.length ≤ 1000000) := ⟨by rw [HYL.out]; exact HLL.out⟩
      clear HYL
      go_loopg [6, 7] (ys.length + 1) (fun gg v6 v7 wr => ∃ (x7 : Int) (i : Nat), v7 = .int .i64 x7 ∧ ys.length - i + 1 ≤ gg ∧ Aside0 (x7 = (i : Int) ∧ i ≤ ys.length) ∧ Aside0 (Below w.heap.size w wr) ∧ Aside0 (Kd.R k69 69 wr 0 (fun k => w.heap.size ≤ k ∧ k < M) (.slice B3 ys.length c3) ys) ∧ Aside0 (Kd.R k30 30 wr 0 (fun k => M ≤ k) v6 ((ys.map (·.1)).take i)) ∧ Aside0 (w.heap.size ≤ M ∧ M ≤ wr.heap.size))
      case atStart => exact ⟨0, 0, rfl, by omega, ⟨rfl, Nat.zero_le _⟩, HB, HY, ⟨Kd.R_nil ..⟩, HM⟩
      case round =>
        clear HB HY HM
        obtain ⟨x7, i, rfl, hgg, HI, HB, HY, HO, HM⟩ := hrel
        have HGG := Aside0.mk hgg
        have HGG9 := Aside0.mk hgg
        clear hgg
        obtain ⟨B6, c6, ev⟩ := Kd.R_slice HO.out
        subst ev
        by_cases d2 : x7 < (ys.length : Int)
        · have d2b : decide (x7 < (ys.length : Int)) = true := decide_eq_true d2
          have d3 : 0 ≤ x7 := by have := HI.out.1; omega
          have d3b : decide (0 ≤ x7) = true := decide_eq_true d3
          have hil : i < ys.length := by have := HI.out.1; omega
          obtain ⟨g, c4, hv, _, _, _⟩ := Kd.R_form HY.out (by omega)
          injection hv with hA _ hc2
          subst hA
          subst hc2
          obtain ⟨he, _⟩ := elW HY.out x7 d3 d2
          have HIL := Aside0.mk hil
          obtain ⟨x, hx⟩ : ∃ x, ys.getD x7.toNat zWt = x := ⟨_, rfl⟩
          rw [hx] at he
          have HX : Aside0 ((ys.map (·.1)).take i ++ [x.1] = (ys.map (·.1)).take (i + 1)) := ⟨by
              rw [List.take_succ_eq_append_getElem (by rw [List.length_map]; exact hil), List.getElem_map]
              have : ys[i] = x := by rw [← rdW ys i hil, ← hx, HI.out.1, Int.toNat_natCast]
              rw [this]⟩
          have HTL : Aside0 (((ys.map (·.1)).take i).length = i) := ⟨by rw [List.length_take_of_le (by rw [List.length_map]; omega)]⟩
          have hx0 : wr.cell? ⟨g, x7.toNat * 4, none⟩ = some (.int .i64 x.1.f0) := he 0 _ rfl
          have hx1 : wr.cell? ⟨g, x7.toNat * 4 + 1, none⟩ = some (.int .i64 x.1.f1) := he 1 _ rfl
          have hx2 : wr.cell? ⟨g, x7.toNat * 4 + 2, none⟩ = some (.int .i64 x.1.f2) := he 2 _ rfl
          have d2t := eq_true d2
          have d3t := eq_true d3
          clear d3 d2 hil hx he
          go_wp2_with (at_builtin; (refine Kd.R_append k30 (w0 := wr) (W := wr) 0 rfl (.tmp 68) (.tmp 74) 27 30 (.agg #[.int .i64 0, .int .i64 0, .int .i64 0]) 24 rfl Try.underlying27 info30 rfl (by decide) (by omega) (.slice B6 ((ys.map (·.1)).take i).length c6) ((ys.map (·.1)).take i) x.1 [.int .i64 x.1.f0, .int .i64 x.1.f1, .int .i64 x.1.f2] (fun k => M ≤ k) (fun _ => False) rfl ?hx (k30_mkM _ _ _ x.1) (fun _ hk => hk.elim) (fun k hk => Nat.le_trans HM.out.2 hk) HO.out (Below.refl 0 wr) (Nat.zero_le _) (by have := HYB.out; have := HTL.out; have := HIL.out; omega) ?_); (case hx => first | rfl | (go_simp; done) | (go_simp; rfl)); intro v1 w3 hR hb hg hat; rw [HX.out] at hR; have hown : ∀ k, (Value.slice B6 ((ys.map (·.1)).take i).length c6).ownBlock = some k → M ≤ k := fun k e => HO.out.1 k e; have n0_ : Aside0 (Below w.heap.size w w3) := ⟨HB.out.grown hg HB.out.size (fun k e => Nat.le_trans HM.out.1 (hown k e))⟩; have n1_ : Aside0 (Kd.R k69 69 w3 0 (fun k => w.heap.size ≤ k ∧ k < M) (.slice (some ⟨g, 0, none⟩) ys.length c3) ys) := ⟨Kd.R_step HY.out (fun k hk hlt => hg.block k hlt (fun e => by have := hown k e.symm; have := hk.2; omega))⟩; have HR3 := Aside0.mk hR; have n2_ : Aside0 (w.heap.size ≤ M ∧ M ≤ w3.heap.size) := ⟨HM.out.1, Nat.le_trans HM.out.2 hg.size⟩; clear hR hb hg hat hown HB HY HO HM hx0 hx1 hx2; have HB := n0_; have HY := n1_; have HO := HR3; have HM := n2_; clear n0_ n1_ n2_ HR3)
          go_roundg (ys.length - i)
          case measure => have := HGG9.out; have := HIL.out; omega
          case rel =>
            have he : wrap64 (x7 + 1) = ((i + 1 : Nat) : Int) := by have := HI.out.1; have := HYB.out; have := HIL.out; rw [w64 (by omega) (by omega)]; omega
            exact ⟨wrap64 (x7 + 1), i + 1, rfl, by have := HIL.out; omega, ⟨he, HIL.out⟩, HB, HY, HO, HM⟩
        · have d2b : decide (x7 < (ys.length : Int)) = false := decide_eq_false d2
          have d2f := eq_false d2
          have hiy : i = ys.length := by have := HI.out; omega
          have HOO : Aside0 (Kd.R k30 30 wr 0 (fun k => M ≤ k) (.slice B6 ((ys.map (·.1)).take i).length c6) (cellsOf L sn)) := ⟨by have := HO.out; rw [hiy, List.take_of_length_le (by rw [List.length_map]; exact Nat.le_refl _), HPM.out] at this; rw [hiy, List.take_of_length_le (by rw [List.length_map]; exact Nat.le_refl _), HPM.out]; exact this⟩
          clear d2 hiy
          go_wp2
          go_ret
          exact ⟨_, rfl, Kd.R_mono HOO.out (fun k hk => Nat.le_trans HM.out.1 hk), HB.out⟩
end Go.Proofs.Ytgkbcgmcpbbneaa.Q
