import Derived.Test.YtkmgmjajbiddbaaZ10
set_option linter.unusedVariables false
set_option linter.unusedSimpArgs false
namespace Go.Proofs.Ytkmgmjajbiddbaa
open Nat (reduceAdd reduceSub reduceGT reduceEqDiff reduceMul)
structure ringlen (pw : List (List Int)) (br : List (List (List Int))) : Prop where
  n : pw.length ≤ 1048576
  v : ∀ i, (pw.getD i []).length ≤ 1048576
  b : br.length ≤ 1048576
  r : ∀ i, (br.getD i []).length ≤ 1048576
  e : ∀ i j, ((br.getD i []).getD j []).length ≤ 1048576
def brP (p : Int) (n : Nat) (bi : List (List Int)) (i k : Nat) : Prop := isEl p n (bi.getD k []) ∧ ∀ j, j ≤ i + 1 + k → (bi.getD k []).getD j 0 = 0
def rowP (p : Int) (pw : List (List Int)) (br : List (List (List Int))) (i : Nat) : Prop :=
  isEl p pw.length (pw.getD i []) ∧ blank (pw.getD i []) i ∧ (br.getD i []).length + 1 + i = pw.length ∧ ∀ k, k < (br.getD i []).length → brP p pw.length (br.getD i []) i k
def shapeP (p : Int) (pw : List (List Int)) (br : List (List (List Int))) : Prop :=
  pr4 p ∧ pw.length ≤ 6 ∧ br.length = pw.length ∧ p ^ pw.length ≤ 729 ∧ ∀ i, i < pw.length → rowP p pw br i
theorem Vw.q' {H : HP} {id o : Nat} {cs : List AV} (h : H id = some cs) : Vw H (.q id o) (.p o cs) :=
  .q id o cs cs h rfl (fun k x y hx hy => by rw [hx] at hy; cases hy; exact .refl _)
theorem spec_IsLieShape_ok (p : Int) (pw : List (List Int)) (br : List (List (List Int))) (hl : ringlen pw br) : ACp Try.prog 58 [ring p pw br] (.b (tf (shapeP p pw br))) := by
 have hn := hl.n
 have hb := hl.b
 refine ACp.intro' envOk Try.func58 rfl (by kernel_rfl) Try.ntmps58 Try.results58 (.b _) (fun nx => ?_)
 refine AW.sr envOk (fun N hN => ?_)
 simp -dsimp -implicitDefEqProofs (disch := omega) only [go_sem, undef, reduceAdd, reduceSub, reduceGT, reduceEqDiff, reduceMul, ring, rows, cubes, gd_i, gd_r, gd_c, w64]
 refine hN _ ?_
 try clear hN N
 refine AW.sr envOk (fun N hN => ?_)
 simp -dsimp -implicitDefEqProofs (disch := omega) only [go_sem, undef, reduceAdd, reduceSub, reduceGT, reduceEqDiff, reduceMul, ring, rows, cubes, gd_i, gd_r, gd_c, w64]
 refine hN _ ?_
 try clear hN N
 refine AW.seq (fun N1 hN1 => ?_)
 refine AW.sr envOk (fun N hN => ?_)
 simp -dsimp -implicitDefEqProofs (disch := omega) only [go_sem, undef, reduceAdd, reduceSub, reduceGT, reduceEqDiff, reduceMul, ring, rows, cubes, gd_i, gd_r, gd_c, w64]
 refine AC.pure (.of (spec_l01Prime_ok p)) ?_
 try simp -dsimp -implicitDefEqProofs (disch := omega) only [go_sem, undef, reduceAdd, reduceSub, reduceGT, reduceEqDiff, reduceMul, ring, rows, cubes, gd_i, gd_r, gd_c, w64]
 refine gopB.mk' (fun h1 => ?_) (fun h1 => ?_)
 ·try simp only [cn] at h1
  have hpb := pr4_bd h1
  try simp -dsimp -implicitDefEqProofs (disch := omega) only [go_sem, undef, reduceAdd, reduceSub, reduceGT, reduceEqDiff, reduceMul, ring, rows, cubes, gd_i, gd_r, gd_c, w64]
  refine gopB.mk' (fun h2 => ?_) (fun h2 => ?_)
  ·try simp only [cn] at h2
   try simp -dsimp -implicitDefEqProofs (disch := omega) only [go_sem, undef, reduceAdd, reduceSub, reduceGT, reduceEqDiff, reduceMul, ring, rows, cubes, gd_i, gd_r, gd_c, w64]
   refine gopB.mk' (fun h3 => ?_) (fun h3 => ?_)
   ·try simp only [cn] at h3
    try simp -dsimp -implicitDefEqProofs (disch := omega) only [go_sem, undef, reduceAdd, reduceSub, reduceGT, reduceEqDiff, reduceMul, ring, rows, cubes, gd_i, gd_r, gd_c, w64]
    refine AC.pure (.of (spec_l31Size_ok p pw.length h1 (by omega))) ?_
    try simp -dsimp -implicitDefEqProofs (disch := omega) only [go_sem, undef, reduceAdd, reduceSub, reduceGT, reduceEqDiff, reduceMul, ring, rows, cubes, gd_i, gd_r, gd_c, w64]
    refine hN _ ?_
    try clear hN N
    refine AW.cond rfl (fun h4 => ?_) (fun h4 => ?_)
    ·try simp only [cn] at h4
     refine AW.sr envOk (fun N hN => ?_)
     simp -dsimp -implicitDefEqProofs (disch := omega) only [go_sem, undef, reduceAdd, reduceSub, reduceGT, reduceEqDiff, reduceMul, ring, rows, cubes, gd_i, gd_r, gd_c, w64]
     refine hN _ ?_
     try clear hN N
     refine AW.ret ?_
     simp -dsimp -implicitDefEqProofs (disch := omega) only [go_sem, undef, reduceAdd, reduceSub, reduceGT, reduceEqDiff, reduceMul]
     exact bt (tf_f (fun h => by have := capPow_eq h1 pw.length; have := h.2.2.2.1; omega)).symm
    ·try simp only [cn] at h4
     have hcp : p ^ pw.length ≤ 729 := by have := capPow_eq h1 pw.length; omega
     refine AW.skip ?_
     simp only [thn, blk]
     refine hN1 _ ?_
     try clear hN1 N1
     refine AW.seq (fun N2 hN2 => ?_)
     refine AW.sr envOk (fun N hN => ?_)
     simp -dsimp -implicitDefEqProofs (disch := omega) only [go_sem, undef, reduceAdd, reduceSub, reduceGT, reduceEqDiff, reduceMul, ring, rows, cubes, gd_i, gd_r, gd_c, w64]
     refine hN _ ?_
     try clear hN N
     refine AW.block ?_
     refine AW.loopN (α := Nat) (fun x => sl 100 [(1, .q nx 0), (3, .i .i64 pw.length), (4, .i .i64 x)]) (fun _ => upd noH nx (some [.i .i64 p, rows pw, cubes br])) (fun x m => x ≤ pw.length ∧ ∀ j, j < x → rowP p pw br j) (fun x => pw.length - x) (0) ?_ ?_ (fun _ _ h => h) ?_
     ·exact ⟨by omega, by intro j hj; omega⟩
     ·simp (disch := omega) [wks, wkA, sl, w64, ints, rows, cubes, ring, rows, cubes, gd_i, gd_r, gd_c, w64] <;> omega
     ·skip
      rintro k m ⟨hk, hI⟩
      simp -dsimp -implicitDefEqProofs (disch := omega) only [go_sem, undef, reduceAdd, reduceSub, reduceGT, reduceEqDiff, reduceMul]
      refine AW.seq (fun N3 hN3 => ?_)
      refine AW.sr envOk (fun N hN => ?_)
      simp -dsimp -implicitDefEqProofs (disch := omega) only [go_sem, undef, reduceAdd, reduceSub, reduceGT, reduceEqDiff, reduceMul, ring, rows, cubes, gd_i, gd_r, gd_c, w64]
      refine hN _ ?_
      try clear hN N
      refine AW.cond rfl (fun h5 => ?_) (fun h5 => ?_)
      ·try simp only [cn] at h5
       have hv := hl.v k
       have hr := hl.r k
       refine AW.skip ?_
       simp only [thn, blk]
       refine hN3 _ ?_
       try clear hN3 N3
       refine AW.seq (fun N4 hN4 => ?_)
       refine AW.block ?_
       refine AW.seq (fun N5 hN5 => ?_)
       refine AW.seq (fun N hN => ?_)
       refine AW.drawL envOk (by kernel_rfl) 33 (by kernel_rfl) ?_
       simp -dsimp -implicitDefEqProofs (disch := omega) only [hr_nil, hr_one, hr_if, List.take_succ_cons, List.take_zero, List.drop_succ_cons, List.drop_zero, List.take_nil, List.drop_nil, go_sem, undef, reduceAdd, reduceSub, reduceGT, reduceEqDiff, reduceMul, ring, rows, cubes, gd_i, gd_r, gd_c, w64]
       refine ⟨_, .of (spec_l31Is_ok (pw.getD k []) p pw.length (by omega) (by omega) (by omega)), ?_⟩
       try simp -dsimp -implicitDefEqProofs (disch := omega) only [go_sem, undef, reduceAdd, reduceSub, reduceGT, reduceEqDiff, reduceMul, ring, rows, cubes, gd_i, gd_r, gd_c, w64]
       refine gopB.mk' (fun h6 => ?_) (fun h6 => ?_)
       ·try simp only [cn] at h6
        try simp -dsimp -implicitDefEqProofs (disch := omega) only [go_sem, undef, reduceAdd, reduceSub, reduceGT, reduceEqDiff, reduceMul, ring, rows, cubes, gd_i, gd_r, gd_c, w64]
        refine ⟨_, .of (spec_l31Blank_ok (pw.getD k []) k (by have := h6.1; omega) (by omega)), ?_⟩
        try simp -dsimp -implicitDefEqProofs (disch := omega) only [go_sem, undef, reduceAdd, reduceSub, reduceGT, reduceEqDiff, reduceMul, ring, rows, cubes, gd_i, gd_r, gd_c, w64]
        refine gopB.mk' (fun h7 => ?_) (fun h7 => ?_)
        ·try simp only [cn] at h7
         try simp -dsimp -implicitDefEqProofs (disch := omega) only [go_sem, undef, reduceAdd, reduceSub, reduceGT, reduceEqDiff, reduceMul, ring, rows, cubes, gd_i, gd_r, gd_c, w64]
         refine hN _ ?_
         try clear hN N
         refine AW.cond rfl (fun h8 => ?_) (fun h8 => ?_)
         ·try simp only [cn] at h8
          refine AW.sr envOk (fun N hN => ?_)
          simp -dsimp -implicitDefEqProofs (disch := omega) only [go_sem, undef, reduceAdd, reduceSub, reduceGT, reduceEqDiff, reduceMul, ring, rows, cubes, gd_i, gd_r, gd_c, w64]
          refine hN _ ?_
          try clear hN N
          refine AW.ret ?_
          simp -dsimp -implicitDefEqProofs (disch := omega) only [go_sem, undef, reduceAdd, reduceSub, reduceGT, reduceEqDiff, reduceMul]
          exact bt (tf_f (fun h => h8 (by have := (h.2.2.2.2 k (by omega)).2.2.1; omega))).symm
         ·try simp only [cn] at h8
          refine AW.skip ?_
          simp only [thn, blk]
          refine hN5 _ ?_
          try clear hN5 N5
          refine AW.sr envOk (fun N hN => ?_)
          simp -dsimp -implicitDefEqProofs (disch := omega) only [go_sem, undef, reduceAdd, reduceSub, reduceGT, reduceEqDiff, reduceMul, ring, rows, cubes, gd_i, gd_r, gd_c, w64]
          refine hN _ ?_
          try clear hN N
          refine AW.block ?_
          refine AW.loopN (α := Nat) (fun x => sl 100 [(1, .q nx 0), (3, .i .i64 pw.length), (4, .i .i64 k), (5, .i .i64 ((k + 1 + x : Nat) : Int))]) (fun _ => upd noH nx (some [.i .i64 p, rows pw, cubes br])) (fun x m => x ≤ (br.getD k []).length ∧ ∀ j, j < x → brP p pw.length (br.getD k []) k j) (fun x => (br.getD k []).length - x) (0) ?_ ?_ (fun _ _ h => h) ?_
          ·exact ⟨by omega, by intro j hj; omega⟩
          ·simp (disch := omega) [wks, wkA, sl, w64, ints, rows, cubes, ring, rows, cubes, gd_i, gd_r, gd_c, w64] <;> omega
          ·skip
           rintro q m ⟨hq, hJ⟩
           simp -dsimp -implicitDefEqProofs (disch := omega) only [go_sem, undef, reduceAdd, reduceSub, reduceGT, reduceEqDiff, reduceMul]
           have hx := hl.e k q
           refine AW.seq (fun N6 hN6 => ?_)
           refine AW.sr envOk (fun N hN => ?_)
           simp -dsimp -implicitDefEqProofs (disch := omega) only [go_sem, undef, reduceAdd, reduceSub, reduceGT, reduceEqDiff, reduceMul, ring, rows, cubes, gd_i, gd_r, gd_c, w64]
           refine hN _ ?_
           try clear hN N
           refine AW.cond rfl (fun h9 => ?_) (fun h9 => ?_)
           ·try simp only [cn] at h9
            refine AW.skip ?_
            simp only [thn, blk]
            refine hN6 _ ?_
            try clear hN6 N6
            refine AW.seq (fun N7 hN7 => ?_)
            refine AW.block ?_
            refine AW.sr envOk (fun N hN => ?_)
            simp -dsimp -implicitDefEqProofs (disch := omega) only [go_sem, undef, reduceAdd, reduceSub, reduceGT, reduceEqDiff, reduceMul, ring, rows, cubes, gd_i, gd_r, gd_c, w64]
            refine hN _ ?_
            try clear hN N
            refine AW.sr envOk (fun N hN => ?_)
            simp -dsimp -implicitDefEqProofs (disch := omega) only [go_sem, undef, reduceAdd, reduceSub, reduceGT, reduceEqDiff, reduceMul, ring, rows, cubes, gd_i, gd_r, gd_c, w64]
            rw [show (((k + 1 + q : Nat) : Int) - (k : Int) - 1).toNat = q by omega]
            refine AC.pure (.of (spec_l31Is_ok ((br.getD k []).getD q []) p pw.length (by omega) (by omega) (by omega))) ?_
            try simp -dsimp -implicitDefEqProofs (disch := omega) only [go_sem, undef, reduceAdd, reduceSub, reduceGT, reduceEqDiff, reduceMul, ring, rows, cubes, gd_i, gd_r, gd_c, w64]
            refine gopB.mk' (fun h10 => ?_) (fun h10 => ?_)
            ·try simp only [cn] at h10
             try simp -dsimp -implicitDefEqProofs (disch := omega) only [go_sem, undef, reduceAdd, reduceSub, reduceGT, reduceEqDiff, reduceMul, ring, rows, cubes, gd_i, gd_r, gd_c, w64]
             refine AC.pure (.of (spec_l31Blank_ok ((br.getD k []).getD q []) (k + 1 + q) (by have := h10.1; omega) (by omega))) ?_
             try simp -dsimp -implicitDefEqProofs (disch := omega) only [go_sem, undef, reduceAdd, reduceSub, reduceGT, reduceEqDiff, reduceMul, ring, rows, cubes, gd_i, gd_r, gd_c, w64]
             refine hN _ ?_
             try clear hN N
             refine AW.cond rfl (fun h11 => ?_) (fun h11 => ?_)
             ·try simp only [cn] at h11
              refine AW.sr envOk (fun N hN => ?_)
              simp -dsimp -implicitDefEqProofs (disch := omega) only [go_sem, undef, reduceAdd, reduceSub, reduceGT, reduceEqDiff, reduceMul, ring, rows, cubes, gd_i, gd_r, gd_c, w64]
              refine hN _ ?_
              try clear hN N
              refine AW.ret ?_
              simp -dsimp -implicitDefEqProofs (disch := omega) only [go_sem, undef, reduceAdd, reduceSub, reduceGT, reduceEqDiff, reduceMul]
              exact bt (tf_f (fun h => h11 ((h.2.2.2.2 k (by omega)).2.2.2 q (by omega)).2)).symm
             ·try simp only [cn] at h11
              refine AW.skip ?_
              simp only [thn, blk]
              refine hN7 _ ?_
              try clear hN7 N7
              refine AW.regionL envOk ?_
              simp -dsimp -implicitDefEqProofs (disch := omega) only [go_sem, undef, reduceAdd, reduceSub, reduceGT, reduceEqDiff, reduceMul, ring, rows, cubes, gd_i, gd_r, gd_c, w64]
              refine ⟨q + 1, ?_, fun _ _ h => h, ?_, ?_⟩
              ·simp (disch := omega) [wks, wkA, sl, w64, ints, rows, cubes, ring, rows, cubes, gd_i, gd_r, gd_c, w64] <;> omega
              ·refine ⟨by omega, fun j hj => ?_⟩
               by_cases e : j = q
               ·subst e; exact ⟨h10, h11⟩
               ·exact hJ j (by omega)
              ·first | omega | (simp only; omega)
            ·try simp only [cn] at h10
             try simp -dsimp -implicitDefEqProofs (disch := omega) only [go_sem, undef, reduceAdd, reduceSub, reduceGT, reduceEqDiff, reduceMul, ring, rows, cubes, gd_i, gd_r, gd_c, w64]
             refine hN _ ?_
             try clear hN N
             refine AW.condT rfl ?_
             refine AW.sr envOk (fun N hN => ?_)
             simp -dsimp -implicitDefEqProofs (disch := omega) only [go_sem, undef, reduceAdd, reduceSub, reduceGT, reduceEqDiff, reduceMul, ring, rows, cubes, gd_i, gd_r, gd_c, w64]
             refine hN _ ?_
             try clear hN N
             refine AW.ret ?_
             simp -dsimp -implicitDefEqProofs (disch := omega) only [go_sem, undef, reduceAdd, reduceSub, reduceGT, reduceEqDiff, reduceMul]
             exact bt (tf_f (fun h => h10 ((h.2.2.2.2 k (by omega)).2.2.2 q (by omega)).1)).symm
           ·try simp only [cn] at h9
            refine AW.exit ?_
            simp only [thn, blk, if_true]
            refine hN4 _ ?_
            try clear hN4 N4
            refine AW.regionL envOk ?_
            simp -dsimp -implicitDefEqProofs (disch := omega) only [go_sem, undef, reduceAdd, reduceSub, reduceGT, reduceEqDiff, reduceMul, ring, rows, cubes, gd_i, gd_r, gd_c, w64]
            refine ⟨k + 1, ?_, fun _ _ h => h, ?_, ?_⟩
            ·simp (disch := omega) [wks, wkA, sl, w64, ints, rows, cubes, ring, rows, cubes, gd_i, gd_r, gd_c, w64] <;> omega
            ·refine ⟨by omega, fun j hj => ?_⟩
             by_cases e : j = k
             ·subst e; exact ⟨h6, h7, by omega, fun i hi => hJ i (by omega)⟩
             ·exact hI j (by omega)
            ·first | omega | (simp only; omega)
        ·try simp only [cn] at h7
         try simp -dsimp -implicitDefEqProofs (disch := omega) only [go_sem, undef, reduceAdd, reduceSub, reduceGT, reduceEqDiff, reduceMul, ring, rows, cubes, gd_i, gd_r, gd_c, w64]
         refine hN _ ?_
         try clear hN N
         refine AW.condT rfl ?_
         refine AW.sr envOk (fun N hN => ?_)
         simp -dsimp -implicitDefEqProofs (disch := omega) only [go_sem, undef, reduceAdd, reduceSub, reduceGT, reduceEqDiff, reduceMul, ring, rows, cubes, gd_i, gd_r, gd_c, w64]
         refine hN _ ?_
         try clear hN N
         refine AW.ret ?_
         simp -dsimp -implicitDefEqProofs (disch := omega) only [go_sem, undef, reduceAdd, reduceSub, reduceGT, reduceEqDiff, reduceMul]
         exact bt (tf_f (fun h => h7 (h.2.2.2.2 k (by omega)).2.1)).symm
       ·try simp only [cn] at h6
        try simp -dsimp -implicitDefEqProofs (disch := omega) only [go_sem, undef, reduceAdd, reduceSub, reduceGT, reduceEqDiff, reduceMul, ring, rows, cubes, gd_i, gd_r, gd_c, w64]
        refine hN _ ?_
        try clear hN N
        refine AW.condT rfl ?_
        refine AW.sr envOk (fun N hN => ?_)
        simp -dsimp -implicitDefEqProofs (disch := omega) only [go_sem, undef, reduceAdd, reduceSub, reduceGT, reduceEqDiff, reduceMul, ring, rows, cubes, gd_i, gd_r, gd_c, w64]
        refine hN _ ?_
        try clear hN N
        refine AW.ret ?_
        simp -dsimp -implicitDefEqProofs (disch := omega) only [go_sem, undef, reduceAdd, reduceSub, reduceGT, reduceEqDiff, reduceMul]
        exact bt (tf_f (fun h => h6 (h.2.2.2.2 k (by omega)).1)).symm
      ·try simp only [cn] at h5
       refine AW.exit ?_
       simp only [thn, blk, if_true]
       refine hN2 _ ?_
       try clear hN2 N2
       refine AW.sr envOk (fun N hN => ?_)
       simp -dsimp -implicitDefEqProofs (disch := omega) only [go_sem, undef, reduceAdd, reduceSub, reduceGT, reduceEqDiff, reduceMul, ring, rows, cubes, gd_i, gd_r, gd_c, w64]
       refine hN _ ?_
       try clear hN N
       refine AW.ret ?_
       simp -dsimp -implicitDefEqProofs (disch := omega) only [go_sem, undef, reduceAdd, reduceSub, reduceGT, reduceEqDiff, reduceMul]
       exact bt (tf_t ⟨h1, by omega, by omega, hcp, fun i hi => hI i (by omega)⟩).symm
   ·try simp only [cn] at h3
    try simp -dsimp -implicitDefEqProofs (disch := omega) only [go_sem, undef, reduceAdd, reduceSub, reduceGT, reduceEqDiff, reduceMul, ring, rows, cubes, gd_i, gd_r, gd_c, w64]
    refine hN _ ?_
    try clear hN N
    refine AW.condT rfl ?_
    refine AW.sr envOk (fun N hN => ?_)
    simp -dsimp -implicitDefEqProofs (disch := omega) only [go_sem, undef, reduceAdd, reduceSub, reduceGT, reduceEqDiff, reduceMul, ring, rows, cubes, gd_i, gd_r, gd_c, w64]
    refine hN _ ?_
    try clear hN N
    refine AW.ret ?_
    simp -dsimp -implicitDefEqProofs (disch := omega) only [go_sem, undef, reduceAdd, reduceSub, reduceGT, reduceEqDiff, reduceMul]
    exact bt (tf_f (fun h => h3 (by rw [h.2.2.1]))).symm
  ·try simp only [cn] at h2
   try simp -dsimp -implicitDefEqProofs (disch := omega) only [go_sem, undef, reduceAdd, reduceSub, reduceGT, reduceEqDiff, reduceMul, ring, rows, cubes, gd_i, gd_r, gd_c, w64]
   refine hN _ ?_
   try clear hN N
   refine AW.condT rfl ?_
   refine AW.sr envOk (fun N hN => ?_)
   simp -dsimp -implicitDefEqProofs (disch := omega) only [go_sem, undef, reduceAdd, reduceSub, reduceGT, reduceEqDiff, reduceMul, ring, rows, cubes, gd_i, gd_r, gd_c, w64]
   refine hN _ ?_
   try clear hN N
   refine AW.ret ?_
   simp -dsimp -implicitDefEqProofs (disch := omega) only [go_sem, undef, reduceAdd, reduceSub, reduceGT, reduceEqDiff, reduceMul]
   exact bt (tf_f (fun h => by have := h.2.1; omega)).symm
 ·try simp only [cn] at h1
  try simp -dsimp -implicitDefEqProofs (disch := omega) only [go_sem, undef, reduceAdd, reduceSub, reduceGT, reduceEqDiff, reduceMul, ring, rows, cubes, gd_i, gd_r, gd_c, w64]
  refine hN _ ?_
  try clear hN N
  refine AW.condT rfl ?_
  refine AW.sr envOk (fun N hN => ?_)
  simp -dsimp -implicitDefEqProofs (disch := omega) only [go_sem, undef, reduceAdd, reduceSub, reduceGT, reduceEqDiff, reduceMul, ring, rows, cubes, gd_i, gd_r, gd_c, w64]
  refine hN _ ?_
  try clear hN N
  refine AW.ret ?_
  simp -dsimp -implicitDefEqProofs (disch := omega) only [go_sem, undef, reduceAdd, reduceSub, reduceGT, reduceEqDiff, reduceMul]
  exact bt (tf_f (fun h => h1 h.1)).symm
theorem zeros_take {a : List Int} {k : Nat} (h : k + 1 ≤ a.length) : zeros (a.take (k + 1)) ↔ blank a k := by
  constructor
  · intro hz j hj
    have := hz j (by simp; omega)
    rwa [getD_take _ _ (by omega)] at this
  · intro hb j hj
    simp at hj
    rw [getD_take _ _ (by omega)]
    exact hb j (by omega)
theorem impl_IsLieShape_ok (p : Int) (pw : List (List Int)) (br : List (List (List Int))) (hl : ringlen pw br) : ACp Try.prog 64 [ring p pw br] (.b (tf (shapeP p pw br))) := by
 have hn := hl.n
 have hb := hl.b
 refine ACp.intro' envOk Try.func64 rfl (by kernel_rfl) Try.ntmps64 Try.results64 (.b _) (fun nx => ?_)
 refine AW.sr envOk (fun N hN => ?_)
 simp -dsimp -implicitDefEqProofs (disch := omega) only [go_sem, undef, reduceAdd, reduceSub, reduceGT, reduceEqDiff, reduceMul, ring, ints, rows, cubes, gd_i, gd_r, gd_c, w64]
 refine hN _ ?_
 try clear hN N
 refine AW.sr envOk (fun N hN => ?_)
 simp -dsimp -implicitDefEqProofs (disch := omega) only [go_sem, undef, reduceAdd, reduceSub, reduceGT, reduceEqDiff, reduceMul, ring, ints, rows, cubes, gd_i, gd_r, gd_c, w64]
 refine hN _ ?_
 try clear hN N
 refine AW.seq (fun N1 hN1 => ?_)
 refine AW.sr envOk (fun N hN => ?_)
 simp -dsimp -implicitDefEqProofs (disch := omega) only [go_sem, undef, reduceAdd, reduceSub, reduceGT, reduceEqDiff, reduceMul, ring, ints, rows, cubes, gd_i, gd_r, gd_c, w64]
 refine gopB.mk' (fun h1 => ?_) (fun h1 => ?_)
 ·try simp only [cn] at h1
  try simp -dsimp -implicitDefEqProofs (disch := omega) only [go_sem, undef, reduceAdd, reduceSub, reduceGT, reduceEqDiff, reduceMul, ring, ints, rows, cubes, gd_i, gd_r, gd_c, w64]
  refine gopB.mk' (fun h2 => ?_) (fun h2 => ?_)
  ·try simp only [cn] at h2
   try simp -dsimp -implicitDefEqProofs (disch := omega) only [go_sem, undef, reduceAdd, reduceSub, reduceGT, reduceEqDiff, reduceMul, ring, ints, rows, cubes, gd_i, gd_r, gd_c, w64]
   refine AC.pure (.of (impl_IsGroupPrime_ok p)) ?_
   try simp -dsimp -implicitDefEqProofs (disch := omega) only [go_sem, undef, reduceAdd, reduceSub, reduceGT, reduceEqDiff, reduceMul, ring, ints, rows, cubes, gd_i, gd_r, gd_c, w64]
   refine gopB.mk' (fun h3 => ?_) (fun h3 => ?_)
   ·try simp only [cn] at h3
    have hpb := pr4_bd h3
    try simp -dsimp -implicitDefEqProofs (disch := omega) only [go_sem, undef, reduceAdd, reduceSub, reduceGT, reduceEqDiff, reduceMul, ring, ints, rows, cubes, gd_i, gd_r, gd_c, w64]
    refine AC.pure (.of (impl_integerPower_ok p pw.length h3 (by omega))) ?_
    try simp -dsimp -implicitDefEqProofs (disch := omega) only [go_sem, undef, reduceAdd, reduceSub, reduceGT, reduceEqDiff, reduceMul, ring, ints, rows, cubes, gd_i, gd_r, gd_c, w64]
    refine hN _ ?_
    try clear hN N
    refine AW.cond rfl (fun h4 => ?_) (fun h4 => ?_)
    ·try simp only [cn] at h4
     refine AW.sr envOk (fun N hN => ?_)
     simp -dsimp -implicitDefEqProofs (disch := omega) only [go_sem, undef, reduceAdd, reduceSub, reduceGT, reduceEqDiff, reduceMul, ring, ints, rows, cubes, gd_i, gd_r, gd_c, w64]
     refine hN _ ?_
     try clear hN N
     refine AW.ret ?_
     simp -dsimp -implicitDefEqProofs (disch := omega) only [go_sem, undef, reduceAdd, reduceSub, reduceGT, reduceEqDiff, reduceMul]
     exact bt (tf_f (fun h => by have := h.2.2.2.1; omega)).symm
    ·try simp only [cn] at h4
     refine AW.skip ?_
     simp only [thn, blk]
     refine hN1 _ ?_
     try clear hN1 N1
     refine AW.seq (fun N2 hN2 => ?_)
     refine AW.sr envOk (fun N hN => ?_)
     simp -dsimp -implicitDefEqProofs (disch := omega) only [go_sem, undef, reduceAdd, reduceSub, reduceGT, reduceEqDiff, reduceMul, ring, ints, rows, cubes, gd_i, gd_r, gd_c, w64]
     refine hN _ ?_
     try clear hN N
     refine AW.block ?_
     refine AW.loopN (α := Nat) (fun x => sl 91 [(1, .q nx 0), (3, .i .i64 pw.length), (34, rows pw), (35, .i .i64 pw.length), (36, .i .i64 x)]) (fun _ => upd noH nx (some [.i .i64 p, rows pw, cubes br])) (fun x m => x ≤ pw.length ∧ ∀ j, j < x → rowP p pw br j) (fun x => pw.length - x) (0) ?_ ?_ (fun _ _ h => h) ?_
     ·exact ⟨by omega, by intro j hj; omega⟩
     ·simp (disch := omega) [wks, wkA, sl, w64, ints, rows, cubes, ring, ints, rows, cubes, gd_i, gd_r, gd_c, w64] <;> omega
     ·skip
      rintro k m ⟨hk, hI⟩
      simp -dsimp -implicitDefEqProofs (disch := omega) only [go_sem, undef, reduceAdd, reduceSub, reduceGT, reduceEqDiff, reduceMul]
      refine AW.sr envOk (fun N hN => ?_)
      simp -dsimp -implicitDefEqProofs (disch := omega) only [go_sem, undef, reduceAdd, reduceSub, reduceGT, reduceEqDiff, reduceMul, ring, ints, rows, cubes, gd_i, gd_r, gd_c, w64]
      refine hN _ ?_
      try clear hN N
      refine AW.seq (fun N3 hN3 => ?_)
      refine AW.cond rfl (fun h5 => ?_) (fun h5 => ?_)
      ·try simp only [cn] at h5
       have hv := hl.v k
       have hr := hl.r k
       refine AW.skip ?_
       simp only [thn, blk]
       refine hN3 _ ?_
       try clear hN3 N3
       refine AW.seq (fun N4 hN4 => ?_)
       refine AW.block ?_
       refine AW.sr envOk (fun N hN => ?_)
       simp -dsimp -implicitDefEqProofs (disch := omega) only [go_sem, undef, reduceAdd, reduceSub, reduceGT, reduceEqDiff, reduceMul, ring, ints, rows, cubes, gd_i, gd_r, gd_c, w64]
       refine hN _ ?_
       try clear hN N
       refine AW.seq (fun N5 hN5 => ?_)
       refine AW.sr envOk (fun N hN => ?_)
       simp -dsimp -implicitDefEqProofs (disch := omega) only [go_sem, undef, reduceAdd, reduceSub, reduceGT, reduceEqDiff, reduceMul, ring, ints, rows, cubes, gd_i, gd_r, gd_c, w64]
       refine AC.pure (.lent (impl_isLieElement_ok p pw br (pw.getD k []) (by omega) (by omega) (by omega) (by omega)) (.cons (Vw.q' (upd_same _ _ _)) (.cons (.refl _) .nil)) (.b _)) ?_
       try simp -dsimp -implicitDefEqProofs (disch := omega) only [go_sem, undef, reduceAdd, reduceSub, reduceGT, reduceEqDiff, reduceMul, ring, ints, rows, cubes, gd_i, gd_r, gd_c, w64]
       refine gopB.mk' (fun h6 => ?_) (fun h6 => ?_)
       ·try simp only [cn] at h6
        have hle := h6.1
        try simp -dsimp -implicitDefEqProofs (disch := omega) only [go_sem, undef, reduceAdd, reduceSub, reduceGT, reduceEqDiff, reduceMul, ring, ints, rows, cubes, gd_i, gd_r, gd_c, w64]
        rw [show ((k : Int) + 1).toNat = k + 1 by omega, ints_take _ (by omega)]
        refine AC.pure (.of (impl_isZero_ok ((pw.getD k []).take (k + 1)) (by simp; omega))) ?_
        try simp -dsimp -implicitDefEqProofs (disch := omega) only [go_sem, undef, reduceAdd, reduceSub, reduceGT, reduceEqDiff, reduceMul, ring, ints, rows, cubes, gd_i, gd_r, gd_c, w64]
        refine gopB.mk' (fun h7 => ?_) (fun h7 => ?_)
        ·try simp only [cn] at h7
         try simp -dsimp -implicitDefEqProofs (disch := omega) only [go_sem, undef, reduceAdd, reduceSub, reduceGT, reduceEqDiff, reduceMul, ring, ints, rows, cubes, gd_i, gd_r, gd_c, w64]
         refine hN _ ?_
         try clear hN N
         refine AW.cond rfl (fun h8 => ?_) (fun h8 => ?_)
         ·try simp only [cn] at h8
          refine AW.sr envOk (fun N hN => ?_)
          simp -dsimp -implicitDefEqProofs (disch := omega) only [go_sem, undef, reduceAdd, reduceSub, reduceGT, reduceEqDiff, reduceMul, ring, ints, rows, cubes, gd_i, gd_r, gd_c, w64]
          refine hN _ ?_
          try clear hN N
          refine AW.ret ?_
          simp -dsimp -implicitDefEqProofs (disch := omega) only [go_sem, undef, reduceAdd, reduceSub, reduceGT, reduceEqDiff, reduceMul]
          exact bt (tf_f (fun h => h8 (by have := (h.2.2.2.2 k (by omega)).2.2.1; omega))).symm
         ·try simp only [cn] at h8
          refine AW.skip ?_
          simp only [thn, blk]
          refine hN5 _ ?_
          try clear hN5 N5
          refine AW.sr envOk (fun N hN => ?_)
          simp -dsimp -implicitDefEqProofs (disch := omega) only [go_sem, undef, reduceAdd, reduceSub, reduceGT, reduceEqDiff, reduceMul, ring, ints, rows, cubes, gd_i, gd_r, gd_c, w64]
          refine hN _ ?_
          try clear hN N
          refine AW.block ?_
          refine AW.loopN (α := Nat) (fun x => sl 91 [(1, .q nx 0), (3, .i .i64 pw.length), (4, .i .i64 k), (34, rows pw), (35, .i .i64 pw.length), (36, .i .i64 k), (69, rows (br.getD k [])), (70, .i .i64 (br.getD k []).length), (71, .i .i64 x)]) (fun _ => upd noH nx (some [.i .i64 p, rows pw, cubes br])) (fun x m => x ≤ (br.getD k []).length ∧ ∀ j, j < x → brP p pw.length (br.getD k []) k j) (fun x => (br.getD k []).length - x) (0) ?_ ?_ (fun _ _ h => h) ?_
          ·exact ⟨by omega, by intro j hj; omega⟩
          ·simp (disch := omega) [wks, wkA, sl, w64, ints, rows, cubes, ring, ints, rows, cubes, gd_i, gd_r, gd_c, w64] <;> omega
          ·skip
           rintro q m ⟨hq, hJ⟩
           simp -dsimp -implicitDefEqProofs (disch := omega) only [go_sem, undef, reduceAdd, reduceSub, reduceGT, reduceEqDiff, reduceMul]
           have hx := hl.e k q
           refine AW.sr envOk (fun N hN => ?_)
           simp -dsimp -implicitDefEqProofs (disch := omega) only [go_sem, undef, reduceAdd, reduceSub, reduceGT, reduceEqDiff, reduceMul, ring, ints, rows, cubes, gd_i, gd_r, gd_c, w64]
           refine hN _ ?_
           try clear hN N
           refine AW.seq (fun N6 hN6 => ?_)
           refine AW.cond rfl (fun h9 => ?_) (fun h9 => ?_)
           ·try simp only [cn] at h9
            refine AW.skip ?_
            simp only [thn, blk]
            refine hN6 _ ?_
            try clear hN6 N6
            refine AW.seq (fun N7 hN7 => ?_)
            refine AW.block ?_
            refine AW.sr envOk (fun N hN => ?_)
            simp -dsimp -implicitDefEqProofs (disch := omega) only [go_sem, undef, reduceAdd, reduceSub, reduceGT, reduceEqDiff, reduceMul, ring, ints, rows, cubes, gd_i, gd_r, gd_c, w64]
            refine hN _ ?_
            try clear hN N
            refine AW.sr envOk (fun N hN => ?_)
            simp -dsimp -implicitDefEqProofs (disch := omega) only [go_sem, undef, reduceAdd, reduceSub, reduceGT, reduceEqDiff, reduceMul, ring, ints, rows, cubes, gd_i, gd_r, gd_c, w64]
            refine AC.pure (.lent (impl_isLieElement_ok p pw br ((br.getD k []).getD q []) (by omega) (by omega) (by omega) (by omega)) (.cons (Vw.q' (upd_same _ _ _)) (.cons (.refl _) .nil)) (.b _)) ?_
            try simp -dsimp -implicitDefEqProofs (disch := omega) only [go_sem, undef, reduceAdd, reduceSub, reduceGT, reduceEqDiff, reduceMul, ring, ints, rows, cubes, gd_i, gd_r, gd_c, w64]
            refine gopB.mk' (fun h10 => ?_) (fun h10 => ?_)
            ·try simp only [cn] at h10
             have hle2 := h10.1
             try simp -dsimp -implicitDefEqProofs (disch := omega) only [go_sem, undef, reduceAdd, reduceSub, reduceGT, reduceEqDiff, reduceMul, ring, ints, rows, cubes, gd_i, gd_r, gd_c, w64]
             rw [show ((k : Int) + q + 2).toNat = k + 1 + q + 1 by omega, ints_take _ (by omega)]
             refine AC.pure (.of (impl_isZero_ok (((br.getD k []).getD q []).take (k + 1 + q + 1)) (by simp; omega))) ?_
             try simp -dsimp -implicitDefEqProofs (disch := omega) only [go_sem, undef, reduceAdd, reduceSub, reduceGT, reduceEqDiff, reduceMul, ring, ints, rows, cubes, gd_i, gd_r, gd_c, w64]
             refine hN _ ?_
             try clear hN N
             refine AW.cond rfl (fun h11 => ?_) (fun h11 => ?_)
             ·try simp only [cn] at h11
              refine AW.sr envOk (fun N hN => ?_)
              simp -dsimp -implicitDefEqProofs (disch := omega) only [go_sem, undef, reduceAdd, reduceSub, reduceGT, reduceEqDiff, reduceMul, ring, ints, rows, cubes, gd_i, gd_r, gd_c, w64]
              refine hN _ ?_
              try clear hN N
              refine AW.ret ?_
              simp -dsimp -implicitDefEqProofs (disch := omega) only [go_sem, undef, reduceAdd, reduceSub, reduceGT, reduceEqDiff, reduceMul]
              exact bt (tf_f (fun h => h11 ((zeros_take (by omega)).2 ((h.2.2.2.2 k (by omega)).2.2.2 q (by omega)).2))).symm
             ·try simp only [cn] at h11
              refine AW.skip ?_
              simp only [thn, blk]
              refine hN7 _ ?_
              try clear hN7 N7
              refine AW.regionL envOk ?_
              simp -dsimp -implicitDefEqProofs (disch := omega) only [go_sem, undef, reduceAdd, reduceSub, reduceGT, reduceEqDiff, reduceMul, ring, ints, rows, cubes, gd_i, gd_r, gd_c, w64]
              refine ⟨q + 1, ?_, fun _ _ h => h, ?_, ?_⟩
              ·simp (disch := omega) [wks, wkA, sl, w64, ints, rows, cubes, ring, ints, rows, cubes, gd_i, gd_r, gd_c, w64] <;> omega
              ·refine ⟨by omega, fun j hj => ?_⟩
               by_cases e : j = q
               ·subst e; exact ⟨h10, (zeros_take (by omega)).1 h11⟩
               ·exact hJ j (by omega)
              ·first | omega | (simp only; omega)
            ·try simp only [cn] at h10
             try simp -dsimp -implicitDefEqProofs (disch := omega) only [go_sem, undef, reduceAdd, reduceSub, reduceGT, reduceEqDiff, reduceMul, ring, ints, rows, cubes, gd_i, gd_r, gd_c, w64]
             refine hN _ ?_
             try clear hN N
             refine AW.condT rfl ?_
             refine AW.sr envOk (fun N hN => ?_)
             simp -dsimp -implicitDefEqProofs (disch := omega) only [go_sem, undef, reduceAdd, reduceSub, reduceGT, reduceEqDiff, reduceMul, ring, ints, rows, cubes, gd_i, gd_r, gd_c, w64]
             refine hN _ ?_
             try clear hN N
             refine AW.ret ?_
             simp -dsimp -implicitDefEqProofs (disch := omega) only [go_sem, undef, reduceAdd, reduceSub, reduceGT, reduceEqDiff, reduceMul]
             exact bt (tf_f (fun h => h10 ((h.2.2.2.2 k (by omega)).2.2.2 q (by omega)).1)).symm
           ·try simp only [cn] at h9
            refine AW.exit ?_
            simp only [thn, blk, if_true]
            refine hN4 _ ?_
            try clear hN4 N4
            refine AW.regionL envOk ?_
            simp -dsimp -implicitDefEqProofs (disch := omega) only [go_sem, undef, reduceAdd, reduceSub, reduceGT, reduceEqDiff, reduceMul, ring, ints, rows, cubes, gd_i, gd_r, gd_c, w64]
            refine ⟨k + 1, ?_, fun _ _ h => h, ?_, ?_⟩
            ·simp (disch := omega) [wks, wkA, sl, w64, ints, rows, cubes, ring, ints, rows, cubes, gd_i, gd_r, gd_c, w64] <;> omega
            ·refine ⟨by omega, fun j hj => ?_⟩
             by_cases e : j = k
             ·subst e; exact ⟨h6, (zeros_take (by omega)).1 h7, by omega, fun i hi => hJ i (by omega)⟩
             ·exact hI j (by omega)
            ·first | omega | (simp only; omega)
        ·try simp only [cn] at h7
         try simp -dsimp -implicitDefEqProofs (disch := omega) only [go_sem, undef, reduceAdd, reduceSub, reduceGT, reduceEqDiff, reduceMul, ring, ints, rows, cubes, gd_i, gd_r, gd_c, w64]
         refine hN _ ?_
         try clear hN N
         refine AW.condT rfl ?_
         refine AW.sr envOk (fun N hN => ?_)
         simp -dsimp -implicitDefEqProofs (disch := omega) only [go_sem, undef, reduceAdd, reduceSub, reduceGT, reduceEqDiff, reduceMul, ring, ints, rows, cubes, gd_i, gd_r, gd_c, w64]
         refine hN _ ?_
         try clear hN N
         refine AW.ret ?_
         simp -dsimp -implicitDefEqProofs (disch := omega) only [go_sem, undef, reduceAdd, reduceSub, reduceGT, reduceEqDiff, reduceMul]
         exact bt (tf_f (fun h => h7 ((zeros_take (by omega)).2 (h.2.2.2.2 k (by omega)).2.1))).symm
       ·try simp only [cn] at h6
        try simp -dsimp -implicitDefEqProofs (disch := omega) only [go_sem, undef, reduceAdd, reduceSub, reduceGT, reduceEqDiff, reduceMul, ring, ints, rows, cubes, gd_i, gd_r, gd_c, w64]
        refine hN _ ?_
        try clear hN N
        refine AW.condT rfl ?_
        refine AW.sr envOk (fun N hN => ?_)
        simp -dsimp -implicitDefEqProofs (disch := omega) only [go_sem, undef, reduceAdd, reduceSub, reduceGT, reduceEqDiff, reduceMul, ring, ints, rows, cubes, gd_i, gd_r, gd_c, w64]
        refine hN _ ?_
        try clear hN N
        refine AW.ret ?_
        simp -dsimp -implicitDefEqProofs (disch := omega) only [go_sem, undef, reduceAdd, reduceSub, reduceGT, reduceEqDiff, reduceMul]
        exact bt (tf_f (fun h => h6 (h.2.2.2.2 k (by omega)).1)).symm
      ·try simp only [cn] at h5
       refine AW.exit ?_
       simp only [thn, blk, if_true]
       refine hN2 _ ?_
       try clear hN2 N2
       refine AW.sr envOk (fun N hN => ?_)
       simp -dsimp -implicitDefEqProofs (disch := omega) only [go_sem, undef, reduceAdd, reduceSub, reduceGT, reduceEqDiff, reduceMul, ring, ints, rows, cubes, gd_i, gd_r, gd_c, w64]
       refine hN _ ?_
       try clear hN N
       refine AW.ret ?_
       simp -dsimp -implicitDefEqProofs (disch := omega) only [go_sem, undef, reduceAdd, reduceSub, reduceGT, reduceEqDiff, reduceMul]
       exact bt (tf_t ⟨h3, by omega, by omega, by omega, fun i hi => hI i (by omega)⟩).symm
   ·try simp only [cn] at h3
    try simp -dsimp -implicitDefEqProofs (disch := omega) only [go_sem, undef, reduceAdd, reduceSub, reduceGT, reduceEqDiff, reduceMul, ring, ints, rows, cubes, gd_i, gd_r, gd_c, w64]
    refine hN _ ?_
    try clear hN N
    refine AW.condT rfl ?_
    refine AW.sr envOk (fun N hN => ?_)
    simp -dsimp -implicitDefEqProofs (disch := omega) only [go_sem, undef, reduceAdd, reduceSub, reduceGT, reduceEqDiff, reduceMul, ring, ints, rows, cubes, gd_i, gd_r, gd_c, w64]
    refine hN _ ?_
    try clear hN N
    refine AW.ret ?_
    simp -dsimp -implicitDefEqProofs (disch := omega) only [go_sem, undef, reduceAdd, reduceSub, reduceGT, reduceEqDiff, reduceMul]
    exact bt (tf_f (fun h => h3 h.1)).symm
  ·try simp only [cn] at h2
   try simp -dsimp -implicitDefEqProofs (disch := omega) only [go_sem, undef, reduceAdd, reduceSub, reduceGT, reduceEqDiff, reduceMul, ring, ints, rows, cubes, gd_i, gd_r, gd_c, w64]
   refine hN _ ?_
   try clear hN N
   refine AW.condT rfl ?_
   refine AW.sr envOk (fun N hN => ?_)
   simp -dsimp -implicitDefEqProofs (disch := omega) only [go_sem, undef, reduceAdd, reduceSub, reduceGT, reduceEqDiff, reduceMul, ring, ints, rows, cubes, gd_i, gd_r, gd_c, w64]
   refine hN _ ?_
   try clear hN N
   refine AW.ret ?_
   simp -dsimp -implicitDefEqProofs (disch := omega) only [go_sem, undef, reduceAdd, reduceSub, reduceGT, reduceEqDiff, reduceMul]
   exact bt (tf_f (fun h => h2 (by rw [h.2.2.1]))).symm
 ·try simp only [cn] at h1
  try simp -dsimp -implicitDefEqProofs (disch := omega) only [go_sem, undef, reduceAdd, reduceSub, reduceGT, reduceEqDiff, reduceMul, ring, ints, rows, cubes, gd_i, gd_r, gd_c, w64]
  refine hN _ ?_
  try clear hN N
  refine AW.condT rfl ?_
  refine AW.sr envOk (fun N hN => ?_)
  simp -dsimp -implicitDefEqProofs (disch := omega) only [go_sem, undef, reduceAdd, reduceSub, reduceGT, reduceEqDiff, reduceMul, ring, ints, rows, cubes, gd_i, gd_r, gd_c, w64]
  refine hN _ ?_
  try clear hN N
  refine AW.ret ?_
  simp -dsimp -implicitDefEqProofs (disch := omega) only [go_sem, undef, reduceAdd, reduceSub, reduceGT, reduceEqDiff, reduceMul]
  exact bt (tf_f (fun h => by have := h.2.1; omega)).symm
end Go.Proofs.Ytkmgmjajbiddbaa
