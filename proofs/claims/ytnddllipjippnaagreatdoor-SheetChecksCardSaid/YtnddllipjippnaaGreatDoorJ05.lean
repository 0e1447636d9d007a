/- J05: GeA GeB GeC GeD GeE GeF GeH GeN GeO. -/
